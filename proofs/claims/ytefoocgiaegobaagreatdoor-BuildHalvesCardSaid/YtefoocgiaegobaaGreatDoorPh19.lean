import Derived.Test.YtefoocgiaegobaaGreatDoorPh18
import Derived.Shelf.SlSortCmp.NoneTotal
import Derived.Test.YtefoocgiaegobaaGreatDoorProg
import Derived.Shelf.SlicesQ.Reverse
import Derived.Shelf.SlLaysE0
set_option linter.all false
set_option maxHeartbeats 4000000
set_option maxRecDepth 100000
section
namespace Go.Sx
open Go Go.Proofs Tryz
variable {GB:Gh}
def JR{E:List aP}(hE: ∀f∈E,FE f)(hn:E.length<=100000){fill:Int}{q:aa}{i:Nat}[hq:aG q i](hi:i<=80000):PF GB prog 76 [eZ q, .pt [vI fill], .pt [.sl (E.map bj)]] (vB (vf fill (iO E q))):=by
 refine fn (fu:=⟨3⟩) func76 J J ntmps76 J J (fun C=>?_);refine Fb 1 J<|Fb 2 J<|gx J<|cl J (Xb hE (by omega) (p:=q) (i:=i) (by omega)) J<|cl J (VT (fill:=fill) (n:=iO E q)) J<|?_;exact rz J J
def Pr{rs:List (List ZP)}(hr: ∀r∈rs,fG r)(fill:Int):(fun q=>vf fill (iO (cI rs) q))=jB rs fill:=by
 funext q;rw[Nn hr];rfl
def Tr.like_depth: ∀{t u:Tr},t.like u->t.depth=u.depth
 | .leaf _, .leaf _,_=>rfl
 | .node _ _ _, .node _ _ _,h=>by rw[Tr.depth,Tr.depth,Tr.like_depth h.2.1,Tr.like_depth h.2.2]
def Qa{rs:List (List ZP)}{fill:Int}(h: ∀r∈rs,fG r)(hn:rs.length<=3):(jD rs fill).all LB/\(jD rs fill).all ab.ok/\(jD rs fill).depth<=18/\(jD rs fill).size<=171:=by
 obtain⟨h1,h2,h3⟩:=L4 (fill:=fill) h;obtain⟨k1,k2⟩:=q7 h;have hd:(pk rs fill).depth<=(cI rs).length:=AC;have ha: ∀{P:ab->Prop},(∀f∈cI rs,P f.l)->(jD rs fill).all P:=fun hP=>by
  rw[pb,Tr.like_lns h1,<-pb];exact r8 hP
 have hA:mE ((cI rs).map (·.l)) (jD rs fill):=ha fun f hf=>⟨f.l,kX hf, .inl J⟩;have hs:=Uw (K:=(cI rs).map (·.l)) (fun m hm=>by obtain⟨f,hf,rfl⟩:=bW.1 hm;exact(k2 f hf).ok) h2 h3 dG.nil hA;rw[aJ] at hs;refine⟨ha fun f hf=>(k2 f hf).lb,h3,by rw[Tr.like_depth h1];omega,?_⟩;have:(cI rs).length*((cI rs).length+1)<=18*19:=kV (by omega) (by omega);omega
def ZJ{rs:List (List ZP)}(h: ∀r∈rs,Ay r)(hn:rs.length<=3){fill:Int}(hfill:fill=1\/fill=2):PF GB prog 19 [.sl (rs.map ur),vI fill] (.tp [eA (kt rs fill), .v .nilIface]):=by
 have hr: ∀r∈rs,fG r:=fun r hr=>(h r hr).ok;have hel0:=(q7 hr).1;have hfe:=ZB hr;obtain⟨b1,b2,b3,b4⟩:=Qa (fill:=fill) hr hn;have hbx:=(Z2 (fill:=fill) hr hn).x (Tn _ _) (by decide);have hbs:=hbx.s;have hbE:(gt (jB rs fill) (cI rs).length (cI rs) []).restrict []=kt rs fill:=Tw hr;have hbl:=hbx.lb;have hml:(rs.map qP).length=rs.length:=aJ ..;refine fn func19 J J ntmps19 J J (fun C=>?_);refine cl (fu:=⟨13⟩) J (Vc h (by omega)) J<|eo J J J<|?_;refine cs (fu2:=⟨20⟩) 25 J J J (fun hg25=>?_) (fun hg25=>?_)
 .
  refine br (fu2:=⟨13⟩) J J J (fun hc22=>?_) (fun hc22=>?_)
  .
   exact absurd hfill (by omega)
  .
   refine aA 32 (.d (vI (rs.length:Nat))) J (by rw[hml]<;>rfl) ?_;refine gx J<|?_;refine DH 8 0 80 222 17 J J J J J ?_;refine lp (X:=Nat) (fun k=>[(33, .d (vI (k:Nat))),(8, .ov 8 0)]) (fun k=>[(8,some (.o 130 [.rw 80] true)),(80,some (.b 222 17 ((cI (rs.take k)).map bj) true))]) (fun k=>k<=rs.length) (fun k=>rs.length-k) 0 J (cJ _) (fun _=>J) (fun k hk=>?_);have hm5:=Cn hr k;have hm3:((cI (rs.take k)).map bj).length<=6*k:=by rw[aJ];exact Cn hr k
   refine br (fu2:=⟨0⟩) J J J (fun hc34=>?_) (fun hc34=>?_)
   .
    obtain⟨r,hx⟩: ∃u,rs[k]? =some u:=⟨_,aX (by omega)⟩;have hrr:=h r (bU hx);have hel:=(u6 hrr.ok).1;have hn6:=hrr.ok.n6;have hm4:((iv r).map bj).length=(iv r).length:=aJ ..;refine ix _ J (ge hx) J<|cl J (JU hrr.ok) J<|ap (hv:=by simp only[ah];exact⟨by kernel_rfl,by omega⟩) ((cI (rs.take (k+1))).map bj) J (IH hx) (ya (iv r)) J<|?_;refine pe 40 80 J ?_;exact at_ (k+1) ⟨(by omega),(by omega)⟩
   .
    obtain rfl:k=rs.length:=by omega
    rw[iQ];refine zX 80 J ?_;refine gx (fu:=⟨7⟩) J<|?_;refine gx J<|fz 3 J J<|fz 8 J J ?_;refine yk 3 J (fun GB1 pv1 hg1 hp1=>?_);refine yk 8 J (fun GB2 pv2 hg2 hp2=>?_);refine Ia (fu:=⟨0⟩) J J ?_;refine cl J (JP (E:=cI rs) (xC hr) (GD rs) (by omega) (by omega) (f:=76) (c2:=[pv1,pv2]) (ds2:=[.pt [vI fill], .pt [.sl ((cI rs).map bj)]]) (.cons (hp1.up hg2) (.cons hp2 (cB.2 J))) (acc:=jB rs fill) (fun q hq=>by rw[<-Pr hr];exact JR hfe (by omega) (q:=q) (i:=20000) (by decide)) (show(jD rs fill).size<=65536 by omega) (show(jD rs fill).depth<=1000 by omega) b2 b1) J ?_;refine cl J (DY (t:=(gt (jB rs fill) (cI rs).length (cI rs) []).restrict []) (by rw[hbE];exact hbl) (by rw[hbE];omega)) J ?_;exact rz J (by rw[hbE]<;>rfl)
 .
  refine aA 32 (.d (vI (rs.length:Nat))) J (by rw[hml]<;>rfl) ?_;refine gx J<|?_;refine DH 8 0 80 222 17 J J J J J ?_;refine lp (X:=Nat) (fun k=>[(33, .d (vI (k:Nat))),(8, .ov 8 0)]) (fun k=>[(8,some (.o 130 [.rw 80] true)),(80,some (.b 222 17 ((cI (rs.take k)).map bj) true))]) (fun k=>k<=rs.length) (fun k=>rs.length-k) 0 J (cJ _) (fun _=>J) (fun k hk=>?_);have hm5:=Cn hr k;have hm3:((cI (rs.take k)).map bj).length<=6*k:=by rw[aJ];exact Cn hr k
  refine br (fu2:=⟨0⟩) J J J (fun hc34=>?_) (fun hc34=>?_)
  .
   obtain⟨r,hx⟩: ∃u,rs[k]? =some u:=⟨_,aX (by omega)⟩;have hrr:=h r (bU hx);have hel:=(u6 hrr.ok).1;have hn6:=hrr.ok.n6;have hm4:((iv r).map bj).length=(iv r).length:=aJ ..;refine ix _ J (ge hx) J<|cl J (JU hrr.ok) J<|ap (hv:=by simp only[ah];exact⟨by kernel_rfl,by omega⟩) ((cI (rs.take (k+1))).map bj) J (IH hx) (ya (iv r)) J<|?_;refine pe 40 80 J ?_;exact at_ (k+1) ⟨(by omega),(by omega)⟩
  .
   obtain rfl:k=rs.length:=by omega
   rw[iQ];refine zX 80 J ?_;refine gx (fu:=⟨7⟩) J<|?_;refine gx J<|fz 3 J J<|fz 8 J J ?_;refine yk 3 J (fun GB1 pv1 hg1 hp1=>?_);refine yk 8 J (fun GB2 pv2 hg2 hp2=>?_);refine Ia (fu:=⟨0⟩) J J ?_;refine cl J (JP (E:=cI rs) (xC hr) (GD rs) (by omega) (by omega) (f:=76) (c2:=[pv1,pv2]) (ds2:=[.pt [vI fill], .pt [.sl ((cI rs).map bj)]]) (.cons (hp1.up hg2) (.cons hp2 (cB.2 J))) (acc:=jB rs fill) (fun q hq=>by rw[<-Pr hr];exact JR hfe (by omega) (q:=q) (i:=20000) (by decide)) (show(jD rs fill).size<=65536 by omega) (show(jD rs fill).depth<=1000 by omega) b2 b1) J ?_;refine cl J (DY (t:=(gt (jB rs fill) (cI rs).length (cI rs) []).restrict []) (by rw[hbE];exact hbl) (by rw[hbE];omega)) J ?_;exact rz J (by rw[hbE]<;>rfl)
def I1{u v:aa}{i j:Nat}[hp:aG u i][hq:aG v j](hi:i<=10000000:=by decide)(hj:j<=10000000:=by decide):PF GB prog 318 [eZ u,eZ v] (vB (decide (di u v=0))):=by
 refine fn func318 J J ntmps318 J J (fun C=>?_);refine cl J (E' (u:=u) (v:=v) hi hj) J<|?_;exact rz J J
def jF(x:aa):List aa->List aa
 |[]=>[]
 |y::l=>if di y x=0 then jF y l else y::jF y l
def pO:List aa->List aa
 |[]=>[]
 |x::l=>x::jF x l
def BJ{l:List aa}{k:Nat}{x y:aa}(h:l[k]? =some y):jF x (l.drop k)=if di y x=0 then jF y (l.drop (k+1)) else y::jF y (l.drop (k+1)):=by
 obtain⟨h1,h2⟩:=aS.1 h;rw[cX h1,h2,jF]
def UM{l:List aa}{k:Nat}{y:aa}(h:l[k]? =some y):l.take (k+1)=l.take k++[y]:=by
 rw[iS,h];rfl
def vZ:DV:= .ag [vI 0,vI 0, .v (.pointer none),vI 0,vI 0, .v (.pointer none)]
def XU(l:List aa)(k:Nat)(y:aa):(l.map eZ).set k (eZ y)=(l.set k y).map eZ:=(pV ..).symm
def Y5{l:List aa}(h:l.length<2):pO l=l:=by
 cases l with
 |nil=>rfl
 |cons x l=>cases l with
  |nil=>rfl
  |cons y l=>simp at h;omega
def TM{l:List aa}{x:aa}(h:l[0]? =some x):pO l=l.take 1++jF x (l.drop 1):=by
 cases l with
 |nil=>cases h
 |cons y l=>cases h;rfl
def HG{r l:List aa}{a b:Nat}(h:a<=b)(e:r.drop a=l.drop a):r[b]? =l[b]? :=by
 have:=congrArg (·[b-a]?) e;simpa[lS,show a+(b-a)=b by omega] using this
def Tp{r l:List aa}{a b:Nat}(h:a<=b)(e:r.drop a=l.drop a):r.drop b=l.drop b:=by
 have:=congrArg (List.drop (b-a)) e;simpa[sU,show a+(b-a)=b by omega] using this
def aks{r:List aa}{i:Nat}{u:aa}(h:i<r.length):(r.set i u).take (i+1)=r.take i++[u]:=by
 rw[iS,rZ h,List.take_set_of_le (aN _)];rfl
def Uc{r:List aa}{i:Nat}(h:i<r.length):(r.map eZ)[(i:Int).toNat]? =some (eZ r[i]):=by simp[h]
def RW{l:List aa}{i0:Nat}(hb: ∀d∈l,aG d i0)(hn:l.length<=10000000)(hi:i0<=10000000):PB GB prog 317 (gq [none,some (.v (.func (.func 318) #[] #[]))]) 6 141 (l.map eZ) (fun w=> .v (.slice w.a w.n w.c)) ((pO l).map eZ):=by
 have hml:(l.map eZ).length=l.length:=aJ ..;refine uN (fu:=⟨10⟩) func317 J J ntmps317 J J (fun C=>?_);refine aA 9 (.d (vI (l.length:Nat))) J (by rw[hml]<;>rfl) ?_;refine gx J<|?_;refine br J J J (fun hc10=>?_) (fun hc10=>?_)
 .
  exact ru J J J (by rw[Y5 (by omega)])
 .
  obtain⟨x0,hx0⟩: ∃x,l[0]? =some x:=⟨_,aX (by omega)⟩;refine lp (fu:=⟨6⟩) (X:=Nat×aa) (fun⟨k,x⟩=>[(5, .d (vI (k:Nat)))]) (fun⟨k,x⟩=>[]) (fun⟨k,x⟩=>1<=k/\k<=l.length/\l[k-1]? =some x/\pO l=l.take k++jF x (l.drop k)) (fun⟨k,x⟩=>l.length-k) ⟨1,x0⟩ J ⟨aN _,by omega,hx0,by rw[TM hx0]⟩ (fun _=>J) (fun⟨k,x⟩ hk=>?_)
  try dsimp only at hk⊢
  obtain⟨h1,h2,h3,h4⟩:=hk;refine aA 14 (.d (vI (l.length:Nat))) J (by rw[hml]<;>rfl) ?_;refine gx J<|?_;refine br J J J (fun hc15=>?_) (fun hc15=>?_)
  .
   obtain⟨y,hy⟩: ∃y,l[k]? =some y:=⟨_,aX (by omega)⟩;haveI:=hb y (bU hy);haveI:=hb x (bU h3);refine lb (fu:=⟨3⟩) _ J (ge hy) J<|?_;refine aA 25 (.d (vI ((k-1:Nat):Int))) J (by rw[Int.ofNat_sub h1]<;>rfl) ?_;refine gx J<|lb (fu:=⟨0⟩) _ J (ge h3) J<|cl J (I1 (u:=y) (v:=x) hi hi) J<|?_;refine bd (fu1:=⟨4⟩) J J J (fun hc28=>?_) (fun hc28=>?_)
   .
    have hc28':=hc28;refine L7 k (l.length-k) J J (by omega) (by omega) J<|?_;refine lp (fu:=⟨5⟩) (X:=Nat×Nat×aa×List aa) (fun⟨i,m,z,r⟩=>[(5, .d (vI (i:Nat))),(7, .d (vI (m:Nat)))]) (fun⟨i,m,z,r⟩=>[(1000000,some (.b 141 6 (r.map eZ) false))]) (fun⟨i,m,z,r⟩=>1<=m/\k+m<=l.length/\i+1<=k+m/\r.length=l.length/\r.drop (k+m-1)=l.drop (k+m-1)/\l[k+m-1]? =some z/\pO l=r.take i++jF z (l.drop (k+m))) (fun⟨i,m,z,r⟩=>l.length-m) ⟨k,1,y,l⟩ J ⟨aN _,by omega,by omega,J,J,by rw[mL];exact hy,by rw[h4,BJ hy,if_pos hc28']⟩ (fun _=>J) (fun⟨i,m,z,r⟩ hk=>?_)
    try dsimp only at hk⊢
    obtain⟨g1,g2,g3,g4,g5,g6,g7⟩:=hk;have hrl:(r.map eZ).length=r.length:=aJ ..;refine V3 J J<|?_;refine br (fu1:=⟨9⟩) (fu2:=⟨9⟩) J J J (fun hc35=>?_) (fun hc35=>?_)
    .
     obtain⟨u,hu⟩: ∃u,l[k+m]? =some u:=⟨_,aX (by omega)⟩;haveI:=hb u (bU hu);haveI:=hb z (bU g6);have g8:r[k+m]? =some u:=by rw[<-hu];exact HG (by omega) g5
     have g10:r[k+m-1]? =some z:=by rw[<-g6];exact HG (aN _) g5
     have g9:r.drop (k+m)=l.drop (k+m):=Tp (by omega) g5;refine CJ (k+m) J (by omega) (by omega) (by omega) J<|lb (fu:=⟨3⟩) _ J (ge g8) J<|CJ (k+m-1) J (by omega) (by omega) (by omega) J<|?_;refine lb (fu:=⟨0⟩) _ J (ge g10) J<|cl J (I1 (u:=u) (v:=z) hi hi) J<|?_;refine bb (fu1:=⟨6⟩) J J J (fun hc49=>?_) (fun hc49=>?_)
     .
      have hc49': ¬di u z=0:=by simpa using hc49
      refine CJ (k+m) J (by omega) (by omega) (by omega) J<|lb _ J (ge g8) J<|sb _ ((r.set i u).map eZ) J (Uc (by omega)) J (by rw[<-XU]<;>rfl) J<|?_;exact at_ ⟨i+1,m+1,u,r.set i u⟩ (by dsimp only;exact⟨⟨by omega,by omega,by omega,by rw[aR];exact g4,by rw[show k+(m+1)-1=k+m by omega,pN (by omega)];exact g9,by rw[show k+(m+1)-1=k+m by omega];exact hu,by rw[g7,BJ hu,if_neg hc49',aks (by omega),dQ];rfl⟩,(by omega)⟩)
     .
      have hc49':di u z=0:=by simpa using hc49
      exact at_ ⟨i,m+1,u,r⟩ (by dsimp only;exact⟨⟨by omega,by omega,by omega,g4,by rw[show k+(m+1)-1=k+m by omega];exact g9,by rw[show k+(m+1)-1=k+m by omega];exact hu,by rw[g7,BJ hu,if_pos hc49'];rfl⟩,(by omega)⟩)
    .
     obtain hm:k+m=l.length:=by omega
     refine L7 i (l.length-i) J J (by omega) (by omega) J<|Ud (fu:=⟨6⟩) _ J (by rw[hrl];omega) (by omega) J J<|rct ((r.take i).map eZ) i J J (by rw[aT,cK,aW,hrl];omega) (by rw[eJ (by rw[cK,hrl];omega),List.take_take,Nat.min_self,rL]) J<|?_;exact ru J J J (by rw[g7,hm,jJ,jF,iK])
   .
    have hc28':=hc28;exact at_ ⟨k+1,y⟩ (by dsimp only;exact⟨⟨by omega,by omega,hy,by rw[h4,BJ hy,if_neg hc28',UM hy,dQ];rfl⟩,(by omega)⟩)
  .
   exact ru J J J (by rw[h4,show k=l.length by omega,jJ,jF,iK,iQ])
def Wj{v:Value}(h:Go.Sx.flat v=true):v.oneCell'=true:=by cases v<;>first|rfl|cases h
def Js{α:Type}{k:Nat}: ∀(l:List (List α)) (t:Nat),(∀x∈l,x.length=k)->t<l.length*k->l.flatten[t]? =(l[t/k]?).bind (·[t%k]?)
 |[],t,_,h=>by simp at h
 |x::l,t,h,ht=>by
  have hx:=h x aQ;have hk:0<k:=by
   rcases fW k with e|e
   ·subst e;simp at ht
   ·exact e
  rw[lZ];by_cases q:t<k
  ·rw[eX (by omega),jS q,fK q];rfl
  ·rw[fT (by omega),hx,Js l (t-k) (fun y hy=>h y (aZ _ hy)) (by rw[bK,cY] at ht;omega)]
   have e1:t/k=(t-k)/k+1:=by rw[Nat.div_eq_sub_div hk (by omega)]
   have e2:t%k=(t-k)%k:=by rw[Nat.mod_eq_sub_mod (by omega)]
   rw[e1,e2];rfl
section
variable {α:Type} [Inhabited α]
def avr(enc:α->List Value)(k:Nat)(hk: ∀x,(enc x).length=k)(d:Array α):(Go.Sort.flatK enc k d).toList=(d.toList.map enc).flatten:=by
 apply lQ;intro t;have hlen:(d.toList.map enc).flatten.length=d.size*k:=by
  have: ∀l:List α,(l.map enc).flatten.length=l.length*k:=fun l=>by
   induction l with
   |nil=>simp
   |cons x l ih=>rw[bR,lZ,aT,ih,hk,bK,cY];omega
  simpa using this d.toList
 by_cases ht:t<d.size*k
 ·have hk0:0<k:=by
   rcases fW k with e|e
   ·subst e;simp at ht
   ·exact e
  have hi:t/k<d.size:=sQ (by rwa [bM]);rw[Js (k:=k) _ _ (fun x hx=>by obtain⟨y,_,rfl⟩:=bW.1 hx;exact hk y) (by simpa using ht)];simp only[Go.Sort.flatK,oQ,Array.toList_range,fR];rw[pL ht];have hj:t%k<(enc d[t/k]).length:=by rw[hk];exact cN _ hk0
  simp only[jW];rw[getElem!_pos d (t/k) hi,getElem!_pos (enc d[t/k]) (t%k) hj];simp[hi,hj]
 ·rw[dJ (by simp[Go.Sort.flatK];omega),dJ (by rw[hlen];omega)]
def HN(enc:α->List Value)(k:Nat)(w:World)(b m:Nat)(dk:Array α)(os:Array Obj){q:Nat}(hq:q<w.heap.size):
  (sortWorldK enc k w b 0 m dk os).heap[q]? =if q=b then(w.heap[q]?).map (Go.Sort.onCells (Go.Sort.putCells id 0 (Go.Sort.flatK enc k dk))) else w.heap[q]? :=by
 show((w.heap.modify b _)++os)[q]? =_;rw[jZ (by simpa using hq),Array.getElem?_modify];by_cases e:b=q
 ·subst e;simp
 ·simp[e,Ne.symm e]
def UO{F:Array Value}{xs rest:List Value}(h:xs.length=F.size):Go.Sort.putCells id 0 F ⟨xs++rest⟩=⟨F.toList++rest⟩:=by
 apply Array.ext';apply lQ;intro k;simp only[Go.Sort.putCells,Array.toList_mapIdx,List.getElem?_mapIdx];by_cases hk:k<F.size
 ·rw[eX (by omega),eX (by simpa using hk),aX (by omega)]
  simp[hk]
 ·rw[fT (by omega),fT (by simp;omega),h]
  simp only[iY]
  cases rest[k-F.size]? with
  |none=>rfl
  |some v=>simp[hk]
end
def nE{A:Type}(cf:A->A->Int)(ds:List A):List A:=ds.mergeSort fun x y=>!decide (cf y x<0)
def wB{A:Type}(cf:A->A->Int)(ds:List A):(nE cf ds).Perm ds:=List.mergeSort_perm ..
def Mo{A:Type}{cf:A->A->Int}(hO:Go.Sort.SWO (Go.Proofs.ltOf cf))(ds:List A):(nE cf ds).Pairwise fun x y=> ¬cf y x<0:=by
 have:=List.pairwise_mergeSort (le:=fun x y=>!decide (cf y x<0)) (fun a b c h1 h2=>by
  have h1':Go.Proofs.ltOf cf b a=false:=by simpa[Go.Proofs.ltOf] using h1
  have h2':Go.Proofs.ltOf cf c b=false:=by simpa[Go.Proofs.ltOf] using h2
  have:=hO.ntrans c b a h2' h1';simpa[Go.Proofs.ltOf] using this) (fun a b=>by
  cases h1:Go.Proofs.ltOf cf b a with
  |false=>have: ¬cf b a<0:=(by simpa[Go.Proofs.ltOf] using h1);simp;omega
  |true=>
   cases h2:Go.Proofs.ltOf cf a b with
   |false=>have: ¬cf a b<0:=(by simpa[Go.Proofs.ltOf] using h2);simp;omega
   |true=>have:=hO.trans _ _ _ h1 h2;rw[hO.irrefl] at this;cases this) ds
 exact this.imp fun h=>by simpa using h
def VA{P:Program}{ρ:Go.Shelf.Ren}{GB:Gh}(L:SlLaysF0.n6 P ρ)(ha:nv P (ρ.f 6)){s:Nat}(hAg: ∀w,(isAgg (ρ.t 24)).run P w= .ok true w)(hZs: ∀w,(sizeOf (ρ.t 24)).run P w= .ok s w)
  {A:Type}(e:A->DV)(V:A->Prop)(hA: ∀x,∃l,e x= .ag l/\(DV.ag l).okc=true/\l.length=s)(cf:A->A->Int)(hO:Go.Sort.SWO (Go.Proofs.ltOf cf)){g:FuncId}(hg:nv P g)
  (hc: ∀x y,V x->V y->PF GB P g [e x,e y] (.v (.int .i64 (cf x y)))){ty:TypeId}{ds:List A}(hV: ∀x∈ds,V x)(hn:ds.length<4611686018427387904)(hu: ∀x∈ds,∀y∈ds,¬cf x y<0-> ¬cf y x<0->x=y):
  PW GB P (ρ.f 6) [none,some (.v (.func (.func g) #[] #[]))] s ty (ds.map e) (.tp []) ((nE cf ds).map e):=by
 intro G z vs B hgb hB hvs;refine⟨ha,fun w hw=>?_⟩;obtain⟨v1,m1,rfl,q1,hvs⟩:=aO.1 hvs;obtain⟨v2,m2,rfl,q2,hvs⟩:=aO.1 hvs
 cases cB.1 hvs
 rw[aF] at q1 q2;subst q1 q2;obtain⟨es,k1,k2,k3,_⟩:=hB;simp only at k1 k2 k3;have hlen:es.length=ds.length:=by rw[k2.len,aJ]
 by_cases h0:ds=[]
 ·subst h0
  have hes:es=[]:=bL (by simpa using hlen);have hz:z.n=0:=by rw[k1.len,hes];rfl
  rw[hz];refine(AnyF.slices_SortFunc_none L z.a z.c _ w).mono fun r w' ⟨h1,h2⟩=>?_;subst h2;exact⟨_,asB B,G,h1,hw,je.2 ⟨[],J, .nil⟩,es,k1.asB,by subst hes;show IsLs G ((nE cf []).map e) [];unfold nE;rw[List.mergeSort_nil];exact .nil,k3,fun h=>by cases h⟩
 ·have hpos:0<es.length:=by rw[hlen];exact qQ.2 h0
  rcases k1 with⟨e1,_,_⟩|⟨b,rest,lo,e1,e2,e3,e4,e5⟩
  ·rw[e1] at hpos;simp at hpos
  subst e2
  -- elements with their cells
  have lift: ∀{ds:List A} {es:List Value},IsLs G (ds.map e) es->(∀x∈ds,V x)-> ∃qs:List {q:A×List Value//V q.1/\Is G (e q.1) (.agg ⟨q.2⟩)},qs.map (·.1.1)=ds/\qs.map (fun q=>Value.agg ⟨q.1.2⟩)=es:=by
   intro ds
   induction ds with
   |nil=>intro es h _;cases cB.1 h;exact⟨[],rfl,rfl⟩
   |cons x ds ih=>
    intro es h hV;obtain⟨y,n,rfl,g1,g2⟩:=aO.1 h;obtain⟨qs,g3,g4⟩:=ih g2 fun x hx=>hV x (aZ _ hx);obtain⟨l,hl,_⟩:=hA x;have g1':=g1;rw[hl] at g1';obtain⟨m,rfl,_⟩:=cO.1 g1';exact⟨⟨(x,m),hV x aQ,g1⟩::qs,by simp[g3],by simp[g4]⟩
  obtain⟨qs,hq1,hq2⟩:=lift k2 hV;have:Inhabited {q:A×List Value//V q.1/\Is G (e q.1) (.agg ⟨q.2⟩)}:=⟨qs.head (fun e=>by rw[e] at hq1;exact h0 hq1.symm)⟩
  let enc:{q:A×List Value//V q.1/\Is G (e q.1) (.agg ⟨q.2⟩)}->List Value:=fun q=>q.1.2
  have henc: ∀q,(enc q).length=s/\ ∀v∈enc q,Go.Sx.flat v=true:=fun q=>by
   obtain⟨l,hl,h1,h2⟩:=hA q.1.1;have h3:=q.2.2;rw[hl] at h3;obtain⟨m,hm,h4⟩:=cO.1 h3
   cases hm
   exact⟨by show q.1.2.length=s;rw[h4.len,h2],fun v hv=>h4.flat h1 v hv⟩
  have hk: ∀q,(enc q).length=s:=fun q=>(henc q).1;have hqs:qs.toArray.size=es.length:=by rw[nV,<-hq2,aJ]
  have hfl: ∀d:Array {q:A×List Value//V q.1/\Is G (e q.1) (.agg ⟨q.2⟩)},(Go.Sort.flatK enc s d).toList=aB (d.toList.map fun q=>Value.agg ⟨q.1.2⟩):=fun d=>by
   rw[avr enc s hk];unfold aB;rw[List.map_map];rfl
  have hfe:(Go.Sort.flatK enc s qs.toArray).toList=aB es:=by rw[hfl,<-hq2]
  have hown:=hw.hown ⟨b,aB es++rest,ty,false⟩ aQ;obtain⟨hb,hGb,_,_⟩:=hown;simp only at hb hGb;have hblt:=gw hb;have hH:Go.Sort.HoldsK enc s w b 0 qs.toArray:=by
   intro j hj;refine⟨?_,by simp[World.frozen?,hb]⟩;rw[yN hb,dR];have hj':j<(aB es).length:=by rw[<-hfe];simpa using hj
   rw[eX hj',<-hfe];show _=some ((Go.Sort.flatK enc s qs.toArray)[j]!);rw[getElem!_pos _ j hj];simp
  have hsz: ∀dk:Array {q:A×List Value//V q.1/\Is G (e q.1) (.agg ⟨q.2⟩)},dk.size=qs.toArray.size->(aB es).length=(Go.Sort.flatK enc s dk).size:=fun dk hd=>by rw[<-hfe];simp[hd]
  have hblk: ∀(m:Nat) (os:Array Obj) (dk:Array _),dk.size=qs.toArray.size->(sortWorldK enc s w b 0 m dk os).heap[b]? =some (.cells ⟨(Go.Sort.flatK enc s dk).toList++rest⟩ ty (0,0)):=fun m os dk hd=>by
   rw[HN enc s w b m dk os hblt,if_pos J,hb];show some (Obj.cells (Go.Sort.putCells id 0 (Go.Sort.flatK enc s dk) ⟨aB es++rest⟩) ty (0,0))=_;rw[UO (hsz dk hd)]
  have hoth: ∀(m:Nat) (os:Array Obj) (dk:Array _) (q:Nat),q<w.heap.size->q≠b->(sortWorldK enc s w b 0 m dk os).heap[q]? =w.heap[q]? :=fun m os dk q hq hne=>by rw[HN enc s w b m dk os hq,if_neg hne]
  have hsub: ∀(m:Nat) (os:Array Obj) (dk:Array _) (c:Nat) (cs:List Value),G c=some cs-> ∃ty fz,(sortWorldK enc s w b 0 m dk os).heap[c]? =some (.cells ⟨cs⟩ ty fz):=fun m os dk c cs hcs=>by
   obtain⟨ty',fz,h⟩:=hw.sub c cs hcs;exact⟨ty',fz,by rw[hoth m os dk c (gw h) (fun e=>by subst e;rw[hGb] at hcs;cases hcs)];exact h⟩
  have hsize: ∀(m:Nat) (os:Array Obj) (dk:Array _),w.heap.size<=(sortWorldK enc s w b 0 m dk os).heap.size:=fun m os dk=>by
   show _<=((w.heap.modify b _)++os).size;simp
  have hcmp:Go.Proofs.CmpLays P g #[] enc s (fun q r=>cf q.1.1 r.1.1) b 0 qs.toArray.size w:=by
   intro m os dk _ x y;have hF:=hc x.1.1 y.1.1 x.2.1 y.2.1 G [.agg ⟨x.1.2⟩, .agg ⟨y.1.2⟩] hgb (.cons x.2.2 (.cons y.2.2 .nil));refine(hF.run _ (hsub m os dk)).mono fun r W ⟨v,G',h1,h2,h3⟩=>?_;rw[aF] at h3;subst h3;refine⟨h1,W.drawn-(sortWorldK enc s w b 0 m dk os).drawn,W.heap.extract (sortWorldK enc s w b 0 m dk os).heap.size W.heap.size,?_⟩;have hdr:=h2.dr;have hos:=h2.os;have htp:=h2.tape;have hou:=h2.output;have hkp:=h2.keep;have hss:=h2.size;simp only at hdr hos htp hou hkp hss;generalize sortWorldK enc s w b 0 m dk os=W0 at*
   cases W with
   |mk heap tape drawn os' output=>
    simp only at*;unfold Go.Sort.grow World.drewN;simp only[World.mk.injEq];refine⟨?_,htp,by omega,hos,hou⟩;apply Array.ext_getElem?;intro k;rw[Array.getElem?_append];split
    ·rename_i hk';exact hkp k hk' (by simp)
    ·rename_i hk'
     rw[Array.getElem?_extract];split
     ·congr 1;omega
     ·rw[mV (by omega)]
  have hO':Go.Sort.SWO (Go.Proofs.ltOf fun(q r:{q:A×List Value//V q.1/\Is G (e q.1) (.agg ⟨q.2⟩)})=>cf q.1.1 r.1.1):=⟨fun x=>hO.irrefl x.1.1,fun x y z=>hO.trans x.1.1 y.1.1 z.1.1,fun x y z=>hO.ntrans x.1.1 y.1.1 z.1.1⟩;have hrun:=AnyQ.slices_SortFunc L s hAg hZs enc hk (fun q v hv=>Wj ((henc q).2 v hv)) (fun q r=>cf q.1.1 r.1.1) hO' g #[] b 0 z.c qs.toArray w (fun args w=>zo hg args w) hcmp hH hblt (by rw[hqs,hlen];exact hn);have ez:z=⟨some ⟨b,0,none⟩,qs.toArray.size,z.c⟩:=by rw[hqs];exact e1
  have ea:(⟨[Value.slice z.a z.n z.c, .func (.func g) #[] #[]]⟩:Array Value)= #[.slice (some ⟨b,0,none⟩) qs.toArray.size z.c, .func (.func g) #[] #[]]:=by rw[ez]
  rw[ea];refine hrun.mono fun r w' ⟨h1,d',n,os,hp,hs,h2⟩=>?_;subst h2;have hdz:d'.size=qs.toArray.size:=hp.1;have hperm:d'.toList.Perm qs:=by
   have:=hp.2.2;have e1:d'.toList.take qs.length=d'.toList:=bQ (by rw[iY,hdz];simp);simpa[e1] using this
  have hasc:d'.toList.Pairwise fun x y=> ¬cf y.1.1 x.1.1<0:=by
   rw[pS];intro i j hi hj hij;have:=hs i j (cJ _) hij (by rw[<-hdz];simpa using hj);rw[getElem!_pos d' j (by simpa using hj),getElem!_pos d' i (by simpa using hi)] at this;simpa[Go.Proofs.ltOf] using this
  have hds:d'.toList.map (·.1.1)=nE cf ds:=by
   refine List.Perm.eq_of_pairwise (le:=fun x y=> ¬cf y x<0) (fun x y hx hy k1 k2=>?_) ?_ (Mo hO ds) ?_
   ·have m1:x∈ds:=by
     obtain⟨q,hq,rfl⟩:=bW.1 hx;rw[<-hq1];exact bW.2 ⟨q,hperm.mem_iff.1 hq,J⟩
    exact hu x m1 y ((wB cf ds).mem_iff.1 hy) k2 k1
   ·rw[qM];exact hasc
   ·refine(hperm.map _).trans ?_
    rw[hq1];exact(wB cf ds).symm
  have hlen':(d'.toList.map fun q=>Value.agg ⟨q.1.2⟩).length=es.length:=by rw[aJ,iY,hdz,hqs]
  have hIs: ∀l:List {q:A×List Value//V q.1/\Is G (e q.1) (.agg ⟨q.2⟩)},IsLs G ((l.map (·.1.1)).map e) (l.map fun q=>Value.agg ⟨q.1.2⟩):=fun l=>by
   induction l with
   |nil=>exact .nil
   |cons q l ih=>exact .cons q.2.2 ih
  have hcell: ∀v∈d'.toList.map (fun q=>Value.agg ⟨q.1.2⟩),(aD v).length=s:=fun v hv=>by
   obtain⟨q,_,rfl⟩:=bW.1 hv;exact hk q
  refine⟨_,[⟨b,aB (d'.toList.map fun q=>Value.agg ⟨q.1.2⟩)++rest,ty,false⟩],G,h1,?_,je.2 ⟨[],J, .nil⟩,d'.toList.map (fun q=>Value.agg ⟨q.1.2⟩), .inr ⟨b,rest,false,by rw[hlen'];exact e1,J,d6 _ hcell,?_,by rw[hlen'];exact e5⟩,by rw[<-hds];exact hIs _,hcell,fun h=>by cases h⟩
  ·refine⟨J,J,J,hsize n os d',fun q hq hqm=>hoth n os d' q hq fun e=>hqm (by rw[e];exact aQ),hsub n os d',bz.refl _,fun _ _=>J,fun o ho=>?_,List.pairwise_singleton _ _,?_,fun p hp=>(by cases hp)⟩
   ·rw[aV.1 ho]
    exact⟨by rw[<-hfl];exact hblk n os d' hdz,hGb,(fun h=>by cases h),fun _=>aQ⟩
   ·show w.drawn<=w.drawn+n
    omega
  ·rw[<-e4,d6 _ hcell,e3,hlen']
def XY{a b c:aa}(h:c7 c a):c7 c b\/c7 b a:=by
 by_cases h1:c.half<b.half
 ·exact .inl (.inl h1)
 ·by_cases h2:b.half<a.half
  ·exact .inr (.inl h2)
  ·rcases h with h|⟨h,k⟩
   ·omega
   ·have e1:c.half=b.half:=by omega
    have e2:b.half=a.half:=by omega
    by_cases q1:0<c.cross b
    ·exact .inl (.inr ⟨e1,q1⟩)
    ·by_cases q2:0<b.cross a
     ·exact .inr (.inr ⟨e2,q2⟩)
     ·exfalso
      have i1:b.y*c.cross a=a.y*c.cross b+c.y*b.cross a:=by unfold aa.cross;grind
      have i2:b.x*c.cross a=a.x*c.cross b+c.x*b.cross a:=by unfold aa.cross;grind
      have q1':c.cross b<=0:=by grind
      have q2':b.cross a<=0:=by grind
      rcases kl b with⟨eb,kb⟩|⟨eb,kb⟩|⟨eb,kb⟩<;>rcases kl a with⟨ea,ka⟩|⟨ea,ka⟩|⟨ea,ka⟩<;>rcases kl c with⟨ec,kc⟩|⟨ec,kc⟩|⟨ec,kc⟩<;>first|omega|skip
      ·have ha:0<=a.y:=by grind
       have hc:0<=c.y:=by grind
       rcases kb with kb|⟨kb,kb'⟩
       ·have g1:=oK ha (show 0<= -c.cross b by grind)
        have g2:=oK hc (show 0<= -b.cross a by grind);have g3:=b9 kb k;grind
       ·have hx:b.cross a=b.x*a.y:=by unfold aa.cross;rw[kb];grind
        have ha0:a.y=0:=by
         rcases ka with ka|ka
         ·have:=b9 kb' ka;grind
         ·exact ka.1
        have hax:0<a.x:=by grind
        have hy:c.cross a= -(c.y*a.x):=by unfold aa.cross;rw[ha0];grind
        have:=oK hc (show 0<=a.x by grind);grind
      ·have ha:0<= -a.y:=by grind
       have hc:0<= -c.y:=by grind
       rcases kb with kb|⟨kb,kb'⟩
       ·have g1:=oK ha (show 0<= -c.cross b by grind)
        have g2:=oK hc (show 0<= -b.cross a by grind);have g3:=b9 (show 0< -b.y by grind) k;grind
       ·have hx:b.cross a=b.x*a.y:=by unfold aa.cross;rw[kb];grind
        have ha0:a.y=0:=by
         rcases ka with ka|ka
         ·have:=b9 (show 0< -b.x by grind) (show 0< -a.y by grind);grind
         ·exact ka.1
        have hax:0< -a.x:=by grind
        have hy:c.cross a= -(c.y*a.x):=by unfold aa.cross;rw[ha0];grind
        have:=oK hc (show 0<= -a.x by grind);grind
      ·have hy:c.cross a=0:=by unfold aa.cross;rw[ka.1,ka.2];grind
       rw[hy] at k;exact absurd k (by decide)
def N8:Go.Sort.SWO (Go.Proofs.ltOf di):=by
 have e: ∀x y,Go.Proofs.ltOf di x y=true↔c7 x y:=fun x y=>by rw[<-pB];simp[Go.Proofs.ltOf]
 have e2: ∀x y,Go.Proofs.ltOf di x y=false↔ ¬c7 x y:=fun x y=>by rw[<-e];simp
 refine⟨fun x=>(e2 x x).2 (Az x),fun x y z h k=>(e x z).2 (Ad ((e x y).1 h) ((e y z).1 k)),fun x y z h k=>(e2 x z).2 fun q=>?_⟩;rcases XY (b:=y) q with q|q
 ·exact(e2 x y).1 h q
 ·exact(e2 y z).1 k q
def Ni: ∀{l m:List aa},l.Pairwise c7->m.Pairwise c7->(∀x,x∈l↔x∈m)->l=m
 |[],[],_,_,_=>rfl
 |[],b::m,_,_,h=>absurd ((h b).2 aQ) (by simp)
 |a::l,[],_,_,h=>absurd ((h a).1 aQ) (by simp)
 |a::l,b::m,h1,h2,h=>by
  obtain⟨p1,p2⟩:=bY.1 h1;obtain⟨q1,q2⟩:=bY.1 h2;have e:a=b:=by
   rcases aU.1 ((h a).1 aQ) with e|e
   ·exact e
   ·rcases aU.1 ((h b).2 aQ) with f|f
    ·exact f.symm
    ·exact(UN (q1 a e) (p1 b f)).elim
  subst e;congr 1;refine Ni p2 q2 fun x=>⟨fun hx=>?_,fun hx=>?_⟩
  ·rcases aU.1 ((h x).1 (aZ _ hx)) with e|e
   ·subst e;exact(Az _ (p1 _ hx)).elim
   ·exact e
  ·rcases aU.1 ((h x).2 (aZ _ hx)) with e|e
   ·subst e;exact(Az _ (q1 _ hx)).elim
   ·exact e
def uS(l:List aa):Prop:= ∀x∈l,∀y∈l,di x y=0->x=y
def H9: ∀{l:List aa} {x:aa},(x::l).Pairwise (fun a b=> ¬c7 b a)->uS (x::l)->(jF x l).Pairwise c7/\(∀y∈jF x l,c7 x y)/\ ∀y,y∈x::jF x l↔y∈x::l
 |[],_,_,_=>⟨.nil,(fun y hy=>by cases hy),fun _=>Iff.rfl⟩
 |z::l,x,h,ht=>by
  obtain⟨p1,p2⟩:=bY.1 h;obtain⟨i1,i2,i3⟩:=H9 p2 fun a ha b hb=>ht a (aZ _ ha) b (aZ _ hb);rw[jF];by_cases e:di z x=0
  ·rw[if_pos e]
   obtain rfl:=ht z (by simp) x (by simp) e;exact⟨i1,i2,fun y=>by rw[i3];simp⟩
  ·rw[if_neg e]
   have hb:c7 x z:=by
    by_cases q:c7 x z
    ·exact q
    ·exact absurd (KO (p1 z aQ) q) e
   refine⟨bY.2 ⟨i2,i1⟩,fun y hy=>?_,fun y=>?_⟩
   ·rcases aU.1 hy with rfl|hy
    ·exact hb
    ·exact Ad hb (i2 y hy)
   ·rw[aU,i3,aU (b:=x) (l:=z::l)]
def K2: ∀(l:List aa) (x:aa),(jF x l).length<=l.length
 |[],_=>aN _
 |y::l,x=>by
  have:=K2 l y;rw[jF];split<;>simp only[bK]<;>omega
def Yn(l:List aa):(pO l).length<=l.length:=by
 cases l with
 |nil=>exact aN _
 |cons x l=>have:=K2 l x;simp only[pO,bK];omega
def ZW{l:List aa}(h:l.Pairwise fun a b=> ¬c7 b a)(ht:uS l):(pO l).Pairwise c7/\ ∀y,y∈pO l↔y∈l:=by
 cases l with
 |nil=>exact⟨.nil,fun _=>Iff.rfl⟩
 |cons x l=>
  obtain⟨i1,i2,i3⟩:=H9 h ht;exact⟨bY.2 ⟨i2,i1⟩,i3⟩
def M9{l:List aa}(ht:uS l)(y:aa):y∈gr l↔y∈l:=by
 have h2: ∀y,y∈gr l->y∈l:=fun y hy=>by
  rcases FP di hy with h|h
  ·exact h
  ·cases h
 refine⟨h2 y,fun hy=>?_⟩;obtain⟨e,e1,e2⟩:=Hd di (o:=[]) hy;rcases e2 with rfl|e2
 ·exact e1
 ·rw[<-ht e (h2 e e1) y hy e2];exact e1
def Pd{l:List aa}(ht:uS l):pO (nE di l)=gr l:=by
 have hm: ∀y,y∈nE di l↔y∈l:=fun y=>(wB di l).mem_iff;have h1:(nE di l).Pairwise fun a b=> ¬c7 b a:=(Mo N8 l).imp fun h=>by rw[<-pB];exact h
 obtain⟨k1,k2⟩:=ZW h1 fun a ha b hb=>ht a ((hm a).1 ha) b ((hm b).1 hb);exact Ni k1 (OZ l) fun x=>by rw[k2,hm,M9 ht]
def Z4{t:Tr}(ht:t.all ab.ok)(p:aa):uS (dC t p):=fun x hx y hy h=>by
 obtain⟨l,k1,k2⟩:=od.1 hx;obtain⟨m,k3,k4⟩:=od.1 hy;obtain⟨a1,a2⟩:=nA k1;obtain⟨b1,b2⟩:=nA k3;exact LU (qd ht _ a1) (qd ht _ b1) a2 b2 k2 k4 h
end Go.Sx
end
section
namespace Go.Proofs
open Go.Shelf
def Tryz.sortPt_ren:Go.Shelf.Ren:=⟨fun|6=>316|15=>231|14=>370|28=>332|29=>333|20=>391|21=>392|22=>393|23=>394|24=>395|25=>396|26=>397|27=>398|46=>405|47=>372|48=>373|49=>406|50=>407|57=>410|n=>n,fun|22=>131|24=>141|25=>393|3=>3|39=>355|0=>0|53=>366|55=>251|4=>4|46=>429|45=>428|50=>391|5=>5|9=>9|66=>467|70=>471|76=>486|77=>487|n=>n,fun|n=>n⟩
def Tryz.sortPt:Go.Proofs.SlLaysF0.n6 Tryz.prog Tryz.sortPt_ren:={
 mixed:=by kernel_rfl
 f6:=⟨Tryz.f316.name,by decide,Tryz.func316.trans (congrArg some (by kernel_rfl))⟩
 f14:=⟨Tryz.f370.name,by decide,Tryz.func370.trans (congrArg some (by kernel_rfl))⟩
 f15:=Tryz.func231.trans (congrArg some (by kernel_rfl))
 f20:=⟨Tryz.f391.name,by decide,Tryz.func391.trans (congrArg some (by kernel_rfl))⟩
 f21:=⟨Tryz.f392.name,by decide,Tryz.func392.trans (congrArg some (by kernel_rfl))⟩
 f22:=⟨Tryz.f393.name,by decide,Tryz.func393.trans (congrArg some (by kernel_rfl))⟩
 f23:=⟨Tryz.f394.name,by decide,Tryz.func394.trans (congrArg some (by kernel_rfl))⟩
 f24:=⟨Tryz.f395.name,by decide,Tryz.func395.trans (congrArg some (by kernel_rfl))⟩
 f25:=⟨Tryz.f396.name,by decide,Tryz.func396.trans (congrArg some (by kernel_rfl))⟩
 f26:=⟨Tryz.f397.name,by decide,Tryz.func397.trans (congrArg some (by kernel_rfl))⟩
 f27:=⟨Tryz.f398.name,by decide,Tryz.func398.trans (congrArg some (by kernel_rfl))⟩
 f28:=Tryz.func332.trans (congrArg some (by kernel_rfl))
 f29:=Tryz.func333.trans (congrArg some (by kernel_rfl))
 f46:=⟨Tryz.f405.name,by decide,Tryz.func405.trans (congrArg some (by kernel_rfl))⟩
 f47:=Tryz.func372.trans (congrArg some (by kernel_rfl))
 f48:=Tryz.func373.trans (congrArg some (by kernel_rfl))
 f49:=⟨Tryz.f406.name,by decide,Tryz.func406.trans (congrArg some (by kernel_rfl))⟩
 f50:=⟨Tryz.f407.name,by decide,Tryz.func407.trans (congrArg some (by kernel_rfl))⟩
 f57:=⟨Tryz.f410.name,by decide,Tryz.func410.trans (congrArg some (by kernel_rfl))⟩
 t0:=Tryz.underlying0
 a0:=Tryz.isAgg0
 z0:=Tryz.sizeOf0
 v0:=Tryz.zeroValue0
 t3:=Tryz.underlying3
 a3:=Tryz.isAgg3
 z3:=Tryz.sizeOf3
 v3:=Tryz.zeroValue3
 t4:=Tryz.underlying4
 a4:=Tryz.isAgg4
 z4:=Tryz.sizeOf4
 v4:=Tryz.zeroValue4
 t5:=Tryz.underlying5
 a5:=Tryz.isAgg5
 z5:=Tryz.sizeOf5
 v5:=Tryz.zeroValue5
 t9:=Tryz.underlying9
 a9:=Tryz.isAgg9
 z9:=Tryz.sizeOf9
 v9:=Tryz.zeroValue9
 t22:=Tryz.underlying131
 a22:=Tryz.isAgg131
 z22:=Tryz.sizeOf131
 v22:=Tryz.zeroValue131
 t25:=Tryz.underlying393
 a25:=Tryz.isAgg393
 z25:=Tryz.sizeOf393
 v25:=Tryz.zeroValue393
 t39:=Tryz.underlying355
 a39:=Tryz.isAgg355
 z39:=Tryz.sizeOf355
 v39:=Tryz.zeroValue355
 t45:=Tryz.underlying428
 a45:=Tryz.isAgg428
 z45:=Tryz.sizeOf428
 v45:=Tryz.zeroValue428
 t46:=Tryz.underlying429
 a46:=Tryz.isAgg429
 z46:=Tryz.sizeOf429
 v46:=Tryz.zeroValue429
 t50:=Tryz.underlying391
 a50:=Tryz.isAgg391
 z50:=Tryz.sizeOf391
 v50:=Tryz.zeroValue391
 t53:=Tryz.underlying366
 a53:=Tryz.isAgg366
 z53:=Tryz.sizeOf366
 v53:=Tryz.zeroValue366
 t55:=Tryz.underlying251
 a55:=Tryz.isAgg251
 z55:=Tryz.sizeOf251
 v55:=Tryz.zeroValue251
 t66:=Tryz.underlying467
 a66:=Tryz.isAgg467
 z66:=Tryz.sizeOf467
 v66:=Tryz.zeroValue467
 t70:=Tryz.underlying471
 a70:=Tryz.isAgg471
 z70:=Tryz.sizeOf471
 v70:=Tryz.zeroValue471
 t76:=Tryz.underlying486
 a76:=Tryz.isAgg486
 z76:=Tryz.sizeOf486
 v76:=Tryz.zeroValue486
 t77:=Tryz.underlying487
 a77:=Tryz.isAgg487
 z77:=Tryz.sizeOf487
 v77:=Tryz.zeroValue487}
end Go.Proofs
end
section
namespace Go.Sx
open Go Go.Proofs Tryz
variable {GB:Gh}
def UU{ds:List aa}{i:Nat}(hb: ∀d∈ds,aG d i)(hi:i<=10000000)(hn:ds.length<=10000000)(ht:uS ds):PW GB prog 316 [none,some (.v (.func (.func 279) #[] #[]))] 6 141 (ds.map eZ) (.tp []) ((nE di ds).map eZ):=
 VA (GB:=GB) Tryz.sortPt ⟨_,func316,J,J⟩ isAgg141 sizeOf141 eZ (fun d=>aG d i) (fun x=>⟨_,J,J,J⟩) di N8 ⟨_,func279,J,J⟩ (fun x y hx hy=>E' (i:=i) (j:=i) hi hi) hb (by omega)
  (fun x hx y hy h k=>ht x hx y hy (KO (by rw[<-pB];exact h) (by rw[<-pB];exact k)))
def WA{ds:List aa}{i:Nat}(hb: ∀d∈ds,aG d i)(hi:i<=10000000)(hn:ds.length<=10000000)(ht:uS ds):PB GB prog 221 (gq [none]) 6 141 (ds.map eZ) (fun w=> .v (.slice w.a w.n w.c)) ((gr ds).map eZ):=by
 have hsm: ∀d∈nE di ds,aG d i:=fun d hd=>hb d ((wB di ds).mem_iff.1 hd);have hsl:(nE di ds).length=ds.length:=(wB di ds).length_eq;refine uN func221 J J ntmps221 J J (fun C=>?_);refine cw _ J (UU hb hi hn ht) J J<|cq ((gr ds).map eZ) J (RW (i0:=i) hsm (by omega) hi) (by rw[Pd ht]) J<|?_;exact ru J J J J
theorem ayb{t:Tr}(hb:t.all LB)(p:aa): ∀d∈dC t p,aG d 500:=fun d hd=>by
 obtain⟨l,h1,h2⟩:=od.1 hd;haveI:=pb.1 hb l (nA h1).1;rcases h2 with rfl|rfl<;>infer_instance
theorem Rb{ds:List aa}{i:Nat}(h: ∀d∈ds,aG d i)(h2:2<=i): ∀v∈iF ds,aG v (i+i+1):=fun v hv=>by
 have up: ∀{q:aa},aG q i->aG q (i+i+1):=fun hq=>⟨hq.x.mono (by omega),hq.y.mono (by omega)⟩;unfold iF at hv;split at hv
 ·rw[aV] at hv
  subst hv;exact⟨BQ.mono (k:=2) ⟨by decide,by decide⟩ (by omega),BQ.mono (k:=2) ⟨by decide,by decide⟩ (by omega)⟩
 ·obtain⟨k,hk,rfl⟩:=bW.1 hv
  have hk':=oZ.1 hk;have g: ∀{j:Nat},j<ds.length->aG (ds.getD j ⟨0,0⟩) i:=fun{j} hj=>by
   rw[aK,aX hj];exact h _ (jX hj)
  haveI:=g hk';haveI:=g (cN (k+1) (show 0<ds.length by omega));unfold mO;split
  ·exact inferInstance
  ·exact up inferInstance
def W3(ds:List aa):(iF ds).length<=ds.length+1:=by
 unfold iF;split
 ·simp
 ·rw[aJ,nU];omega
def Kj{vs:List aa}{f:aa->Bool}{k:Nat}{v:aa}(h:vs[k]? =some v):(vs.drop k).any f=(f v||(vs.drop (k+1)).any f):=by
 obtain⟨h1,h2⟩:=aS.1 h;rw[cX h1,h2,List.any_cons]
def JQ{vs:List aa}{f:aa->Bool}{k:Nat}{v:aa}(h:vs[k]? =some v):(vs.drop k).all f=(f v&&(vs.drop (k+1)).all f):=by
 obtain⟨h1,h2⟩:=aS.1 h;rw[cX h1,h2,List.all_cons]
def asu{b c:Bool}:PF GB prog 197 [vB b,vB c] (vI (if b&&c then 2 else if b then 1 else 0)):=by
 refine fn func197 J J ntmps197 J J (fun C=>?_);refine oz 7 J J J (fun hg7=>?_) (fun hg7=>?_)
 ·refine bb J J J (fun hc5=>?_) (fun hc5=>?_)
  ·exact rz J (by subst hg7 hc5;rfl)
  ·refine bb J J J (fun hc10=>?_) (fun hc10=>?_)
   ·exact rz J (by subst hg7 hc5;rfl)
   ·subst hg7;cases hc10
 ·refine bb J J J (fun hc10=>?_) (fun hc10=>?_)
  ·subst hg7;cases hc10
  ·exact rz J (by subst hg7;rfl)
def VG{t:Tr}{p:aa}{i:Nat}[hp:aG p i](hb:t.all LB)(ho:t.all ab.ok)(hs:t.size<=400000)(hi:i<=10000000:=by decide):PF GB prog 130 [eU t,eZ p] (vI (mz t p)):=by
 have hrl:=B8 t p;have hrb:=ayb hb p;have hrt:=Z4 ho p;have hdb: ∀d∈gr (dC t p),aG d 500:=fun d hd=>hrb d ((M9 hrt d).1 hd);have hdl:(gr (dC t p)).length<=(dC t p).length:=by rw[<-Pd hrt];exact dT (Yn _) (Nat.le_of_eq (wB di _).length_eq)
 have hsb:=Rb hdb (by decide);obtain⟨vs,hvs⟩: ∃vs,vs=iF (gr (dC t p)):=⟨_,rfl⟩;have hvl:vs.length<=(gr (dC t p)).length+1:=by rw[hvs];exact W3 _
 rw[<-hvs] at hsb;have hml:(vs.map eZ).length=vs.length:=aJ ..;refine fn func130 J J ntmps130 J J (fun C=>?_);refine YL ((dC t p).map eZ) J (xE (p:=p) (o:=[]) hi hb (by rw[iU];omega)) J J<|cq ((gr (dC t p)).map eZ) J (WA hrb (by decide) (by omega) hrt) J J<|?_;refine fz 14 J J<|cl (fu:=⟨0⟩) J (Uy (ds:=gr (dC t p)) (i:=500) hdb (by omega)) J<|?_;refine aA 15 (.d (.sl (vs.map eZ))) J (by rw[hvs]) ?_;refine gx (fu:=⟨1⟩) J<|?_;refine aA 16 (.d (vI (vs.length:Nat))) J (by rw[hml]<;>rfl) ?_;refine gx J<|?_;refine PD 5 _ J J ?_;refine PD 6 _ J J ?_;refine lp (X:=Bool×Bool×Nat) (fun⟨a,c,k⟩=>[(17, .d (vI (k:Nat))),(5, .d (vB a)),(6, .d (vB c))]) (fun⟨a,c,k⟩=>[]) (fun⟨a,c,k⟩=>(a||(vs.drop k).any (fun v=>(eG t p v).1))=rO t p/\(c&&(vs.drop k).all (fun v=>(eG t p v).1))=xi t p/\k<=vs.length) (fun⟨a,c,k⟩=>vs.length-k) ⟨false,true,0⟩ J ⟨by rw[hvs];simp[rO],by rw[hvs];simp[xi],cJ _⟩ (fun _=>J) (fun⟨a,c,k⟩ hk=>?_)
 try dsimp only at hk⊢
 obtain⟨h1,h2,h3⟩:=hk;refine br J J J (fun hc18=>?_) (fun hc18=>?_)
 .
  obtain⟨v,hx⟩: ∃v,vs[k]? =some v:=⟨_,aX (by omega)⟩;haveI:=hsb v (bU hx);refine ix _ J (ge hx) J<|cl J (asH (t:=t) (p:=p) (v:=v) (i:=i) (j:=500+500+1) hb hi (by decide)) J<|?_;refine bb J J J (fun hc28=>?_) (fun hc28=>?_)
  .
   refine Pm 5 _ J J ?_;exact at_ ⟨true,c,k+1⟩ (by dsimp only;exact⟨⟨by rw[<-h1,Kj hx,hc28];simp,by rw[<-h2,JQ hx,hc28];simp,by omega⟩,(by omega)⟩)
  .
   refine Pm 6 _ J J ?_;exact at_ ⟨a,false,k+1⟩ (by dsimp only;exact⟨⟨by rw[<-h1,Kj hx,hc28];simp,by rw[<-h2,JQ hx,hc28];simp,by omega⟩,(by omega)⟩)
 .
  obtain rfl:k=vs.length:=by omega
  rw[jJ] at h1 h2;have e1:a=rO t p:=by simpa using h1
  have e2:c=xi t p:=by simpa using h2
  refine cl J (asu (b:=a) (c:=c)) J<|?_;exact rz J (by rw[e1,e2];rfl)
def Z5{k i:Nat}{t:Tr}{p:aa}[hp:aG p i](h:pA k t)(hi:i<=10000000:=by decide):PF GB prog 48 [eA t,kG p] (.tp [vI (mz t p), .v .nilIface]):=by
 have hts:=h.s;refine fn func48 J J ntmps48 J J (fun C=>?_);refine cl (fu:=⟨11⟩) J (Xe h) J<|?_;refine jH 13 J ?_;refine gx J<|cl J (xh (p:=p) (i:=i) (by omega)) J<|cl J (VG (t:=t) (p:=p) (i:=i) h.lb h.ok (by omega) hi) J<|?_;exact rz J J

def aIj(x:Rat×Bool)(s:Rat):Rat×Bool:=if 0<Int.sign s.num/\(x.2=false\/cp s x.1<0) then(s,true) else x

def aIV:List ZP:=LT 0 0 2 2
structure CvR (r:List ZP):Prop where
 ok:fG r
 cen: ∃c:aa,∀f∈tj r,0<cC f.1 f.2 c
 one: ∀p,(∀f∈tj r,0<cC f.1 f.2 p)->oo r p=1
 zer: ∀p,(∃f∈tj r,cC f.1 f.2 p<0)->oo r p=0
 cvx: ∀f∈tj r,∀g∈tj r,0<=cC f.1 f.2 g.1/\0<=cC f.1 f.2 g.2
 onE: ∀p,(∀f∈tj r,0<=cC f.1 f.2 p)-> ∀f∈tj r,cC f.1 f.2 p=0->Kz f.1 f.2 p
section
variable {r:List ZP} {p:aa}
end
def wS(x y O:Rat):Int:=(if x<=0/\ ¬y<=0/\0<O then 1 else 0)-(if¬x<=0/\y<=0/\O<0 then 1 else 0)
def TP(r:List ZP)(p:aa):Nat->Bool
 |0=>true
 |k+1=>TP r p k&&decide (0<=mF (r.getD k (0,0)).q (fe r k).q p)
def Z3(r:List ZP)(p:aa):Nat->Bool
 |0=>false
 |k+1=>Z3 r p k||decide (mF (r.getD k (0,0)).q (fe r k).q p=0)
def EA(n:Int)(d:Nat):Int:=n*zv false d
def Sq(n:Int)(d:Nat):(EA n d).natAbs=n.natAbs*d:=by unfold EA;rw[gX,o4]
instance BN.prx (n:Int) (d i j:Nat) [h:BI n i] [k:BN d j]:BN (EA n d).natAbs (i+j):=⟨by rw[Sq,fJ];exact mS h.h k.h⟩
def aI6(S:List aa)(x:aa)(R:List aa)(k:Nat):List aa:=S.take k++x::(S.drop k++R)
def aIF(S:List aa)(x:aa)(R:List aa)(m:Nat):List aa:=S.take m++x::x::(S.drop (m+1)++R)
def aGm(t:Tr)(p:aa):Int:=if Qs t p then 2 else if TE t p then 1 else 0
def anV(t:Tr)(p:aa)(V:List aa)(k:Nat):Bool:=(V.take k).any fun v=>(eG t p v).1
def alV(t:Tr)(p:aa)(V:List aa)(k:Nat):Bool:=(V.take k).all fun v=>(eG t p v).1

structure GU (GB:Gh) (ar:Addr):Prop where
 ErrRange:GB 2=some [.iface 499 (.pointer (some ar))]
def MD(es:List Int):Nat->Nat->List (List ZP)->List (List ZP)×Nat
 |0,a,out=>(out,a)
 |n+1,a,out=>MD es n (B6 es a).2 (out++[(B6 es a).1])
def aGA(es:List Int)(m a:Nat):List (List ZP)×Nat:=MD es (bh es (m+1) a).1 (bh es (m+1) a).2 []
def RY(a b p:aa):Bool:=decide (mF a b p=0)&&decide ((aa.dot (cd a p (-1)) (cd b p (-1))).num.sign<=0)
def onZ(r:List ZP)(p:aa):Bool:=(List.range r.length).any fun k=>RY (r.getD k (0,0)).q (fe r k).q p

def aIp(r:List ZP):List ZP:=r.take 1++(r.drop 1).reverse
section
variable {r:List ZP} {p:aa} {L:List ab}
end
end Go.Sx
end
section
namespace Go.Proofs
open Go.Shelf
def Tryz.RevPt_ren:Go.Shelf.Ren:=⟨fun|35=>104|n=>n,fun|22=>132|23=>141|3=>3|4=>4|0=>0|n=>n,fun|n=>n⟩
end Go.Proofs
end
section
namespace Go.Sx
open Go Go.Proofs

def F9(x:ab):List ab->List ab
 |[]=>[]
 |y::l=>if y=x then F9 y l else y::F9 y l
def aHO:List ab->List ab
 |[]=>[]
 |x::l=>x::F9 x l
end Go.Sx
end
section
namespace Go.Proofs
open Go.Shelf
def Tryz.SortLn_ren:Go.Shelf.Ren:=⟨fun|6=>133|15=>231|14=>230|28=>332|29=>333|20=>324|21=>325|22=>326|23=>327|24=>328|25=>329|26=>330|27=>331|46=>371|47=>372|48=>373|49=>374|50=>375|57=>399|n=>n,fun|22=>171|24=>218|25=>226|3=>3|39=>355|0=>0|53=>366|55=>251|4=>4|46=>429|45=>428|50=>391|5=>5|9=>9|66=>467|70=>471|76=>486|77=>487|n=>n,fun|n=>n⟩
end Go.Proofs
end
section
namespace Go.Sx
open Go Go.Proofs Tryz
variable {GB:Gh}
def aIk(E:List aP):List ab:=E.map (·.l)
def anR(rs:List (List ZP))(fill:Int)(L:List ab)(p:aa)(vs:List aa):Bool:=vs.any fun v=>jB rs fill (y9 L p v)
def alR(rs:List (List ZP))(fill:Int)(L:List ab)(p:aa)(vs:List aa):Bool:=vs.all fun v=>jB rs fill (y9 L p v)
section
variable {GB:Gh} {C:aC} {n:Nat} {Q0:Exit->Act->World->Prop} {fr fr' fr1 fr2:aw} {own own' own1 own2:aH} {cf cf' cf1 cf2:Cf} {vc vc1 vc2:List Prop}
def aIt(fr:aw)(cf:Cf):Option Int:=match cb fr cf with
 |some ⟨_, .binOp .and _ x (.const (.int .i64 1)) _,_,_,_,_⟩=>match aI (bw fr cf) x with
  |some (.d (.v (.int .i64 p)))=>some p
  |_=>none
 |_=>none
end
structure EGX (GB:Gh) (ai:Addr):Prop where
 ErrInvalid:GB 0=some [.iface 499 (.pointer (some ai))]
def GY{b:Nat}{es:List Int}(hes:es.length<=400){a:Nat}(ha:a<=es.length){p:aa}{a':Nat}(hp:p=(lI es a).1)(h':a'=(lI es a).2):PM GB prog 36 (jq [none] b) b 126 [.sl (es.map vI), .v (.int .i64 (a:Nat))] (eP p) [.sl (es.map vI), .v (.int .i64 (a':Nat))]:=by
 subst hp h';exact QG hes ha
def aJb(rs:List (List ZP))(p:aa):Int:=rs.foldl (fun n r=>n+oo r p) 0

def W1:kt [] 1= .leaf false:=by kernel_rfl
def aEN:(kt [uG] 2).size=3:=by kernel_rfl
def PO: ∀r∈[uG],Ay r:=fun r hr=>by
 rw[aV.1 hr];exact⟨Qd,by decide+kernel⟩
theorem Wu: ∀p∈[iP 0 0,iP 1 0,iP 0 1],aG p 1200:=fun p hp=>by
 simp only[aU,jL,or_false] at hp;rcases hp with rfl|rfl|rfl<;>exact⟨BQ.int1200 (by decide),BQ.int1200 (by decide)⟩
def I0{rs:List (List ZP)}(h: ∀r∈rs,Ay r)(hn:rs.length<=3){fill:Int}(hfill:fill=1\/fill=2){t:Tr}(ht:kt rs fill=t):PF GB prog 19 [.sl (rs.map ur),vI fill] (.tp [eA t, .v .nilIface]):=by
 subst ht;exact ZJ h hn hfill
def JW:PF GB prog 20 [] (.v (.bool true)):=by
 obtain⟨u,hu⟩: ∃u,kt [uG] 2=u:=⟨_,rfl⟩;have hus:u.size=3:=by rw[<-hu];exact aEN
 have hwl:((u.wr 0).map eN).length=3:=by rw[aJ,Tr.wr_len,hus]
 refine fn func20 J J ntmps20 J J (fun C=>?_);refine cl J (I0 (rs:=[]) (by simp) (by decide) (fill:=1) (.inl J) W1) J<|cl J (Gg (m:=0) (n:=0) (by decide) (by decide)) J<|?_;refine cl J (Gg (m:=1) (n:=0) (by decide) (by decide)) J<|cl J (Gg (m:=0) (n:=1) (by decide) (by decide)) J<|rf (fu:=⟨0⟩) J J<|?_;refine aA 13 (.d (.sl ([iP 0 0,iP 1 0,iP 0 1].map eP))) J J ?_;refine gx J<|cl J (Wa (ps:=[iP 0 0,iP 1 0,iP 0 1]) Wu (by decide)) J<|rf (fu:=⟨0⟩) J J<|?_;refine aA 15 (.d (.sl ([uG].map ur))) J J ?_;refine gx J<|cl (fu:=⟨11⟩) J (I0 (rs:=[uG]) PO (by decide) (fill:=2) (.inr J) hu) J<|fD (fu:=⟨2⟩) J J J<|fD (fu:=⟨4⟩) J J J<|fD (fu:=⟨5⟩) J J J<|?_;refine aA 33 (.d (vI 3)) J (by rw[hwl]<;>rfl) ?_;refine gx (fu:=⟨0⟩) J<|fD J J J<|?_;exact rz J J


def jf:List ab->Tr
 |[]=> .leaf true
 |l::t=> .node l (jf t) (.leaf false)
def FG: ∀{L:List ab},(jf L).lns=L
 |[]=>rfl
 |l::t=>by rw[jf,Tr.lns,FG,Tr.lns,iK]
def xV: ∀{L:List ab} {p:aa},(jf L).val p=true↔ek L p
 |[],p=>⟨fun _ l hl=>(by cases hl),fun _=>J⟩
 |l::t,p=>by
  rw[jf];by_cases h:0<l.value p
  ·rw[Tr.val_pos h,xV (L:=t)]
   constructor
   ·intro k m hm
    rcases aU.1 hm with rfl|hm
    ·exact h
    ·exact k m hm
   ·exact fun k m hm=>k m (aZ _ hm)
  ·rw[Tr.val_neg h]
   constructor
   ·intro k;cases k
   ·intro k;exact absurd (k l aQ) h
def Rr{P:ab->Prop}{L:List ab}(h: ∀l∈L,P l):(jf L).all P:=pb.2 (by rw[FG];exact h)
def Db(L:List ab)(p:aa):Int:=if L.any (fun l=>decide (l.value p<0)) then 0 else if L.any (fun l=>decide (l.value p=0)) then 1 else 2
def Sj{L:List ab}(hL: ∀l∈L,l.ok){q:aa}(hq:ek L q)(p:aa):mz (jf L) p=Db L p:=by
 have hok:(jf L).all ab.ok:=Rr hL;unfold Db;by_cases h1:L.any (fun l=>decide (l.value p<0))=true
 ·rw[if_pos h1,J7 hok]
  obtain⟨l,hl,hv⟩:=jR.1 h1;have hv:=of_decide_eq_true hv;intro hd;obtain⟨x,hx,_,_,k⟩:=MW hok hd (M:=[]) (fun m hm=>by cases hm) (c:=[⟨l.rev,ao.all⟩]) (p:=p) (fun s hs=>by
   rw[aV.1 hs,fI];grind)
  have a:=xV.1 k l hl;have b:=hx ⟨l.rev,ao.all⟩ (aV.2 J);rw[fI] at b;grind
 ·rw[if_neg h1]
  have h1: ∀l∈L,0<=l.value p:=fun l hl=>by
   by_cases k:l.value p<0
   ·exact absurd (jR.2 ⟨l,hl,decide_eq_true k⟩) h1
   ·grind
  by_cases h2:L.any (fun l=>decide (l.value p=0))=true
  ·rw[if_pos h2]
   obtain⟨l,hl,hv⟩:=jR.1 h2;have hv:=of_decide_eq_true hv;have nz:mz (jf L) p≠0:=fun k=>by
    refine(J7 hok).1 k ?_;have hg:Gn (jf L).lns p ⟨q.x-p.x,q.y-p.y⟩:=fun m hm hz=>by
     rw[FG] at hm;rw[HK,hz];have:=hq m hm;grind
    have ho:=E5 hg;obtain⟨e,he,hs⟩:=yK hg;obtain⟨d,hd,d1,d2⟩:=min2 he (show(0:Rat)<1 by decide);have:=(hs d hd d1).2;rw[this] at ho;have hv:(jf L).val (cd p ⟨q.x-p.x,q.y-p.y⟩ d)=true:=xV.2 fun m hm=>by
     rw[ie,show d*m.nor.dot ⟨q.x-p.x,q.y-p.y⟩=d*(m.value q-m.value p) by rw[HK]];have a:=h1 m hm;have b:=b9 hd (hq m hm);have c:=er (show 0<=1-d by grind) a;grind
    rw[hv] at ho;exact ho
   have nt:mz (jf L) p≠2:=fun k=>by
    refine(Kv hok).1 k ?_;have hn:=n4 (hL l hl).ne;have hn2:l.nor.dot (bO l.nor)= -(l.nor.dot l.nor):=by unfold bO aa.dot;dsimp only;grind
    obtain⟨w,hg,hs⟩:=EV (L:=[l]) (M:=(jf L).lns) (p:=p) (v:=bO l.nor) (pb.1 hok) (fun m hm _=>by rw[aV.1 hm,hn2];grind);have hw:l.nor.dot w<0:=by
     have:=hs l (aV.2 J) hv;rw[hn2,rx (by grind)] at this;exact(kD _).1 (by omega)
    have ho:=E5 hg;obtain⟨e,he,ht⟩:=yK hg;rw[(ht e he (by grind)).2] at ho;have hv2:(jf L).val (cd p w e)=false:=by
     rw[<-mQ,xV];intro k2;have:=k2 l hl;rw[ie,hv] at this;have:=b9 he (show 0< -(l.nor.dot w) by grind);grind
    rw[hv2] at ho;exact ho
   rcases Va (jf L) p with k|k|k
   ·exact absurd k nz
   ·exact k
   ·exact absurd k nt
  ·rw[if_neg h2,Kv hok]
   have h3: ∀l∈L,0<l.value p:=fun l hl=>by
    have a:=h1 l hl;by_cases k:l.value p=0
    ·exact absurd (jR.2 ⟨l,hl,decide_eq_true k⟩) h2
    ·grind
   intro hd;obtain⟨x,hx,_,_,k⟩:=MW hok hd (M:=[]) (fun m hm=>by cases hm) (c:=L.map fun l=>⟨l,ao.all⟩) (p:=p) (fun s hs=>by
    obtain⟨l,hl,rfl⟩:=bW.1 hs;exact h3 l hl)
   have:=xV.2 (fun l hl=>hx ⟨l,ao.all⟩ (bW.2 ⟨l,hl,J⟩):ek L x);rw[k] at this;cases this
def aIS(x:Rat):Rat:=if 0<x then x else 0
def aG1(w1 w2 w3 w4:Rat)(p1 p2 p3 p4:aa):aa:=⟨(w1*p1.x+w2*p2.x+w3*p3.x+w4*p4.x)*(w1+w2+w3+w4)⁻¹,(w1*p1.y+w2*p2.y+w3*p3.y+w4*p4.y)*(w1+w2+w3+w4)⁻¹⟩
def O9(a:Rat):a*(a.den:Rat)=(a.num:Rat):=by
 have h:(a.num:Rat)/((a.den:Nat):Rat)=a:=by rw[<-lN];exact sT a
 have h0:((a.den:Nat):Rat)≠0:=by
  intro k;have:a.den=0:=by exact_mod_cast k
  exact a.den_nz this
 generalize (a.num:Rat)=n at*;generalize ((a.den:Nat):Rat)=d at*;rw[<-h];grind
def IZ{a:Rat}{x:Int}{D:Nat}(hD:0<D)(h:a*((D:Int):Rat)=(x:Rat)):a.num*(D:Int)=x*(a.den:Int):=by
 have e:((a.den:Int):Rat)*a=(a.num:Rat):=by
  have:=O9 a;rw[Rat.mul_comm];exact this
 have k:(a.num:Rat)*((D:Int):Rat)=(x:Rat)*((a.den:Int):Rat):=by rw[<-e,<-h];grind
 exact_mod_cast k
def Pb{a b:Rat}{x y:Int}{D:Nat}(hD:0<D)(ha:a*((D:Int):Rat)=(x:Rat))(hb:b*((D:Int):Rat)=(y:Rat)):rgcd a b*((D:Int):Rat)=(((Nat.gcd x.natAbs y.natAbs:Nat):Int):Rat):=by
 have h1:=IZ hD ha;have h2:=IZ hD hb;have n1:a.num.natAbs*D=x.natAbs*a.den:=by
  have:=congrArg Int.natAbs h1;rwa [gX,gX,fL,fL] at this
 have n2:b.num.natAbs*D=y.natAbs*b.den:=by
  have:=congrArg Int.natAbs h2;rwa [gX,gX,fL,fL] at this
 have hg:Nat.gcd (a.num.natAbs*b.den) (b.num.natAbs*a.den)*D=Nat.gcd x.natAbs y.natAbs*(a.den*b.den):=by
  rw[<-Nat.gcd_mul_right,<-Nat.gcd_mul_right];congr 1
  ·rw[mM,n1,bS]
  ·rw[mM,n2,bS,bM b.den a.den]
 unfold rgcd;generalize Nat.gcd (a.num.natAbs*b.den) (b.num.natAbs*a.den)=G at*;generalize Nat.gcd x.natAbs y.natAbs=g at*;have hpos:0<a.den*b.den:=iX a.den_pos b.den_pos;have hq:((G:Int):Rat)*((D:Int):Rat)=((g:Int):Rat)*(((a.den*b.den:Nat):Int):Rat):=by exact_mod_cast hg
 generalize a.den*b.den=E at*;have h0:((E:Int):Rat)≠0:=fun k=>by
  have:(E:Int)=0:=by exact_mod_cast k
  omega
 have hm:mkRat ((G:Nat):Int) E*((E:Int):Rat)=((G:Int):Rat):=by
  have hz:((E:Nat):Rat)≠0:=h0;show mkRat ((G:Nat):Int) E*((E:Nat):Rat)=_;rw[lN];generalize ((E:Nat):Rat)=z at*;generalize ((G:Int):Rat)=y at*;grind
 generalize mkRat ((G:Nat):Int) E=r at*;rw[<-hm] at hq;generalize ((E:Int):Rat)=e at*;generalize ((D:Int):Rat)=d at*;have:e*(r*d-((g:Int):Rat))=0:=by grind
 have:=(oM.1 this).resolve_left h0;grind
def lB(a b c:Rat):Nat:=a.den*(b.den*c.den)
def eE(a b c:Rat):ab:=gm (a.num*(b.den*c.den:Nat)) (b.num*(a.den*c.den:Nat)) (c.num*(a.den*b.den:Nat))
def OE(a b c:Rat):0<lB a b c:=iX a.den_pos (iX b.den_pos c.den_pos)
def EC(a:Rat)(k:Nat):a*(((a.den*k:Nat):Int):Rat)=((a.num*(k:Nat):Int):Rat):=by
 have e:=O9 a;have:(((a.den*k:Nat):Int):Rat)=(a.den:Rat)*((k:Int):Rat):=by push_cast;rfl
 rw[this,cR,<-Rat.mul_assoc,e]
def Lf(a b c:Rat):a*((lB a b c:Int):Rat)=((a.num*(b.den*c.den:Nat):Int):Rat)/\b*((lB a b c:Int):Rat)=((b.num*(a.den*c.den:Nat):Int):Rat)/\c*((lB a b c:Int):Rat)=((c.num*(a.den*b.den:Nat):Int):Rat):=by
 refine⟨EC a _,?_,?_⟩
 ·rw[show lB a b c=b.den*(a.den*c.den) by unfold lB;rw[kJ]];exact EC b _
 ·rw[show lB a b c=c.den*(a.den*b.den) by unfold lB;rw[<-bS,bM]];exact EC c _
def Et{a b c:Rat}(h: ¬(a=0/\b=0)): ¬(a.num*(b.den*c.den:Nat)=0/\b.num*(a.den*c.den:Nat)=0):=fun⟨h1,h2⟩=>by
 refine h ⟨?_,?_⟩
 ·rcases oR.1 h1 with k|k
  ·exact kQ.1 k
  ·have:=iX b.den_pos c.den_pos;omega
 ·rcases oR.1 h2 with k|k
  ·exact kQ.1 k
  ·have:=iX a.den_pos c.den_pos;omega
def Tk{a b c:Rat}(h: ¬(a=0/\b=0)): ∃g:Rat,0<g/\(∀p:aa,(eE a b c).value p=g*(a*p.x+b*p.y+c)):=by
 obtain⟨g,g0,e1,e2,e3⟩:=Pe (c:=c.num*(a.den*b.den:Nat)) (Et (c:=c) h);obtain⟨k1,k2,k3⟩:=Lf a b c;have hD:(0:Rat)<((lB a b c:Int):Rat):=by
  have:=OE a b c;exact_mod_cast (show(0:Int)<(lB a b c:Int) by omega)
 have hg:(0:Rat)<(g:Rat):=by exact_mod_cast g0
 have f1:(g:Rat)*((eE a b c).a:Rat)=a*((lB a b c:Int):Rat):=by rw[k1,<-e1];unfold eE;push_cast;rfl
 have f2:(g:Rat)*((eE a b c).b:Rat)=b*((lB a b c:Int):Rat):=by rw[k2,<-e2];unfold eE;push_cast;rfl
 have f3:(g:Rat)*((eE a b c).c:Rat)=c*((lB a b c:Int):Rat):=by rw[k3,<-e3];unfold eE;push_cast;rfl
 refine⟨((lB a b c:Int):Rat)/(g:Rat),div_pos hD hg,fun p=>?_⟩;unfold ab.value ab.nor aa.dot;dsimp only;generalize ((eE a b c).a:Rat)=A at*;generalize ((eE a b c).b:Rat)=B at*;generalize ((eE a b c).c:Rat)=C at*;generalize ((lB a b c:Int):Rat)=D at*;generalize (g:Rat)=g at*;have hq:D/g*g=D:=by grind
 generalize D/g=q at*;subst hq;have:g*(A*p.x+B*p.y+C-q*(a*p.x+b*p.y+c))=0:=by grind
 have:=(oM.1 this).resolve_left (by grind);grind
def Hk{a b c:Rat}(h: ¬(a=0/\b=0)):(eE a b c).ok:=Ln (Et h)
def aa.subQ(p q:aa):aa:=⟨p.x-q.x,p.y-q.y⟩
def tk(f:aa×aa):aa:=⟨-(f.2.y-f.1.y),f.2.x-f.1.x⟩
structure BrG (V:List aa) (E:List (aa×aa)):Prop where
 ends: ∀f∈E,f.1∈V/\f.2∈V
 cvx: ∀f∈E,∀v∈V,0<=cC f.1 f.2 v
 cen: ∃u,∀f∈E,0<cC f.1 f.2 u
 hull: ∀n u:aa,(∀f∈E,0<=cC f.1 f.2 u)-> ∃v∈V,n.dot v<=n.dot u
def aG7(f:aa×aa)(p:aa):ab:=eE (-(tk f).x) (-(tk f).y) ((tk f).dot p-(tk f).dot f.1)
def LJ(n:aa):List aa->Rat
 |[]=>0
 |p::t=>t.foldl (fun b q=>if n.dot q<b then n.dot q else b) (n.dot p)
def RP(n:aa)(s:aP):Bool:=(s.v.nh&&decide (s.l.dir.dot n<0))||(s.v.nl&&decide (0<s.l.dir.dot n))
def WS(n:aa):aE->Bool
 |[s]=>decide (s.l.nor.dot n<0)
 |_=>false
def SL(c:aE):List aa:=(c.map fun s=>s.l.at s.v.sample)++uU (c.map (·.l))
def RC(c:aE)(n:aa):Option Rat:=if c.isEmpty||WS n c then none else if c.any (RP n) then none else some (LJ n (SL c))
def i4(p q:aa):ab:=eE (p.y-q.y) (q.x-p.x) (-((p.y-q.y)*p.x+(q.x-p.x)*p.y))
def A'(n:aa):List aa->aa
 |[]=>⟨0,0⟩
 |p::t=>t.foldl (fun b q=>if n.dot q<n.dot b then q else b) p
def Uq(l:ab)(V:List aa):ab:=i4 (l.base.add (A' l.nor V)) ((l.base.add (A' l.nor V)).add l.dir)
def Tu(l:ab)(V:List aa):ab:=eE l.a l.b (l.c-LJ l.nor V)
def RM(l:ab)(c:List ab):List aa:=(c.flatMap fun s=>[s.dir,bO s.dir])++[⟨l.dir.y, -l.dir.x⟩]
def QF(l:ab)(c:List ab):Bool:=!c.isEmpty&&(RM l c).all fun v=>!(OC c v&&decide (Int.sign (l.dir.cross v).num<0))
def JD(c:List ab):List aa:=if(uU c).isEmpty then c.map ab.base else uU c
def YQ(l:ab)(p:aa)(c:List ab):ab:=i4 (p.add (A' l.nor (JD c))) ((p.add (A' l.nor (JD c))).add l.dir)
def X'(c:aE)(f:aa×aa):Option ab:=(RC c (tk f)).map fun m=>eE (tk f).x (tk f).y (-(m+(tk f).dot f.1))
def Qt(c:List ab)(f:aa×aa):Option ab:=if QF (i4 f.1 f.2) c then some (YQ (i4 f.1 f.2) f.1 c) else none
def aGd(c:aE)(V:List aa)(E:List (aa×aa)):List ab:=(c.map fun s=>Tu s.l V)++E.filterMap (X' c)
def aFU(c:List ab)(V:List aa)(E:List (aa×aa)):List ab:=(c.map fun l=>Uq l V)++E.filterMap (Qt c)
def Gi{a R D g x:Rat}(hg:g≠0)(hR:R*D=g)(ha:a*D=x):a*R⁻¹=x*g⁻¹:=by
 have h1:g*g⁻¹=1:=Rat.mul_inv_cancel g hg;have hR0:R≠0:=fun e=>hg (by rw[<-hR,e];grind);have h2:R*R⁻¹=1:=Rat.mul_inv_cancel R hR0;generalize R⁻¹=r at*;generalize g⁻¹=s at*;have:r=D*s:=by
  have h3:R*(r-D*s)=0:=by grind
  have:=(oM.1 h3).resolve_left hR0;grind
 grind
def YK{a b c:Rat}(h0: ¬(a=0/\b=0)):a*(rgcd (rgcd a b) c)⁻¹=((eE a b c).a:Rat)/\b*(rgcd (rgcd a b) c)⁻¹=((eE a b c).b:Rat)/\c*(rgcd (rgcd a b) c)⁻¹=((eE a b c).c:Rat):=by
 obtain⟨k1,k2,k3⟩:=Lf a b c;have hn:=Et (c:=c) h0;have hD:=OE a b c;have hr:=Pb hD (Pb hD k1 k2) k3;unfold eE;generalize a.num*(b.den*c.den:Nat)=x at*;generalize b.num*(a.den*c.den:Nat)=y at*;generalize c.num*(a.den*b.den:Nat)=z at*;rw[fL] at hr;have hgn:Nat.gcd x.natAbs y.natAbs≠0:=fun h=>hn ⟨kR.1 (lT h),kR.1 (lV h)⟩;have hgp:0<Nat.gcd (Nat.gcd x.natAbs y.natAbs) z.natAbs:=kS _ (iZ hgn);have hg:(((Nat.gcd (Nat.gcd x.natAbs y.natAbs) z.natAbs:Nat):Int):Rat)≠0:=fun e=>by
  have:((Nat.gcd (Nat.gcd x.natAbs y.natAbs) z.natAbs:Nat):Int)=0:=by exact_mod_cast e
  omega
 refine⟨?_,?_,?_⟩
 ·rw[Gi hg hr k1];exact vV hgp (nL (iT _ _) (iT _ _))
 ·rw[Gi hg hr k2];exact vV hgp (nL (iT _ _) (jM _ _))
 ·rw[Gi hg hr k3];exact vV hgp (jM _ _)
def SG{a b c:Rat}[ha:BQ a 40][hb:BQ b 40][hc:BQ c 40](h0: ¬(a=0/\b=0)):PF GB prog 243 [eF a,eF b,eF c] (.tp [d8 (eE a b c),vB true]):=by
 obtain⟨e1,e2,e3⟩:=YK (c:=c) h0;haveI:BQ (rgcd a b) 160:=BQ.mono (inferInstance:BQ (rgcd a b) _) (by decide);haveI:BQ (rgcd (rgcd a b) c) 600:=BQ.mono (inferInstance:BQ (rgcd (rgcd a b) c) _) (by decide);haveI:BQ (rgcd (rgcd a b) c)⁻¹ 600:=BQ.mono (inferInstance:BQ (rgcd (rgcd a b) c)⁻¹ _) (by decide);have hl4:([((eE a b c).a:Rat),((eE a b c).b:Rat),((eE a b c).c:Rat)].map eF).length=3:=J;have hl3:[((eE a b c).a:Rat),((eE a b c).b:Rat),((eE a b c).c:Rat)].length=3:=J;refine fn func243 J J ntmps243 J J (fun C=>?_);refine cl J (nG (q:=a)) J<|?_;refine csd 11 J J J (fun hg11=>?_) (fun hg11=>?_)
 .
  refine cl J (nG (q:=b)) J<|?_;refine bd J J J (fun hc14=>?_) (fun hc14=>?_)
  .
   exact absurd ⟨hg11,hc14⟩ h0
  .
   refine cl J (kC (p:=a) (q:=b) (i:=40) (j:=40)) J<|cl J (kC (p:=rgcd a b) (q:=c) (i:=160) (j:=40)) J<|cl J (vr (q:=rgcd (rgcd a b) c) (i:=600)) J<|?_;refine ro (fu:=⟨0⟩) J J<|cq (hv:=by simp only[ah];exact⟨by kernel_rfl,by omega⟩) ([((eE a b c).a:Rat),((eE a b c).b:Rat),((eE a b c).c:Rat)].map eF) rfl (zY (L:=[a,b,c]) (k:=(rgcd (rgcd a b) c)⁻¹) (i:=600) (by intro q hq;simp only[aU,jL,or_false] at hq;rcases hq with rfl|rfl|rfl;exact tf ha (by decide);exact tf hb (by decide);exact tf hc (by decide)) (by intro q hq;simp only[aU,jL,or_false] at hq;rcases hq with rfl|rfl|rfl;exact ha.mono (by decide);exact hb.mono (by decide);exact hc.mono (by decide)) (nb rfl)) (by simp only[bR,dK,e1,e2,e3]) rfl<|?_;refine lb _ J J J<|lb _ J J J<|lb _ J J J<|?_;exact rz J J
 .
  refine cl J (kC (p:=a) (q:=b) (i:=40) (j:=40)) J<|cl J (kC (p:=rgcd a b) (q:=c) (i:=160) (j:=40)) J<|cl J (vr (q:=rgcd (rgcd a b) c) (i:=600)) J<|?_;refine ro (fu:=⟨0⟩) J J<|cq (hv:=by simp only[ah];exact⟨by kernel_rfl,by omega⟩) ([((eE a b c).a:Rat),((eE a b c).b:Rat),((eE a b c).c:Rat)].map eF) rfl (zY (L:=[a,b,c]) (k:=(rgcd (rgcd a b) c)⁻¹) (i:=600) (by intro q hq;simp only[aU,jL,or_false] at hq;rcases hq with rfl|rfl|rfl;exact tf ha (by decide);exact tf hb (by decide);exact tf hc (by decide)) (by intro q hq;simp only[aU,jL,or_false] at hq;rcases hq with rfl|rfl|rfl;exact ha.mono (by decide);exact hb.mono (by decide);exact hc.mono (by decide)) (nb rfl)) (by simp only[bR,dK,e1,e2,e3]) rfl<|?_;refine lb _ J J J<|lb _ J J J<|lb _ J J J<|?_;exact rz J J
def DC:DV:= .ag [vI 0,vI 0, .v (.pointer none),vI 0,vI 0, .v (.pointer none),vI 0,vI 0, .v (.pointer none)]
def Ql{c:Rat}:PF GB prog 243 [eF (0:Rat),eF (0:Rat),eF c] (.tp [DC,vB false]):=by
 haveI:BQ (0:Rat) 1:=⟨by decide,by decide⟩;refine fn func243 J J ntmps243 J J (fun C=>?_);refine cl J (nG (q:=0)) J<|?_;refine csd 11 J J J (fun hg11=>?_) (fun hg11=>?_)
 .
  refine cl J (nG (q:=0)) J<|?_;refine bd J J J (fun hc14=>?_) (fun hc14=>?_)
  .
   exact rz J J
  .
   exact absurd J hc14
 .
  exact absurd J hg11
def yW{p q:aa}(h: ¬(p.x=q.x/\p.y=q.y)): ¬(p.y-q.y=0/\q.x-p.x=0):=fun⟨h1,h2⟩=>h ⟨by grind,by grind⟩
def Oc(p q:aa):jl ⟨q.x-p.x,q.y-p.y⟩=⟨p.y-q.y,q.x-p.x⟩:=by
 unfold jl;simp only[aa.mk.injEq,and_true];grind
def Vm{p q:aa}(h:p.x=q.x/\p.y=q.y):(⟨p.y-q.y,q.x-p.x⟩:aa)=⟨0,0⟩:=by
 simp only[aa.mk.injEq];exact⟨by grind,by grind⟩
def XF{p q:aa}[hp:aG p 5][hq:aG q 5](h: ¬(p.x=q.x/\p.y=q.y)):PF GB prog 151 [eZ p,eZ q] (.tp [d8 (i4 p q),vB true]):=by
 haveI:aG (⟨p.y-q.y,q.x-p.x⟩:aa) 11:=⟨inferInstanceAs (BQ (p.y-q.y) _),inferInstanceAs (BQ (q.x-p.x) _)⟩;haveI:BQ (p.y-q.y) 40:=BQ.mono (inferInstance:BQ (p.y-q.y) _) (by decide);haveI:BQ (q.x-p.x) 40:=BQ.mono (inferInstance:BQ (q.x-p.x) _) (by decide);haveI:BQ ((⟨p.y-q.y,q.x-p.x⟩:aa).dot p) 40:=BQ.mono (inferInstance:BQ ((⟨p.y-q.y,q.x-p.x⟩:aa).dot p) _) (by decide);haveI:BQ (-((⟨p.y-q.y,q.x-p.x⟩:aa).dot p)) 40:=inferInstance;refine fn func151 J J ntmps151 J J (fun C=>?_);refine cl J (Gv (p:=q) (q:=p) (i:=5) (j:=5)) J<|cl (fu:=⟨0⟩) J (Ci (p:=⟨q.x-p.x,q.y-p.y⟩) (i:=11) (h:=DR q p)) J<|?_;refine aA 12 (.d (eZ ⟨p.y-q.y,q.x-p.x⟩)) J (by rw[Oc]) ?_;refine gx J<|cl J (qo (p:=⟨p.y-q.y,q.x-p.x⟩) (q:=p) (i:=11) (j:=5)) J<|cl J (lw (q:=(⟨p.y-q.y,q.x-p.x⟩:aa).dot p) (i:=40)) J<|?_;refine cl J (SG (a:=p.y-q.y) (b:=q.x-p.x) (c:= -((⟨p.y-q.y,q.x-p.x⟩:aa).dot p)) (yW h)) J<|?_;exact rz J J
def WM{p q:aa}[hp:aG p 5][hq:aG q 5](h:p.x=q.x/\p.y=q.y):PF GB prog 151 [eZ p,eZ q] (.tp [DC,vB false]):=by
 haveI:aG (⟨0,0⟩:aa) 11:=⟨⟨by decide,by decide⟩,⟨by decide,by decide⟩⟩;haveI:BQ ((⟨0,0⟩:aa).dot p) 40:=BQ.mono (inferInstance:BQ ((⟨0,0⟩:aa).dot p) _) (by decide);refine fn func151 J J ntmps151 J J (fun C=>?_);refine cl J (Gv (p:=q) (q:=p) (i:=5) (j:=5)) J<|cl (fu:=⟨0⟩) J (Ci (p:=⟨q.x-p.x,q.y-p.y⟩) (i:=11) (h:=DR q p)) J<|?_;refine aA 12 (.d (eZ ⟨0,0⟩)) J (by rw[Oc,Vm h]) ?_;refine gx J<|cl J (qo (p:=⟨0,0⟩) (q:=p) (i:=11) (j:=5)) J<|cl J (lw (q:=(⟨0,0⟩:aa).dot p) (i:=40)) J<|cl J (Ql (c:= -((⟨0,0⟩:aa).dot p))) J<|?_;exact rz J J
def DB{a b c:Rat}{i j k:Nat}(ha:BQ a i)(hb:BQ b j)(hc:BQ c k):(a.num*(b.den*c.den:Nat)).natAbs<2^(i+(j+k)):=by
 rw[gX,fL];exact l8 ha.hn (l8 hb.hd hc.hd)
theorem EF{p q:aa}[hp:aG p 5][hq:aG q 5]:LB (i4 p q):=by
 have h1:BQ (p.y-q.y) 11:=inferInstance;have h2:BQ (q.x-p.x) 11:=inferInstance;have h3:BQ (-((p.y-q.y)*p.x+(q.x-p.x)*p.y)) 33:=inferInstance;unfold i4 eE;obtain⟨k1,k2,k3⟩:=FC ((p.y-q.y).num*((q.x-p.x).den*(-((p.y-q.y)*p.x+(q.x-p.x)*p.y)).den:Nat)) ((q.x-p.x).num*((p.y-q.y).den*(-((p.y-q.y)*p.x+(q.x-p.x)*p.y)).den:Nat)) ((-((p.y-q.y)*p.x+(q.x-p.x)*p.y)).num*((p.y-q.y).den*(q.x-p.x).den:Nat));have pw:(2:Nat)^(11+(11+33))<=2^96:=bZ (by decide) (by decide);have KX:(2:Nat)^(33+(11+11))<=2^96:=bZ (by decide) (by decide);exact⟨⟨fZ k1 (cS (DB h1 h2 h3) pw),fZ k2 (cS (DB h2 h1 h3) pw),fZ k3 (cS (DB h3 h1 h2) KX)⟩⟩
def Oz{l:ab}(hb:LB l)(ho:l.ok):pA 18 (jf [l]):=
 ⟨⟨⟨⟨hb,trivial,trivial⟩,⟨ho,trivial,trivial⟩⟩,oN J,[l],oN J,fun m hm=>by rw[aV.1 hm];exact ho,⟨⟨l,aV.2 J, .inl J⟩,trivial,trivial⟩⟩,oN J⟩
def Z8{l:ab}(h:l.ok):0<l.value (l.base.add l.nor):=by
 have h1:=Nm h.ne;have h2:=xu h.ne;unfold ab.value ab.nor aa.dot aa.add at*;unfold ab.dir at h2;dsimp only at*;grind
def SP{o:Rat}(h:0<o):0<o.num:=by
 have h1:=sS.2 (show 0<=o by grind);have h2:o.num≠0:=fun e=>by have:=kQ.1 e;grind
 omega
def ar7{p q r:aa}(h: ¬(p.x=q.x/\p.y=q.y)):mz (jf [i4 p q]) r=1+mF p q r:=by
 obtain⟨g,g0,hg⟩:=Tk (c:= -((p.y-q.y)*p.x+(q.x-p.x)*p.y)) (yW h);have hok:(i4 p q).ok:=Hk (yW h);have hv:(i4 p q).value r=g*cC p q r:=by
  unfold i4;rw[hg r];unfold cC;grind
 have hpos:ek [i4 p q] ((i4 p q).base.add (i4 p q).nor):=fun l hl=>by
  rw[aV.1 hl];exact Z8 hok
 rw[Sj (fun l hl=>by rw[aV.1 hl];exact hok) hpos,GZ];unfold Db;simp only[List.any_cons,List.any_nil,rS,decide_eq_true_eq];rw[hv];generalize cC p q r=o at*;rcases xT o 0 with k|k|k
 ·have h1:g*o<0:=by have:=Rat.mul_pos g0 (show(0:Rat)< -o by grind);grind
  have h2:o.num.sign= -1:=dY (Int.not_le.1 fun e=>absurd (sS.1 e) (by grind));rw[if_pos h1,h2];rfl
 ·subst k
  rw[if_neg (by grind),if_pos (by grind)];rfl
 ·have h1:0<g*o:=Rat.mul_pos g0 k
  have h2:o.num.sign=1:=dS (SP k);rw[if_neg (by grind),if_neg (by grind),h2];rfl
theorem O0{es:List Int}{a:Nat}(ha:a<=es.length):BQ (qF es a).1 5/\(qF es a).2<=es.length:=by
 have h1:=Fy (es:=es) (n:=9) (a:=a) (by decide);refine⟨?_,yx (yx ha)⟩;unfold qF;dsimp only;split
 ·exact rD (by decide) (by omega) (by decide)
 ·split
  ·exact rD (by decide) (by omega) (by decide)
  ·haveI:BI (((bh es 9 a).1:Int)-4:Int) 4:=GN (by omega)
   have e:((((bh es 9 a).1:Rat)-4):Rat)=((((bh es 9 a).1:Int)-4:Int):Rat):=by rw[lU];rfl
   rw[e];exact inferInstance
theorem E8{es:List Int}{a:Nat}(ha:a<=es.length):aG (lI es a).1 5/\(lI es a).2<=es.length:=by
 obtain⟨h1,h2⟩:=O0 ha;obtain⟨h3,h4⟩:=O0 h2;exact⟨⟨h1,h3⟩,h4⟩
def asG(a b c:aa): -1<=mF a b c/\mF a b c<=1:=by
 rw[GZ];rcases lK (cC a b c).num 0 with h|h|h
 ·rw[dY h];omega
 ·rw[h];decide
 ·rw[dS h];omega
def XR{p q:aa}[hp:aG p 5][hq:aG q 5](h: ¬(p.x=q.x/\p.y=q.y)):PF GB prog 60 [kG p,kG q] (.tp [eA (jf [i4 p q]), .v .nilIface]):=by
 haveI:=EF (p:=p) (q:=q);have hx:=Oz EF (Hk (yW h):(i4 p q).ok);refine fn func60 J J ntmps60 J J (fun C=>?_);refine cl J (xh (p:=p) (i:=5)) J<|cl J (xh (p:=q) (i:=5)) J<|cl (fu:=⟨0⟩) J (XF (p:=p) (q:=q) h) J<|?_;refine aA 13 (.d (.tp [d8 (i4 p q), .v (.bool true)])) J J ?_;refine gx (fu:=⟨13⟩) J<|?_;refine aA 17 (.d (.v (.bool false))) J J ?_;refine qD 17 J ?_;refine gx J<|cl J (q8 (b:=true)) J<|cl J (q8 (b:=false)) J<|cl J (wP (l:=i4 p q) (x:= .leaf true) (y:= .leaf false)) J<|?_;refine cl J (DY (t:=jf [i4 p q]) hx.lb (nb J)) J<|?_;exact rz J J
def azY{ar:Addr}(hE:GU GB ar){p q:aa}[hp:aG p 5][hq:aG q 5](h:p.x=q.x/\p.y=q.y):PF GB prog 60 [kG p,kG q] (.tp [.ag [vI 0, .sl []],tE ar]):=by
 refine fn func60 J J ntmps60 J J (fun C=>?_);refine cl J (xh (p:=p) (i:=5)) J<|cl J (xh (p:=q) (i:=5)) J<|cl (fu:=⟨0⟩) J (WM (p:=p) (q:=q) h) J<|?_;refine aA 13 (.d (.tp [DC, .v (.bool false)])) J J ?_;refine gx (fu:=⟨13⟩) J<|?_;refine aA 17 (.d (.v (.bool true))) J J ?_;refine jH 17 J ?_;refine gx J<|gl J hE.ErrRange J<|?_;exact rz J J
def K8{p q:aa}{i j:Nat}[hp:aG p i][hq:aG q j](hi:i<=20000:=by decide)(hj:j<=20000:=by decide):PF GB prog 61 [eP p,eP q] (.v (.bool (decide (p.x=q.x/\p.y=q.y)))):=by
 refine fn func61 J J ntmps61 J J (fun C=>?_);refine cl J (O' (a:=p.x) (b:=q.x) (i:=i) (j:=j) (by omega) (by omega)) J<|?_;refine cs 11 J J J (fun hg11=>?_) (fun hg11=>?_)
 .
  refine cl J (O' (a:=p.y) (b:=q.y) (i:=i) (j:=j) (by omega) (by omega)) J<|?_;exact rz J (by rw[vl] at hg11;exact congrArg (fun z=>DV.v (.bool z)) (decide_eq_decide.2 (by rw[vl];simp[hg11])))
 .
  exact rz J (by rw[vl] at hg11;show DV.v (.bool false)=DV.v (.bool _);rw[decide_eq_false (fun h=>hg11 h.1)])
def Yb{ar:Addr}(hE:GU GB ar){es0:List Int}(hb:es0.length<=1125899906842624):PF GB prog 12 [.sl (es0.map vI)] (.v (.bool true)):=by
 obtain⟨es,hee⟩: ∃es,es=es0.take 400:=⟨_,rfl⟩;have hes:es.length<=400:=by rw[hee];simp;omega
 obtain⟨p,hpe⟩: ∃p,p=(lI es 0).1:=⟨_,rfl⟩;obtain⟨b1,hb1e⟩: ∃b,b=(lI es 0).2:=⟨_,rfl⟩;obtain⟨hpb,hb1⟩:aG p 5/\b1<=es.length:=by rw[hpe,hb1e];exact E8 (cJ _)
 obtain⟨q,hqe⟩: ∃p,p=(lI es b1).1:=⟨_,rfl⟩;obtain⟨b2,hb2e⟩: ∃b,b=(lI es b1).2:=⟨_,rfl⟩;obtain⟨hqb,hb2⟩:aG q 5/\b2<=es.length:=by rw[hqe,hb2e];exact E8 hb1
 obtain⟨r,hre⟩: ∃p,p=(lI es b2).1:=⟨_,rfl⟩;obtain⟨b3,hb3e⟩: ∃b,b=(lI es b2).2:=⟨_,rfl⟩;obtain⟨hrb,hb3⟩:aG r 5/\b3<=es.length:=by rw[hre,hb3e];exact E8 hb2
 haveI:=hpb;haveI:=hqb;haveI:=hrb;refine fn func12 J J ntmps12 J J (fun C=>?_);refine cn J ((Sv hb hee)) (fun _=>J) (fun _=>?_);refine cm J (fun b=>(GY hes (cJ _) hpe hb1e)) J<|cm J (fun b=>(GY hes hb1 hqe hb2e)) J<|cm J (fun b=>(GY hes hb2 hre hb3e)) J<|?_;refine cl J (zV (p:=p) (i:=5)) J<|cl J (zV (p:=q) (i:=5)) J<|?_;rcases Classical.em (p.x=q.x/\p.y=q.y) with hsm|hsm
 .
  refine cl J (azY hE (p:=p) (q:=q) hsm) J<|cl (fu:=⟨0⟩) J (K8 (p:=p) (q:=q)) J<|?_;refine aA 29 (.d (.v (.bool true))) J (by rw[decide_eq_true hsm]) ?_;refine jH 29 J ?_;refine gx J<|cl (fu:=⟨0⟩) J JW J<|?_;refine jH 30 J ?_;refine gx J<|gl J hE.ErrRange J<|cl (fu:=⟨0⟩) J V6 J<|?_;refine jH 34 J ?_;refine gx (fu:=⟨5⟩) J<|fD J J J<|?_;exact rz J J
 .
  have hx:=Oz EF (Hk (yW hsm):(i4 p q).ok);have hob:=asG p q r;refine cl J (XR (p:=p) (q:=q) hsm) J<|cl (fu:=⟨0⟩) J (K8 (p:=p) (q:=q)) J<|?_;refine aA 29 (.d (.v (.bool false))) J (by rw[decide_eq_false hsm]) ?_;refine qD 29 J ?_;refine gx J<|cl J (zV (p:=r) (i:=5)) J<|cl (fu:=⟨0⟩) J (Z5 (k:=18) (t:=jf [i4 p q]) (p:=r) (i:=5) hx) J<|?_;refine aA 46 (.d (.tp [vI (1+mF p q r), .v .nilIface])) J (by rw[ar7 hsm]) ?_;refine gx J<|cl (fu:=⟨0⟩) J JW J<|?_;refine jH 49 J ?_;refine gx (fu:=⟨2⟩) J<|fD (fu:=⟨3⟩) J J J<|fD (fu:=⟨5⟩) J J J<|?_;refine aA 61 (.d (vI 1)) J J ?_;refine gx (fu:=⟨0⟩) J<|fD J J J<|cl (fu:=⟨1⟩) J (awG (a:=p) (b:=q) (c:=r) (i:=5) (j:=5) (k:=5)) J<|fD J (by show some (decide (_=_))=some true;rw[decide_eq_true J]) J<|?_;exact rz J J
end Go.Sx
end
