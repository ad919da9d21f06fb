import Derived.Test.YtefoocgiaegobaaGreatDoorPi19
import Derived.Shelf.SlSortCmp.NoneTotal
import Derived.Test.YtefoocgiaegobaaGreatDoorProg
import Derived.Shelf.SlicesQ.Reverse
import Derived.Shelf.SlLaysE0
set_option linter.all false
set_option maxHeartbeats 2000000
set_option maxRecDepth 100000
section
namespace Go.Sx
open Go Go.Proofs Tryz
variable {GB:Gh}
def KN{E:List aO}(hE: ∀f∈E,FE f)(hn:E.length<=100000){fill:Int}{q:ab}{i:Nat}[hq:aI q i](hi:i<=80000):PF GB prog 76 [eZ q, .pt [vI fill], .pt [.sl (E.map bj)]] (vB (vy fill (jd E q))):=by
 refine fn (fu:=⟨3⟩) func76 J J ntmps76 J J (fun C=>?_);refine Gt 1 J<|Gt 2 J<|gx J<|cl J (aE4 hE (by omega) (p:=q) (i:=i) (by omega)) J<|cl J (WD (fill:=fill) (n:=jd E q)) J<|?_;exact rz J J
def MD{rs:List (List ZP)}(hr: ∀r∈rs,gi r)(fill:Int):(fun q=>vy fill (jd (c6 rs) q))=kB rs fill:=by
 funext q;rw[Rt hr];rfl
def Tr.like_depth: ∀{t u:Tr},t.like u->t.depth=u.depth
 | .leaf _, .leaf _,_=>rfl
 | .node _ _ _, .node _ _ _,h=>by rw[Tr.depth,Tr.depth,Tr.like_depth h.2.1,Tr.like_depth h.2.2]
def Tw{rs:List (List ZP)}{fill:Int}(h: ∀r∈rs,gi r)(hn:rs.length<=3):(km rs fill).all LB/\(km rs fill).all aa.ok/\(km rs fill).depth<=18/\(km rs fill).size<=171:=by
 obtain⟨h1,h2,h3⟩:=Pm (fill:=fill) h;obtain⟨k1,k2⟩:=sB h;have hd:(pA rs fill).depth<=(c6 rs).length:=C8;have ha: ∀{P:aa->Prop},(∀f∈c6 rs,P f.l)->(km rs fill).all P:=fun hP=>by
  rw[pH,Tr.like_lns h1,<-pH];exact rP hP
 have hA:od ((c6 rs).map (·.l)) (km rs fill):=ha fun f hf=>⟨f.l,iN hf, .inl J⟩;have hs:=VB (K:=(c6 rs).map (·.l)) (fun m hm=>by obtain⟨f,hf,rfl⟩:=bJ.1 hm;exact(k2 f hf).ok) h2 h3 cI.nil hA;rw[aJ] at hs;refine⟨ha fun f hf=>(k2 f hf).lb,h3,by rw[Tr.like_depth h1];omega,?_⟩;have:(c6 rs).length*((c6 rs).length+1)<=18*19:=jN (by omega) (by omega);omega
def TY{rs:List (List ZP)}(h: ∀r∈rs,Df r)(hn:rs.length<=3){fill:Int}(hfill:fill=1\/fill=2):PF GB prog 19 [.sl (rs.map vx),vI fill] (.tp [eA (lf rs fill), .v .nilIface]):=by
 have hr: ∀r∈rs,gi r:=fun r hr=>(h r hr).ok;have hel0:=(sB hr).1;have hfe:=ZH hr;obtain⟨b1,b2,b3,b4⟩:=Tw (fill:=fill) hr hn;have hbx:=(axD (fill:=fill) hr hn).x (asN _ _) (by decide);have hbs:=hbx.s;have hbE:(ie (kB rs fill) (c6 rs).length (c6 rs) []).restrict []=lf rs fill:=aEy hr;have hbl:=hbx.lb;have hml:(rs.map r9).length=rs.length:=aJ ..;refine fn func19 J J ntmps19 J J (fun C=>?_);refine cl (fu:=⟨13⟩) J (auW h (by omega)) J<|eE J J J<|?_;refine cs (fu2:=⟨20⟩) 25 J J J (fun hg25=>?_) (fun hg25=>?_)
 .
  refine br (fu2:=⟨13⟩) J J J (fun hc22=>?_) (fun hc22=>?_)
  .
   exact absurd hfill (by omega)
  .
   refine av 32 (.d (vI (rs.length:Nat))) J (by rw[hml]<;>rfl) ?_;refine gx J<|?_;refine Ec 8 0 80 222 17 J J J J J ?_;refine lp (X:=Nat) (fun k=>[(33, .d (vI (k:Nat))),(8, .ov 8 0)]) (fun k=>[(8,some (.o 130 [.rw 80] true)),(80,some (.b 222 17 ((c6 (rs.take k)).map bj) true))]) (fun k=>k<=rs.length) (fun k=>rs.length-k) 0 J (bU _) (fun _=>J) (fun k hk=>?_);have hm5:=C4 hr k;have hm3:((c6 (rs.take k)).map bj).length<=6*k:=by rw[aJ];exact C4 hr k
   refine br (fu2:=⟨0⟩) J J J (fun hc34=>?_) (fun hc34=>?_)
   .
    obtain⟨r,hx⟩: ∃u,rs[k]? =some u:=⟨_,aX (by omega)⟩;have hrr:=h r (bX hx);have hel:=(wi hrr.ok).1;have hn6:=hrr.ok.n6;have hm4:((iI r).map bj).length=(iI r).length:=aJ ..;refine ix _ J (fh hx) J<|cl J (QS hrr.ok) J<|ap (hv:=by simp only[ah];exact⟨by kernel_rfl,by omega⟩) ((c6 (rs.take (k+1))).map bj) J (Kw hx) (Ab (iI r)) J<|?_;refine ny 40 80 J ?_;exact at_ (k+1) ⟨(by omega),(by omega)⟩
   .
    obtain rfl:k=rs.length:=by omega
    rw[fY];refine yJ 80 J ?_;refine gx (fu:=⟨7⟩) J<|?_;refine gx J<|fz 3 J J<|fz 8 J J ?_;refine zP 3 J (fun GB1 pv1 hg1 hp1=>?_);refine zP 8 J (fun GB2 pv2 hg2 hp2=>?_);refine QN (fu:=⟨0⟩) J J ?_;refine cl J (Lh (E:=c6 rs) (zh hr) (ID rs) (by omega) (by omega) (f:=76) (c2:=[pv1,pv2]) (ds2:=[.pt [vI fill], .pt [.sl ((c6 rs).map bj)]]) (.cons (hp1.up hg2) (.cons hp2 (cG.2 J))) (acc:=kB rs fill) (fun q hq=>by rw[<-MD hr];exact KN hfe (by omega) (q:=q) (i:=20000) (by decide)) (show(km rs fill).size<=65536 by omega) (show(km rs fill).depth<=1000 by omega) b2 b1) J ?_;refine cl J (Fv (t:=(ie (kB rs fill) (c6 rs).length (c6 rs) []).restrict []) (by rw[hbE];exact hbl) (by rw[hbE];omega)) J ?_;exact rz J (by rw[hbE]<;>rfl)
 .
  refine av 32 (.d (vI (rs.length:Nat))) J (by rw[hml]<;>rfl) ?_;refine gx J<|?_;refine Ec 8 0 80 222 17 J J J J J ?_;refine lp (X:=Nat) (fun k=>[(33, .d (vI (k:Nat))),(8, .ov 8 0)]) (fun k=>[(8,some (.o 130 [.rw 80] true)),(80,some (.b 222 17 ((c6 (rs.take k)).map bj) true))]) (fun k=>k<=rs.length) (fun k=>rs.length-k) 0 J (bU _) (fun _=>J) (fun k hk=>?_);have hm5:=C4 hr k;have hm3:((c6 (rs.take k)).map bj).length<=6*k:=by rw[aJ];exact C4 hr k
  refine br (fu2:=⟨0⟩) J J J (fun hc34=>?_) (fun hc34=>?_)
  .
   obtain⟨r,hx⟩: ∃u,rs[k]? =some u:=⟨_,aX (by omega)⟩;have hrr:=h r (bX hx);have hel:=(wi hrr.ok).1;have hn6:=hrr.ok.n6;have hm4:((iI r).map bj).length=(iI r).length:=aJ ..;refine ix _ J (fh hx) J<|cl J (QS hrr.ok) J<|ap (hv:=by simp only[ah];exact⟨by kernel_rfl,by omega⟩) ((c6 (rs.take (k+1))).map bj) J (Kw hx) (Ab (iI r)) J<|?_;refine ny 40 80 J ?_;exact at_ (k+1) ⟨(by omega),(by omega)⟩
  .
   obtain rfl:k=rs.length:=by omega
   rw[fY];refine yJ 80 J ?_;refine gx (fu:=⟨7⟩) J<|?_;refine gx J<|fz 3 J J<|fz 8 J J ?_;refine zP 3 J (fun GB1 pv1 hg1 hp1=>?_);refine zP 8 J (fun GB2 pv2 hg2 hp2=>?_);refine QN (fu:=⟨0⟩) J J ?_;refine cl J (Lh (E:=c6 rs) (zh hr) (ID rs) (by omega) (by omega) (f:=76) (c2:=[pv1,pv2]) (ds2:=[.pt [vI fill], .pt [.sl ((c6 rs).map bj)]]) (.cons (hp1.up hg2) (.cons hp2 (cG.2 J))) (acc:=kB rs fill) (fun q hq=>by rw[<-MD hr];exact KN hfe (by omega) (q:=q) (i:=20000) (by decide)) (show(km rs fill).size<=65536 by omega) (show(km rs fill).depth<=1000 by omega) b2 b1) J ?_;refine cl J (Fv (t:=(ie (kB rs fill) (c6 rs).length (c6 rs) []).restrict []) (by rw[hbE];exact hbl) (by rw[hbE];omega)) J ?_;exact rz J (by rw[hbE]<;>rfl)
def Pr{u v:ab}{i j:Nat}[hp:aI u i][hq:aI v j](hi:i<=10000000:=by decide)(hj:j<=10000000:=by decide):PF GB prog 318 [eZ u,eZ v] (vB (decide (ck u v=0))):=by
 refine fn func318 J J ntmps318 J J (fun C=>?_);refine cl J (HI (u:=u) (v:=v) hi hj) J<|?_;exact rz J J
def kh(x:ab):List ab->List ab
 |[]=>[]
 |y::l=>if ck y x=0 then kh y l else y::kh y l
def qz:List ab->List ab
 |[]=>[]
 |x::l=>x::kh x l
def Bs{l:List ab}{k:Nat}{x y:ab}(h:l[k]? =some y):kh x (l.drop k)=if ck y x=0 then kh y (l.drop (k+1)) else y::kh y (l.drop (k+1)):=by
 obtain⟨h1,h2⟩:=aR.1 h;rw[aM h1,h2,kh]
def Uu{l:List ab}{k:Nat}{y:ab}(h:l[k]? =some y):l.take (k+1)=l.take k++[y]:=by
 rw[gR,h];rfl
def vZ:DV:= .ag [vI 0,vI 0, .v (.pointer none),vI 0,vI 0, .v (.pointer none)]
def S4(l:List ab)(k:Nat)(y:ab):(l.map eZ).set k (eZ y)=(l.set k y).map eZ:=(oR ..).symm
def TZ{l:List ab}(h:l.length<2):qz l=l:=by
 cases l with
 |nil=>rfl
 |cons x l=>cases l with
  |nil=>rfl
  |cons y l=>simp at h;omega
def Ux{l:List ab}{x:ab}(h:l[0]? =some x):qz l=l.take 1++kh x (l.drop 1):=by
 cases l with
 |nil=>cases h
 |cons y l=>cases h;rfl
def LU{r l:List ab}{a b:Nat}(h:a<=b)(e:r.drop a=l.drop a):r[b]? =l[b]? :=by
 have:=congrArg (·[b-a]?) e;simpa[mZ,show a+(b-a)=b by omega] using this
def Zf{r l:List ab}{a b:Nat}(h:a<=b)(e:r.drop a=l.drop a):r.drop b=l.drop b:=by
 have:=congrArg (List.drop (b-a)) e;simpa[tK,show a+(b-a)=b by omega] using this
def UZ{r:List ab}{i:Nat}{u:ab}(h:i<r.length):(r.set i u).take (i+1)=r.take i++[u]:=by
 rw[gR,rR h,List.take_set_of_le (aN _)];rfl
def XT{r:List ab}{i:Nat}(h:i<r.length):(r.map eZ)[(i:Int).toNat]? =some (eZ r[i]):=by simp[h]
def WX{l:List ab}{i0:Nat}(hb: ∀d∈l,aI d i0)(hn:l.length<=10000000)(hi:i0<=10000000):PB GB prog 317 (ey [none,some (.v (.func (.func 318) #[] #[]))]) 6 141 (l.map eZ) (fun w=> .v (.slice w.a w.n w.c)) ((qz l).map eZ):=by
 have hml:(l.map eZ).length=l.length:=aJ ..;refine wu (fu:=⟨10⟩) func317 J J ntmps317 J J (fun C=>?_);refine av 9 (.d (vI (l.length:Nat))) J (by rw[hml]<;>rfl) ?_;refine gx J<|?_;refine br J J J (fun hc10=>?_) (fun hc10=>?_)
 .
  exact tn J J J (by rw[TZ (by omega)])
 .
  obtain⟨x0,hx0⟩: ∃x,l[0]? =some x:=⟨_,aX (by omega)⟩;refine lp (fu:=⟨6⟩) (X:=Nat×ab) (fun⟨k,x⟩=>[(5, .d (vI (k:Nat)))]) (fun⟨k,x⟩=>[]) (fun⟨k,x⟩=>1<=k/\k<=l.length/\l[k-1]? =some x/\qz l=l.take k++kh x (l.drop k)) (fun⟨k,x⟩=>l.length-k) ⟨1,x0⟩ J ⟨aN _,by omega,hx0,by rw[Ux hx0]⟩ (fun _=>J) (fun⟨k,x⟩ hk=>?_)
  try dsimp only at hk⊢
  obtain⟨h1,h2,h3,h4⟩:=hk;refine av 14 (.d (vI (l.length:Nat))) J (by rw[hml]<;>rfl) ?_;refine gx J<|?_;refine br J J J (fun hc15=>?_) (fun hc15=>?_)
  .
   obtain⟨y,hy⟩: ∃y,l[k]? =some y:=⟨_,aX (by omega)⟩;haveI:=hb y (bX hy);haveI:=hb x (bX h3);refine lb (fu:=⟨3⟩) _ J (fh hy) J<|?_;refine av 25 (.d (vI ((k-1:Nat):Int))) J (by rw[Int.ofNat_sub h1]<;>rfl) ?_;refine gx J<|lb (fu:=⟨0⟩) _ J (fh h3) J<|cl J (Pr (u:=y) (v:=x) hi hi) J<|?_;refine bd (fu1:=⟨4⟩) J J J (fun hc28=>?_) (fun hc28=>?_)
   .
    have hc28':=hc28;refine Ko k (l.length-k) J J (by omega) (by omega) J<|?_;refine lp (fu:=⟨5⟩) (X:=Nat×Nat×ab×List ab) (fun⟨i,m,z,r⟩=>[(5, .d (vI (i:Nat))),(7, .d (vI (m:Nat)))]) (fun⟨i,m,z,r⟩=>[(1000000,some (.b 141 6 (r.map eZ) false))]) (fun⟨i,m,z,r⟩=>1<=m/\k+m<=l.length/\i+1<=k+m/\r.length=l.length/\r.drop (k+m-1)=l.drop (k+m-1)/\l[k+m-1]? =some z/\qz l=r.take i++kh z (l.drop (k+m))) (fun⟨i,m,z,r⟩=>l.length-m) ⟨k,1,y,l⟩ J ⟨aN _,by omega,by omega,J,J,by rw[nX];exact hy,by rw[h4,Bs hy,if_pos hc28']⟩ (fun _=>J) (fun⟨i,m,z,r⟩ hk=>?_)
    try dsimp only at hk⊢
    obtain⟨g1,g2,g3,g4,g5,g6,g7⟩:=hk;have hrl:(r.map eZ).length=r.length:=aJ ..;refine Sj J J<|?_;refine br (fu1:=⟨9⟩) (fu2:=⟨9⟩) J J J (fun hc35=>?_) (fun hc35=>?_)
    .
     obtain⟨u,hu⟩: ∃u,l[k+m]? =some u:=⟨_,aX (by omega)⟩;haveI:=hb u (bX hu);haveI:=hb z (bX g6);have g8:r[k+m]? =some u:=by rw[<-hu];exact LU (by omega) g5
     have g10:r[k+m-1]? =some z:=by rw[<-g6];exact LU (aN _) g5
     have g9:r.drop (k+m)=l.drop (k+m):=Zf (by omega) g5;refine IL (k+m) J (by omega) (by omega) (by omega) J<|lb (fu:=⟨3⟩) _ J (fh g8) J<|IL (k+m-1) J (by omega) (by omega) (by omega) J<|?_;refine lb (fu:=⟨0⟩) _ J (fh g10) J<|cl J (Pr (u:=u) (v:=z) hi hi) J<|?_;refine bb (fu1:=⟨6⟩) J J J (fun hc49=>?_) (fun hc49=>?_)
     .
      have hc49': ¬ck u z=0:=by simpa using hc49
      refine IL (k+m) J (by omega) (by omega) (by omega) J<|lb _ J (fh g8) J<|sb _ ((r.set i u).map eZ) J (XT (by omega)) J (by rw[<-S4]<;>rfl) J<|?_;exact at_ ⟨i+1,m+1,u,r.set i u⟩ (by dsimp only;exact⟨⟨by omega,by omega,by omega,by rw[aT];exact g4,by rw[show k+(m+1)-1=k+m by omega,qZ (by omega)];exact g9,by rw[show k+(m+1)-1=k+m by omega];exact hu,by rw[g7,Bs hu,if_neg hc49',UZ (by omega),dK];rfl⟩,(by omega)⟩)
     .
      have hc49':ck u z=0:=by simpa using hc49
      exact at_ ⟨i,m+1,u,r⟩ (by dsimp only;exact⟨⟨by omega,by omega,by omega,g4,by rw[show k+(m+1)-1=k+m by omega];exact g9,by rw[show k+(m+1)-1=k+m by omega];exact hu,by rw[g7,Bs hu,if_pos hc49'];rfl⟩,(by omega)⟩)
    .
     obtain hm:k+m=l.length:=by omega
     refine Ko i (l.length-i) J J (by omega) (by omega) J<|Tl (fu:=⟨6⟩) _ J (by rw[hrl];omega) (by omega) J J<|X0 ((r.take i).map eZ) i J J (by rw[aS,cK,aV,hrl];omega) (by rw[eK (by rw[cK,hrl];omega),List.take_take,Nat.min_self,lX]) J<|?_;exact tn J J J (by rw[g7,hm,jZ,kh,iK])
   .
    have hc28':=hc28;exact at_ ⟨k+1,y⟩ (by dsimp only;exact⟨⟨by omega,by omega,hy,by rw[h4,Bs hy,if_neg hc28',Uu hy,dK];rfl⟩,(by omega)⟩)
  .
   exact tn J J J (by rw[h4,show k=l.length by omega,jZ,kh,iK,fY])
def Z'{v:Value}(h:Go.Sx.flat v=true):v.oneCell'=true:=by cases v<;>first|rfl|cases h
def Nj{α:Type}{k:Nat}: ∀(l:List (List α)) (t:Nat),(∀x∈l,x.length=k)->t<l.length*k->l.flatten[t]? =(l[t/k]?).bind (·[t%k]?)
 |[],t,_,h=>by simp at h
 |x::l,t,h,ht=>by
  have hx:=h x aQ;have hk:0<k:=by
   rcases fX k with e|e
   ·subst e;simp at ht
   ·exact e
  rw[lK];by_cases q:t<k
  ·rw[eJ (by omega),jM q,fW q];rfl
  ·rw[gQ (by omega),hx,Nj l (t-k) (fun y hy=>h y (aZ _ hy)) (by rw[bW,cR] at ht;omega)]
   have e1:t/k=(t-k)/k+1:=by rw[Nat.div_eq_sub_div hk (by omega)]
   have e2:t%k=(t-k)%k:=by rw[Nat.mod_eq_sub_mod (by omega)]
   rw[e1,e2];rfl
section
variable {α:Type} [Inhabited α]
def Vq(enc:α->List Value)(k:Nat)(hk: ∀x,(enc x).length=k)(d:Array α):(Go.Sort.flatK enc k d).toList=(d.toList.map enc).flatten:=by
 apply lJ;intro t;have hlen:(d.toList.map enc).flatten.length=d.size*k:=by
  have: ∀l:List α,(l.map enc).flatten.length=l.length*k:=fun l=>by
   induction l with
   |nil=>simp
   |cons x l ih=>rw[bS,lK,aS,ih,hk,bW,cR];omega
  simpa using this d.toList
 by_cases ht:t<d.size*k
 ·have hk0:0<k:=by
   rcases fX k with e|e
   ·subst e;simp at ht
   ·exact e
  have hi:t/k<d.size:=sY (by rwa [cX]);rw[Nj (k:=k) _ _ (fun x hx=>by obtain⟨y,_,rfl⟩:=bJ.1 hx;exact hk y) (by simpa using ht)];simp only[Go.Sort.flatK,oK,Array.toList_range,fS];rw[pN ht];have hj:t%k<(enc d[t/k]).length:=by rw[hk];exact dX _ hk0
  simp only[jR];rw[getElem!_pos d (t/k) hi,getElem!_pos (enc d[t/k]) (t%k) hj];simp[hi,hj]
 ·rw[dW (by simp[Go.Sort.flatK];omega),dW (by rw[hlen];omega)]
def Qq(enc:α->List Value)(k:Nat)(w:World)(b m:Nat)(dk:Array α)(os:Array Obj){q:Nat}(hq:q<w.heap.size):
  (sortWorldK enc k w b 0 m dk os).heap[q]? =if q=b then(w.heap[q]?).map (Go.Sort.onCells (Go.Sort.putCells id 0 (Go.Sort.flatK enc k dk))) else w.heap[q]? :=by
 show((w.heap.modify b _)++os)[q]? =_;rw[jY (by simpa using hq),Array.getElem?_modify];by_cases e:b=q
 ·subst e;simp
 ·simp[e,Ne.symm e]
def Xk{F:Array Value}{xs rest:List Value}(h:xs.length=F.size):Go.Sort.putCells id 0 F ⟨xs++rest⟩=⟨F.toList++rest⟩:=by
 apply Array.ext';apply lJ;intro k;simp only[Go.Sort.putCells,Array.toList_mapIdx,List.getElem?_mapIdx];by_cases hk:k<F.size
 ·rw[eJ (by omega),eJ (by simpa using hk),aX (by omega)]
  simp[hk]
 ·rw[gQ (by omega),gQ (by simp;omega),h]
  simp only[iM]
  cases rest[k-F.size]? with
  |none=>rfl
  |some v=>simp[hk]
end
def oz{A:Type}(cf:A->A->Int)(ds:List A):List A:=ds.mergeSort fun x y=>!decide (cf y x<0)
def wN{A:Type}(cf:A->A->Int)(ds:List A):(oz cf ds).Perm ds:=List.mergeSort_perm ..
def NV{A:Type}{cf:A->A->Int}(hO:Go.Sort.SWO (Go.Proofs.ltOf cf))(ds:List A):(oz cf ds).Pairwise fun x y=> ¬cf y x<0:=by
 have:=List.pairwise_mergeSort (le:=fun x y=>!decide (cf y x<0)) (fun a b c h1 h2=>by
  have h1':Go.Proofs.ltOf cf b a=false:=by simpa[Go.Proofs.ltOf] using h1
  have h2':Go.Proofs.ltOf cf c b=false:=by simpa[Go.Proofs.ltOf] using h2
  have:=hO.ntrans c b a h2' h1';simpa[Go.Proofs.ltOf] using this) (fun a b=>by
  cases h1:Go.Proofs.ltOf cf b a with
  |false=>have: ¬cf b a<0:=(by simpa[Go.Proofs.ltOf] using h1);simp;omega
  |true=>
   cases h2:Go.Proofs.ltOf cf a b with
   |false=>have: ¬cf a b<0:=(by simpa[Go.Proofs.ltOf] using h2);simp;omega
   |true=>have:=hO.trans _ _ _ h1 h2;rw[hO.irrefl] at this;cases this) ds
 exact this.imp fun h=>by simpa using h
def Xr{P:Program}{ρ:Go.Shelf.Ren}{GB:Gh}(L:SlLaysF0.n6 P ρ)(ha:o8 P (ρ.f 6)){s:Nat}(hAg: ∀w,(isAgg (ρ.t 24)).run P w= .ok true w)(hZs: ∀w,(sizeOf (ρ.t 24)).run P w= .ok s w)
  {A:Type}(e:A->DV)(V:A->Prop)(hA: ∀x,∃l,e x= .ag l/\(DV.ag l).okc=true/\l.length=s)(cf:A->A->Int)(hO:Go.Sort.SWO (Go.Proofs.ltOf cf)){g:FuncId}(hg:o8 P g)
  (hc: ∀x y,V x->V y->PF GB P g [e x,e y] (.v (.int .i64 (cf x y)))){ty:TypeId}{ds:List A}(hV: ∀x∈ds,V x)(hn:ds.length<4611686018427387904)(hu: ∀x∈ds,∀y∈ds,¬cf x y<0-> ¬cf y x<0->x=y):
  PW GB P (ρ.f 6) [none,some (.v (.func (.func g) #[] #[]))] s ty (ds.map e) (.tp []) ((oz cf ds).map e):=by
 intro G z vs B hgb hB hvs;refine⟨ha,fun w hw=>?_⟩;obtain⟨v1,m1,rfl,q1,hvs⟩:=aP.1 hvs;obtain⟨v2,m2,rfl,q2,hvs⟩:=aP.1 hvs
 cases cG.1 hvs
 rw[aF] at q1 q2;subst q1 q2;obtain⟨es,k1,k2,k3,_⟩:=hB;simp only at k1 k2 k3;have hlen:es.length=ds.length:=by rw[k2.len,aJ]
 by_cases h0:ds=[]
 ·subst h0
  have hes:es=[]:=bL (by simpa using hlen);have hz:z.n=0:=by rw[k1.len,hes];rfl
  rw[hz];refine(AnyF.slices_SortFunc_none L z.a z.c _ w).mono fun r w' ⟨h1,h2⟩=>?_;subst h2;exact⟨_,asB B,G,h1,hw,iF.2 ⟨[],J, .nil⟩,es,k1.asB,by subst hes;show IsLs G ((oz cf []).map e) [];unfold oz;rw[List.mergeSort_nil];exact .nil,k3,fun h=>by cases h⟩
 ·have hpos:0<es.length:=by rw[hlen];exact qX.2 h0
  rcases k1 with⟨e1,_,_⟩|⟨b,rest,lo,e1,e2,e3,e4,e5⟩
  ·rw[e1] at hpos;simp at hpos
  subst e2
  -- elements with their cells
  have lift: ∀{ds:List A} {es:List Value},IsLs G (ds.map e) es->(∀x∈ds,V x)-> ∃qs:List {q:A×List Value//V q.1/\Is G (e q.1) (.agg ⟨q.2⟩)},qs.map (·.1.1)=ds/\qs.map (fun q=>Value.agg ⟨q.1.2⟩)=es:=by
   intro ds
   induction ds with
   |nil=>intro es h _;cases cG.1 h;exact⟨[],rfl,rfl⟩
   |cons x ds ih=>
    intro es h hV;obtain⟨y,n,rfl,g1,g2⟩:=aP.1 h;obtain⟨qs,g3,g4⟩:=ih g2 fun x hx=>hV x (aZ _ hx);obtain⟨l,hl,_⟩:=hA x;have g1':=g1;rw[hl] at g1';obtain⟨m,rfl,_⟩:=c8.1 g1';exact⟨⟨(x,m),hV x aQ,g1⟩::qs,by simp[g3],by simp[g4]⟩
  obtain⟨qs,hq1,hq2⟩:=lift k2 hV;have:Inhabited {q:A×List Value//V q.1/\Is G (e q.1) (.agg ⟨q.2⟩)}:=⟨qs.head (fun e=>by rw[e] at hq1;exact h0 hq1.symm)⟩
  let enc:{q:A×List Value//V q.1/\Is G (e q.1) (.agg ⟨q.2⟩)}->List Value:=fun q=>q.1.2
  have henc: ∀q,(enc q).length=s/\ ∀v∈enc q,Go.Sx.flat v=true:=fun q=>by
   obtain⟨l,hl,h1,h2⟩:=hA q.1.1;have h3:=q.2.2;rw[hl] at h3;obtain⟨m,hm,h4⟩:=c8.1 h3
   cases hm
   exact⟨by show q.1.2.length=s;rw[h4.len,h2],fun v hv=>h4.flat h1 v hv⟩
  have hk: ∀q,(enc q).length=s:=fun q=>(henc q).1;have hqs:qs.toArray.size=es.length:=by rw[nT,<-hq2,aJ]
  have hfl: ∀d:Array {q:A×List Value//V q.1/\Is G (e q.1) (.agg ⟨q.2⟩)},(Go.Sort.flatK enc s d).toList=aB (d.toList.map fun q=>Value.agg ⟨q.1.2⟩):=fun d=>by
   rw[Vq enc s hk];unfold aB;rw[List.map_map];rfl
  have hfe:(Go.Sort.flatK enc s qs.toArray).toList=aB es:=by rw[hfl,<-hq2]
  have hown:=hw.hown ⟨b,aB es++rest,ty,false⟩ aQ;obtain⟨hb,hGb,_,_⟩:=hown;simp only at hb hGb;have hblt:=gE hb;have hH:Go.Sort.HoldsK enc s w b 0 qs.toArray:=by
   intro j hj;refine⟨?_,by simp[World.frozen?,hb]⟩;rw[yK hb,dT];have hj':j<(aB es).length:=by rw[<-hfe];simpa using hj
   rw[eJ hj',<-hfe];show _=some ((Go.Sort.flatK enc s qs.toArray)[j]!);rw[getElem!_pos _ j hj];simp
  have hsz: ∀dk:Array {q:A×List Value//V q.1/\Is G (e q.1) (.agg ⟨q.2⟩)},dk.size=qs.toArray.size->(aB es).length=(Go.Sort.flatK enc s dk).size:=fun dk hd=>by rw[<-hfe];simp[hd]
  have hblk: ∀(m:Nat) (os:Array Obj) (dk:Array _),dk.size=qs.toArray.size->(sortWorldK enc s w b 0 m dk os).heap[b]? =some (.cells ⟨(Go.Sort.flatK enc s dk).toList++rest⟩ ty (0,0)):=fun m os dk hd=>by
   rw[Qq enc s w b m dk os hblt,if_pos J,hb];show some (Obj.cells (Go.Sort.putCells id 0 (Go.Sort.flatK enc s dk) ⟨aB es++rest⟩) ty (0,0))=_;rw[Xk (hsz dk hd)]
  have hoth: ∀(m:Nat) (os:Array Obj) (dk:Array _) (q:Nat),q<w.heap.size->q≠b->(sortWorldK enc s w b 0 m dk os).heap[q]? =w.heap[q]? :=fun m os dk q hq hne=>by rw[Qq enc s w b m dk os hq,if_neg hne]
  have hsub: ∀(m:Nat) (os:Array Obj) (dk:Array _) (c:Nat) (cs:List Value),G c=some cs-> ∃ty fz,(sortWorldK enc s w b 0 m dk os).heap[c]? =some (.cells ⟨cs⟩ ty fz):=fun m os dk c cs hcs=>by
   obtain⟨ty',fz,h⟩:=hw.sub c cs hcs;exact⟨ty',fz,by rw[hoth m os dk c (gE h) (fun e=>by subst e;rw[hGb] at hcs;cases hcs)];exact h⟩
  have hsize: ∀(m:Nat) (os:Array Obj) (dk:Array _),w.heap.size<=(sortWorldK enc s w b 0 m dk os).heap.size:=fun m os dk=>by
   show _<=((w.heap.modify b _)++os).size;simp
  have hcmp:Go.Proofs.CmpLays P g #[] enc s (fun q r=>cf q.1.1 r.1.1) b 0 qs.toArray.size w:=by
   intro m os dk _ x y;have hF:=hc x.1.1 y.1.1 x.2.1 y.2.1 G [.agg ⟨x.1.2⟩, .agg ⟨y.1.2⟩] hgb (.cons x.2.2 (.cons y.2.2 .nil));refine(hF.run _ (hsub m os dk)).mono fun r W ⟨v,G',h1,h2,h3⟩=>?_;rw[aF] at h3;subst h3;refine⟨h1,W.drawn-(sortWorldK enc s w b 0 m dk os).drawn,W.heap.extract (sortWorldK enc s w b 0 m dk os).heap.size W.heap.size,?_⟩;have hdr:=h2.dr;have hos:=h2.os;have htp:=h2.tape;have hou:=h2.output;have hkp:=h2.keep;have hss:=h2.size;simp only at hdr hos htp hou hkp hss;generalize sortWorldK enc s w b 0 m dk os=W0 at*
   cases W with
   |mk heap tape drawn os' output=>
    simp only at*;unfold Go.Sort.grow World.drewN;simp only[World.mk.injEq];refine⟨?_,htp,by omega,hos,hou⟩;apply Array.ext_getElem?;intro k;rw[Array.getElem?_append];split
    ·rename_i hk';exact hkp k hk' (by simp)
    ·rename_i hk'
     rw[Array.getElem?_extract];split
     ·congr 1;omega
     ·rw[mT (by omega)]
  have hO':Go.Sort.SWO (Go.Proofs.ltOf fun(q r:{q:A×List Value//V q.1/\Is G (e q.1) (.agg ⟨q.2⟩)})=>cf q.1.1 r.1.1):=⟨fun x=>hO.irrefl x.1.1,fun x y z=>hO.trans x.1.1 y.1.1 z.1.1,fun x y z=>hO.ntrans x.1.1 y.1.1 z.1.1⟩;have hrun:=AnyQ.slices_SortFunc L s hAg hZs enc hk (fun q v hv=>Z' ((henc q).2 v hv)) (fun q r=>cf q.1.1 r.1.1) hO' g #[] b 0 z.c qs.toArray w (fun args w=>zH hg args w) hcmp hH hblt (by rw[hqs,hlen];exact hn);have ez:z=⟨some ⟨b,0,none⟩,qs.toArray.size,z.c⟩:=by rw[hqs];exact e1
  have ea:(⟨[Value.slice z.a z.n z.c, .func (.func g) #[] #[]]⟩:Array Value)= #[.slice (some ⟨b,0,none⟩) qs.toArray.size z.c, .func (.func g) #[] #[]]:=by rw[ez]
  rw[ea];refine hrun.mono fun r w' ⟨h1,d',n,os,hp,hs,h2⟩=>?_;subst h2;have hdz:d'.size=qs.toArray.size:=hp.1;have hperm:d'.toList.Perm qs:=by
   have:=hp.2.2;have e1:d'.toList.take qs.length=d'.toList:=bZ (by rw[iM,hdz];simp);simpa[e1] using this
  have hasc:d'.toList.Pairwise fun x y=> ¬cf y.1.1 x.1.1<0:=by
   rw[lN];intro i j hi hj hij;have:=hs i j (bU _) hij (by rw[<-hdz];simpa using hj);rw[getElem!_pos d' j (by simpa using hj),getElem!_pos d' i (by simpa using hi)] at this;simpa[Go.Proofs.ltOf] using this
  have hds:d'.toList.map (·.1.1)=oz cf ds:=by
   refine List.Perm.eq_of_pairwise (le:=fun x y=> ¬cf y x<0) (fun x y hx hy k1 k2=>?_) ?_ (NV hO ds) ?_
   ·have m1:x∈ds:=by
     obtain⟨q,hq,rfl⟩:=bJ.1 hx;rw[<-hq1];exact bJ.2 ⟨q,hperm.mem_iff.1 hq,J⟩
    exact hu x m1 y ((wN cf ds).mem_iff.1 hy) k2 k1
   ·rw[rY];exact hasc
   ·refine(hperm.map _).trans ?_
    rw[hq1];exact(wN cf ds).symm
  have hlen':(d'.toList.map fun q=>Value.agg ⟨q.1.2⟩).length=es.length:=by rw[aJ,iM,hdz,hqs]
  have hIs: ∀l:List {q:A×List Value//V q.1/\Is G (e q.1) (.agg ⟨q.2⟩)},IsLs G ((l.map (·.1.1)).map e) (l.map fun q=>Value.agg ⟨q.1.2⟩):=fun l=>by
   induction l with
   |nil=>exact .nil
   |cons q l ih=>exact .cons q.2.2 ih
  have hcell: ∀v∈d'.toList.map (fun q=>Value.agg ⟨q.1.2⟩),(aE v).length=s:=fun v hv=>by
   obtain⟨q,_,rfl⟩:=bJ.1 hv;exact hk q
  refine⟨_,[⟨b,aB (d'.toList.map fun q=>Value.agg ⟨q.1.2⟩)++rest,ty,false⟩],G,h1,?_,iF.2 ⟨[],J, .nil⟩,d'.toList.map (fun q=>Value.agg ⟨q.1.2⟩), .inr ⟨b,rest,false,by rw[hlen'];exact e1,J,d7 _ hcell,?_,by rw[hlen'];exact e5⟩,by rw[<-hds];exact hIs _,hcell,fun h=>by cases h⟩
  ·refine⟨J,J,J,hsize n os d',fun q hq hqm=>hoth n os d' q hq fun e=>hqm (by rw[e];exact aQ),hsub n os d',bz.refl _,fun _ _=>J,fun o ho=>?_,List.pairwise_singleton _ _,?_,fun p hp=>(by cases hp)⟩
   ·rw[aW.1 ho]
    exact⟨by rw[<-hfl];exact hblk n os d' hdz,hGb,(fun h=>by cases h),fun _=>aQ⟩
   ·show w.drawn<=w.drawn+n
    omega
  ·rw[<-e4,d7 _ hcell,e3,hlen']
def Zz{a b c:ab}(h:cv c a):cv c b\/cv b a:=by
 by_cases h1:c.half<b.half
 ·exact .inl (.inl h1)
 ·by_cases h2:b.half<a.half
  ·exact .inr (.inl h2)
  ·rcases h with h|⟨h,k⟩
   ·omega
   ·have e1:c.half=b.half:=by omega
    have e2:b.half=a.half:=by omega
    by_cases q1:0<c.cross b
    ·exact .inl (.inr ⟨e1,q1⟩)
    ·by_cases q2:0<b.cross a
     ·exact .inr (.inr ⟨e2,q2⟩)
     ·exfalso
      have i1:b.y*c.cross a=a.y*c.cross b+c.y*b.cross a:=by unfold ab.cross;grind
      have i2:b.x*c.cross a=a.x*c.cross b+c.x*b.cross a:=by unfold ab.cross;grind
      have q1':c.cross b<=0:=by grind
      have q2':b.cross a<=0:=by grind
      rcases kA b with⟨eb,kb⟩|⟨eb,kb⟩|⟨eb,kb⟩<;>rcases kA a with⟨ea,ka⟩|⟨ea,ka⟩|⟨ea,ka⟩<;>rcases kA c with⟨ec,kc⟩|⟨ec,kc⟩|⟨ec,kc⟩<;>first|omega|skip
      ·have ha:0<=a.y:=by grind
       have hc:0<=c.y:=by grind
       rcases kb with kb|⟨kb,kb'⟩
       ·have g1:=nV ha (show 0<= -c.cross b by grind)
        have g2:=nV hc (show 0<= -b.cross a by grind);have g3:=b8 kb k;grind
       ·have hx:b.cross a=b.x*a.y:=by unfold ab.cross;rw[kb];grind
        have ha0:a.y=0:=by
         rcases ka with ka|ka
         ·have:=b8 kb' ka;grind
         ·exact ka.1
        have hax:0<a.x:=by grind
        have hy:c.cross a= -(c.y*a.x):=by unfold ab.cross;rw[ha0];grind
        have:=nV hc (show 0<=a.x by grind);grind
      ·have ha:0<= -a.y:=by grind
       have hc:0<= -c.y:=by grind
       rcases kb with kb|⟨kb,kb'⟩
       ·have g1:=nV ha (show 0<= -c.cross b by grind)
        have g2:=nV hc (show 0<= -b.cross a by grind);have g3:=b8 (show 0< -b.y by grind) k;grind
       ·have hx:b.cross a=b.x*a.y:=by unfold ab.cross;rw[kb];grind
        have ha0:a.y=0:=by
         rcases ka with ka|ka
         ·have:=b8 (show 0< -b.x by grind) (show 0< -a.y by grind);grind
         ·exact ka.1
        have hax:0< -a.x:=by grind
        have hy:c.cross a= -(c.y*a.x):=by unfold ab.cross;rw[ha0];grind
        have:=nV hc (show 0<= -a.x by grind);grind
      ·have hy:c.cross a=0:=by unfold ab.cross;rw[ka.1,ka.2];grind
       rw[hy] at k;exact absurd k (by decide)
def Ng:Go.Sort.SWO (Go.Proofs.ltOf ck):=by
 have e: ∀x y,Go.Proofs.ltOf ck x y=true↔cv x y:=fun x y=>by rw[<-mD];simp[Go.Proofs.ltOf]
 have e2: ∀x y,Go.Proofs.ltOf ck x y=false↔ ¬cv x y:=fun x y=>by rw[<-e];simp
 refine⟨fun x=>(e2 x x).2 (wX x),fun x y z h k=>(e x z).2 (xl ((e x y).1 h) ((e y z).1 k)),fun x y z h k=>(e2 x z).2 fun q=>?_⟩;rcases Zz (b:=y) q with q|q
 ·exact(e2 x y).1 h q
 ·exact(e2 y z).1 k q
def Lc: ∀{l m:List ab},l.Pairwise cv->m.Pairwise cv->(∀x,x∈l↔x∈m)->l=m
 |[],[],_,_,_=>rfl
 |[],b::m,_,_,h=>absurd ((h b).2 aQ) (by simp)
 |a::l,[],_,_,h=>absurd ((h a).1 aQ) (by simp)
 |a::l,b::m,h1,h2,h=>by
  obtain⟨p1,p2⟩:=bY.1 h1;obtain⟨q1,q2⟩:=bY.1 h2;have e:a=b:=by
   rcases aY.1 ((h a).1 aQ) with e|e
   ·exact e
   ·rcases aY.1 ((h b).2 aQ) with f|f
    ·exact f.symm
    ·exact(JK (q1 a e) (p1 b f)).elim
  subst e;congr 1;refine Lc p2 q2 fun x=>⟨fun hx=>?_,fun hx=>?_⟩
  ·rcases aY.1 ((h x).1 (aZ _ hx)) with e|e
   ·subst e;exact(wX _ (p1 _ hx)).elim
   ·exact e
  ·rcases aY.1 ((h x).2 (aZ _ hx)) with e|e
   ·subst e;exact(wX _ (q1 _ hx)).elim
   ·exact e
def vj(l:List ab):Prop:= ∀x∈l,∀y∈l,ck x y=0->x=y
def O5: ∀{l:List ab} {x:ab},(x::l).Pairwise (fun a b=> ¬cv b a)->vj (x::l)->(kh x l).Pairwise cv/\(∀y∈kh x l,cv x y)/\ ∀y,y∈x::kh x l↔y∈x::l
 |[],_,_,_=>⟨.nil,(fun y hy=>by cases hy),fun _=>Iff.rfl⟩
 |z::l,x,h,ht=>by
  obtain⟨p1,p2⟩:=bY.1 h;obtain⟨i1,i2,i3⟩:=O5 p2 fun a ha b hb=>ht a (aZ _ ha) b (aZ _ hb);rw[kh];by_cases e:ck z x=0
  ·rw[if_pos e]
   obtain rfl:=ht z (by simp) x (by simp) e;exact⟨i1,i2,fun y=>by rw[i3];simp⟩
  ·rw[if_neg e]
   have hb:cv x z:=by
    by_cases q:cv x z
    ·exact q
    ·exact absurd (CK (p1 z aQ) q) e
   refine⟨bY.2 ⟨i2,i1⟩,fun y hy=>?_,fun y=>?_⟩
   ·rcases aY.1 hy with rfl|hy
    ·exact hb
    ·exact xl hb (i2 y hy)
   ·rw[aY,i3,aY (b:=x) (l:=z::l)]
def Jj: ∀(l:List ab) (x:ab),(kh x l).length<=l.length
 |[],_=>aN _
 |y::l,x=>by
  have:=Jj l y;rw[kh];split<;>simp only[bW]<;>omega
def Ze(l:List ab):(qz l).length<=l.length:=by
 cases l with
 |nil=>exact aN _
 |cons x l=>have:=Jj l x;simp only[qz,bW];omega
def Z9{l:List ab}(h:l.Pairwise fun a b=> ¬cv b a)(ht:vj l):(qz l).Pairwise cv/\ ∀y,y∈qz l↔y∈l:=by
 cases l with
 |nil=>exact⟨.nil,fun _=>Iff.rfl⟩
 |cons x l=>
  obtain⟨i1,i2,i3⟩:=O5 h ht;exact⟨bY.2 ⟨i2,i1⟩,i3⟩
def Ku{l:List ab}(ht:vj l)(y:ab):y∈gD l↔y∈l:=by
 have h2: ∀y,y∈gD l->y∈l:=fun y hy=>by
  rcases Ej ck hy with h|h
  ·exact h
  ·cases h
 refine⟨h2 y,fun hy=>?_⟩;obtain⟨e,e1,e2⟩:=EK ck (o:=[]) hy;rcases e2 with rfl|e2
 ·exact e1
 ·rw[<-ht e (h2 e e1) y hy e2];exact e1
def KC{l:List ab}(ht:vj l):qz (oz ck l)=gD l:=by
 have hm: ∀y,y∈oz ck l↔y∈l:=fun y=>(wN ck l).mem_iff;have h1:(oz ck l).Pairwise fun a b=> ¬cv b a:=(NV Ng l).imp fun h=>by rw[<-mD];exact h
 obtain⟨k1,k2⟩:=Z9 h1 fun a ha b hb=>ht a ((hm a).1 ha) b ((hm b).1 hb);exact Lc k1 (QX l) fun x=>by rw[k2,hm,Ku ht]
def Vn{t:Tr}(ht:t.all aa.ok)(p:ab):vj (dO t p):=fun x hx y hy h=>by
 obtain⟨l,k1,k2⟩:=pn.1 hx;obtain⟨m,k3,k4⟩:=pn.1 hy;obtain⟨a1,a2⟩:=ol k1;obtain⟨b1,b2⟩:=ol k3;exact Pd (ri ht _ a1) (ri ht _ b1) a2 b2 k2 k4 h
end Go.Sx
end
section
namespace Go.Proofs
open Go.Shelf
def Tryz.sortPt_ren:Go.Shelf.Ren:=⟨fun|6=>316|15=>231|14=>370|28=>332|29=>333|20=>391|21=>392|22=>393|23=>394|24=>395|25=>396|26=>397|27=>398|46=>405|47=>372|48=>373|49=>406|50=>407|57=>410|n=>n,fun|22=>131|24=>141|25=>393|3=>3|39=>355|0=>0|53=>366|55=>251|4=>4|46=>429|45=>428|50=>391|5=>5|9=>9|66=>467|70=>471|76=>486|77=>487|n=>n,fun|n=>n⟩
def Tryz.sortPt:Go.Proofs.SlLaysF0.n6 Tryz.prog Tryz.sortPt_ren:={
 mixed:=by kernel_rfl
 f6:=⟨Tryz.f316.name,by decide,Tryz.func316.trans (congrArg some (by kernel_rfl))⟩
 f14:=⟨Tryz.f370.name,by decide,Tryz.func370.trans (congrArg some (by kernel_rfl))⟩
 f15:=Tryz.func231.trans (congrArg some (by kernel_rfl))
 f20:=⟨Tryz.f391.name,by decide,Tryz.func391.trans (congrArg some (by kernel_rfl))⟩
 f21:=⟨Tryz.f392.name,by decide,Tryz.func392.trans (congrArg some (by kernel_rfl))⟩
 f22:=⟨Tryz.f393.name,by decide,Tryz.func393.trans (congrArg some (by kernel_rfl))⟩
 f23:=⟨Tryz.f394.name,by decide,Tryz.func394.trans (congrArg some (by kernel_rfl))⟩
 f24:=⟨Tryz.f395.name,by decide,Tryz.func395.trans (congrArg some (by kernel_rfl))⟩
 f25:=⟨Tryz.f396.name,by decide,Tryz.func396.trans (congrArg some (by kernel_rfl))⟩
 f26:=⟨Tryz.f397.name,by decide,Tryz.func397.trans (congrArg some (by kernel_rfl))⟩
 f27:=⟨Tryz.f398.name,by decide,Tryz.func398.trans (congrArg some (by kernel_rfl))⟩
 f28:=Tryz.func332.trans (congrArg some (by kernel_rfl))
 f29:=Tryz.func333.trans (congrArg some (by kernel_rfl))
 f46:=⟨Tryz.f405.name,by decide,Tryz.func405.trans (congrArg some (by kernel_rfl))⟩
 f47:=Tryz.func372.trans (congrArg some (by kernel_rfl))
 f48:=Tryz.func373.trans (congrArg some (by kernel_rfl))
 f49:=⟨Tryz.f406.name,by decide,Tryz.func406.trans (congrArg some (by kernel_rfl))⟩
 f50:=⟨Tryz.f407.name,by decide,Tryz.func407.trans (congrArg some (by kernel_rfl))⟩
 f57:=⟨Tryz.f410.name,by decide,Tryz.func410.trans (congrArg some (by kernel_rfl))⟩
 t0:=Tryz.underlying0
 a0:=Tryz.isAgg0
 z0:=Tryz.sizeOf0
 v0:=Tryz.zeroValue0
 t3:=Tryz.underlying3
 a3:=Tryz.isAgg3
 z3:=Tryz.sizeOf3
 v3:=Tryz.zeroValue3
 t4:=Tryz.underlying4
 a4:=Tryz.isAgg4
 z4:=Tryz.sizeOf4
 v4:=Tryz.zeroValue4
 t5:=Tryz.underlying5
 a5:=Tryz.isAgg5
 z5:=Tryz.sizeOf5
 v5:=Tryz.zeroValue5
 t9:=Tryz.underlying9
 a9:=Tryz.isAgg9
 z9:=Tryz.sizeOf9
 v9:=Tryz.zeroValue9
 t22:=Tryz.underlying131
 a22:=Tryz.isAgg131
 z22:=Tryz.sizeOf131
 v22:=Tryz.zeroValue131
 t25:=Tryz.underlying393
 a25:=Tryz.isAgg393
 z25:=Tryz.sizeOf393
 v25:=Tryz.zeroValue393
 t39:=Tryz.underlying355
 a39:=Tryz.isAgg355
 z39:=Tryz.sizeOf355
 v39:=Tryz.zeroValue355
 t45:=Tryz.underlying428
 a45:=Tryz.isAgg428
 z45:=Tryz.sizeOf428
 v45:=Tryz.zeroValue428
 t46:=Tryz.underlying429
 a46:=Tryz.isAgg429
 z46:=Tryz.sizeOf429
 v46:=Tryz.zeroValue429
 t50:=Tryz.underlying391
 a50:=Tryz.isAgg391
 z50:=Tryz.sizeOf391
 v50:=Tryz.zeroValue391
 t53:=Tryz.underlying366
 a53:=Tryz.isAgg366
 z53:=Tryz.sizeOf366
 v53:=Tryz.zeroValue366
 t55:=Tryz.underlying251
 a55:=Tryz.isAgg251
 z55:=Tryz.sizeOf251
 v55:=Tryz.zeroValue251
 t66:=Tryz.underlying467
 a66:=Tryz.isAgg467
 z66:=Tryz.sizeOf467
 v66:=Tryz.zeroValue467
 t70:=Tryz.underlying471
 a70:=Tryz.isAgg471
 z70:=Tryz.sizeOf471
 v70:=Tryz.zeroValue471
 t76:=Tryz.underlying486
 a76:=Tryz.isAgg486
 z76:=Tryz.sizeOf486
 v76:=Tryz.zeroValue486
 t77:=Tryz.underlying487
 a77:=Tryz.isAgg487
 z77:=Tryz.sizeOf487
 v77:=Tryz.zeroValue487}
end Go.Proofs
end
section
namespace Go.Sx
open Go Go.Proofs Tryz
variable {GB:Gh}
def axm{ds:List ab}{i:Nat}(hb: ∀d∈ds,aI d i)(hi:i<=10000000)(hn:ds.length<=10000000)(ht:vj ds):PW GB prog 316 [none,some (.v (.func (.func 279) #[] #[]))] 6 141 (ds.map eZ) (.tp []) ((oz ck ds).map eZ):=
 Xr (GB:=GB) Tryz.sortPt ⟨_,func316,J,J⟩ isAgg141 sizeOf141 eZ (fun d=>aI d i) (fun x=>⟨_,J,J,J⟩) ck Ng ⟨_,func279,J,J⟩ (fun x y hx hy=>HI (i:=i) (j:=i) hi hi) hb (by omega)
  (fun x hx y hy h k=>ht x hx y hy (CK (by rw[<-mD];exact h) (by rw[<-mD];exact k)))
def Va{ds:List ab}{i:Nat}(hb: ∀d∈ds,aI d i)(hi:i<=10000000)(hn:ds.length<=10000000)(ht:vj ds):PB GB prog 221 (ey [none]) 6 141 (ds.map eZ) (fun w=> .v (.slice w.a w.n w.c)) ((gD ds).map eZ):=by
 have hsm: ∀d∈oz ck ds,aI d i:=fun d hd=>hb d ((wN ck ds).mem_iff.1 hd);have hsl:(oz ck ds).length=ds.length:=(wN ck ds).length_eq;refine wu func221 J J ntmps221 J J (fun C=>?_);refine cw _ J (axm hb hi hn ht) J J<|cq ((gD ds).map eZ) J (WX (i0:=i) hsm (by omega) hi) (by rw[KC ht]) J<|?_;exact tn J J J J
theorem ZC{t:Tr}(hb:t.all LB)(p:ab): ∀d∈dO t p,aI d 500:=fun d hd=>by
 obtain⟨l,h1,h2⟩:=pn.1 hd;haveI:=pH.1 hb l (ol h1).1;rcases h2 with rfl|rfl<;>infer_instance
theorem aCN{ds:List ab}{i:Nat}(h: ∀d∈ds,aI d i)(h2:2<=i): ∀v∈je ds,aI v (i+i+1):=fun v hv=>by
 have up: ∀{q:ab},aI q i->aI q (i+i+1):=fun hq=>⟨hq.x.mono (by omega),hq.y.mono (by omega)⟩;unfold je at hv;split at hv
 ·rw[aW] at hv
  subst hv;exact⟨BQ.mono (k:=2) ⟨by decide,by decide⟩ (by omega),BQ.mono (k:=2) ⟨by decide,by decide⟩ (by omega)⟩
 ·obtain⟨k,hk,rfl⟩:=bJ.1 hv
  have hk':=oV.1 hk;have g: ∀{j:Nat},j<ds.length->aI (ds.getD j ⟨0,0⟩) i:=fun{j} hj=>by
   rw[aK,aX hj];exact h _ (cY hj)
  haveI:=g hk';haveI:=g (dX (k+1) (show 0<ds.length by omega));unfold oc;split
  ·exact inferInstance
  ·exact up inferInstance
def Yf(ds:List ab):(je ds).length<=ds.length+1:=by
 unfold je;split
 ·simp
 ·rw[aJ,nL];omega
def RK{vs:List ab}{f:ab->Bool}{k:Nat}{v:ab}(h:vs[k]? =some v):(vs.drop k).any f=(f v||(vs.drop (k+1)).any f):=by
 obtain⟨h1,h2⟩:=aR.1 h;rw[aM h1,h2,List.any_cons]
def NU{vs:List ab}{f:ab->Bool}{k:Nat}{v:ab}(h:vs[k]? =some v):(vs.drop k).all f=(f v&&(vs.drop (k+1)).all f):=by
 obtain⟨h1,h2⟩:=aR.1 h;rw[aM h1,h2,List.all_cons]
def avF{b c:Bool}:PF GB prog 197 [vB b,vB c] (vI (if b&&c then 2 else if b then 1 else 0)):=by
 refine fn func197 J J ntmps197 J J (fun C=>?_);refine lv 7 J J J (fun hg7=>?_) (fun hg7=>?_)
 ·refine bb J J J (fun hc5=>?_) (fun hc5=>?_)
  ·exact rz J (by subst hg7 hc5;rfl)
  ·refine bb J J J (fun hc10=>?_) (fun hc10=>?_)
   ·exact rz J (by subst hg7 hc5;rfl)
   ·subst hg7;cases hc10
 ·refine bb J J J (fun hc10=>?_) (fun hc10=>?_)
  ·subst hg7;cases hc10
  ·exact rz J (by subst hg7;rfl)
def Z6{t:Tr}{p:ab}{i:Nat}[hp:aI p i](hb:t.all LB)(ho:t.all aa.ok)(hs:t.size<=400000)(hi:i<=10000000:=by decide):PF GB prog 130 [eU t,eZ p] (vI (mv t p)):=by
 have hrl:=A9 t p;have hrb:=ZC hb p;have hrt:=Vn ho p;have hdb: ∀d∈gD (dO t p),aI d 500:=fun d hd=>hrb d ((Ku hrt d).1 hd);have hdl:(gD (dO t p)).length<=(dO t p).length:=by rw[<-KC hrt];exact cM (Ze _) (Nat.le_of_eq (wN ck _).length_eq)
 have hsb:=aCN hdb (by decide);obtain⟨vs,hvs⟩: ∃vs,vs=je (gD (dO t p)):=⟨_,rfl⟩;have hvl:vs.length<=(gD (dO t p)).length+1:=by rw[hvs];exact Yf _
 rw[<-hvs] at hsb;have hml:(vs.map eZ).length=vs.length:=aJ ..;refine fn func130 J J ntmps130 J J (fun C=>?_);refine cqn ((dO t p).map eZ) J (As (p:=p) (o:=[]) hi hb (by rw[jQ];omega)) J J<|cq ((gD (dO t p)).map eZ) J (Va hrb (by decide) (by omega) hrt) J J<|?_;refine fz 14 J J<|cl (fu:=⟨0⟩) J (SG (ds:=gD (dO t p)) (i:=500) hdb (by omega)) J<|?_;refine av 15 (.d (.sl (vs.map eZ))) J (by rw[hvs]) ?_;refine gx (fu:=⟨1⟩) J<|?_;refine av 16 (.d (vI (vs.length:Nat))) J (by rw[hml]<;>rfl) ?_;refine gx J<|?_;refine D2 5 _ J J ?_;refine D2 6 _ J J ?_;refine lp (X:=Bool×Bool×Nat) (fun⟨a,c,k⟩=>[(17, .d (vI (k:Nat))),(5, .d (vB a)),(6, .d (vB c))]) (fun⟨a,c,k⟩=>[]) (fun⟨a,c,k⟩=>(a||(vs.drop k).any (fun v=>(fe t p v).1))=sG t p/\(c&&(vs.drop k).all (fun v=>(fe t p v).1))=xk t p/\k<=vs.length) (fun⟨a,c,k⟩=>vs.length-k) ⟨false,true,0⟩ J ⟨by rw[hvs];simp[sG],by rw[hvs];simp[xk],bU _⟩ (fun _=>J) (fun⟨a,c,k⟩ hk=>?_)
 try dsimp only at hk⊢
 obtain⟨h1,h2,h3⟩:=hk;refine br J J J (fun hc18=>?_) (fun hc18=>?_)
 .
  obtain⟨v,hx⟩: ∃v,vs[k]? =some v:=⟨_,aX (by omega)⟩;haveI:=hsb v (bX hx);refine ix _ J (fh hx) J<|cl J (asn (t:=t) (p:=p) (v:=v) (i:=i) (j:=500+500+1) hb hi (by decide)) J<|?_;refine bb J J J (fun hc28=>?_) (fun hc28=>?_)
  .
   refine JL 5 _ J J ?_;exact at_ ⟨true,c,k+1⟩ (by dsimp only;exact⟨⟨by rw[<-h1,RK hx,hc28];simp,by rw[<-h2,NU hx,hc28];simp,by omega⟩,(by omega)⟩)
  .
   refine JL 6 _ J J ?_;exact at_ ⟨a,false,k+1⟩ (by dsimp only;exact⟨⟨by rw[<-h1,RK hx,hc28];simp,by rw[<-h2,NU hx,hc28];simp,by omega⟩,(by omega)⟩)
 .
  obtain rfl:k=vs.length:=by omega
  rw[jZ] at h1 h2;have e1:a=sG t p:=by simpa using h1
  have e2:c=xk t p:=by simpa using h2
  refine cl J (avF (b:=a) (c:=c)) J<|?_;exact rz J (by rw[e1,e2];rfl)
def Zc{k i:Nat}{t:Tr}{p:ab}[hp:aI p i](h:nB k t)(hi:i<=10000000:=by decide):PF GB prog 48 [eA t,oo p] (.tp [vI (mv t p), .v .nilIface]):=by
 have hts:=h.s;refine fn func48 J J ntmps48 J J (fun C=>?_);refine cl (fu:=⟨11⟩) J (aHD h) J<|?_;refine kP 13 J ?_;refine gx J<|cl J (O0 (p:=p) (i:=i) (by omega)) J<|cl J (Z6 (t:=t) (p:=p) (i:=i) h.lb h.ok (by omega) hi) J<|?_;exact rz J J

def aK4(x:Rat×Bool)(s:Rat):Rat×Bool:=if 0<Int.sign s.num/\(x.2=false\/cg s x.1<0) then(s,true) else x

def aKF:List ZP:=Ja 0 0 2 2
structure CvR (r:List ZP):Prop where
 ok:gi r
 cen: ∃c:ab,∀f∈tv r,0<c9 f.1 f.2 c
 one: ∀p,(∀f∈tv r,0<c9 f.1 f.2 p)->pg r p=1
 zer: ∀p,(∃f∈tv r,c9 f.1 f.2 p<0)->pg r p=0
 cvx: ∀f∈tv r,∀g∈tv r,0<=c9 f.1 f.2 g.1/\0<=c9 f.1 f.2 g.2
 onE: ∀p,(∀f∈tv r,0<=c9 f.1 f.2 p)-> ∀f∈tv r,c9 f.1 f.2 p=0->QV f.1 f.2 p
section
variable {r:List ZP} {p:ab}
end
def wS(x y O:Rat):Int:=(if x<=0/\ ¬y<=0/\0<O then 1 else 0)-(if¬x<=0/\y<=0/\O<0 then 1 else 0)
def Uz(r:List ZP)(p:ab):Nat->Bool
 |0=>true
 |k+1=>Uz r p k&&decide (0<=tq (r.getD k (0,0)).q (fD r k).q p)
def soC(r:List ZP)(p:ab):Nat->Bool
 |0=>false
 |k+1=>soC r p k||decide (tq (r.getD k (0,0)).q (fD r k).q p=0)
def HP(n:Int)(d:Nat):Int:=n*zv false d
def aCm(n:Int)(d:Nat):(HP n d).natAbs=n.natAbs*d:=by unfold HP;rw[iT,qb]
instance BN.prx (n:Int) (d i j:Nat) [h:BI n i] [k:BN d j]:BN (HP n d).natAbs (i+j):=⟨by rw[aCm,fT];exact nQ h.h k.h⟩
def aKO(S:List ab)(x:ab)(R:List ab)(k:Nat):List ab:=S.take k++x::(S.drop k++R)
def aLu(S:List ab)(x:ab)(R:List ab)(m:Nat):List ab:=S.take m++x::x::(S.drop (m+1)++R)
def aIr(t:Tr)(p:ab):Int:=if XN t p then 2 else if Y2 t p then 1 else 0
def anV(t:Tr)(p:ab)(V:List ab)(k:Nat):Bool:=(V.take k).any fun v=>(fe t p v).1
def alV(t:Tr)(p:ab)(V:List ab)(k:Nat):Bool:=(V.take k).all fun v=>(fe t p v).1

structure EGW (GB:Gh) (ar:Addr):Prop where
 ErrRange:GB 2=some [.iface 499 (.pointer (some ar))]
def Ki(es:List Int):Nat->Nat->List (List ZP)->List (List ZP)×Nat
 |0,a,out=>(out,a)
 |n+1,a,out=>Ki es n (AR es a).2 (out++[(AR es a).1])
def aIJ(es:List Int)(m a:Nat):List (List ZP)×Nat:=Ki es (bg es (m+1) a).1 (bg es (m+1) a).2 []
def XJ(a b p:ab):Bool:=decide (tq a b p=0)&&decide ((ab.dot (ce a p (-1)) (ce b p (-1))).num.sign<=0)
def onZ(r:List ZP)(p:ab):Bool:=(List.range r.length).any fun k=>XJ (r.getD k (0,0)).q (fD r k).q p

def aLj(r:List ZP):List ZP:=r.take 1++(r.drop 1).reverse
section
variable {r:List ZP} {p:ab} {L:List aa}
end
end Go.Sx
end
section
namespace Go.Proofs
open Go.Shelf
def Tryz.RevPt_ren:Go.Shelf.Ren:=⟨fun|35=>104|n=>n,fun|22=>132|23=>141|3=>3|4=>4|0=>0|n=>n,fun|n=>n⟩
end Go.Proofs
end
section
namespace Go.Sx
open Go Go.Proofs

def Hx(x:aa):List aa->List aa
 |[]=>[]
 |y::l=>if y=x then Hx y l else y::Hx y l
def aJr:List aa->List aa
 |[]=>[]
 |x::l=>x::Hx x l
end Go.Sx
end
section
namespace Go.Proofs
open Go.Shelf
def Tryz.SortLn_ren:Go.Shelf.Ren:=⟨fun|6=>133|15=>231|14=>230|28=>332|29=>333|20=>324|21=>325|22=>326|23=>327|24=>328|25=>329|26=>330|27=>331|46=>371|47=>372|48=>373|49=>374|50=>375|57=>399|n=>n,fun|22=>171|24=>218|25=>226|3=>3|39=>355|0=>0|53=>366|55=>251|4=>4|46=>429|45=>428|50=>391|5=>5|9=>9|66=>467|70=>471|76=>486|77=>487|n=>n,fun|n=>n⟩
end Go.Proofs
end
section
namespace Go.Sx
open Go Go.Proofs Tryz
variable {GB:Gh}
def aKB(E:List aO):List aa:=E.map (·.l)
def anR(rs:List (List ZP))(fill:Int)(L:List aa)(p:ab)(vs:List ab):Bool:=vs.any fun v=>kB rs fill (tO L p v)
def alR(rs:List (List ZP))(fill:Int)(L:List aa)(p:ab)(vs:List ab):Bool:=vs.all fun v=>kB rs fill (tO L p v)
section
variable {GB:Gh} {C:aD} {n:Nat} {Q0:Exit->Act->World->Prop} {fr fr' fr1 fr2:aA} {own own' own1 own2:aG} {cf cf' cf1 cf2:Cf} {vc vc1 vc2:List Prop}
def aLt(fr:aA)(cf:Cf):Option Int:=match cd fr cf with
 |some ⟨_, .binOp .and _ x (.const (.int .i64 1)) _,_,_,_,_⟩=>match aH (bD fr cf) x with
  |some (.d (.v (.int .i64 p)))=>some p
  |_=>none
 |_=>none
end
structure EGX (GB:Gh) (ai:Addr):Prop where
 ErrInvalid:GB 0=some [.iface 499 (.pointer (some ai))]
def aFJ{b:Nat}{es:List Int}(hes:es.length<=400){a:Nat}(ha:a<=es.length){p:ab}{a':Nat}(hp:p=(p8 es a).1)(h':a'=(p8 es a).2):PM GB prog 36 (gI [none] b) b 126 [.sl (es.map vI), .v (.int .i64 (a:Nat))] (eP p) [.sl (es.map vI), .v (.int .i64 (a':Nat))]:=by
 subst hp h';exact T3 hes ha
def aLi(rs:List (List ZP))(p:ab):Int:=rs.foldl (fun n r=>n+pg r p) 0

def S6:lf [] 1= .leaf false:=by kernel_rfl
def XB:(lf [vn] 2).size=3:=by kernel_rfl
def VT: ∀r∈[vn],Df r:=fun r hr=>by
 rw[aW.1 hr];exact⟨ZT,by decide+kernel⟩
theorem YN: ∀p∈[iP 0 0,iP 1 0,iP 0 1],aI p 1200:=fun p hp=>by
 simp only[aY,nZ,or_false] at hp;rcases hp with rfl|rfl|rfl<;>exact⟨BQ.int1200 (by decide),BQ.int1200 (by decide)⟩
def Rq{rs:List (List ZP)}(h: ∀r∈rs,Df r)(hn:rs.length<=3){fill:Int}(hfill:fill=1\/fill=2){t:Tr}(ht:lf rs fill=t):PF GB prog 19 [.sl (rs.map vx),vI fill] (.tp [eA t, .v .nilIface]):=by
 subst ht;exact TY h hn hfill
def Wl:PF GB prog 20 [] (.v (.bool true)):=by
 obtain⟨u,hu⟩: ∃u,lf [vn] 2=u:=⟨_,rfl⟩;have hus:u.size=3:=by rw[<-hu];exact XB
 have hwl:((u.wr 0).map eN).length=3:=by rw[aJ,Tr.wr_len,hus]
 refine fn func20 J J ntmps20 J J (fun C=>?_);refine cl J (Rq (rs:=[]) (by simp) (by decide) (fill:=1) (.inl J) S6) J<|cl J (Ax (m:=0) (n:=0) (by decide) (by decide)) J<|?_;refine cl J (Ax (m:=1) (n:=0) (by decide) (by decide)) J<|cl J (Ax (m:=0) (n:=1) (by decide) (by decide)) J<|rf (fu:=⟨0⟩) J J<|?_;refine av 13 (.d (.sl ([iP 0 0,iP 1 0,iP 0 1].map eP))) J J ?_;refine gx J<|cl J (Z5 (ps:=[iP 0 0,iP 1 0,iP 0 1]) YN (by decide)) J<|rf (fu:=⟨0⟩) J J<|?_;refine av 15 (.d (.sl ([vn].map vx))) J J ?_;refine gx J<|cl (fu:=⟨11⟩) J (Rq (rs:=[vn]) VT (by decide) (fill:=2) (.inr J) hu) J<|f8 (fu:=⟨2⟩) J J J<|f8 (fu:=⟨4⟩) J J J<|f8 (fu:=⟨5⟩) J J J<|?_;refine av 33 (.d (vI 3)) J (by rw[hwl]<;>rfl) ?_;refine gx (fu:=⟨0⟩) J<|f8 J J J<|?_;exact rz J J


def fC:List aa->Tr
 |[]=> .leaf true
 |l::t=> .node l (fC t) (.leaf false)
def H8: ∀{L:List aa},(fC L).lns=L
 |[]=>rfl
 |l::t=>by rw[fC,Tr.lns,H8,Tr.lns,iK]
def yE: ∀{L:List aa} {p:ab},(fC L).val p=true↔dh L p
 |[],p=>⟨fun _ l hl=>(by cases hl),fun _=>J⟩
 |l::t,p=>by
  rw[fC];by_cases h:0<l.value p
  ·rw[Tr.val_pos h,yE (L:=t)]
   constructor
   ·intro k m hm
    rcases aY.1 hm with rfl|hm
    ·exact h
    ·exact k m hm
   ·exact fun k m hm=>k m (aZ _ hm)
  ·rw[Tr.val_neg h]
   constructor
   ·intro k;cases k
   ·intro k;exact absurd (k l aQ) h
def Dk{P:aa->Prop}{L:List aa}(h: ∀l∈L,P l):(fC L).all P:=pH.2 (by rw[H8];exact h)
def KA: ∀(L:List aa),(fC L).depth=L.length
 |[]=>rfl
 |l::t=>by rw[fC,Tr.depth,KA t,bW];show 1+max _ 0=_;omega
def Ok: ∀(L:List aa),(fC L).size=L.length
 |[]=>rfl
 |l::t=>by rw[fC,Tr.size,Ok t,bW];show 1+_+0=_;omega
def pw(L:List aa)(p:ab):Int:=if L.any (fun l=>decide (l.value p<0)) then 0 else if L.any (fun l=>decide (l.value p=0)) then 1 else 2
def ar9{L:List aa}(hL: ∀l∈L,l.ok){q:ab}(hq:dh L q)(p:ab):mv (fC L) p=pw L p:=by
 have hok:(fC L).all aa.ok:=Dk hL;unfold pw;by_cases h1:L.any (fun l=>decide (l.value p<0))=true
 ·rw[if_pos h1,EP hok]
  obtain⟨l,hl,hv⟩:=gK.1 h1;have hv:=of_decide_eq_true hv;intro hd;obtain⟨x,hx,_,_,k⟩:=OM hok hd (M:=[]) (fun m hm=>by cases hm) (c:=[⟨l.rev,aj.all⟩]) (p:=p) (fun s hs=>by
   rw[aW.1 hs,f7];grind)
  have a:=yE.1 k l hl;have b:=hx ⟨l.rev,aj.all⟩ (aW.2 J);rw[f7] at b;grind
 ·rw[if_neg h1]
  have h1: ∀l∈L,0<=l.value p:=fun l hl=>by
   by_cases k:l.value p<0
   ·exact absurd (gK.2 ⟨l,hl,decide_eq_true k⟩) h1
   ·grind
  by_cases h2:L.any (fun l=>decide (l.value p=0))=true
  ·rw[if_pos h2]
   obtain⟨l,hl,hv⟩:=gK.1 h2;have hv:=of_decide_eq_true hv;have nz:mv (fC L) p≠0:=fun k=>by
    refine(EP hok).1 k ?_;have hg:Gn (fC L).lns p ⟨q.x-p.x,q.y-p.y⟩:=fun m hm hz=>by
     rw[H8] at hm;rw[N2,hz];have:=hq m hm;grind
    have ho:=IM hg;obtain⟨e,he,hs⟩:=An hg;obtain⟨d,hd,d1,d2⟩:=min2 he (show(0:Rat)<1 by decide);have:=(hs d hd d1).2;rw[this] at ho;have hv:(fC L).val (ce p ⟨q.x-p.x,q.y-p.y⟩ d)=true:=yE.2 fun m hm=>by
     rw[iw,show d*m.nor.dot ⟨q.x-p.x,q.y-p.y⟩=d*(m.value q-m.value p) by rw[N2]];have a:=h1 m hm;have b:=b8 hd (hq m hm);have c:=eO (show 0<=1-d by grind) a;grind
    rw[hv] at ho;exact ho
   have nt:mv (fC L) p≠2:=fun k=>by
    refine(HG hok).1 k ?_;have hn:=po (hL l hl).ne;have hn2:l.nor.dot (b7 l.nor)= -(l.nor.dot l.nor):=by unfold b7 ab.dot;dsimp only;grind
    obtain⟨w,hg,hs⟩:=Fa (L:=[l]) (M:=(fC L).lns) (p:=p) (v:=b7 l.nor) (pH.1 hok) (fun m hm _=>by rw[aW.1 hm,hn2];grind);have hw:l.nor.dot w<0:=by
     have:=hs l (aW.2 J) hv;rw[hn2,qG (by grind)] at this;exact(ld _).1 (by omega)
    have ho:=IM hg;obtain⟨e,he,ht⟩:=An hg;rw[(ht e he (by grind)).2] at ho;have hv2:(fC L).val (ce p w e)=false:=by
     rw[<-kK,yE];intro k2;have:=k2 l hl;rw[iw,hv] at this;have:=b8 he (show 0< -(l.nor.dot w) by grind);grind
    rw[hv2] at ho;exact ho
   rcases XO (fC L) p with k|k|k
   ·exact absurd k nz
   ·exact k
   ·exact absurd k nt
  ·rw[if_neg h2,HG hok]
   have h3: ∀l∈L,0<l.value p:=fun l hl=>by
    have a:=h1 l hl;by_cases k:l.value p=0
    ·exact absurd (gK.2 ⟨l,hl,decide_eq_true k⟩) h2
    ·grind
   intro hd;obtain⟨x,hx,_,_,k⟩:=OM hok hd (M:=[]) (fun m hm=>by cases hm) (c:=L.map fun l=>⟨l,aj.all⟩) (p:=p) (fun s hs=>by
    obtain⟨l,hl,rfl⟩:=bJ.1 hs;exact h3 l hl)
   have:=yE.2 (fun l hl=>hx ⟨l,aj.all⟩ (bJ.2 ⟨l,hl,J⟩):dh L x);rw[k] at this;cases this
def aK5(x:Rat):Rat:=if 0<x then x else 0
def aJZ(w1 w2 w3 w4:Rat)(p1 p2 p3 p4:ab):ab:=⟨(w1*p1.x+w2*p2.x+w3*p3.x+w4*p4.x)*(w1+w2+w3+w4)⁻¹,(w1*p1.y+w2*p2.y+w3*p3.y+w4*p4.y)*(w1+w2+w3+w4)⁻¹⟩
def aLr(a b c:Rat):Nat:=a.den*(b.den*c.den)
def CC(a b c:Rat):aa:=gn (a.num*(b.den*c.den:Nat)) (b.num*(a.den*c.den:Nat)) (c.num*(a.den*b.den:Nat))
def ab.subQ(p q:ab):ab:=⟨p.x-q.x,p.y-q.y⟩
def t7(f:ab×ab):ab:=⟨-(f.2.y-f.1.y),f.2.x-f.1.x⟩
structure BrG (V:List ab) (E:List (ab×ab)):Prop where
 ends: ∀f∈E,f.1∈V/\f.2∈V
 cvx: ∀f∈E,∀v∈V,0<=c9 f.1 f.2 v
 cen: ∃u,∀f∈E,0<c9 f.1 f.2 u
 hull: ∀n u:ab,(∀f∈E,0<=c9 f.1 f.2 u)-> ∃v∈V,n.dot v<=n.dot u
def aJ9(f:ab×ab)(p:ab):aa:=CC (-(t7 f).x) (-(t7 f).y) ((t7 f).dot p-(t7 f).dot f.1)
def Mx(n:ab):List ab->Rat
 |[]=>0
 |p::t=>t.foldl (fun b q=>if n.dot q<b then n.dot q else b) (n.dot p)
def aG4(n:ab)(s:aO):Bool:=(s.v.nh&&decide (s.l.dir.dot n<0))||(s.v.nl&&decide (0<s.l.dir.dot n))
def aHk(n:ab):aC->Bool
 |[s]=>decide (s.l.nor.dot n<0)
 |_=>false
def aJL(c:aC):List ab:=(c.map fun s=>s.l.at s.v.sample)++wx (c.map (·.l))
def aDP(c:aC)(n:ab):Option Rat:=if c.isEmpty||aHk n c then none else if c.any (aG4 n) then none else some (Mx n (aJL c))
def Cx(p q:ab):aa:=CC (p.y-q.y) (q.x-p.x) (-((p.y-q.y)*p.x+(q.x-p.x)*p.y))
def B4(n:ab):List ab->ab
 |[]=>⟨0,0⟩
 |p::t=>t.foldl (fun b q=>if n.dot q<n.dot b then q else b) p
def WS(l:aa)(V:List ab):aa:=Cx (l.base.add (B4 l.nor V)) ((l.base.add (B4 l.nor V)).add l.dir)
def Xl(l:aa)(V:List ab):aa:=CC l.a l.b (l.c-Mx l.nor V)
def WW(l:aa)(c:List aa):List ab:=(c.flatMap fun s=>[s.dir,b7 s.dir])++[⟨l.dir.y, -l.dir.x⟩]
def aJy(l:aa)(c:List aa):Bool:=!c.isEmpty&&(WW l c).all fun v=>!(LN c v&&decide (Int.sign (l.dir.cross v).num<0))
def Me(c:List aa):List ab:=if(wx c).isEmpty then c.map aa.base else wx c
def aJm(l:aa)(p:ab)(c:List aa):aa:=Cx (p.add (B4 l.nor (Me c))) ((p.add (B4 l.nor (Me c))).add l.dir)
def aJt(c:aC)(f:ab×ab):Option aa:=(aDP c (t7 f)).map fun m=>CC (t7 f).x (t7 f).y (-(m+(t7 f).dot f.1))
def U7(c:List aa)(f:ab×ab):Option aa:=if aJy (Cx f.1 f.2) c then some (aJm (Cx f.1 f.2) f.1 c) else none
def aEc(c:aC)(V:List ab)(E:List (ab×ab)):List aa:=(c.map fun s=>Xl s.l V)++E.filterMap (aJt c)
def aIc(c:List aa)(V:List ab)(E:List (ab×ab)):List aa:=(c.map fun l=>WS l V)++E.filterMap (U7 c)
def zLn:DV:= .ag [vI 0,vI 0, .v (.pointer none),vI 0,vI 0, .v (.pointer none),vI 0,vI 0, .v (.pointer none)]
def Ee: ∀{ls:List aa} {c e:aC},cI c->ww c->(∀l∈ls,l.ok)->f9 ls c=some e->ww e
 |[],c,e,_,ha,_,h=>by
  obtain rfl:c=e:=by simpa[f9] using h
  exact ha
 |l::t,c,e,hc,ha,hl,h=>by
  have hl':=cN.1 hl;rw[f9] at h;split at h
  ·rename_i hb
   exact Ee (jv hc hl'.1 hb).1 (WH hc hl'.1 ha hb) hl'.2 h
  ·exact absurd h (by simp)
def aKY(V:List ab)(E:List (ab×ab))(c:aC):Tr:=fC (d9 (aEc c V E))
def aKI:Option (List aa)->DV
 |some ls=> .tp [.sl (ls.map eL),vB true]
 |none=> .tp [.sl [],vB false]
section
variable {GB:Gh} {ai al ae:Addr} (hE:EG GB ai al ae)
include hE
section
variable {t:Tr} (h:t.gd) (hs:t.size<=65536) (hd:t.depth<=1000)
include h hs hd
end
end
def tkn:Tr:= .node NH (.leaf true) (.leaf true)
def Bc{c:List aa}(hok: ∀l∈c,l.ok):nf c=true↔ ∃p,dh c p:=by
 rw[<-Cv hok];unfold nf ll
 cases c with
 |nil=>simp
 |cons a b=>
  rw[if_neg (by simp;omega)];simp only[decide_eq_true_eq,aJ,List.isEmpty_cons,Bool.false_or,gK];constructor
  ·intro h
   obtain⟨m,hm⟩:=List.exists_mem_of_length_pos (l:=d9 (a::b)) (by omega);exact⟨m,qx.1 hm⟩
  ·rintro ⟨m,hm⟩
   have:=List.length_pos_of_mem (qx.2 hm);omega
def Ro{ls:List aa}(hok: ∀l∈ls,l.ok):(∃c,f9 ls []=some c)↔ ∃p,dh ls p:=by
 constructor
 ·rintro ⟨c,hc⟩
  obtain⟨g,h⟩:=AN cI.nil hok hc;obtain⟨p,hp⟩:=g.ne;exact⟨p,fun m hm=>((h p).1 hp).2 m hm⟩
 ·rintro ⟨p,hp⟩
  exact Ed cI.nil hok ⟨p,fun s hs=>(by cases hs),fun l hl=>hp l hl⟩
def YX{ls:List aa}(hok: ∀l∈ls,l.ok)(h:f9 ls []=none):nf ls=false:=by
 rw[<-kK,Bc hok,<-Ro hok];rintro ⟨c,hc⟩;rw[h] at hc;cases hc
def aw5{ls:List aa}(hok: ∀l∈ls,l.ok){c:aC}(h:f9 ls []=some c):nf ls=true:=(Bc hok).2 ((Ro hok).1 ⟨c,h⟩)
structure RL.wd (r:RL):Prop where
 a:bm r.da
 b:bm r.db
 c:bm r.dc
def Rw{ls:List aa}{b:Bool}(h:nf ls=b)(hc: ∀m∈ls,LB m)(hok: ∀m∈ls,m.ok)(hn:ls.length<=1000):PF GB prog 160 [.sl (ls.map eL)] (.tp [.sl ((d9 ls).map eL),vB b]):=by
 subst h;exact aAO hc hok hn
def yz(L:List aa):DV:= .ag [.sl (L.map eL)]
def X4{L:List aa}{k:Nat}{l:aa}(h:L[k]? =some l):((L.take k).map dq)++[dq l]=(L.take (k+1)).map dq:=by
 rw[gR,h,eX];rfl
def JE{L:List aa}(hb: ∀l∈L,LB l)(ho: ∀l∈L,l.ok)(hn:L.length<=1000):PF GB prog 93 [yz L] (.tp [.sl (L.map dq),vB true]):=by
 have hm:=rH eL L;refine fn (fu:=⟨13⟩) func93 J J ntmps93 J J (fun C=>?_);refine av 11 (.d (vI (L.length:Nat))) J (by rw[hm]<;>rfl) ?_;refine gx J<|?_;refine br (fu2:=⟨13⟩) J J J (fun hc12=>?_) (fun hc12=>?_)
 .
  exact rz J (absurd hc12 (by omega))
 .
  refine av 15 (.d (vI (L.length:Nat))) J (by rw[hm]<;>rfl) ?_;refine gx J<|?_;refine nr 4 4 218 9 J J J ?_;refine lp (X:=Nat) (fun k=>[(16, .d (vI (k:Nat))),(4, .rw 4)]) (fun k=>[(4,some (.b 218 9 ((L.take k).map dq) true))]) (fun k=>k<=L.length) (fun k=>L.length-k) 0 J (bU _) (fun _=>J) (fun k hk=>?_);have hml:=rH dq (L.take k);rw[cK] at hml;refine br J J J (fun hc17=>?_) (fun hc17=>?_)
  .
   obtain⟨l,hx⟩: ∃s,L[k]? =some s:=⟨_,aX (by omega)⟩;haveI:=hb l (bX hx);refine ix _ J (fh hx) J<|cl (fu:=⟨3⟩) J (JV (l:=l) (ho l (bX hx))) J<|?_;refine kP 24 J ?_;refine gx J<|rf J J<|ap ((L.take (k+1)).map dq) J (X4 hx) (Wg [l]) J<|?_;refine ny 30 4 J ?_;exact at_ (k+1) ⟨(by omega),(by omega)⟩
  .
   obtain rfl:k=L.length:=by omega
   rw[fY];refine mp 4 J ?_;exact rz J J
def aJi(v:List ab):Rat:=ow (fun x=>x.1.cross x.2) (Po v)
def Oc{L:List aa}{q:ab}(hq:dh L q)(p:ab):(∀l∈L,0<=l.value p)↔ ∀s:Rat,0<s->s<=1->dh L (bt p q s):=by
 constructor
 ·intro h s h0 h1 l hl
  have a:=h l hl;have b:=hq l hl;rw[jH];generalize l.value p=x at*;generalize l.value q=y at*;have e1:0<=(1-s)*x:=nV (by grind) a;have e2:=Rat.mul_pos h0 b;grind
 ·intro h l hl
  refine rJ.1 fun k=>?_;have b:=hq l hl;have hd:0<l.value q-l.value p:=by grind
  have key:=h (-(l.value p)/(2*(l.value q-l.value p))) (div_pos (by grind) (by grind)) (xS (by grind) (by grind) (by grind)).2.1 l hl;rw[jH] at key;have e: -(l.value p)/(2*(l.value q-l.value p))*(l.value q-l.value p)= -(l.value p)/2:=by
   generalize l.value q-l.value p=d at*;generalize-(l.value p)=x at*;have hd0:d≠0:=by grind
   have h2:x/(2*d)*(2*d)=x:=by rw[Rat.div_def,Rat.mul_assoc,Rat.inv_mul_cancel _ (by grind)];grind
   grind
  rw[e] at key;grind
def L6{L:List aa}(p:ab):pw L p=if∀l∈L,0<l.value p then 2 else if∀l∈L,0<=l.value p then 1 else 0:=by
 unfold pw;simp only[gK,decide_eq_true_eq];by_cases h1: ∃l∈L,l.value p<0
 ·rw[if_pos h1]
  obtain⟨l,hl,k⟩:=h1;rw[if_neg (fun h=>by have:=h l hl;grind),if_neg (fun h=>by have:=h l hl;grind)]
 ·rw[if_neg h1]
  have h2: ∀l∈L,0<=l.value p:=fun l hl=>rJ.1 fun k=>h1 ⟨l,hl,k⟩;by_cases h3: ∃l∈L,l.value p=0
  ·rw[if_pos h3]
   obtain⟨l,hl,k⟩:=h3;rw[if_neg (fun h=>by have:=h l hl;grind),if_pos h2]
  ·rw[if_neg h3,if_pos (fun l hl=>by have:=h2 l hl;have:l.value p≠0:=fun e=>h3 ⟨l,hl,e⟩;grind)]
def Sq{L M:List aa}{q:ab}(hq:dh L q)(h: ∀p,dh L p↔dh M p)(p:ab):pw L p=pw M p:=by
 rw[L6,L6];have e1:(∀l∈L,0<l.value p)↔ ∀l∈M,0<l.value p:=h p;have e2:(∀l∈L,0<=l.value p)↔ ∀l∈M,0<=l.value p:=by
  rw[Oc hq,Oc ((h q).1 hq)];exact⟨fun k s h0 h1=>(h _).1 (k s h0 h1),fun k s h0 h1=>(h _).2 (k s h0 h1)⟩
 simp only[e1,e2]
def kw(c:List aa):Tr:=if nf c then fC (d9 c) else .leaf false
def TS{c:List aa}(hok: ∀l∈c,l.ok){e:aC}(h:f9 c []=some e):kw c=fC (e.map (·.l)):=by
 unfold kw;obtain⟨g1,g2⟩:=AN cI.nil hok h;have g3:=Ee cI.nil .nil hok h;rw[if_pos (aw5 hok h),Lw hok g1 g3 fun p=>by
  rw[g2];exact⟨fun k=>k.2,fun k=>⟨fun s hs=>absurd hs (by simp),k⟩⟩]
def aEx{c:List aa}(hok: ∀l∈c,l.ok)(h:f9 c []=none):kw c= .leaf false:=by
 unfold kw;rw[YX hok h];rfl
def wE(c:List aa)(p:ab):Int:=if ll c then pw c p else 0
def Up{c:List aa}(hok: ∀l∈c,l.ok)(p:ab):mv (kw c) p=wE c p:=by
 unfold kw wE;by_cases h: ∃q,dh c q
 ·rw[if_pos ((Bc hok).2 h),if_pos ((Cv hok).2 h)]
  obtain⟨q,hq⟩:=h;rw[ar9 (aD3 hok) ((GN hok ⟨q,hq⟩ q).2 hq)];exact Sq ((GN hok ⟨q,hq⟩ q).2 hq) (fun p=>GN hok ⟨q,hq⟩ p) p
 ·rw[if_neg (fun k=>h ((Bc hok).1 k)),if_neg (fun k=>h ((Cv hok).1 k)),asX (t:= .leaf false) trivial (fun l hl=>by cases hl)]
  rfl
def In{c:List aa}(hb: ∀l∈c,LB l)(hok: ∀l∈c,l.ok)(hn:c.length<=18):nB 18 (kw c):=by
 unfold kw;split
 ·have hm: ∀m∈d9 c,m∈c:=fun m hm=>(qx.1 hm).1
  have hlen:=BX c;refine⟨⟨⟨Dk fun l hl=>hb l (hm l hl),Dk fun l hl=>hok l (hm l hl)⟩,by rw[KA];omega,d9 c,by omega,fun l hl=>hok l (hm l hl),Dk fun l hl=>⟨l,hl, .inl J⟩⟩,by rw[Ok];omega⟩
 ·exact⟨⟨⟨trivial,trivial⟩,bU _,[],bU _,fun m hm=>(by cases hm),trivial⟩,bU _⟩
def KP{L:List aa}{j:Nat}{l:aa}(h:L[j]? =some l):fC (L.drop j)= .node l (fC (L.drop (j+1))) (.leaf false):=by
 obtain⟨h1,h2⟩:=aR.1 h;rw[aM h1,h2];rfl
def WE{c:aC}{j:Nat}{s:aO}(h:c[j]? =some s):(c.map (·.l))[j]? =some s.l:=by rw[fS,h];rfl
def Ye{c:aC}(hn:c.length<=100000):PF GB prog 95 [.sl (c.map bj)] (eU (fC (c.map (·.l)))):=by
 have hml:(c.map bj).length=c.length:=aJ ..;refine fn func95 J J ntmps95 J J (fun C=>?_);refine cl (fu:=⟨8⟩) J (s7 (b:=true)) J<|?_;refine av 7 (.d (vI (c.length:Nat))) J (by rw[hml]<;>rfl) ?_;refine gx J<|?_;refine av 3 (.d (eU (fC ((c.map (·.l)).drop c.length)))) J (by rw[iW (by simp)]<;>rfl) ?_;refine lp (X:=Nat) (fun k=>[(4, .d (vI ((k:Int)-1))),(3, .d (eU (fC ((c.map (·.l)).drop k))))]) (fun k=>[]) (fun k=>k<=c.length) (fun k=>k) c.length J (aN _) (fun _=>J) (fun k hk=>?_);refine br (fu1:=⟨7⟩) J J J (fun hc10=>?_) (fun hc10=>?_)
 .
  obtain⟨j,rfl⟩: ∃j,k=j+1:=⟨k-1,by omega⟩;obtain⟨s,hx⟩: ∃u,c[j]? =some u:=⟨_,aX (by omega)⟩;refine av 14 (.d (vI (j:Nat))) J (by congr 3;omega) ?_;refine gx J<|ix _ J (fh hx) J<|cl J (s7 (b:=false)) J<|cl (hv:=by simp only[ah];exact⟨by kernel_rfl,by omega⟩) J (wM (l:=s.l)) J<|?_;refine av 4 (.d (vI ((j:Int)-1))) J (by congr 3;omega) ?_;refine av 3 (.d (eU (fC ((c.map (·.l)).drop j)))) J (by rw[KP (WE hx)]<;>rfl) ?_;exact at_ j ⟨(by omega),(by omega)⟩
 .
  obtain rfl:k=0:=by omega
  exact rz J J
def av7{c:List aa}(hb: ∀l∈c,LB l)(hok: ∀l∈c,l.ok)(hn:c.length<=18){e:aC}(h:f9 c []=some e):PF GB prog 30 [yz c] (.tp [eA (kw c), .v .nilIface]):=by
 have hx:=In hb hok hn;have hce:=TS hok h;have hel:e.length<=18:=by have h1:=BX c;obtain⟨g1,g2⟩:=AN cI.nil hok h;have h2:=Lw hok g1 (Ee cI.nil .nil hok h) (fun p=>by rw[g2];exact⟨fun k=>k.2,fun k=>⟨fun s hs=>absurd hs (by simp),k⟩⟩);have h3:(e.map (·.l)).length=e.length:=aJ ..;rw[<-h2] at h3;omega
 refine fn func30 J J ntmps30 J J (fun C=>?_);refine cl (fu:=⟨12⟩) J (JE hb hok (by omega)) J<|?_;refine av 13 (.d (.v (.bool false))) J J ?_;refine oD 13 J ?_;refine gx J<|cl (fu:=⟨12⟩) J (Zw hb hok (by omega) h) J<|?_;refine av 22 (.d (.v (.bool false))) J J ?_;refine oD 22 J ?_;refine gx J<|cl J (Ye (c:=e) (by omega)) J<|cl J (Fv (t:=fC (e.map (·.l))) (by rw[<-hce];exact hx.lb) (by rw[<-hce];have:=hx.s;omega)) J<|?_;exact rz J (by rw[hce]<;>rfl)
def SJ{c:List aa}(hb: ∀l∈c,LB l)(hok: ∀l∈c,l.ok)(hn:c.length<=18)(h:f9 c []=none):PF GB prog 30 [yz c] (.tp [eA (kw c), .v .nilIface]):=by
 have hce:=aEx hok h;refine fn func30 J J ntmps30 J J (fun C=>?_);refine cl (fu:=⟨12⟩) J (JE hb hok (by omega)) J<|?_;refine av 13 (.d (.v (.bool false))) J J ?_;refine oD 13 J ?_;refine gx J<|cl (fu:=⟨12⟩) J (TP hb hok (by omega) h) J<|?_;refine av 22 (.d (.v (.bool true))) J J ?_;refine kP 22 J ?_;refine gx J<|?_;exact rz J (by rw[hce]<;>rfl)
def aAe{c:List aa}(hb: ∀l∈c,LB l)(hok: ∀l∈c,l.ok)(hn:c.length<=18):PF GB prog 30 [yz c] (.tp [eA (kw c), .v .nilIface]):=by
 cases h:f9 c [] with
 |none=>exact SJ hb hok hn h
 |some e=>exact av7 hb hok hn h
def aG1{c:List aa}(hb: ∀l∈c,LB l)(hok: ∀l∈c,l.ok)(hn:c.length<=18)(h:nf c=true):PF GB prog 68 [.sl (c.map eL)] (eT (kw c)):=by
 have hcl:=BX c;have hcb: ∀l∈d9 c,LB l:=fun l hl=>hb l (qx.1 hl).1;have hml:((d9 c).map eL).length=(d9 c).length:=aJ ..;refine fn func68 J J ntmps68 J J (fun C=>?_);refine cl (fu:=⟨12⟩) J (Rw h hb hok (by omega)) J<|?_;refine av 12 (.d (.v (.bool false))) J J ?_;refine oD 12 J ?_;refine gx J<|cl (fu:=⟨8⟩) J EL J<|?_;refine av 16 (.d (vI ((d9 c).length:Nat))) J (by rw[hml]<;>rfl) ?_;refine gx J<|?_;refine av 4 (.d (eT (fC ((d9 c).drop (d9 c).length)))) J (by rw[iW (by simp)]<;>rfl) ?_;refine lp (X:=Nat) (fun k=>[(5, .d (vI ((k:Int)-1))),(4, .d (eT (fC ((d9 c).drop k))))]) (fun k=>[]) (fun k=>k<=(d9 c).length) (fun k=>k) (d9 c).length J (aN _) (fun _=>J) (fun k hk=>?_);refine br (fu1:=⟨7⟩) J J J (fun hc19=>?_) (fun hc19=>?_)
 .
  obtain⟨j,rfl⟩: ∃j,k=j+1:=⟨k-1,by omega⟩;obtain⟨s,hx⟩: ∃u,(d9 c)[j]? =some u:=⟨_,aX (by omega)⟩;refine av 23 (.d (vI (j:Nat))) J (by congr 3;omega) ?_;refine gx J<|ix _ J (fh hx) J<|cl (hv:=by simp only[ah];exact⟨by kernel_rfl,by omega⟩) J EL J<|?_;refine av 5 (.d (vI ((j:Int)-1))) J (by congr 3;omega) ?_;refine mp 29 J ?_;refine av 4 (.d (eT (fC ((d9 c).drop j)))) J (by rw[KP hx]<;>rfl) ?_;exact at_ j ⟨(by omega),(by omega)⟩
 .
  obtain rfl:k=0:=by omega
  exact rz J (by unfold kw;rw[if_pos h]<;>rfl)
def VA{c:List aa}(hb: ∀l∈c,LB l)(hok: ∀l∈c,l.ok)(hn:c.length<=18)(h:nf c=false):PF GB prog 68 [.sl (c.map eL)] (eT (kw c)):=by
 have hcl:=BX c;have hcb: ∀l∈d9 c,LB l:=fun l hl=>hb l (qx.1 hl).1;have hml:((d9 c).map eL).length=(d9 c).length:=aJ ..;refine fn func68 J J ntmps68 J J (fun C=>?_);refine cl (fu:=⟨12⟩) J (Rw h hb hok (by omega)) J<|?_;refine av 12 (.d (.v (.bool true))) J J ?_;refine kP 12 J ?_;refine gx J<|cl J EL J<|?_;exact rz J (by unfold kw;rw[h]<;>rfl)
def aGg{c:List aa}(hb: ∀l∈c,LB l)(hok: ∀l∈c,l.ok)(hn:c.length<=18):PF GB prog 68 [.sl (c.map eL)] (eT (kw c)):=by
 cases h:nf c with
 |false=>exact VA hb hok hn h
 |true=>exact aG1 hb hok hn h
def Nm{c:List aa}{p:ab}{k:Nat}{l:aa}(h:c[k]? =some l)(hk: ∀l∈c.take k,0<=l.value p)(hl: ¬l.value p<0): ∀l∈c.take (k+1),0<=l.value p:=fun m hm=>by
 rw[gR,h] at hm;rcases bV.1 hm with hm|hm
 ·exact hk m hm
 ·rw[show m=l by simpa using hm]
  exact rJ.1 hl
def az4{c:List aa}{p:ab}{l:aa}(h:l∈c)(hl:l.value p<0):pw c p=0:=by
 unfold pw;rw[if_pos (gK.2 ⟨l,h,decide_eq_true hl⟩)]
def ux(c:List aa)(p:ab)(k:Nat):Int:=if(c.take k).any (fun l=>decide (l.value p=0)) then 1 else 2
def M'{c:List aa}{p:ab}{k:Nat}{l:aa}(h:c[k]? =some l):ux c p (k+1)=if l.value p=0 then 1 else ux c p k:=by
 unfold ux;rw[gR,h];simp only[Option.toList_some,List.any_append,List.any_cons,List.any_nil,sK];by_cases e:l.value p=0
 ·simp[e]
 ·simp[e]
def V1{c:List aa}{p:ab}(h: ∀l∈c,0<=l.value p):pw c p=ux c p c.length:=by
 unfold pw ux;rw[fY,if_neg (fun e=>by obtain⟨l,hl,k⟩:=gK.1 e;have:=h l hl;have:=of_decide_eq_true k;grind)]
def EC{x:Rat}:x.num.sign= -1↔x<0:=by
 constructor
 ·intro h
  refine Rat.not_le.1 fun k=>?_;have h1:=tV.2 k;have:=pX.1 h;omega
 ·intro h
  exact fQ (Int.not_le.1 fun e=>absurd (tV.1 e) (by grind))
def Rz{x:Rat}:x.num.sign=0↔x=0:=by rw[kV,lL]
def Uk{c:List aa}(hb: ∀l∈c,LB l)(hok: ∀l∈c,l.ok)(hn:c.length<=1000){p:ab}{i:Nat}[hp:aI p i](hi:i<=20000):PF GB prog 69 [.sl (c.map eL),eP p] (vI (wE c p)):=by
 have hml:(c.map eL).length=c.length:=aJ ..;refine fn func69 J J ntmps69 J J (fun C=>?_);refine cl (fu:=⟨11⟩) J (aBW hb hok hn) J<|?_
 cases hin:ll c
 .
  refine gx (fu:=⟨1⟩) J<|?_;refine av 16 (.d (.v (.bool true))) J J ?_;refine kP 16 J ?_;refine gx J<|?_;exact rz J (by unfold wE;rw[hin]<;>rfl)
 .
  refine gx (fu:=⟨1⟩) J<|?_;refine av 16 (.d (.v (.bool false))) J J ?_;refine oD 16 J ?_;refine gx (fu:=⟨15⟩) J<|?_;refine av 18 (.d (vI (c.length:Nat))) J (by rw[hml]<;>rfl) ?_;refine gx J<|?_;refine lp (X:=Nat) (fun k=>[(19, .d (vI (k:Nat))),(7, .d (vI (ux c p k)))]) (fun k=>[]) (fun k=>k<=c.length/\ ∀l∈c.take k,0<=l.value p) (fun k=>c.length-k) 0 J ⟨bU _,fun l hl=>by simp at hl⟩ (fun _=>J) (fun k hk=>?_);obtain⟨hk1,hk2⟩:=hk;refine br J J J (fun hc20=>?_) (fun hc20=>?_)
  .
   obtain⟨l,hx⟩: ∃u,c[k]? =some u:=⟨_,aX (by omega)⟩;haveI:=hb l (bX hx);refine ix _ J (fh hx) J<|cl J (BW (l:=l) (p:=p) (i:=i) (by omega)) J<|?_;refine br J J J (fun hc26=>?_) (fun hc26=>?_)
   .
    exact rz J (by unfold wE;rw[hin,if_pos J];exact(az4 (bX hx) (EC.1 hc26)).symm▸rfl)
   .
    refine br J J J (fun hc28=>?_) (fun hc28=>?_)
    .
     refine av 7 (.d (vI (ux c p (k+1)))) J (by rw[M' hx,if_pos (Rz.1 hc28)]<;>rfl) ?_;exact at_ (k+1) ⟨⟨by omega,Nm hx hk2 (fun h=>hc26 (EC.2 h))⟩,(by omega)⟩
    .
     refine av 7 (.d (vI (ux c p (k+1)))) J (by rw[M' hx,if_neg (fun h=>hc28 (Rz.2 h))]<;>rfl) ?_;exact at_ (k+1) ⟨⟨by omega,Nm hx hk2 (fun h=>hc26 (EC.2 h))⟩,(by omega)⟩
  .
   obtain rfl:k=c.length:=by omega
   rw[fY] at hk2;exact rz J (by unfold wE;rw[hin,if_pos J,V1 hk2]<;>rfl)
end Go.Sx
end
