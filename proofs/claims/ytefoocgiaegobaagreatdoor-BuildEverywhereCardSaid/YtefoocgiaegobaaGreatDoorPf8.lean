import Derived.Test.YtefoocgiaegobaaGreatDoorPf7
import Derived.RangeFuncSeq
set_option linter.all false
set_option maxRecDepth 100000
section
namespace Go.Sx
open Go Go.Proofs Tryz
section
variable {F:Fence} {n:Nat} {P:Program} {Q:Exit->Act->World->Prop} {ops:Array Oper} {md:Region.Mode}
def Pu: ∀{k:Nat} {listed:Array Bool} {a:Act} {w:World},wpAnyIn F n P md ops Q k listed a w->wpAnyIn F n P md ops Q (k+1) listed a w
 |0,_,_,_,h=>⟨fun _=>h.2,fun i hi=>by rw[h.1] at hi;cases hi⟩
 |_+1,_,_,_,h=>⟨h.1,fun i hi=>wpOpIn_mono (fun _ _ k=>Pu k) (h.2 i hi)⟩
def LG{k:Nat}{listed:Array Bool}{a:Act}{w:World}(h:wpAnyIn F n P md ops Q k listed a w): ∀j,wpAnyIn F n P md ops Q (j+k) listed a w
 |0=>by rw[dS];exact h
 |j+1=>by rw[show j+1+k=j+k+1 by omega];exact Pu (LG h j)
def Bf.lt{l:List Oper}(he:nE 0 l=true){i j:Nat}(h:Bf l i j):j<i:=by
 induction h with
 |b ho hm hb=>have:=rD he _ _ ho _ hm hb;omega
 |s ho hm hb _ ih=>have:=rD he _ _ ho _ hm hb;omega
def Bf.inv{l:List Oper}{i j:Nat}(h:Bf l i j): ∃o e,l[i]? =some o/\e∈o.after/\Region.binds .any e=true/\(e.on=j\/Bf l e.on j):=by
 induction h with
 |b ho hm hb=>exact⟨_,_,ho,hm,hb, .inl J⟩
 |s ho hm hb hh _=>exact⟨_,_,ho,hm,hb, .inr hh⟩
def Mw(he:nE 0 ops.toList=true): ∀(r pre:List Oper),ops.toList=pre++r->(∀i,pre.length<=i->i<ops.size-> ∀j,j<i->Bf ops.toList i j)-> ∀(listed:Array Bool) (a:Act) (w:World),(∀j d,listed.getD j d=if j<pre.length then true else if j<ops.size then false else d)->wpListIn F n P ops Q r a w->wpAnyIn F n P .any ops Q r.length listed a w
 |[],pre,hops,_,listed,a,w,hl,h=>by
  refine⟨?_,h⟩;rw[List.eq_nil_iff_forall_not_mem];intro i hi;obtain⟨h1,o,h2,_⟩:=mem_ready.1 hi;have h3:=(fT.1 h2).1;have h4:pre.length=ops.size:=by rw[<-iT,hops];simp
  rw[hl,if_pos (by omega)] at h1
  cases h1
 |o::r,pre,hops,hc,listed,a,w,hl,h=>by
  have hsz:ops.size=pre.length+(r.length+1):=by rw[<-iT,hops];simp
  have hp:ops.toList[pre.length]? =some o:=by rw[hops];simp
  have hp':ops[pre.length]? =some o:=by simpa using hp
  have only: ∀i,i∈Region.ready .any ops listed↔i=pre.length:=fun i=>by
   rw[mem_ready];constructor
   ·rintro ⟨h1,o',h2,h3⟩
    have h4:=(fT.1 h2).1;rw[hl] at h1;split at h1
    ·cases h1
    ·rename_i h5
     apply Classical.byContradiction;intro h6;have hb:=hc i (by omega) h4 pre.length (by omega);obtain⟨o2,e,ho,hm,hb,hh⟩:=hb.inv;have e':o'=o2:=Option.some.inj (h2.symm.trans (by simpa using ho));subst e';have h7:=h3 _ hm hb;have h9:=rD he _ _ ho _ hm hb;have h8:pre.length<=e.on:=by
      rcases hh with hh|hh
      ·omega
      ·have:=hh.lt he;omega
     rw[hl,if_neg (by omega),if_pos (by omega)] at h7
     cases h7
   ·rintro rfl
    refine⟨by rw[hl,if_neg (by omega),if_pos (by omega)],o,hp',fun e hm hb=>?_⟩;have:=rD he _ _ hp _ hm hb;rw[hl,if_pos (by omega)]
  refine⟨fun hn=>?_,fun i hi=>?_⟩
  ·have:=(only pre.length).2 J
   rw[hn] at this;cases this
  ·obtain rfl:=(only i).1 hi
   have ih:=Mw he r (pre++[o]) (by rw[hops];simp) (fun i h1 h2=>hc i (by simp at h1;omega) h2) (listed.setIfInBounds pre.length true);have hl': ∀j d,(listed.setIfInBounds pre.length true).getD j d=if j<(pre++[o]).length then true else if j<ops.size then false else d:=fun j d=>by
    have hls:pre.length<listed.size:=by
     apply Classical.byContradiction;intro hq;have h1:=hl pre.length true;rw[if_neg (by omega),if_pos (by omega),bL,mY (by omega)] at h1
     cases h1
    have h1:=hl j d;rw[bL] at h1⊢;rw[eJ];by_cases hj:pre.length=j
    ·subst hj;rw[if_pos J,if_pos hls,if_pos (by simp)];rfl
    ·rw[if_neg hj,h1]
     simp only[aT,bX,iK];by_cases h2:j<pre.length
     ·rw[if_pos h2,if_pos (by omega)]
     ·rw[if_neg h2]
      by_cases h3:j<ops.size
      ·rw[if_pos h3,if_neg (by omega)];
      ·rw[if_neg h3,if_neg (by omega)]
   unfold wpOpIn;rw[hp'];simp only[wpListIn] at h⊢;split
   ·rename_i hw;rw[if_pos hw] at h
    exact Oper.wpIn_mono (fun a w k=>ih a w hl' k) h
   ·rename_i hw;rw[if_neg hw] at h
    exact⟨h.1,ih _ _ hl' h.2⟩
def Co(F:Fence)(n:Nat)(P:Program)(ops:Array Oper)(r:List Oper)(Q:Exit->Act->World->Prop):Exit->Act->World->Prop
 | .normal=>wpListIn F n P ops Q r
 |e=>Q e
def TR{o:Oper}{a:Act}{w:World}{r:List Oper}{K:Act->World->Prop}(h:o.wpIn F n P a w K (Co F n P ops r Q)):o.wpIn F n P a w K Q:=by
 refine⟨h.1,?_⟩;have:=h.2
 cases hr:(o.semAt F.round a.eval).run P w with
 |ok x w'=>
  rw[hr] at this
  cases x with
  |enter f args=>exact⟨this.1,CallsIn.mono this.2 fun e w'' he=>by cases e<;>exact he⟩
  |round l f t x y=>exact⟨this.1,RoundIn.mono this.2 fun e w'' he=>by cases e<;>exact he⟩
  |_=>exact this
 |halt x w'=>
  rw[hr] at this
  cases x<;>exact this
def aDE{pre r:List Oper}(hops:ops.toList=pre++r)(hg: ∀o∈pre,o.guard=none)(he:nE 0 ops.toList=true)(hc: ∀i,pre.length<=i->i<ops.size-> ∀j,j<i->Bf ops.toList i j):
  ∀(fuel:Nat) (L listed:Array Bool) (a:Act) (w:World),L.size=pre.length->(∀j d,listed.getD j d=if j<pre.length then L.getD j d else if j<ops.size then false else d)->(∀i o,ops.toList[i]? =some o->listed.getD i false=true-> ∀e∈o.after,Region.binds .any e=true->listed.getD e.on false=true)->
   wpAnyIn F n P .any pre.toArray (Co F n P ops r Q) fuel L a w->wpAnyIn F n P .any ops Q (fuel+r.length) listed a w:=by
 have hsz:ops.size=pre.length+r.length:=by rw[<-iT,hops];simp
 have hget: ∀i,i<pre.length->ops[i]? =pre.toArray[i]? :=fun i hi=>by rw[<-pJ,hops,cN hi];simp
 -- all of the first part is done
 have fin: ∀(L listed:Array Bool) (a:Act) (w:World),L.size=pre.length->(∀j d,listed.getD j d=if j<pre.length then L.getD j d else if j<ops.size then false else d)->Region.ready .any pre.toArray L=[]->wpListIn F n P ops Q r a w->wpAnyIn F n P .any ops Q r.length listed a w:=by
  intro L listed a w hL hl hr h;have all: ∀i,i<pre.length->L.getD i true=true:=by
   intro i
   induction i using Nat.strongRecOn with
   |ind i ih=>
    intro hi
    cases hq:L.getD i true with
    |true=>rfl
    |false=>
     have:i∈Region.ready .any pre.toArray L:=mem_ready.2 ⟨hq,pre[i],by simp[hi],fun e hm hb=>by
      have hlt:=rD he i pre[i] (by rw[hops,cN hi];simp[hi]) e hm hb;have:=ih e.on (by omega) (by omega);rw[bL,gW (by omega)] at this⊢;simpa using this⟩
     rw[hr] at this;cases this
  refine Mw he r pre hops hc listed a w (fun j d=>?_) h;rw[hl];by_cases hj:j<pre.length
  ·have:=all j hj
   rw[if_pos hj,if_pos hj];rw[bL,gW (by omega)] at this⊢;simpa using this
  ·rw[if_neg hj,if_neg hj]
 intro fuel
 induction fuel with
 |zero=>
  intro L listed a w hL hl hcl h;rw[dS];exact fin L listed a w hL hl h.1 h.2
 |succ fuel ih=>
  intro L listed a w hL hl hcl h;by_cases hr:Region.ready .any pre.toArray L=[]
  ·exact LG (fin L listed a w hL hl hr (h.1 hr)) (fuel+1)
  ·have sub: ∀i,i∈Region.ready .any pre.toArray L->i∈Region.ready .any ops listed:=fun i hi=>by
    obtain⟨h1,o,h2,h3⟩:=mem_ready.1 hi;have hi':i<pre.length:=by have:=(fT.1 h2).1;simpa using this
    refine mem_ready.2 ⟨by rw[hl,if_pos hi'];exact h1,o,by rw[hget i hi'];exact h2,fun e hm hb=>?_⟩;have hlt:=rD he i o (by rw[hops,cN hi'];simpa using h2) e hm hb;rw[hl,if_pos (by omega)];exact h3 e hm hb
   have sup: ∀i,i∈Region.ready .any ops listed->i∈Region.ready .any pre.toArray L:=fun i hi=>by
    obtain⟨h1,o,h2,h3⟩:=mem_ready.1 hi;have h4:=(fT.1 h2).1;by_cases hi':i<pre.length
    ·rw[hl,if_pos hi'] at h1
     refine mem_ready.2 ⟨h1,o,by rw[<-hget i hi'];exact h2,fun e hm hb=>?_⟩;have hlt:=rD he i o (by simpa using h2) e hm hb;have:=h3 e hm hb;rw[hl,if_pos (by omega)] at this;exact this
    ·exfalso
     obtain⟨j,hj⟩:=List.exists_mem_of_ne_nil _ hr;obtain⟨g1,o2,g2,_⟩:=mem_ready.1 hj;have hj':j<pre.length:=by have:=(fT.1 g2).1;simpa using this
     have clo: ∀i j,Bf ops.toList i j->listed.getD i false=true->listed.getD j false=true:=fun i j hb=>by
      induction hb with
      |b ho hm hb=>intro hi;exact hcl _ _ ho hi _ hm hb
      |s ho hm hb _ ih=>intro hi;exact ih (hcl _ _ ho hi _ hm hb)
     have hjf:listed.getD j false=false:=by
      rw[hl,if_pos hj'];rw[bL,gW (by omega)] at g1⊢;simpa using g1
     have:listed.getD j false=true:=by
      obtain⟨o2,e,ho,hm,hb,hh⟩:=(hc i (by omega) h4 j (by omega)).inv;have e':o=o2:=Option.some.inj (h2.symm.trans (by simpa using ho));subst e';rcases hh with hh|hh
      ·rw[<-hh];exact h3 _ hm hb
      ·exact clo _ _ hh (h3 _ hm hb)
     rw[hjf] at this;cases this
   rw[show fuel+1+r.length=(fuel+r.length)+1 by omega];refine⟨fun hn=>?_,fun i hi=>?_⟩
   ·obtain⟨j,hj⟩:=List.exists_mem_of_ne_nil _ hr
    have:=sub j hj;rw[hn] at this;cases this
   ·have hi0:=sup i hi
    have hk:=h.2 i hi0;obtain⟨h1,o,h2,h3⟩:=mem_ready.1 hi0;have hi':i<pre.length:=by have:=(fT.1 h2).1;simpa using this
    have hgo:o.guard=none:=hg o (by
     have h2':pre[i]? =some o:=by simpa using h2
     exact aS h2')
    have step: ∀a w,wpAnyIn F n P .any pre.toArray (Co F n P ops r Q) fuel (L.setIfInBounds i true) a w->wpAnyIn F n P .any ops Q (fuel+r.length) (listed.setIfInBounds i true) a w:=by
     intro a w hh;have hls:i<listed.size:=by
      apply Classical.byContradiction;intro hq;have q:=hl i true;have q':=hl i false;rw[if_pos hi'] at q q';rw[bL,mY (by omega)] at q q';rw[bL,gW (by omega)] at q q';simp only[Option.getD_none,jZ] at q q';rw[<-q] at q';cases q'
     have hl': ∀j d,(listed.setIfInBounds i true).getD j d=if j<pre.length then(L.setIfInBounds i true).getD j d else if j<ops.size then false else d:=fun j d=>by
      have q:=hl j d;rw[bL] at q⊢;rw[bL] at q⊢;rw[eJ,eJ];by_cases hj:i=j
      ·subst hj;rw[if_pos J,if_pos J,if_pos hls,if_pos hi',if_pos (by omega)]
      ·rw[if_neg hj,if_neg hj];exact q
     refine ih _ _ a w (by simp[hL]) hl' (fun i2 o2 g1 g2 e hm hb=>?_) hh;have g3:i2=i\/listed.getD i2 false=true:=by
      rw[bL,eJ] at g2;by_cases hj:i=i2
      ·exact .inl hj.symm
      ·rw[if_neg hj] at g2;rw[bL];exact .inr g2
     have g4:listed.getD e.on false=true:=by
      rcases g3 with rfl|g3
      ·have e':o=o2:=Option.some.inj (((hget i2 hi').trans h2).symm.trans (by simpa using g1))
       subst e';have hlt:=rD he i2 o g1 e hm hb;rw[hl,if_pos (by omega)];exact h3 e hm hb
      ·exact hcl i2 o2 g1 g3 e hm hb
     rw[bL,eJ];by_cases hj:i=e.on
     ·rw[if_pos hj];rw[if_pos hls];rfl
     ·rw[if_neg hj];rw[bL] at g4;exact g4
    unfold wpOpIn at hk⊢;rw[hget i hi',h2];rw[h2] at hk;have hw: ∀y,Region.wanted o y=true:=fun y=>by unfold Region.wanted;rw[hgo]
    simp only[hw,if_true] at hk⊢;exact TR (Oper.wpIn_mono step hk)
end
section
variable {P:Program} {GB:Gh} {C:aD} {n:Nat} {Q0:Exit->Act->World->Prop} {fr fr0:aA} {own own0:aO} {ops:Array Oper} {us:List Rc} {r:List Oper} {K:List Kt} {id:Nat}
def Bg(x:Nat):Nat->Bool
 |0=>true
 |i+1=>x.testBit i&&Bg x i
def OS{x:Nat}: ∀{i:Nat},Bg x i=true-> ∀j,j<i->x.testBit j=true
 |i+1,h,j,hj=>by
  simp only[Bg,aN] at h;by_cases e:j=i
  ·subst e;exact h.1
  ·exact OS h.2 j (by omega)
def zS:Nat->List Nat->Bool
 |_,[]=>true
 |i,x::t=>Bg x i&&zS (i+1) t
def Og: ∀{l:List Nat} {k:Nat},zS k l=true-> ∀i x,l[i]? =some x-> ∀j,j<k+i->x.testBit j=true
 |y::t,k,h,0,x,hx,j,hj=>by
  simp only[zS,aN] at h
  cases hx
  exact OS h.1 j (by omega)
 |y::t,k,h,i+1,x,hx,j,hj=>by
  simp only[zS,aN] at h;exact Og h.2 i x (by simpa using hx) j (by omega)
def PG: ∀(r:List Oper) (acc:List Nat),(pq r acc).length=acc.length+r.length
 |[],acc=>by simp[pq]
 |o::r,acc=>by simp only[pq];rw[PG];simp;omega
def E7(m:Nat)(pre all:List Oper)(us:List Rc)(fr0:aA)(own0:aO):Bool:=
 (pre.all (fun o=>o.guard.isNone)&&t7 (pq pre []) [] us)&&((nE 0 all&&zS m ((pq all []).drop m))&&B6 us fr0 own0)
def Wq(hm:P.follows .mixedOrders=true)(h:E7 us.length (ops.toList.take us.length) ops.toList us fr0 own0=true)(k:aj P GB C n Q0 fr own (.ops ops r K)):aj P GB C n Q0 fr own (.dr id ops fr0 own0 us r K):=by
 intro D;obtain⟨pre,hp,hl⟩:=D.pre;have ht:ops.toList.take us.length=pre:=by rw[hp,<-hl];simp
 rw[ht] at h;simp only[E7,aN] at h;obtain⟨⟨h1,h2⟩,⟨h3,h4⟩,h5⟩:=h;have hg: ∀o∈pre,o.guard=none:=fun o ho=>by simpa using fX.1 h1 o ho
 have hgt: ∀i,i<pre.length->ops[i]? =pre.toArray[i]? :=fun i hi=>by rw[<-pJ,hp,cN hi];simp
 have hc: ∀i,pre.length<=i->i<ops.size-> ∀j,j<i->Bf ops.toList i j:=fun i g1 g2 j g3=>by
  refine EY ops.toList [] [] J J (fun i j h=>by simp at h) i j ?_;have hlen:=PG ops.toList [];have hi:i<(pq ops.toList []).length:=by rw[hlen];simpa using g2
  rw[aK,aX hi];refine Og h4 (i-us.length) _ ?_ j (by omega);rw[lL,show us.length+(i-us.length)=i by omega];exact aX hi
 have he':nE 0 pre=true:=by
  have: ∀(l l':List Oper) (k:Nat),nE k (l++l')=true->nE k l=true:=by
   intro l l'
   induction l with
   |nil=>intros;rfl
   |cons o t ih=>intro k h;simp only[cK,nE,aN] at h⊢;exact⟨h.1,ih _ h.2⟩
  exact this pre r 0 (by rw[<-hp];exact h3)
 have D':jp P GB C n pre.toArray us (bg fr0,bi own0):=by
  refine⟨by simpa using hl.symm,fun i u o hu ho=>?_,by simpa using h2,by simpa using he',Np h5⟩;have hi:i<pre.length:=by have:=(fT.1 ho).1;simpa using this
  obtain⟨d1,d2⟩:=D.snd i u o hu (by rw[hgt i hi];exact ho);refine⟨d1,fun Q tl tb K s1 s2 hf hk=>?_⟩;refine(d2 Q tl tb K s1 s2 hf hk).imp fun a w q=>?_;have hgo:o.guard=none:=hg o (aS (by simpa using ho));have hw: ∀y,Region.wanted o y=true:=fun y=>by unfold Region.wanted;rw[hgo]
  unfold wO at q⊢;simp only[hw,if_true] at q⊢;exact q
 have e:co (d5 (Array.replicate pre.length false)) 0 (bg fr0,bi own0) us=(bg fr0,bi own0):=by
  have: ∀(l:List Rc) (k:Nat) (s:ST),co (d5 (Array.replicate pre.length false)) k s l=s:=fun l=>by
   induction l with
   |nil=>intro k s;rfl
   |cons y l ih=>
    intro k s;simp only[co];rw[ih];rw[B9];rfl
  exact this us 0 _
 have hw:=D'.walk (Q:=Co (FW C.rd) 0 P ops r (cQ C.rd P Q0 K)) (by rw[D.st];exact k) pre.toArray.size (Array.replicate pre.length false) (by simp) (fun i o _ hi=>by rw[B9] at hi;cases hi) (by unfold un;exact dR (sQ _ _) (by simp));rw[e] at hw;refine hw.drew.imp fun a w q=>wpIn_region_any hm ?_;have hsz:ops.size=pre.toArray.size+r.length:=by rw[<-iT,hp];simp
 rw[show wpAnyIn (FW C.rd) 0 P .any ops (cQ C.rd P Q0 K) ops.size=wpAnyIn (FW C.rd) 0 P .any ops (cQ C.rd P Q0 K) (pre.toArray.size+r.length) by rw[hsz]];refine aDE hp hg h3 hc _ _ _ _ _ (by simp) (fun j d=>?_) (fun i o _ hi=>?_) q
 ·have hs2:ops.size=pre.length+r.length:=by simpa using hsz
  simp only[bL,qU];by_cases g1:j<pre.length
  ·rw[if_pos (by omega),if_pos g1,if_pos g1]
  ·by_cases g2:j<ops.size
   ·rw[if_pos g2,if_neg g1,if_pos g2];rfl
   ·rw[if_neg g2,if_neg g1,if_neg g2];rfl
 ·simp only[bL,qU] at hi
  split at hi<;>cases hi
end
section
variable {GB:Gh} {C:aD} {n:Nat} {Q0:Exit->Act->World->Prop} {fr fr0 fr':aA} {own own0 own':aO} {cf':Cf} {vc:List Prop} {ops:Array Oper} {us:List Rc} {r:List Oper} {K:List Kt} {id:Nat}
def Y1[fu:Fu](h:E7 us.length (ops.toList.take us.length) ops.toList us fr0 own0=true)(hgo:go tt n fu.n [] fr own (.ops ops r K)=⟨vc,fr',own',cf'⟩)(k:aj prog GB C n Q0 fr' own' cf')
  (hv:ah vc:=by first|exact trivial|(simp only[ah];kernel_rfl)|(simp only[ah];omega)):aj prog GB C n Q0 fr own (.dr id ops fr0 own0 us r K):=
 Wq follows h (fq hgo hv k)
end
def IX(o:Obj):Prop:= ∀cs ty z,o≠ .cells cs ty z
section
variable {C C':aD} {own:List ak} {G G1:Gh} {w w1:World}
def bm.ctx(h:bm C own G w)(h1:C'.w0=C.w0)(h2:C'.G0=C.G0)(h3:C'.mb=C.mb)(h4: ∀p∈C'.ex,p∈C.ex):bm C' own G w:=by
 obtain⟨a1,a2,a3,a4,a5,a6,a7,a8,a9,a10,a11,a12⟩:=h;exact⟨by rw[h1];exact a1,by rw[h1];exact a2,by rw[h1];exact a3,by rw[h1];exact a4,by rw[h1,h3];exact a5,a6,by rw[h2];exact a7,by rw[h1,h2];exact a8,by rw[h1,h3];exact a9,a10,by rw[h1];exact a11,fun p hp=>a12 p (h4 p hp)⟩
def bm.addx(h:bm C own G w){o:Obj}(ho:IX o)(h1:C'.w0=C.w0)(h2:C'.G0=C.G0)(h3:C'.mb=C.mb)(h4: ∀p∈C'.ex,p=(w.heap.size,o)\/p∈C.ex):bm C' own G (w.alloc o):=by
 have old: ∀b,b<w.heap.size->(w.alloc o).heap[b]? =w.heap[b]? :=fun b hb=>RowKit.Below.heap_alloc _ _ _ hb;obtain⟨a1,a2,a3,a4,a5,a6,a7,a8,a9,a10,a11,a12⟩:=h;refine⟨by rw[h1];exact a1,by rw[h1];exact a2,by rw[h1];exact a3,by rw[h1];simp;omega,?_,?_,by rw[h2];exact a7,by rw[h1,h2];exact a8,?_,a10,by rw[h1];exact a11,?_⟩
 ·rw[h1,h3];intro b hb hm;rw[old b (by omega)];exact a5 b hb hm
 ·intro b cs hb
  obtain⟨ty,fz,hc⟩:=a6 b cs hb;exact⟨ty,fz,by rw[old b (gG hc)];exact hc⟩
 ·rw[h1,h3];intro x hx
  obtain⟨b1,b2⟩:=a9 x hx;exact⟨by rw[old _ (gG b1)];exact b1,b2⟩
 ·intro p hp
  rcases h4 p hp with rfl|hp
  ·exact⟨ho,World.alloc_heap_new w o⟩
  ·exact⟨(a12 p hp).1,by rw[old _ (gG (a12 p hp).2)];exact(a12 p hp).2⟩
def bm.putx(h:bm C own G w){l:Nat}{o0 o:Obj}(hl:(l,o0)∈C.ex)(hs:C.w0.heap.size<=l)(ho:IX o)(h1:C'.w0=C.w0)(h2:C'.G0=C.G0)(h3:C'.mb=C.mb)(h4: ∀p∈C'.ex,p=(l,o)\/p∈C.ex/\p.1≠l):bm C' own G (w.putObj l o):=by
 have hne: ∀{b:Nat} {cs:Array Value} {ty:TypeId} {z:Nat×Nat},w.heap[b]? =some (.cells cs ty z)->b≠l:=fun hb e=>h.extNe hl hb e.symm;have hlt:=gG (h.ext _ hl).2;obtain⟨a1,a2,a3,a4,a5,a6,a7,a8,a9,a10,a11,a12⟩:=h;refine⟨by rw[h1];exact a1,by rw[h1];exact a2,by rw[h1];exact a3,by rw[h1];simpa using a4,?_,?_,by rw[h2];exact a7,by rw[h1,h2];exact a8,?_,a10,by rw[h1];exact a11,?_⟩
 ·rw[h1,h3];intro b hb hm;rw[World.putObj_heap_other (by omega)];exact a5 b hb hm
 ·intro b cs hb
  obtain⟨ty,fz,hc⟩:=a6 b cs hb;exact⟨ty,fz,by rw[World.putObj_heap_other (hne hc)];exact hc⟩
 ·rw[h1,h3];intro x hx
  obtain⟨b1,b2⟩:=a9 x hx;exact⟨by rw[World.putObj_heap_other (hne b1)];exact b1,b2⟩
 ·intro p hp
  rcases h4 p hp with rfl|⟨hp,hpl⟩
  ·exact⟨ho,World.putObj_heap_same hlt⟩
  ·exact⟨(a12 p hp).1,by rw[World.putObj_heap_other hpl];exact(a12 p hp).2⟩
end
abbrev kO (w:World) (G:Gh):aD:=⟨w,G,[],[],[],none,fun _=>none⟩
def EF(G:Gh)(w:World):Prop:= ∀b cs,G b=some cs-> ∃ty fz,w.heap[b]? =some (.cells ⟨cs⟩ ty fz)
structure LY (Jv:Gh->World->Prop):Prop where
 frz: ∀G w,Jv G w->EF G w
 on: ∀G w G1 w1,Jv G w->bm (kO w G) [] G1 w1->Jv G1 w1
def Ck{G:Gh}{w:World}(h:EF G w):bm (kO w G) [] G w:=
 ⟨J,J,J,aM _,fun _ _ _=>J,h,bw.refl _,fun _ _=>J,fun o ho=>(by cases ho), .nil,aM _,fun p hp=>by cases hp⟩
structure zO (GB:Gh) (P:Program) (l:Nat) (Jv:Nat->Gh->World->Prop) (Jx:Gh->World->Prop) (E:List (List DV)):Prop where
 st: ∀k,LY (Jv k)
 sx:LY Jx
 yd: ∀k e G w ys,E[k]? =some e->bw GB G->Jv k G w->IsLs G e ys->YieldAt (FW none) 0 P l ⟨ys⟩ w fun e w'=> ∃G',bw G G'/\(e= .returned (.bool true)/\Jv (k+1) G' w'\/e= .returned (.bool false)/\Jx G' w')
structure It (GB:Gh) (P:Program) (f:FuncId) (ds:List DV) (E:List (List DV)):Prop where
 able:pn P f
 run: ∀(l:Nat) (Jv:Nat->Gh->World->Prop) (Jx:Gh->World->Prop) (GB':Gh),bw GB GB'->zO GB' P l Jv Jx E-> ∀w vs,Jv 0 GB' w->IsLs GB' ds vs->
  CallsIn (FW none) 0 P f ⟨.func (.yield l) #[] #[]::vs⟩ w fun e w'=> ∃G',bw GB' G'/\(∃v,e= .returned v)/\(Jv E.length G' w'\/Jx G' w')
structure Pl (C:aD):Prop where
 mb:C.mb=[]
 mks:C.mks=[]
 rd:C.rd=none
def Fl(P:Program)(fb:Func)(GB:Gh)(Jv:Nat->Gh->World->Prop)(Jx:Gh->World->Prop)(N:Nat):Exit->Act->World->Prop:=
 bodyPost P fb fun e w'=> ∃G',bw GB G'/\(∃v,e= .returned v)/\(Jv N G' w'\/Jx G' w')
section
variable {GB:Gh} {C:aD} {n:Nat} {Q0:Exit->Act->World->Prop} {fr fr':aA} {own own':aO} {cf':Cf} {vc:List Prop} {ops:Array Oper} {o:Oper} {r:List Oper} {K:List Kt}
def aI0[fu:Fu]{f:FuncId}{fb:Func}{c:Code}{m:Nat}{ds:List DV}{E:List (List DV)}{cf:Nat->Cf}{fr:Nat->aA}{own:Nat->aO}{vc:Nat->List Prop}(hf:prog.funcs[f]? =some fb)(hb:fb.body=some c)(hn:(fb.name== "runtime.NumGoroutine")=false)(hm:fb.ntmps=m)(hlen:Nat.ble (ds.length+1) m=true)
  (hgo: ∀l,go tt m fu.n [] (qa 0 (.v (.func (.yield l) #[] #[])::ds)) [] (.code c [])=⟨vc l,fr l,own l,cf l⟩)
  (k: ∀l Jv Jx GB',bw GB GB'->zO GB' prog l Jv Jx E-> ∀C,Pl C->Jv 0 C.G0 C.w0->aj prog GB' C m (Fl prog fb GB' Jv Jx E.length) (fr l) (own l) (cf l))
  (hv: ∀l,ah (vc l):=by intros;first|exact trivial|(simp only[ah];kernel_rfl)|(simp only[ah];omega)):It GB prog f ds E:=by
 refine⟨⟨fb,hf,hn,by simp[hb]⟩,fun l Jv Jx GB' hg H w vs hJ hvs=>?_⟩;have hlen':vs.length+1<=m:=by rw[hvs.len];simpa using hlen
 have h:=fq (GB:=GB') (C:=kO w GB') (Q0:=Fl prog fb GB' Jv Jx E.length) (hgo l) (hv l) (k l Jv Jx GB' hg H (kO w GB') ⟨J,J,J⟩ hJ);refine callsIn_wide.2 (calls_of_wp hf hb ?_);have hvs':IsLs GB' (.v (.func (.yield l) #[] #[])::ds) (.func (.yield l) #[] #[]::vs):= .cons (aG.2 J) hvs;refine vl J (h.run (fun _=>⟨none,0,0⟩) GB' [] _ w ⟨bw.refl _,Ck ((H.st 0).frz _ _ hJ),by simp;omega,J,fun k f e=>vr hvs' (fun k v hk=>?_) k f e,(fun nm B e=>by cases e),(fun nm nm' B B' e=>by cases e),fun nm p _ _ e=>by cases e⟩);obtain⟨j,rfl,hj⟩:=uv (.func (.yield l) #[] #[]::vs) 0 k v hk;have hj':=(aU.1 hj).1;rw[jX (by simpa using hj')];simpa using hj
def bm.pl{ov:List ak}{G:Gh}{w:World}(h:bm C ov G w)(hp:Pl C):bm (kO C.w0 C.G0) [] G w:=
 (h.drop (kQ _)).ctx J J hp.mb.symm (fun p hp=>by cases hp)
def Oe{P:Program}{l:Nat}{Jv:Nat->Gh->World->Prop}{Jx:Gh->World->Prop}{E:List (List DV)}{fb:Func}{e:Exit}(H:zO GB P l Jv Jx E)(hp:Pl C)(hJ:Jv E.length C.G0 C.w0\/Jx C.G0 C.w0)(hr:fb.results.toList=[])(he:wQ e=true:=by rfl):
  aj P GB C n (Fl P fb GB Jv Jx E.length) fr own (.ex e []):=by
 refine⟨fun ρ G ov a w r=>?_⟩;have hj:Jv E.length G w\/Jx G w:=hJ.imp (fun h=>(H.st _).on _ _ _ _ h (r.h.pl hp)) fun h=>H.sx.on _ _ _ _ h (r.h.pl hp);have hr':kr P (cv a) ov fb.results.toList []:=by rw[hr];exact .nil
 cases e with
 |ret=>exact⟨r.df.trans hp.mks,_,tr hr' (cB a) r.h,G,r.gb,⟨_,J⟩,hj⟩
 |normal=>exact⟨r.df.trans hp.mks,_,tr hr' (cB a) r.h,G,r.gb,⟨_,J⟩,hj⟩
 |_=>cases he
def U0{P:Program}{fo:Operand}{args:Array Operand}{tys:Array TypeId}{vs:List Value}{a:Act}{w:World}{fr:Fr}{l:Nat}{dst:Option Nat}{ty':TypeId}{pos:String}{af:Array Edge}{gd:Option (Nat×Bool)}(hf:ll fr a)(ho:aw fr fo=some (.func (.yield l) ⟨[]⟩ ⟨[]⟩))(hv:fP fr args.toList=some vs):
  (execOp a.eval ⟨dst, .call ⟨.value fo,args,tys⟩,ty',pos,af,gd⟩).run P w=(Instr.yield l ⟨vs⟩).run P w:=by
 have e:args.map a.eval=⟨vs⟩:=by apply Array.ext';simpa using Ai hf hv
 simp only[execOp,resolve,bj hf ho,e,Deferred.ofValue];show(invoke (.fn (.yield l) ⟨[]⟩) (⟨[]⟩++⟨vs⟩)).run P w=_;simp only[invoke];rw[show((⟨[]⟩:Array Value)++⟨vs⟩)=⟨vs⟩ by simp]
def ot:aA->aA
 |[]=>[]
 |(k,f)::t=>match f with
  | .ov .. =>ot t
  | .rw .. =>ot t
  | .be .. =>ot t
  | .rs .. =>ot t
  | .bx .. =>ot t
  | .no=>ot t
  |f=>(k,f)::ot t
def Jf(k:Nat):aA->Bool
 |[]=>false
 |(j,_)::t=>Nat.beq j k||Jf k t
def WD:aA->Bool
 |[]=>true
 |(k,_)::t=>!Jf k t&&WD t
def KR(fr:aA)(ops:Array Oper)(o:Oper):Option (Nat×List DV×Nat):=match o with
 |⟨some d, .call ⟨.value fo,args,_⟩,_,_,_,none⟩=>match aP (bg fr) fo,evDs (bg fr) args.toList with
  |some (.d (.v (.func (.yield l) ⟨[]⟩ ⟨[]⟩))),some ds=>some (l,ds,d)
  |_,_=>none
 |_=>none
def cy[fu1:Fu][fu2:Fu]{l d k:Nat}{Jv:Nat->Gh->World->Prop}{Jx:Gh->World->Prop}{E:List (List DV)}{ds:List DV}{fr1 fr2:aA}{own1 own2:aO}{cf1 cf2:Cf}{vc1 vc2:List Prop}(frd:aA)(H:zO GB prog l Jv Jx E)(hp:Pl C)(hJ:Jv k C.G0 C.w0)(ha:KR fr ops o=some (l,ds,d))(hE:E[k]? =some ds)(hd:b9 n (some d)=true)
  (hfd:vd frd fr)(hnd:ot frd=frd)
  (g1:go tt n fu1.n [] ((d, .tt)::frd) [] (.ops ops r K)=⟨vc1,fr1,own1,cf1⟩)(g2:go tt n fu2.n [] ((d, .ff)::frd) [] (.ops ops r K)=⟨vc2,fr2,own2,cf2⟩)
  (k1: ∀C',Pl C'->Jv (k+1) C'.G0 C'.w0->aj prog GB C' n Q0 fr1 own1 cf1)(k2: ∀C',Pl C'->Jx C'.G0 C'.w0->aj prog GB C' n Q0 fr2 own2 cf2)
  (v1:ah vc1:=by first|exact trivial|(simp only[ah];kernel_rfl)|(simp only[ah];omega))(v2:ah vc2:=by first|exact trivial|(simp only[ah];kernel_rfl)|(simp only[ah];omega)):
  aj prog GB C n Q0 fr own (.ops ops (o::r) K):=by
 unfold KR at ha;split at ha<;>try (cases ha;done)
 rename_i d0 fo args tys ty pos af;split at ha<;>cases ha;rename_i h1 h2;have nmd: ∀{f:aA},ot f=f-> ∀k x,bg f k=some x->x.nm=none:=by
  have len: ∀f:aA,(ot f).length<=f.length:=fun f=>by
   induction f with
   |nil=>exact aM _
   |cons e t ih=>obtain⟨j,x⟩:=e;cases x<;>simp only[ot,bX]<;>omega
  intro f
  induction f with
  |nil=>intro _ k x e;cases e
  |cons e t ih=>
   obtain⟨j,y⟩:=e;intro hd k x hx;rw[jA] at hx;have:=len t;split at hx
   ·cases hx
    cases y<;>first|rfl|(have:=congrArg List.length hd;simp only[ot,bX] at this;omega)
   ·refine ih ?_ k x hx
    cases y<;>first|exact(List.cons.inj hd).2|(have:=congrArg List.length hd;simp only[ot,bX] at this;omega)
 refine⟨fun ρ G ov a w rl=>?_⟩;have hJG:Jv k G w:=(H.st k).on _ _ _ _ hJ (rl.h.pl hp);obtain⟨y,hy,hy'⟩:=rl.ev h1;rw[(aG (G:=G)).1 hy'] at hy;obtain⟨vs,h3,h4⟩:=rl.evDs h2;obtain⟨fn,tmps,assign,body,hrun,hround⟩:=H.yd k ds G w vs hE rl.gb hJG h4;rw[hp.rd];simp only[wpListIn];rw[if_pos (by rfl)];refine⟨fun _ _=>trivial,?_⟩;have hs: ∀o:Oper,Oper.semAt (FW none).round a.eval o=execOp a.eval o:=fun _=>J;rw[hs,U0 (cB a) hy h3,hrun];refine⟨fun h=>(by cases h),hround.mono fun e w' he=>?_⟩;obtain⟨G',hg,he⟩:=he;have rel: ∀(b:Bool) (f:FX),(∀ρ,b7 ρ G' f (.bool b))->EF G' w'->bD GB (kO w' G') n (bg ((d,f)::frd)) (bi []) ρ G' [] (a.put (some d) (.bool b)) w':=fun b f hfb hz=>by
  have pa:=rl.putA (dst:=some d) (.bool b) hd;refine⟨rl.gb.trans hg,Ck hz,pa.sz,by rw[pa.df];exact hp.mks,fun k g e=>?_,(fun nm B e=>by cases e),(fun nm nm' B B' e=>by cases e),fun nm p _ _ e=>by cases e⟩;have e':eh (bg frd) (some d) f k=some g:=by
   rw[jA] at e;simp only[eh];split at e
   ·rename_i hk;rw[if_pos hk];exact e
   ·rename_i hk;rw[if_neg hk];exact e
  refine pa.fx (fun k g _ e=>?_) (hfb ρ) k g e';obtain⟨u,h5,h6⟩:=rl.fx k g (vz hfd k g e);exact⟨u,h5,h6.up hg⟩
 rcases he with⟨rfl,hj⟩|⟨rfl,hj⟩
 ·exact(fq (GB:=GB) (C:=kO w' G') (Q0:=Q0) g1 v1 (k1 (kO w' G') ⟨J,J,J⟩ hj)).run ρ G' [] _ w' (rel true .tt (fun _=>J) ((H.st _).frz _ _ hj))
 ·exact(fq (GB:=GB) (C:=kO w' G') (Q0:=Q0) g2 v2 (k2 (kO w' G') ⟨J,J,J⟩ hj)).run ρ G' [] _ w' (rel false .ff (fun _=>J) (H.sx.frz _ _ hj))
def Nz(GB:Gh)(n:Nat){X:Type}(F:X->aA)(I:X->aD->Prop)(a:Act)(w:World):Prop:=
 ∃C x ρ G ov,Pl C/\I x C/\bD GB C n (bg (F x)) (bi []) ρ G ov a w
def SP[fu:Fu]{c:Code}{X:Type}(F:X->aA)(I:X->aD->Prop)(μ:X->Nat)(x0:X){cf':X->Cf}{fr':X->aA}{own':X->aO}{vc:X->List Prop}(hp:Pl C)(hI:I x0 C)
  (hgo: ∀x,go tt n fu.n [] (F x) [] (.code c (.ag (Nz GB n F (fun y C=>I y C/\μ y<μ x))::K))=⟨vc x,fr' x,own' x,cf' x⟩)
  (round: ∀x C,Pl C->I x C->aj prog GB C n Q0 (fr' x) (own' x) (cf' x))(hF:vd (F x0) fr:=by repeat (first|exact trivial|refine And.intro J ?_|refine And.intro (oG J (by first|omega|(dsimp only;omega))) ?_|refine And.intro (oG J (by simp)) ?_))
  (hv: ∀x C,I x C->ah (vc x):=by intros;first|exact trivial|(simp only[ah];kernel_rfl)|(simp only[ah];omega)|(simp only[ah,aJ,aL,aW];omega)):aj prog GB C n Q0 fr own (.code (.loop c) K):=by
 refine⟨fun ρ G ov a w r=>?_⟩;have r0:=r.mono (bk:=bi []) (vz hF) (fun k x e=>by cases e);rw[hp.rd];intro b k cs hro hb hrm;have key: ∀m a w,(∃C x ρ G ov,Pl C/\I x C/\μ x=m/\bD GB C n (bg (F x)) (bi []) ρ G ov a w)->
   ∃e a' w',cQ none prog Q0 K e a' w'/\ArrivesIn (Machine.fenced prog (FW none)) prog (lone (b.atR a (.code c:: .inLoop c::k)) cs w) b k cs e a' w':=by
  intro m
  induction m using Nat.strongRecOn with
  |_ m ih=>
   intro a w ⟨C,x,ρ,G,ov,hpc,hx,hm,hr⟩;have h1:=fq (GB:=GB) (C:=C) (Q0:=Q0) (hgo x) (hv x C hx) (round x C hpc hx);have h2:=h1.run ρ G ov a w hr;rw[hpc.rd] at h2;obtain⟨e,a₁,w₁,hq,harr⟩:=h2 b (.inLoop c::k) cs hro hb hrm
   cases e with
   |normal=>
    obtain⟨C',x',ρ',G',ov',hpc',⟨hx',hlt⟩,hr'⟩:=hq;obtain⟨e₂,a₂,w₂,hq₂,harr₂⟩:=ih (μ x') (hm▸hlt) a₁ w₁ ⟨C',x',ρ',G',ov',hpc',hx',rfl,hr'⟩;exact⟨e₂,a₂,w₂,hq₂, .of_steps (StepsIn.trans harr (.one (fenced_calm hb hrm J) stepR_inLoop)) harr₂⟩
   |exit id=>exact⟨_,a₁,w₁,hq, .pass (x:= .inLoop c) J (fun _ _=> .inl (by simp)) harr⟩
   |goto l=>exact⟨_,a₁,w₁,hq, .pass (x:= .inLoop c) J (fun _ _=> .inl (by simp)) harr⟩
   |ret=>exact⟨_,a₁,w₁,hq, .pass (x:= .inLoop c) J (fun _ _=> .inl (by simp)) harr⟩
   |panic ch=>exact⟨_,a₁,w₁,hq, .pass (x:= .inLoop c) J (fun _ _=> .inl (by simp)) harr⟩
   |outgrown=>exact⟨_,a₁,w₁,hq, .pass (x:= .inLoop c) J (fun _ _=> .inl (by simp)) harr⟩
 obtain⟨e,a',w',q,rr⟩:=key (μ x0) a w ⟨C,x0,ρ,G,ov,hp,hI,rfl,r0⟩;exact⟨e,a',w',q, .of_steps (.one (fenced_calm hb hrm J) stepR_loop) rr⟩
def XY{P:Program}{X:Type}{F:X->aA}{I:X->aD->Prop}(x:X)(hp:Pl C)(hI:I x C)(hF:vd (F x) fr:=by repeat (first|exact trivial|refine And.intro J ?_|refine And.intro (oG J (by first|omega|(dsimp only;omega))) ?_|refine And.intro (oG J (by simp)) ?_)):aj P GB C n Q0 fr own (.ex .normal (.ag (Nz GB n F I)::K)):=
 ⟨fun ρ G ov a w r=>⟨C,x,ρ,G,ov,hp,hI,r.mono (vz hF) (fun k x e=>by cases e)⟩⟩
end
section
variable {GB:Gh} {C:aD} {n:Nat} {Q0:Exit->Act->World->Prop} {fr fr':aA} {own own':aO} {cf cf':Cf} {vc:List Prop} {ops:Array Oper} {r:List Oper} {K:List Kt}
def W9{x y:Nat}{Φ:Act->World->Prop}{R:AD}(hfx:C.fx=fun _=>none)(h:wI x y fr own=some R)(hk:SX GB C n (bg R.fr) (bi R.own) Φ):SX GB C n (bg fr) (bi own) Φ:=by
 unfold wI at h;rw[cond_eq_ite] at h;split at h<;>try (cases h;done)
 rename_i hb;have hxy:x≠y:=fun e=>hb (by subst e;simp);rw[HY,Ic] at h;cases h;refine⟨fun ρ G ov a w r=>hk.run (fun k=>if k=y then ρ x else ρ k) G ov a w ?_⟩;have inv: ∀m B,bi (own.map fun e=>(bif Nat.beq e.1 y then x else bif Nat.beq e.1 x then y else e.1,bif Nat.beq e.1 y then none else qP x y e.2)) m=some B-> ∃m0 B0,bi own m0=some B0/\qP x y (some B0)=some B/\(m=y/\m0=x\/m≠y/\m≠x/\m0=m):=fun m B e=>by
  rw[FM hxy] at e;split at e
  ·cases e
  ·rename_i hm
   split at e
   ·cases hl:bi own x with
    |none=>rw[hl] at e;cases e
    |some B0=>rw[hl] at e;exact⟨x,B0,hl,e, .inl ⟨by assumption,J⟩⟩
   ·cases hl:bi own m with
    |none=>rw[hl] at e;cases e
    |some B0=>rw[hl] at e;exact⟨m,B0,hl,e, .inr ⟨by assumption,hm,J⟩⟩
 have rho: ∀m m0,(m=y/\m0=x\/m≠y/\m≠x/\m0=m)->(fun k=>if k=y then ρ x else ρ k) m=ρ m0:=fun m m0 h=>by
  rcases h with⟨h1,h2⟩|⟨h1,_,h2⟩
  ·subst h1 h2;simp
  ·subst h2;exact if_neg h1
 refine⟨r.gb,r.h,r.sz,r.df,fun k f e=>?_,fun m B e=>?_,fun m m' B B' e e' hne=>?_,fun m p _ _ e=>by rw[hfx] at e;cases e⟩
 ·rw[Di] at e
  cases hf:bg fr k with
  |none=>rw[hf] at e;cases e
  |some g=>
   rw[hf] at e;cases e;obtain⟨v,h1,h2⟩:=r.fx k g hf;exact⟨v,h1,EN hxy h2⟩
 ·obtain⟨m0,B0,h1,h2,h3⟩:=inv m B e
  obtain⟨os,h4,h5⟩:=r.bx m0 B0 h1;refine⟨os,?_,h5⟩;have hr:=rho m m0 h3
  cases B0 with
  |b=>cases h2;obtain⟨vs,q1,q2,q3,q4⟩:=h4;exact⟨vs,by rw[hr];exact q1,q2,q3,q4⟩
  |c=>cases h2;obtain⟨vs,q1,q2,q3,q4,q5⟩:=h4;exact⟨vs,by rw[hr];exact q1,q2,q3,q4,by rw[hr];exact q5⟩
  |o ty cs lo=>cases h2;obtain⟨b,q,q1,q2,q3⟩:=h4;exact⟨b,q,by rw[hr];exact q1,q2,F5 hxy q3⟩
 ·obtain⟨m0,B0,h1,_,h3⟩:=inv m B e
  obtain⟨m1,B1,h4,_,h6⟩:=inv m' B' e';have q1:=rho m m0 h3;have q2:=rho m' m1 h6;simp only at q1 q2;rw[q1,q2];refine r.dj m0 m1 B0 B1 h1 h4 fun e=>?_;rcases h3 with⟨h7,h8⟩|⟨h7,h8,h9⟩<;>rcases h6 with⟨g7,g8⟩|⟨g7,g8,g9⟩
  ·exact hne (h7.trans g7.symm)
  ·exact g8 (by rw[<-g9,<-e,h8])
  ·exact h8 (by rw[<-h9,e,g8])
  ·exact hne (by rw[<-h9,e,g9])
def Hy{P:Program}(x y:Nat){fr1:aA}{own1:aO}{c:Code}(hfx:C.fx=fun _=>none)(h:wI x y fr own=some ⟨fr1,own1⟩)(k:aj P GB C n Q0 fr1 own1 (.code c K)):aj P GB C n Q0 fr own (.code c K):=W9 hfx h k
def D8(P:Program)(fb:Func)(R:Ending->World->Prop):Exit->Act->World->Prop:=bodyPostM (FW none) 0 P fb R
structure Dy (C:aD):Prop where
 mks:C.mks=[]
 rd:C.rd=none
 fx:C.fx=fun _=>none
def OY[fu:Fu]{f:FuncId}{fb:Func}{c:Code}{m:Nat}{ds:List DV}{rv:DV}(hf:prog.funcs[f]? =some fb)(hb:fb.body=some c)(hn:(fb.name== "runtime.NumGoroutine")=false)(hm:fb.ntmps=m)(hlen:Nat.ble ds.length m=true)
  (hgo:go tt m fu.n [] (qa 0 ds) [] (.code c [])=⟨vc,fr,own,cf⟩)(k: ∀C:aD,Dy C->aj prog GB C m (D8 prog fb (iB C (fun v G'=>Is G' rv v))) fr own cf)
  (hv:ah vc:=by first|exact trivial|(simp only[ah];kernel_rfl)|(simp only[ah];omega)|(simp only[ah,aJ,aL,aW];omega)):PF GB prog f ds rv:=by
 intro G vs hg hvs;refine⟨⟨fb,hf,hn,by simp[hb]⟩,fun w hw=>?_⟩;have hlen':vs.length<=m:=by rw[hvs.len];simpa using hlen
 have h:=fq (GB:=GB) (C:=kO w G) (Q0:=D8 prog fb (iB (kO w G) (fun v G'=>Is G' rv v))) hgo hv (k (kO w G) ⟨J,J,J⟩);refine(callsIn_wide (n:=0)).1 (callsIn_of_wp_marks (F:=FW none) (n:=0) hf hb trivial ?_);refine h.run (fun _=>⟨none,0,0⟩) G [] _ w ⟨hg,Ck hw,by simp;omega,J,fun k f e=>vr hvs (fun k v hk=>?_) k f e,(fun nm B e=>by cases e),(fun nm nm' B B' e=>by cases e),fun nm p _ _ e=>by cases e⟩;obtain⟨j,rfl,hj⟩:=uv vs 0 k v hk;have hj':=(aU.1 hj).1;rw[jX (by simpa using hj')];simpa using hj
def aD.mk3(C:aD)(D:Nat):aD:={C with ex:=(D, .deferred (some []))::C.ex,mks:=[{target:= .collected D,args:= #[]}]}
def QD{fb:Func}{e:Exit}{ds:List DV}{rv:DV}{D:Nat}(hD:C.w0.heap.size<=D)(hx: ∀p∈C.ex,p.1≠D)(hr:oP tt fr own fb.results.toList=some ds)(hd:iE ds=rv)(he:wQ e=true:=by rfl):aj prog GB (C.mk3 D) n (D8 prog fb (iB C (fun v G'=>Is G' rv v))) fr own (.ex e []):=by
 refine⟨fun ρ G ov a w r=>?_⟩;obtain⟨vs,h1,h2⟩:=x4 r hr;have hk:Is G rv (gm vs):=hd▸xK h2;have hex:((D,Obj.deferred (some [])):Nat×Obj)∈(C.mk3 D).ex:=aQ;have h3:bm C ov G (w.putObj D (.deferred none)):=r.h.putx hex hD (fun _ _ _ h=>by cases h) J J J fun p hp=> .inr ⟨aZ _ hp,hx p hp⟩;have hres:=tr (C:=C) (G:=G) (own:=ov) (w:=w.putObj D (.deferred none)) h1 (cB a) h3;have key:LeavesInM (FW none) 0 prog fb a.tmps (iB C (fun v G'=>Is G' rv v)) a.defers .returning w:=by
  rw[r.df];exact⟨by simp, .inl ⟨D,_,J,run_takeDeferred (r.h.ext _ hex).2,_,hres,_,G,J,h3.drop (kQ _),hk⟩⟩
 cases e with
 |ret=>exact key
 |normal=>exact key
 |_=>cases he
end
section
variable {GB:Gh} {C:aD} {n:Nat} {Q0:Exit->Act->World->Prop} {fr fr':aA} {own own':aO} {cf cf':Cf} {vc:List Prop} {ops:Array Oper} {r:List Oper} {K:List Kt}
def bD.later{lk:LK}{bk:BM}{ρ:NE}{G G1:Gh}{ov:List ak}{a:Act}{w w1:World}(r:bD GB C n lk bk ρ G ov a w)(h:bm (kO w G) [] G1 w1):bD GB C n lk bk ρ G1 ov a w1:=
 ⟨r.gb.trans h.gle,r.h.called h,r.sz,r.df,fun k f e=>by obtain⟨y,h1,h2⟩:=r.fx k f e;exact⟨y,h1,h2.up h.gle⟩,fun nm B e=>by obtain⟨os,h1,h2⟩:=r.bx nm B e;exact⟨os,h1.up h.gle,h2⟩,r.dj,r.fxd⟩
def zJ:List Nat->List DV->aA->aA
 |p::ps,d::ds,fr=>zJ ps ds ((p, .d d)::fr)
 |_,_,fr=>fr
def KO{ρ:NE}{G:Gh}: ∀{ps:List Nat} {ds:List DV} {ys tm:List Value} {fr:aA},IsLs G ds ys->(∀p∈ps,p<tm.length)->(∀k f,bg fr k=some f-> ∃y,tm[k]? =some y/\b7 ρ G f y)->
  ((ps.zip ys).foldl (fun t e=>t.set e.1 e.2) tm).length=tm.length/\ ∀k f,bg (zJ ps ds fr) k=some f-> ∃y,((ps.zip ys).foldl (fun t e=>t.set e.1 e.2) tm)[k]? =some y/\b7 ρ G f y
 |[],ds,ys,tm,fr,_,_,h=>⟨J,fun k f e=>h k f (by cases ds<;>exact e)⟩
 |p::ps,[],ys,tm,fr,hd,_,h=>by rw[cD.1 hd];exact⟨J,fun k f e=>h k f e⟩
 |p::ps,d::ds,ys,tm,fr,hd,hp,h=>by
  obtain⟨y,m,rfl,h1,h2⟩:=ba.1 hd;simp only[List.zip_cons_cons,dX,zJ];have:=KO (ps:=ps) (ds:=ds) (ys:=m) (tm:=tm.set p y) (fr:=(p, .d d)::fr) h2 (fun q hq=>by rw[aL];exact hp q (aZ _ hq)) fun k f e=>by
   rw[jA] at e;split at e
   ·rename_i hk;subst hk;cases e
    exact⟨y,by rw[nS];rw[if_pos J,if_pos (hp k aQ)],h1⟩
   ·rename_i hk
    obtain⟨u,h3,h4⟩:=h k f e;exact⟨u,by rw[nS];rw[if_neg (fun e=>hk e.symm)];exact h3,h4⟩
  rw[aL] at this;exact this
def Pn: ∀(l:List (Nat×Value)) (t:Array Value),(l.foldl (fun t e=>t.setIfInBounds e.1 e.2) t).toList=l.foldl (fun t e=>t.set e.1 e.2) t.toList
 |[],t=>rfl
 |e::l,t=>by simp only[dX];rw[Pn l];simp
def Ga:FX->Bool
 | .ov nm _=>Nat.ble 2000000 nm
 | .rw _=>false
 | .be .. =>false
 | .rs .. =>false
 | .bx .. =>false
 |_=>true
def Cq:aA->Bool
 |[]=>true
 |(_,f)::t=>Ga f&&Cq t
def Qs: ∀{fr:aA},Cq fr=true-> ∀k f,bg fr k=some f->Ga f=true
 |[],_,k,f,e=>by cases e
 |(j,g)::t,h,k,f,e=>by
  simp only[Cq,aN] at h;rw[jA] at e;split at e
  ·cases e;exact h.1
  ·exact Qs h.2 k f e
def P2(GB:Gh)(C:aD)(n:Nat)(fr:aA)(own:aO)(a:Act)(w:World):Prop:= ∃ρ G ov,bD GB C n (bg fr) (bi own) ρ G ov a w
def atR{P:Program}:aj P GB C n Q0 fr own (.ex .normal (.ag (P2 GB C n fr own)::K)):=⟨fun ρ G ov a w r=>⟨ρ,G,ov,r⟩⟩
def RQ(GB:Gh)(C:aD)(n:Nat)(p:Prop)(O:aO){σ:Type}(S:σ->aO)(q:σ->Prop):Exit->Act->World->Prop
 | .normal,a,w=>p/\ ∃ρ G ov,bD GB C n (fun _=>none) (bi O) ρ G ov a w
 | .ret,a,w=> ∃s,q s/\ ∃ρ G ov,bD GB C n (fun _=>none) (bi (S s)) ρ G ov a w
 |_,_,_=>False
def rq{P:Program}{p:Prop}{O:aO}{σ:Type}{S:σ->aO}{q:σ->Prop}(hp:p)(hO:yK O own:=by repeat (first|exact trivial|refine And.intro J ?_)):aj P GB C n (RQ GB C n p O S q) fr own (.ex .normal []):=
 ⟨fun ρ G ov a w r=>⟨hp,ρ,G,ov,r.mono (fun k x e=>by cases e) (vy hO)⟩⟩
def ON{P:Program}{g:Operand}{ps:Array Nat}{assign body:Code}{gf:FuncId}{caps:List Value}{ds:List DV}{E:List (List DV)}{σ:Type}(I:Nat->aO)(p:Nat->Prop)(S:σ->aO)(q:σ->Prop)(fr1:aA)
  (h0:Dy C)(hg:aP (bg fr) g=some (.d (.v (.func (.func gf) ⟨[]⟩ ⟨caps⟩))))(hIt:It GB P gf ds E)(hc:IsLs GB ds caps)
  (hfr:vd fr1 fr)(hfix:Cq fr1=true)(hO:yK (I 0) own)(hp:p 0)(hps: ∀e∈E,e.length=ps.size)(hpn:ps.toList.all (fun k=>Nat.blt k n)=true)(hn2:Nat.ble n 2000000=true)
  (round: ∀k e GB',E[k]? =some e->bw GB GB'->p k-> ∃fr2 own2,(∀C2,aj P GB' C2 n (fun _ _ _=>False) (zJ ps.toList e fr1) (I k) (.code assign [.ag (P2 GB' C2 n fr2 own2)]))/\ ∀C2,aj P GB' C2 n (RQ GB' C2 n (p (k+1)) (I (k+1)) S q) fr2 own2 (.code body []))
  (after: ∀D,C.w0.heap.size<=D->(∀x∈C.ex,x.1≠D)->p E.length->aj P GB (C.mk3 D) n Q0 fr1 (I E.length) (.ex .normal K))
  (early: ∀D s,C.w0.heap.size<=D->(∀x∈C.ex,x.1≠D)->q s->aj P GB (C.mk3 D) n Q0 fr1 (S s) (.ex .ret K)):
  aj P GB C n Q0 fr own (.code (.rangeFunc g ps assign body) K):=by
 refine⟨fun ρ0 G0 ov0 a w r=>?_⟩;rw[h0.rd];refine wpIn_rangeFunc fun fn _=>?_;obtain⟨y,hy,hy'⟩:=r.ev hg;rw[(aG (G:=G0)).1 hy'] at hy;have hev:=bj (cB a) hy
 let D:=w.heap.size
 let l:=w.heap.size+1
 let rec_:Loop:={state:= .ready,pending:=none,fn,tmps:=a.tmps,params:=ps,assign,body,defers:=D}
 let w2:=(w.alloc (.deferred (some []))).alloc (.loop rec_)
 let mk:Deferred:={target:= .collected D,args:= #[]}
 let fx1:Nat->Option Addr:=fun nm=>(ρ0 nm).a
 let C1:Loop->aD:=fun rc=>{C with ex:=(l, .loop rc)::(D, .deferred (some []))::C.ex,mks:=[mk],fx:=fx1}
 let a0:Act:={a with defers:=[mk]++a.defers}
 have hszD:C.w0.heap.size<=D:=r.h.size;have hlt: ∀x∈C.ex,x.1<D:=fun x hx=>gG (r.h.ext x hx).2;have hszl:C.w0.heap.size<=l:=Nat.le_succ_of_le hszD;have hnl: ∀x∈((D,Obj.deferred (some []))::C.ex:List (Nat×Obj)),x.1≠l:=fun x hx=>by
  rcases aV.1 hx with rfl|hx
  ·show D≠D+1;omega
  ·have:=hlt x hx;show x.1≠D+1;omega
 have ncl: ∀rc:Loop,IX (.loop rc):=fun rc _ _ _ h=>by cases h
 -- the slots of the loop, at any time
 have stat: ∀(ρ':NE) (G':Gh),bw G0 G'->(∀nm p,n<=nm->2000000<=nm->fx1 nm=some p->(ρ' nm).a=some p)-> ∀k f,bg fr1 k=some f-> ∃y,a.tmps[k]? =some y/\b7 ρ' G' f y:=by
  intro ρ' G' hg' hf k f e;obtain⟨y,h1,h2⟩:=r.fx k f (vz hfr k f e);refine⟨y,h1,?_⟩;have hx:=Qs hfix k f e
  cases f with
  |ov nm off=>
   obtain⟨b,h3,h4⟩:=h2;have h5:2000000<=nm:=by simpa[Ga] using hx
   have h6:n<=2000000:=by simpa using hn2
   exact⟨b,hf nm _ (by omega) h5 h3,h4⟩
  |rw _=>cases hx
  |be _ _ _ _=>cases hx
  |rs _ _ _ _=>cases hx
  |bx _ _ _ _=>cases hx
  |_=>exact(h2.up hg').ren fun _ h=>by cases h
 let Jv:Nat->Gh->World->Prop:=fun k G' w'=>p k/\ ∃ρ ov,bD G0 (C1 rec_) n (bg fr1) (bi (I k)) ρ G' ov a0 w'
 let rcx:Loop:={rec_ with state:= .done,pending:=some .ret}
 let Jx:Gh->World->Prop:=fun G' w'=> ∃s,q s/\ ∃ρ ov,bD G0 (C1 rcx) n (bg fr1) (bi (S s)) ρ G' ov a0 w'
 have hsz0:a0.tmps.size=n:=r.sz;have hdf0:a0.defers=[mk]:=by show [mk]++a.defers=_;rw[r.df,h0.mks];rfl
 have H:zO G0 P l Jv Jx E:=by
  refine⟨fun k=>⟨fun G' w' ⟨_,ρ,ov,h⟩=>h.h.sub,fun G' w' G1 w1 ⟨h1,ρ,ov,h⟩ k=>⟨h1,ρ,ov,h.later k⟩⟩,⟨fun G' w' ⟨_,_,ρ,ov,h⟩=>h.h.sub,fun G' w' G1 w1 ⟨s,h1,ρ,ov,h⟩ k=>⟨s,h1,ρ,ov,h.later k⟩⟩,?_⟩;intro k e G' w' ys hE hgg ⟨hpk,ρ,ov,r1⟩ hys;have hrec:w'.heap[l]? =some (.loop rec_):=(r1.h.ext _ aQ).2;have hel:=hps e (aS hE);obtain⟨fr2,own2,hA,hB⟩:=round k e G' hE (r.gb.trans hgg) hpk;refine⟨_,_,_,_,run_yield hrec (by show ys.length=ps.size;rw[hys.len,hel]),roundIn_of_wpIn trivial ?_⟩
  let C2:aD:={C1 rec_ with mks:=[],rd:=some l}
  let tm:Array Value:=(ps.zip (⟨ys⟩:Array Value)).foldl (fun tmps (t,a)=>tmps.setIfInBounds t a) a.tmps
  have htm:tm.toList=(ps.toList.zip ys).foldl (fun t e=>t.set e.1 e.2) a.tmps.toList:=by
   simp only[tm];rw[<-rZ,Array.toList_zip];exact Pn _ _
  have hfx0:=r1.fx;obtain⟨q1,q2⟩:=KO (ρ:=ρ) (ps:=ps.toList) (tm:=a.tmps.toList) (fr:=fr1) hys (fun k hk=>by have:=fX.1 hpn k hk;rw[iT,r.sz];simpa[mV] using this) fun k f e=>by
   obtain⟨y,h1,h2⟩:=hfx0 k f e;exact⟨y,by simpa using h1,h2⟩
  have hR0:bD G' C2 n (bg (zJ ps.toList e fr1)) (bi (I k)) ρ G' ov {tmps:=tm,defers:=[]} w':=by
   refine⟨bw.refl _,r1.h.ctx J J J (fun _ h=>h),?_,J,fun k f e=>?_,r1.bx,r1.dj,r1.fxd⟩
   ·show tm.size=n
    rw[<-iT,htm,q1,iT,r.sz]
   ·obtain⟨y,h1,h2⟩:=q2 k f e
    exact⟨y,by rw[<-htm] at h1;simpa using h1,h2⟩
  refine wpIn_mono ((hA C2).run ρ G' ov _ w' hR0) fun ex a1 w1 hex=>?_
  cases ex with
  |normal=>
   obtain⟨ρ2,G2,ov2,r2⟩:=hex;have hrec1:w1.heap[l]? =some (.loop rec_):=(r2.h.ext _ aQ).2;refine⟨_,run_beginRound hrec1 J,?_⟩
   let busy:Loop:={rec_ with state:= .busy}
   let C3:aD:={C1 busy with mks:=[],rd:=some l}
   have h3:bm C3 ov2 G2 (w1.putObj l (.loop busy)):=r2.h.putx aQ hszl (ncl _) J J J fun x hx=>by
    rcases aV.1 hx with rfl|hx
    ·exact .inl J
    ·exact .inr ⟨aZ _ hx,hnl x hx⟩
   refine wpIn_mono ((hB C3).run ρ2 G2 ov2 a1 (w1.putObj l (.loop busy)) ⟨r2.gb,h3,r2.sz,r2.df,r2.fx,r2.bx,r2.dj,r2.fxd⟩) fun ex a2 w3 hex=>?_
   cases ex with
   |normal=>
    obtain⟨hp1,ρ3,G3,ov3,r3⟩:=hex;have hrec3:w3.heap[l]? =some (.loop busy):=(r3.h.ext _ aQ).2;refine⟨_,_,run_endRound none hrec3,G3,r3.gb, .inl ⟨J,hp1,ρ3,ov3,hgg.trans r3.gb,?_,hsz0,hdf0,stat ρ3 G3 (hgg.trans r3.gb) r3.fxd,r3.bx,r3.dj,r3.fxd⟩⟩;exact r3.h.putx aQ hszl (ncl _) J J J fun x hx=>by
     rcases aV.1 hx with rfl|hx
     ·exact .inl J
     ·exact .inr ⟨aZ _ hx,hnl x hx⟩
   |ret=>
    obtain⟨s,hq,ρ3,G3,ov3,r3⟩:=hex;have hrec3:w3.heap[l]? =some (.loop busy):=(r3.h.ext _ aQ).2;refine⟨_,_,run_endRound (some .ret) hrec3,G3,r3.gb, .inr ⟨J,s,hq,ρ3,ov3,hgg.trans r3.gb,?_,hsz0,hdf0,stat ρ3 G3 (hgg.trans r3.gb) r3.fxd,r3.bx,r3.dj,r3.fxd⟩⟩;exact r3.h.putx aQ hszl (ncl _) J J J fun x hx=>by
     rcases aV.1 hx with rfl|hx
     ·exact .inl J
     ·exact .inr ⟨aZ _ hx,hnl x hx⟩
   |exit id=>exact hex.elim
   |goto t=>exact hex.elim
   |panic ch=>exact hex.elim
   |outgrown=>exact hex.elim
  |exit id=>exact hex.elim
  |goto t=>exact hex.elim
  |ret=>exact hex.elim
  |panic ch=>exact hex.elim
  |outgrown=>exact hex.elim
 have hC1:bm (C1 rec_) ov0 G0 w2:=by
  have h1:bm {C with ex:=(D, .deferred (some []))::C.ex} ov0 G0 (w.alloc (.deferred (some []))):=r.h.addx (fun _ _ _ h=>by cases h) J J J fun x hx=>aV.1 hx;refine h1.addx (ncl rec_) J J J fun x hx=>?_;rcases aV.1 hx with rfl|hx
  ·exact .inl (by show((l,Obj.loop rec_):Nat×Obj)=_;rw[show(w.alloc (.deferred (some []))).heap.size=w.heap.size+1 by simp])
  ·exact .inr hx
 have hJ0:Jv 0 G0 w2:=⟨hp,ρ0,ov0,bw.refl _,hC1,hsz0,hdf0,stat ρ0 G0 (bw.refl _) (fun _ _ _ _ h=>h),fun nm B e=>r.bx nm B (vy hO nm B e),fun nm nm' B B' e e'=>r.dj nm nm' B B' (vy hO nm B e) (vy hO nm' B' e'),fun _ _ _ _ h=>h⟩;refine⟨l,[mk],w2,{target:= .fn (.func gf) ⟨caps⟩,args:= #[.func (.yield l) #[] #[]]},w2,gf, #[.func (.yield l) #[] #[]]++⟨caps⟩,w2,run_enterLoop_outer fn a.tmps ps assign body,?_,fun _ _=>trivial,?_,fun h=>(by cases h),?_⟩
 ·have he:(⟨[]⟩:Array Value)++Array.map a.eval #[.const (.func (.yield l) #[] #[])]= #[.func (.yield l) #[] #[]]:=by
   apply Array.ext';rw[Array.toList_append,oV];rfl
  simp only[resolve,hev,Deferred.ofValue];rw[he];rfl
 ·simp only[invoke]
  exact Ar hIt.able _ _
 refine CallsIn.mono (show CallsIn (FW none) 0 P gf _ w2 _ from by
  have:=hIt.run l Jv Jx G0 r.gb H w2 caps hJ0 (hc.up r.gb);rw[show(#[Value.func (.yield l) #[] #[]]++(⟨caps⟩:Array Value))=⟨.func (.yield l) #[] #[]::caps⟩ by simp];exact this) fun e w3 he=>?_
 obtain⟨G',hgg,⟨v,rfl⟩,hj⟩:=he;have fin: ∀(rc:Loop) (O:aO) (ρ:NE) (ov:List ak),bD G0 (C1 rc) n (bg fr1) (bi O) ρ G' ov a0 w3->bD GB (C.mk3 D) n (bg fr1) (bi O) ρ G' ov a0 (w3.putObj l (.loop {rc with state:= .exhausted})):=fun rc O ρ ov r3=>
  ⟨r.gb.trans r3.gb,r3.h.putx aQ hszl (ncl _) J J J fun x hx=> .inr ⟨aZ _ hx,hnl x hx⟩,r3.sz,r3.df,r3.fx,r3.bx,r3.dj,fun nm p _ _ e=>by rw[show(C.mk3 D).fx=fun _=>none from h0.fx] at e;cases e⟩
 have hxD: ∀x∈C.ex,x.1≠D:=fun x hx e=>by have:=hlt x hx;omega
 rcases hj with⟨hpn,ρ,ov,r3⟩|⟨s,hq,ρ,ov,r3⟩
 ·have hrec3:w3.heap[l]? =some (.loop rec_):=(r3.h.ext _ aQ).2
  have:=(after D hszD hxD hpn).run ρ G' ov a0 _ (fin rec_ _ ρ ov r3);rw[show(C.mk3 D).rd=none from h0.rd] at this;exact⟨_,_,run_endLoop hrec3 (by simp[rec_]),this⟩
 ·have hrec3:w3.heap[l]? =some (.loop rcx):=(r3.h.ext _ aQ).2
  have:=(early D s hszD hxD hq).run ρ G' ov a0 _ (fin rcx _ ρ ov r3);rw[show(C.mk3 D).rd=none from h0.rd] at this;exact⟨_,_,run_endLoop hrec3 (by simp[rcx]),wpIn_ret this⟩
end
section
variable {GB:Gh} {C:aD} {n:Nat} {Q0:Exit->Act->World->Prop} {fr fr':aA} {own own':aO} {cf cf':Cf} {vc:List Prop} {ops:Array Oper} {o:Oper} {r:List Oper} {K:List Kt}
def Iw(GB:Gh)(P:Program)(f:FuncId)(ds:List DV)(gf:FuncId)(dp:DV):Prop:=
 ∀G vs,bw GB G->IsLs G ds vs->Fn P f vs G fun v G'=> ∃pv,v= .func (.func gf) ⟨[]⟩ ⟨[pv]⟩/\Is G' dp pv
def Bj(gf:FuncId)(dp:DV)(v:Value)(G':Gh):Prop:= ∃pv,v= .func (.func gf) ⟨[]⟩ ⟨[pv]⟩/\Is G' dp pv
def RT[fu:Fu]{f gf:FuncId}{fb:Func}{c:Code}{m:Nat}{ds:List DV}{dp:DV}(hf:prog.funcs[f]? =some fb)(hb:fb.body=some c)(hn:(fb.name== "runtime.NumGoroutine")=false)(hm:fb.ntmps=m)(hlen:Nat.ble ds.length m=true)
  (hgo:go tt m fu.n [] (qa 0 ds) [] (.code c [])=⟨vc,fr,own,cf⟩)(k: ∀C:aD,aj prog GB C m (fH C prog fb (iB C (Bj gf dp))) fr own cf)
  (hv:ah vc:=by first|exact trivial|(simp only[ah];kernel_rfl)|(simp only[ah];omega)):Iw GB prog f ds gf dp:=by
 intro G vs hg hvs;refine Fn.introR hf hb hn hm (by rw[hvs.len];exact hlen) fun C _ _ hrd hfx=>?_;intro a w rl;refine vl hrd ?_;have h:=fq (GB:=GB) (C:=C) (Q0:=fH C prog fb (iB C (Bj gf dp))) hgo hv (k C);exact h.run (fun _=>⟨none,0,0⟩) G [] a w ⟨hg,rl.h,rl.sz,rl.df,(fun k f e=>vr hvs rl.fr k f e),(fun nm B e=>by cases e),(fun nm nm' B B' e=>by cases e),fun nm p _ _ e=>by rw[hfx] at e;cases e⟩
def XX{P:Program}{fb:Func}{gf:FuncId}{dp:DV}{pv:Value}{t:Nat}(hr:fb.results.toList=[.tmp t])(hl:bg fr t=some (.d (.v (.func (.func gf) ⟨[]⟩ ⟨[pv]⟩))))(hp:Is GB dp pv):aj P GB C n (fH C P fb (iB C (Bj gf dp))) fr own (.ex .ret []):=by
 refine⟨fun ρ G ov a w r=>?_⟩;obtain⟨y,hy,hy'⟩:=r.ev (x:= .tmp t) hl;rw[(aG (G:=G)).1 hy'] at hy;exact zD (C:=C) (n:=n) (fr:=cv a) (own:=ov) (G:=G) (K:=Bj gf dp) (by rw[hr];exact .tmp hy .nil) ⟨pv,J,hp.up r.gb⟩ a w ⟨r.h,r.sz,cB a,r.df⟩
def PP(fr:aA)(cf:Cf):Option (FuncId×Value):=match cd fr cf with
 |some ⟨_, .makeFunc (.func f) ⟨[]⟩ ⟨[x]⟩,_,_,_,_⟩=>match aP (bz fr cf) x with
  |some (.d (.v pv))=>some (f,pv)
  |_=>none
 |_=>none
def P9[fu:Fu]{f:FuncId}{pv:Value}(h:PP fr cf=some (f,pv))(hgo:cA tt n fu.n fr own cf (.d (.v (.func (.func f) ⟨[]⟩ ⟨[pv]⟩))) [] []=⟨vc,fr',own',cf'⟩)(k:aj prog GB C n Q0 fr' own' cf')
  (hv:ah vc:=by first|exact trivial|(simp only[ah];kernel_rfl)|(simp only[ah];omega)):aj prog GB C n Q0 fr own cf:=by
 unfold PP at h;split at h<;>try (cases h;done)
 rename_i hh;split at h<;>cases h;rename_i hx;exact us hh (.x1 hx fun ρ G ov a w y _ r h1 h2=>by
  rw[(aG (G:=G)).1 h2] at h1;exact⟨_,(aG (G:=G)).2 J,zG (l1:=[]) (l2:=[pv]) J (by simp[h1])⟩) hgo hv k
def PD[fu:Fu]{f gf:FuncId}{ds:List DV}{dp:DV}{d:Nat}{fr':Value->aA}{own':Value->aO}{cf':Value->Cf}{vc:Value->List Prop}(ha:Dk fr (.ops ops (o::r) K)=some (f,ds))(hdst:o.dst=some d)(hd:b9 n (some d)=true)(hF:Iw GB prog f ds gf dp)
  (hgo: ∀pv,go tt n fu.n [] ((d, .d (.v (.func (.func gf) ⟨[]⟩ ⟨[pv]⟩)))::fr) own (.ops ops r K)=⟨vc pv,fr' pv,own' pv,cf' pv⟩)
  (k: ∀GB' pv,bw GB GB'->Is GB' dp pv->aj prog GB' C n Q0 (fr' pv) (own' pv) (cf' pv))
  (hv: ∀pv,ah (vc pv):=by intros;first|exact trivial|(simp only[ah];kernel_rfl)|(simp only[ah];omega)):aj prog GB C n Q0 fr own (.ops ops (o::r) K):=by
 unfold Dk at ha;split at ha<;>try (cases ha;done)
 rename_i fo args tys ty pos af gd hh;obtain⟨ops0,h1,h2⟩:=Fz hh
 cases h1
 cases hdst
 obtain⟨c1,c2⟩:=z7 ha;refine⟨fun ρ G ov a w rl=>?_⟩;obtain⟨y,hy,hy'⟩:=rl.ev c1;rw[(aG (G:=G)).1 hy'] at hy;obtain⟨vs,h3,h4⟩:=rl.evDs c2;simp only[wpListIn];rw[if_pos (Bc h2 ρ G ov a w rl)];refine Bq (K':=fun a' w'=>a'.defers=C.mks/\wpListIn (FW C.rd) 0 prog ops (cQ C.rd prog Q0 K) r a' w') (fun Q=>?_) (fun a' w' q=>⟨q.1.trans rl.df.symm,q.2⟩);refine zC hy h3 (hF G vs rl.gb h4) hd (fun v G' hG hK a' w' rel=>?_) a w Q ⟨rl.h,rl.sz,cB a,rl.df⟩;obtain⟨pv,rfl,hpv⟩:=hK;refine⟨rel.df,?_⟩;have:=fq (GB:=G') (C:=C) (Q0:=Q0) (hgo pv) (hv pv) (k G' pv (rl.gb.trans hG.le) hpv);refine this.run ρ G' ov a' w' ⟨bw.refl _,rel.h,rel.sz,rel.df,fun j g e=>?_,fun nm B e=>by obtain⟨os,h5,h6⟩:=rl.bx nm B e;exact⟨os,h5.up hG.le,h6⟩,rl.dj,rl.fxd⟩;have e':eh (bg fr) (some d) (.d (.v (.func (.func gf) ⟨[]⟩ ⟨[pv]⟩))) j=some g:=by
  rw[jA] at e;simp only[eh];split at e
  ·rename_i hk;rw[if_pos hk];exact e
  ·rename_i hk;rw[if_neg hk];exact e
 exact(jm rel).fx (fun k g _ e=>by obtain⟨u,h5,h6⟩:=rl.fx k g e;exact⟨u,h5,h6.up hG.le⟩) (show b7 ρ G' (.d (.v (.func (.func gf) ⟨[]⟩ ⟨[pv]⟩))) _ from(aG (G:=G')).2 rfl) j g e'
end
section
variable {GB:Gh} {C:aD} {n:Nat} {Q0:Exit->Act->World->Prop} {fr fr':aA} {own own':aO} {cf cf':Cf} {vc:List Prop}
def glA(fr:aA)(cf:Cf):Option Nat:=match cd fr cf with
 |some ⟨_, .load t (.global g),_,_,_,_⟩=>(match dh tt t with
  |some i=>match i.ag with
   |some none=>some g
   |_=>none
  |none=>none)
 |_=>none
def Nb{d:Nat}{f:FX}{x:DV}(hl:bg fr d=some f)(e:kG f=some x){Φ:Act->World->Prop}(h:SX GB C n (bg ((d, .d x)::fr)) (bi own) Φ):SX GB C n (bg fr) (bi own) Φ:=pm (g:= .d x) hl (fun _ _ _ k=>og k e) h
def Ra(d:Nat){f:FX}(x:DV){e:Exit}{K:List Kt}(hl:bg fr d=some f)(e1:kG f=some x)(k:aj prog GB C n Q0 ((d, .d x)::fr) own (.ex e K)):aj prog GB C n Q0 fr own (.ex e K):=Nb hl e1 k
def MS(d:Nat){f:FX}(x:DV){c:Code}{K:List Kt}(hl:bg fr d=some f)(e1:kG f=some x)(k:aj prog GB C n Q0 ((d, .d x)::fr) own (.code c K)):aj prog GB C n Q0 fr own (.code c K):=Nb hl e1 k
def Wf{nm0 nm:Nat}{B1 B2:Option Bk}:bi (oB (oB own nm0 B1) nm B2)=upB (upB (bi own) [(nm0,B1)]) [(nm,B2)]:=by
 funext j;rw[zf];simp only[upB];rw[zf]
def Xe{nm0 nm k:Nat}(hnm:Nat.blt nm 2000000=true){ty0:TypeId}{cs:List FX}{lo:Bool}(hb:bi own nm0=some (.o ty0 cs lo))(hk:cs[k]? =some .nl)(hne:nm0≠nm){Φ:Act->World->Prop}{ty s:Nat}(hf:kl [nm] none (bg fr) (bi own))
  (h:SX GB C n (bg fr) (bi (oB (oB own nm0 (some (.o ty0 (cs.set k (.rw nm)) lo))) nm (some (.b ty s [] true)))) Φ):SX GB C n (bg fr) (bi own) Φ:=by
 refine⟨fun ρ G ov a w r=>?_⟩;obtain⟨f1,f2⟩:=hf nm aQ;rw[Wf] at h;refine h.run (fun k=>if k=nm then⟨none,0,0⟩ else ρ k) G ov a w ⟨r.gb,r.h,r.sz,r.df,fun k f e=>?_,fun m B e=>?_,fun m m' B B' e e' hne=>?_,fun m p h1 h2 e=>by
  have:nm<2000000:=by simpa[mV] using hnm
  show(if m=nm then(⟨none,0,0⟩:SV) else ρ m).a=_;rw[if_neg (by omega)];exact r.fxd m p h1 h2 e⟩
 ·obtain⟨v,h1,h2⟩:=r.fx k f e
  exact⟨v,h1,h2.ren fun m hm=>uS _ fun hc=>f1 k f (by simp) e (by rw[hm,hc])⟩
 ·simp only[upB] at e
  by_cases hm:m=nm
  ·subst hm;simp only[if_true] at e;cases e
   exact⟨[],⟨[],by simp only[if_true];exact .inl ⟨J,J,J⟩, .nil,by simp,fun _ o ho=>by cases ho⟩,fun o ho=>by cases ho⟩
  ·simp only[hm,if_false] at e
   by_cases hm0:m=nm0
   ·subst hm0;simp only[if_true] at e;cases e
    obtain⟨os,h1,h2⟩:=r.bx m _ hb;have h1':lv (fun k=>if k=nm then⟨none,0,0⟩ else ρ k) G m (.o ty0 cs lo) os:=h1.ren (if_neg hm) fun q hq=>uS _ fun hc=>f2 m _ hm hb (by rw[<-hc];exact hq);obtain⟨b,ms,k1,k2,k3⟩:=h1';refine⟨os,⟨b,ms,k1,k2,?_⟩,h2⟩;obtain⟨y,e1,e2⟩:=k3.get hk;have:=k3.set (f:= .rw nm) (y:=y) k (by show y=_;simp only[if_true];exact e2);rwa [show ms.set k y=ms by apply kN;intro j;rw[nS];split<;>(try rfl);rename_i hj;subst hj;split<;>simp_all] at this
   ·simp only[hm0,if_false] at e
    obtain⟨os,h1,h2⟩:=r.bx m B e;exact⟨os,h1.ren (if_neg hm) fun q hq=>uS _ fun hc=>f2 m B hm e (by rw[<-hc];exact hq),h2⟩
 ·intro b hbb hb'
  have key: ∀q B,upB (upB (bi own) [(nm0,some (.o ty0 (cs.set k (.rw nm)) lo))]) [(nm,some (.b ty s [] true))] q=some B->q≠nm-> ∃B0,bi own q=some B0:=fun q B eq hq=>by
   simp only[upB,hq,if_false] at eq;by_cases hq0:q=nm0
   ·subst hq0;exact⟨_,hb⟩
   ·simp only[hq0,if_false] at eq;exact⟨_,eq⟩
  by_cases hm:m=nm
  ·simp[hm] at hbb
  ·by_cases hm':m'=nm
   ·simp[hm'] at hb'
   ·obtain⟨B0,g0⟩:=key m B e hm
    obtain⟨B1,g1⟩:=key m' B' e' hm';simp only[hm,hm',if_false] at hbb hb';exact r.dj m m' B0 B1 g0 g1 hne b hbb hb'
def Fk(nm0 k nm ty s:Nat){ty0:TypeId}{cs:List FX}{lo:Bool}{own1:aO}{c:Code}{K:List Kt}(hb:bi own nm0=some (.o ty0 cs lo))(hk:cs[k]? =some .nl)(hf:sd [nm] none fr own=true)(hne:Nat.beq nm0 nm=false)
  (ho:oB (oB own nm0 (some (.o ty0 (cs.set k (.rw nm)) lo))) nm (some (.b ty s [] true))=own1)(h:aj prog GB C n Q0 fr own1 (.code c K))(hnm:Nat.blt nm 2000000=true:=by rfl):aj prog GB C n Q0 fr own (.code c K):=by
 subst ho;exact Xe hnm hb hk (fun e=>by subst e;rw[oM] at hne;cases hne) (AK hf) h
def PQ{ρ:NE}{G:Gh}: ∀{a b:List FX} {m:List Value},du ρ G (a++b) m-> ∃m1 m2,m=m1++m2/\du ρ G a m1/\du ρ G b m2
 |[],b,m,h=>⟨[],m,J,J,h⟩
 |f::t,b,m,⟨y,n,e,h1,h2⟩=>by
  obtain⟨m1,m2,rfl,k1,k2⟩:=PQ h2;exact⟨y::m1,m2,e,⟨y,m1,J,h1,k1⟩,k2⟩
def bzA(fr:aA)(cf:Cf):Option (Nat×List FX):=match cd fr cf with
 |some ⟨some d, .build t ⟨[]⟩,_,_,_,_⟩=>match dh tt t with
  |some ⟨.st _,_,some zx,_⟩=>some (d,zx)
  |_=>none
 |_=>none
end
section
variable {GB:Gh} {C:aD} {n:Nat} {Q0:Exit->Act->World->Prop} {fr fr':aA} {own own':aO} {cf cf':Cf} {vc:List Prop} {ops:Array Oper} {o:Oper} {r:List Oper} {K:List Kt}
def Re{p q:Nat->Option (Nat×Nat)}(h: ∀i x,p i=some x->q i=some x): ∀(ps:List (Nat×Value)) (cs out:Array Value),Instr.fill p cs ps=some out->Instr.fill q cs ps=some out
 |[],cs,out,e=>e
 |(i,v)::ps,cs,out,e=>by
  simp only[Instr.fill] at e⊢;split at e
  ·cases e
  ·rename_i off size hp
   rw[h i _ hp];dsimp only;split at e
   ·cases e
   ·rename_i hc
    rw[if_neg hc];exact Re h ps _ _ e
def aum{P:Program}{fr:Fr}{own:List ak}{G:Gh}{t e s len:Nat}{j:TypeInfo}{parts:Array (Nat×Operand)}{z:Value}{out:List Value}{dst:Option Nat}{ty':TypeId}{pos:String}{af:Array Edge}{gd:Option (Nat×Bool)}[hz:gj P t z](hu:P.underlying t=some (.array len e))(hj:P.info? e=some j)(hs:j.size=s)
  (hb:ue fr ((List.range len).map fun i=>(i*s,s)) (aE z) parts.toList=some out):Yd P C fr own G ⟨dst, .build t parts,ty',pos,af,gd⟩ (.agg ⟨out⟩):=by
 intro a w hf hh;simp only[execOp];have:(Instr.build t (parts.map fun(i,x)=>(i,a.eval x))).run P w= .ok (.agg ⟨out⟩) w:=by
  unfold Instr.build;rw[bc (hz.zero w),oe];rw[bc (qx hu w)];simp only[];rw[bc (uc hj w),hs];have:=Re (q:=fun i=>some (i*s,s)) (fun i x hx=>by
   have hx':((List.range len).map fun i=>(i*s,s))[i]? =some x:=by simpa using hx
   rw[eX] at hx'
   cases hr:(List.range len)[i]? with
   |none=>rw[hr] at hx';cases hx'
   |some y=>
    rw[hr] at hx';cases hx';obtain⟨h1,h2⟩:=aU.1 hr;rw[List.getElem_range] at h2;rw[h2]) _ _ _ (EP hf ((List.range len).map fun i=>(i*s,s)) parts.toList _ _ hb)
  simp only[oV,this];rfl
 exact cH this
def AW:Nat->Nat->Nat->List (Nat×Nat×Nat)
 |_,0,_=>[]
 |i,k+1,s=>(i*s,0,s)::AW (i+1) k s
def KG: ∀(i k s:Nat),(AW i k s).map (fun x=>(x.1,x.2.2))=(List.range' i k).map fun j=>(j*s,s)
 |_,0,_=>rfl
 |i,k+1,s=>by simp only[AW,bW,List.range',KG (i+1) k s]
def Rw(fr:aA)(cf:Cf)(len s:Nat):Option (TypeId×FX):=match cd fr cf with
 |some ⟨_, .build t parts,_,_,_,_⟩=>match dh tt t with
  |some ⟨.o,_,some zx,_⟩=>match ta (bz fr cf) (AW 0 len s) zx parts.toList with
   |some cs=>match vA cs with
    |some f=>some (t,f)
    |none=>none
   |none=>none
  |_=>none
 |_=>none
def Vh[fu:Fu]{t e len s:Nat}{f:FX}(h:Rw fr cf len s=some (t,f))(hu:prog.underlying t=some (.array len e))(hs:(prog.info? e).map (·.size)=some s)
  (hgo:cA tt n fu.n fr own cf f [] []=⟨vc,fr',own',cf'⟩)(k:aj prog GB C n Q0 fr' own' cf')
  (hv:ah vc:=by first|exact trivial|(simp only[ah];kernel_rfl)|(simp only[ah];omega)):aj prog GB C n Q0 fr own cf:=by
 unfold Rw at h;split at h<;>try (cases h;done)
 rename_i hh;split at h<;>try (cases h;done)
 rename_i hT;split at h<;>try (cases h;done)
 rename_i hb;split at h<;>cases h;rename_i hf;refine us hh (.yd fun ρ G ov a w r=>?_) hgo hv k
 cases hj:prog.info? e with
 |none=>rw[hj] at hs;cases hs
 |some j=>
 rw[hj] at hs;obtain⟨v,hv,hv'⟩:=yX (er _ _ hT) rfl;obtain⟨l,h1,h2⟩:=CY r _ _ _ _ hb (hv' ρ G);rw[KG,<-List.range_eq_range'] at h1;exact⟨.agg ⟨l⟩,Il h2 hf,aum hu hj (Option.some.inj hs) h1⟩
def aJ4(fr:aA)(own:aO)(cf:Cf)(k:Nat):Option (TypeId×FX):=match cd fr cf with
 |some ⟨_, .load t x,_,_,_,_⟩=>match aP (bz fr cf) x with
  |some (.ov nm off)=>match gq fr own cf nm with
   |some (.o _ cs _)=>match takeX cs off k with
    |some l=>match vA l with
     |some f=>some (t,f)
     |none=>none
    |none=>none
   |_=>none
  |_=>none
 |_=>none
def aKN(fr:aA)(cf:Cf)(off s:Nat):Option (TypeId×List DV×Int):=match cd fr cf with
 |some ⟨_, .index t x y,_,_,_,_⟩=>match aP (bz fr cf) x with
  |some (.d (.ag ms))=>match aP (bz fr cf) y with
   |some (.d (.v (.int _ i)))=>match takeD ms off s with
    |some l=>some (t,l,i)
    |none=>none
   |_=>none
  |_=>none
 |_=>none
end
section
variable {GB:Gh} {C:aD} {n:Nat} {Q0:Exit->Act->World->Prop} {fr fr':aA} {own own':aO} {cf cf':Cf} {vc:List Prop} {lk:LK} {bk:BM} {dst:Option Nat} {ty:TypeId} {pos:String} {af:Array Edge} {gd:Option (Nat×Bool)}
def ET(t:TypeId):Prop:= ∀(x:Value) w,(Instr.makeInterface t x).run prog w= .ok (.iface t x) w
def CU(t:TypeId)(u:Value)(m:String)(f:FuncId):Prop:= ∀w,(method (prog.types.size+Made.depth) t u m).run prog w= .ok (f,u) w
def aFB{t:TypeId}{x:Operand}{d:DV}{u:Value}(ht:ET t)(hx:evD lk x=some d)(hd: ∀G y,Is G d y->y=u):bH prog GB C n lk bk ⟨dst, .makeInterface t x,ty,pos,af,gd⟩ (.d (.v (.iface t u))) [] []:=
 bH.yd fun ρ G ov a w r=>by
  obtain⟨y,hy,hy'⟩:=r.evD hx;obtain rfl:=hd G y hy';refine⟨_,(aG (G:=G)).2 J,fun a' w' hf _=>?_⟩;refine cH (f:=Next.value) ?_;rw[bj hf hy];exact ht _ _
def ZS{x:Operand}{m:String}{args:Array Operand}{tys:Array TypeId}{t:TypeId}{u:Value}{f:FuncId}{vs:List Value}{fr:Fr}{a:Act}{w:World}(hf:ll fr a)(hx:aw fr x=some (.iface t u))(hv:fP fr args.toList=some vs)(hm:CU t u m f)(hc:pn prog f):
  (execOp a.eval ⟨dst, .call ⟨.invoke x m,args,tys⟩,ty,pos,af,gd⟩).run prog w= .ok (.enter f ⟨u::vs⟩) w:=by
 have e:args.map a.eval=⟨vs⟩:=by apply Array.ext';simpa using Ai hf hv
 simp only[execOp,resolve,bj hf hx,e];show(invoke (.fn (.method m) #[]) (#[.iface t u]++⟨vs⟩)).run prog w=_;simp only[invoke];have h0:(#[Value.iface t u]++(⟨vs⟩:Array Value))[0]? =some (.iface t u):=by simp
 have h1:(#[Value.iface t u]++(⟨vs⟩:Array Value)).extract 1 (#[Value.iface t u]++(⟨vs⟩:Array Value)).size=⟨vs⟩:=by
  apply Array.ext';simp
 rw[h0,h1];show(callMethod (.iface t u) m ⟨vs⟩).run prog w=_;unfold callMethod;show((do
  let p<-program
  let(g,receiver)<-method (p.types.size+Made.depth) t u m
  callFunc g (#[receiver]++⟨vs⟩)):Sem Next).run prog w=_
 rw[bc (a:=prog) (w':=w) J,bc (hm w)];show(callFunc f (#[u]++⟨vs⟩)).run prog w=_;rw[Ar hc];simp
def aDk{x:Operand}{m:String}{args:Array Operand}{tys:Array TypeId}{t:TypeId}{u:Value}{f:FuncId}{ds:List DV}{rv:DV}(hx:aP lk x=some (.d (.v (.iface t u))))(ha:evDs lk args.toList=some ds)(hm:CU t u m f)(hF:PF GB prog f (.v u::ds) rv):
  bH prog GB C n lk bk ⟨dst, .call ⟨.invoke x m,args,tys⟩,ty,pos,af,gd⟩ (.d rv) [] []:=by
 intro hd tl tb K' s1 s2 hf hk;refine⟨fun ρ G ov a w r Q=>?_⟩;obtain⟨y,hy,hy'⟩:=(r.mono s1 s2).ev hx;rw[(aG (G:=G)).1 hy'] at hy;obtain⟨vs,h3,h4⟩:=(r.mono s1 s2).evDs ha;have hFn:=hF G (u::vs) r.gb (.cons (aG.2 J) h4);have h2:=ZS (dst:=dst) (ty:=ty) (pos:=pos) (af:=af) (gd:=gd) (tys:=tys) (w:=w) (cB a) hy h3 hm hFn.able;simp only[Oper.wp,h2,Oper.upon];refine(hFn.run w r.h.sub).mono ?_;rintro e w' ⟨v,G',rfl,hh,hK⟩;have rl:gg C n (cv a) ov G a w:=⟨r.h,r.sz,cB a,r.df⟩;have rl2:=(rl.heap (rl.h.called hh)).put v hd;exact hk.run ρ G' ov _ w' ⟨r.gb.trans hh.gle,rl2.h,rl2.sz,rl2.df,(jm rl2).fx (fun k g _ e=>by obtain⟨z,h5,h6⟩:=r.fx k g e;exact⟨z,h5,h6.up hh.gle⟩) hK,
  fun nm B e=>by obtain⟨os,h5,h6⟩:=r.bx nm B e;exact⟨os,h5.up hh.gle,h6⟩,r.dj,r.fxd⟩
def MO(fr:aA)(cf:Cf):Option (TypeId×DV):=match cd fr cf with
 |some ⟨_, .makeInterface t x,_,_,_,_⟩=>match evD (bz fr cf) x with
  |some d=>some (t,d)
  |none=>none
 |_=>none
def Zy[fu:Fu]{t:TypeId}{d:DV}(u:Value)(ha:MO fr cf=some (t,d))(ht:ET t)(hd: ∀G y,Is G d y->y=u)(hgo:cA tt n fu.n fr own cf (.d (.v (.iface t u))) [] []=⟨vc,fr',own',cf'⟩)(k:aj prog GB C n Q0 fr' own' cf')
  (hv:ah vc:=by first|exact trivial|(simp only[ah];kernel_rfl)|(simp only[ah];omega)):aj prog GB C n Q0 fr own cf:=by
 unfold MO at ha;split at ha<;>try (cases ha;done)
 rename_i hh;split at ha<;>cases ha;rename_i hx;exact us hh (aFB ht hx hd) hgo hv k
def LM(fr:aA)(cf:Cf):Option (String×TypeId×Value×List DV):=match cd fr cf with
 |some ⟨_, .call ⟨.invoke x m,args,_⟩,_,_,_,_⟩=>match aP (bz fr cf) x with
  |some (.d (.v (.iface t u)))=>match evDs (bz fr cf) args.toList with
   |some ds=>some (m,t,u,ds)
   |none=>none
  |_=>none
 |_=>none
def Zn[fu:Fu]{m:String}{t:TypeId}{u:Value}{f:FuncId}{ds:List DV}{rv:DV}(ha:LM fr cf=some (m,t,u,ds))(hm:CU t u m f)(hF:PF GB prog f (.v u::ds) rv)(hgo:cA tt n fu.n fr own cf (.d rv) [] []=⟨vc,fr',own',cf'⟩)(k:aj prog GB C n Q0 fr' own' cf')
  (hv:ah vc:=by first|exact trivial|(simp only[ah];kernel_rfl)|(simp only[ah];omega)):aj prog GB C n Q0 fr own cf:=by
 unfold LM at ha;split at ha<;>try (cases ha;done)
 rename_i hh;split at ha<;>try (cases ha;done)
 rename_i hx;split at ha<;>cases ha;rename_i hds;exact us hh (aDk hx hds hm hF) hgo hv k
def PF.arg0{f:FuncId}{d e:DV}{ds:List DV}{rv:DV}(h:PF GB prog f (d::ds) rv)(he: ∀G y,Is G e y->Is G d y):PF GB prog f (e::ds) rv:=fun G vs hg hvs=>by
 obtain⟨y,m,rfl,h1,h2⟩:=ba.1 hvs;exact h G _ hg (.cons (he G y h1) h2)
end
section
variable {GB:Gh} {C:aD} {n:Nat} {Q0:Exit->Act->World->Prop} {fr fr':aA} {own own':aO} {cf cf':Cf} {vc:List Prop} {lk:LK} {bk:BM} {dst:Option Nat} {ty:TypeId} {pos:String} {af:Array Edge} {gd:Option (Nat×Bool)}
def yV(lk:LK):List Operand->Option (List Value)
 |[]=>some []
 |x::xs=>match aP lk x with
  |some (.d (.v pv))=>match yV lk xs with
   |some l=>some (pv::l)
   |none=>none
  |_=>none
def Gm{ρ:NE}{G:Gh}{ov:List ak}{a:Act}{w:World}(r:bD GB C n lk bk ρ G ov a w): ∀{xs:List Operand} {l:List Value},yV lk xs=some l->xs.mapM (aw (cv a))=some l
 |[],l,h=>by cases h;rfl
 |x::xs,l,h=>by
  simp only[yV] at h;split at h<;>try (cases h;done)
  rename_i h1;split at h<;>cases h;rename_i h2;obtain⟨y,h3,h4⟩:=r.ev h1;rw[(aG (G:=G)).1 h4] at h3;rw[oK,h3,Gm r h2];rfl
def M6(fr:aA)(cf:Cf):Option (FuncId×List Value×List Value):=match cd fr cf with
 |some ⟨_, .makeFunc (.func f) ⟨xs⟩ ⟨ys⟩,_,_,_,_⟩=>match yV (bz fr cf) xs,yV (bz fr cf) ys with
  |some a,some b=>some (f,a,b)
  |_,_=>none
 |_=>none
def QV[fu:Fu]{f:FuncId}{c1 c2:List Value}(h:M6 fr cf=some (f,c1,c2))(hgo:cA tt n fu.n fr own cf (.d (.v (.func (.func f) ⟨c1⟩ ⟨c2⟩))) [] []=⟨vc,fr',own',cf'⟩)(k:aj prog GB C n Q0 fr' own' cf')
  (hv:ah vc:=by first|exact trivial|(simp only[ah];kernel_rfl)|(simp only[ah];omega)):aj prog GB C n Q0 fr own cf:=by
 unfold M6 at h;split at h<;>try (cases h;done)
 rename_i hh;split at h<;>cases h;rename_i h1 h2;exact us hh (bH.yd (f:= .d (.v (.func (.func f) ⟨c1⟩ ⟨c2⟩))) fun ρ G ov a w r=>⟨_,(aG (G:=G)).2 J,zG (Gm r h1) (Gm r h2)⟩) hgo hv k
def JK(fr:aA)(cf:Cf):Option (FuncId×DV):=match cd fr cf with
 |some ⟨_, .makeFunc (.func f) ⟨[x]⟩ ⟨[]⟩,_,_,_,_⟩=>match evD (bz fr cf) x with
  |some d=>some (f,d)
  |_=>none
 |_=>none
def BE[fu:Fu]{f:FuncId}{d:DV}(pv:Value)(h:JK fr cf=some (f,d))(hd: ∀G y,Is G d y->y=pv)(hgo:cA tt n fu.n fr own cf (.d (.v (.func (.func f) ⟨[pv]⟩ ⟨[]⟩))) [] []=⟨vc,fr',own',cf'⟩)(k:aj prog GB C n Q0 fr' own' cf')
  (hv:ah vc:=by first|exact trivial|(simp only[ah];kernel_rfl)|(simp only[ah];omega)):aj prog GB C n Q0 fr own cf:=by
 unfold JK at h;split at h<;>try (cases h;done)
 rename_i hh;split at h<;>cases h;rename_i hx;exact us hh (bH.yd (f:= .d (.v (.func (.func f) ⟨[pv]⟩ ⟨[]⟩))) fun ρ G ov a w r=>by
  obtain⟨y,hy,hy'⟩:=r.evD hx;obtain rfl:=hd G y hy';exact⟨_,(aG (G:=G)).2 J,zG (l1:=[y]) (l2:=[]) (by simp[hy]) J⟩) hgo hv k
def UE{fo:Operand}{args:Array Operand}{tys:Array TypeId}{f:FuncId}{c1 c2:List Value}{ds1 ds ds2:List DV}{rv:DV}(h1:aP lk fo=some (.d (.v (.func (.func f) ⟨c1⟩ ⟨c2⟩))))(h2:evDs lk args.toList=some ds)(hc:IsLs GB ds1 c1)(hc2:IsLs GB ds2 c2)(hF:PF GB prog f (ds1++ds++ds2) rv):
  bH prog GB C n lk bk ⟨dst, .call ⟨.value fo,args,tys⟩,ty,pos,af,gd⟩ (.d rv) [] []:=by
 intro hd tl tb K' s1 s2 hf hk;refine⟨fun ρ G ov a w r Q=>?_⟩;obtain⟨y,hy,hy'⟩:=(r.mono s1 s2).ev h1;rw[(aG (G:=G)).1 hy'] at hy;obtain⟨vs,h3,h4⟩:=(r.mono s1 s2).evDs h2;refine JA (c1:=c1) (c2:=c2) hy h3 (hF G (c1++vs++c2) r.gb (((hc.up r.gb).app h4).app (hc2.up r.gb))) hd (fun v G' hG hK a' w' rl=>?_) a w Q ⟨r.h,r.sz,cB a,r.df⟩;exact hk.run ρ G' ov a' w' ⟨r.gb.trans hG.le,rl.h,rl.sz,rl.df,(jm rl).fx (fun k g _ e=>by obtain⟨u,h5,h6⟩:=r.fx k g e;exact⟨u,h5,h6.up hG.le⟩) hK,
  fun nm B e=>by obtain⟨os,h5,h6⟩:=r.bx nm B e;exact⟨os,h5.up hG.le,h6⟩,r.dj,r.fxd⟩
def Ou(fr:aA)(cf:Cf):Option (FuncId×List Value×List Value×List DV):=match cd fr cf with
 |some ⟨_, .call ⟨.value fo,args,_⟩,_,_,_,_⟩=>match aP (bz fr cf) fo,evDs (bz fr cf) args.toList with
  |some (.d (.v (.func (.func f) ⟨c1⟩ ⟨c2⟩))),some ds=>some (f,c1,c2,ds)
  |_,_=>none
 |_=>none
def wR[fu:Fu]{f:FuncId}{c1 c2:List Value}{ds ds1 ds2:List DV}{rv:DV}(ha:Ou fr cf=some (f,c1,c2,ds))(hc:IsLs GB ds1 c1)(hc2:IsLs GB ds2 c2)(hF:PF GB prog f (ds1++ds++ds2) rv)(hgo:cA tt n fu.n fr own cf (.d rv) [] []=⟨vc,fr',own',cf'⟩)(k:aj prog GB C n Q0 fr' own' cf')
  (hv:ah vc:=by first|exact trivial|(simp only[ah];kernel_rfl)|(simp only[ah];omega)):aj prog GB C n Q0 fr own cf:=by
 unfold Ou at ha;split at ha<;>try (cases ha;done)
 rename_i hh;split at ha<;>cases ha;rename_i h1 h2;exact us hh (UE h1 h2 hc hc2 hF) hgo hv k
end
section
variable {GB:Gh} {C:aD} {n:Nat} {Q0:Exit->Act->World->Prop} {fr fr':aA} {own own':aO} {cf cf':Cf} {vc:List Prop}
def L6(fr:aA)(cf:Cf):Option (Int×Int):=match cd fr cf with
 |some ⟨_, .binOp .xor _ x y _,_,_,_,_⟩=>match aP (bz fr cf) x,aP (bz fr cf) y with
  |some (.d (.v (.int .u32 p))),some (.d (.v (.int .u32 q)))=>some (p,q)
  |_,_=>none
 |_=>none
def xr[fu:Fu]{p q:Int}(u:Int)(h:L6 fr cf=some (p,q))(e:(((BitVec.ofInt 32 p^^^BitVec.ofInt 32 q).toNat:Nat):Int)=u)(hgo:cA tt n fu.n fr own cf (.d (.v (.int .u32 u))) [] []=⟨vc,fr',own',cf'⟩)(k:aj prog GB C n Q0 fr' own' cf')
  (hv:ah vc:=by first|exact trivial|(simp only[ah];kernel_rfl)|(simp only[ah];omega)):aj prog GB C n Q0 fr own cf:=by
 unfold L6 at h;split at h<;>try (cases h;done)
 rename_i hh;split at h<;>cases h;rename_i h1 h2;subst e;exact us hh (.yd fun ρ G ov a w r=>by
  obtain⟨y1,h3,h4⟩:=r.ev h1;obtain⟨y2,h5,h6⟩:=r.ev h2;rw[c8] at h4 h6;subst h4 h6;exact⟨_,c8.2 J,iI h3 h5 fun w=>by
   show(pure (Value.int .u32 (IntKind.u32.wrap ((BitVec.ofInt 32 p^^^BitVec.ofInt 32 q).toNat:Int))):Sem Value).run prog w=_;rw[DJ];rfl⟩) hgo hv k
def J8(fr:aA)(cf:Cf):Option (Int×Int):=match cd fr cf with
 |some ⟨_, .binOp .sub _ x y _,_,_,_,_⟩=>match aP (bz fr cf) x,aP (bz fr cf) y with
  |some (.d (.v (.int .u32 p))),some (.d (.v (.int .u32 q)))=>some (p,q)
  |_,_=>none
 |_=>none
def sw[fu:Fu]{p q:Int}(u:Int)(h:J8 fr cf=some (p,q))(e:(p-q)%4294967296=u)(hgo:cA tt n fu.n fr own cf (.d (.v (.int .u32 u))) [] []=⟨vc,fr',own',cf'⟩)(k:aj prog GB C n Q0 fr' own' cf')
  (hv:ah vc:=by first|exact trivial|(simp only[ah];kernel_rfl)|(simp only[ah];omega)):aj prog GB C n Q0 fr own cf:=by
 unfold J8 at h;split at h<;>try (cases h;done)
 rename_i hh;split at h<;>cases h;rename_i h1 h2;subst e;exact us hh (.yd fun ρ G ov a w r=>by
  obtain⟨y1,h3,h4⟩:=r.ev h1;obtain⟨y2,h5,h6⟩:=r.ev h2;rw[c8] at h4 h6;subst h4 h6;exact⟨_,c8.2 J,by rw[<-qq];exact wl h3 h5⟩) hgo hv k
def Kw(fr:aA)(cf:Cf):Option Int:=match cd fr cf with
 |some ⟨_, .unOp .xor _ x,_,_,_,_⟩=>match aP (bz fr cf) x with
  |some (.d (.v (.int .u32 p)))=>some p
  |_=>none
 |_=>none
def nt[fu:Fu]{p:Int}(u:Int)(h:Kw fr cf=some p)(e:(((BitVec.ofInt 32 IntKind.u32.max^^^BitVec.ofInt 32 p).toNat:Nat):Int)=u)(hgo:cA tt n fu.n fr own cf (.d (.v (.int .u32 u))) [] []=⟨vc,fr',own',cf'⟩)(k:aj prog GB C n Q0 fr' own' cf')
  (hv:ah vc:=by first|exact trivial|(simp only[ah];kernel_rfl)|(simp only[ah];omega)):aj prog GB C n Q0 fr own cf:=by
 unfold Kw at h;split at h<;>try (cases h;done)
 rename_i hh;split at h<;>cases h;rename_i hx;subst e;refine us hh (.x1 hx fun ρ G ov a w y _ r h1 h2=>?_) hgo hv k;rw[c8] at h2;subst h2;refine⟨_,c8.2 J,fun a w hf hh=>?_⟩;simp only[execOp,bj hf h1];refine cH (w':=w) ?_;show(pure (Value.int .u32 (IntKind.u32.wrap ((BitVec.ofInt 32 IntKind.u32.max^^^BitVec.ofInt 32 p).toNat:Int))):Sem Value).run prog w=_;rw[DJ];rfl
end

def ZF{ds:List Nat}{k:Nat}(hk:k<ds.length)(h:trimD ds=trimD (ds.take (k+1)))(h0:ds.getD k 0=0):trimD ds=trimD (ds.take k):=by
 rw[h,iJ hk];have:ds[k]=0:=by rw[aK,aX hk] at h0;simpa using h0
 rw[this,O2]
def Vy{ds:List Nat}{k:Nat}(hk:k<ds.length)(h:trimD ds=trimD (ds.take (k+1)))(h0:ds.getD k 0≠0):trimD ds=ds.take (k+1):=by
 rw[h,iJ hk];have:ds[k]≠0:=by rw[aK,aX hk] at h0;simpa using h0
 exact Hn this
def jc{A G:Gh}{x:SV}{ds:List Nat}(hx:ck A x ds)[GL A G](hb:ds.length<=1125899906842624):Fn prog 361 [x.v] G (fun v _=>v= .slice x.a (trimD ds).length x.c):=by
 have hlen:=hx.len;have hcap:=hx.sl.cap;refine Fn.intro func361 J J ntmps361 J ?_;intro C _ _;refine sR<|sa J J<|zE<|bt<|ee<|?_;refine lI (X:=Nat) (fun k=>[(0, .slice x.a k x.c)]) (fun _=>[]) (fun k _=>k<=ds.length/\trimD ds=trimD (ds.take k)) (fun k=>k) ds.length ⟨aM _,by simp⟩ (hlen▸ .cons J .nil) J ?_;rintro k Gx _ ⟨hk,ht⟩;refine bt<|sR<|sm J J<|cI J J<|sy (sO J J) J<|sm J J<|?_;refine n5 6 J (fun hg=>?_) (fun hg=>?_)
 ·have hk1:k-1<ds.length:=by omega
  have hkt:((k:Int)-1).toNat=k-1:=by omega
  have hk2:k=k-1+1:=by omega
  refine bG J J (fE J) J<|bG J J (fE J) J<|bG J J (oh J) J<|bG J J (jD J J) J<|?_;refine bG J J (iq (z:=⟨x.a,k,x.c⟩) (hx.take k hk) J J (by omega) (by show _<(k:Int);omega)) J<|bG J J (iv hx J (by omega)) J<|bG J J (iF J J) J<|sy (r7 J J) J<|zE<|?_;rw[hkt];refine lO J (fun hc=>?_) (fun hc=>?_) -- slot 14
  ·refine jt<|eO<|eO<|jr<|sR<|sm J J<|sa J J<|zE<|c6<|?_
   have hs:=Vy hk1 (hk2▸ht) (fun e=>hc (by rw[e];rfl));refine zD (.tmp J .nil) ?_;rw[hs,<-hk2];simp[gm,hk]
  refine zK<|ee<|d7<|sm J J<|sm J J<|cI J J<|sy (jD J J) J<|sy (xZ J J (by omega) (by omega)) J<|?_;refine sa J J<|zE<|?_;exact jk (k-1) ⟨by omega,ZF hk1 (hk2▸ht) (by omega)⟩ (by omega) (.cons (by rw[<-hkt];rfl) .nil) J
 refine ss J J J J<|ss J J J J<|ss J J J J<|ss J J J J<|ss J J J J<|ss J J J J<|?_;refine ss J J J J<|sy (me J J) J<|zE<|vQ J<|jt<|eO<|eO<|jr<|sR<|sm J J<|sa J J<|zE<|c6<|?_;have hk0:k=0:=by omega
 subst hk0;refine zD (.tmp J .nil) ?_;rw[ht];rfl
def ar3{A G:Gh}{x:SV}{ds:List Nat}(hx:ck A x ds)[GL A G](hb:ds.length<=1125899906842624):Fn prog 348 [x.v] G (fun v _=>v= .bool (decide (eo ds))):=by
 have hlen:=hx.len;refine Fn.intro func348 J J ntmps348 J ?_;intro C _ _;refine sR<|sa J J<|zE<|sR<|sm J J<|cI J J<|sy (iF J J) J<|sm J J<|?_;refine n5 6 J (fun hg=>?_) (fun hg=>?_)
 ·refine ss J J J J<|ss J J J J<|ss J J J J<|ss J J J J<|ss J J J J<|ss J J J J<|ss J J J J<|sy (r7 J J) J<|sa J J<|?_
  refine zE<|c6<|?_;refine zD (.tmp J .nil) ?_;have:ds=[]:=bT (by omega);subst this;simp[gm,eo]
 have hne:0<ds.length:=by omega
 have hkt:((x.n:Int)-1).toNat=ds.length-1:=by omega
 refine bG J J (fE J) J<|bG J J (fE J) J<|bG J J (oh J) J<|bG J J (jD J J) J<|bG J J (iq hx J J (by omega) (by omega)) J<|?_;refine bG J J (iv hx J (by omega)) J<|bG J J (tG J J) J<|sy (me J J) J<|sa J J<|zE<|c6<|?_;refine zD (.tmp J .nil) ?_;rw[hkt];simp only[gm,Value.bool.injEq,decide_eq_decide,eo,nV,aK,aX (show ds.length-1<ds.length by omega),jZ,ne_eq,Option.some.injEq];exact not_congr (by omega)
def aAs(ds:List Nat): ∀v∈ds.map dI,flat v=true:=fun v hv=>by
 obtain⟨d,_,rfl⟩:=bV.1 hv;rfl
def Kk{A G:Gh}{x:SV}{ds:List Nat}(hx:ck A x ds)[GL A G](hb:ds.length<=1125899906842):Fn prog 365 [x.v] G (fun v G'=> ∃z:SV,v=z.v/\ck G' z ds):=by
 have hlen:=hx.len;refine Fn.intro func365 J J ntmps365 J ?_;intro C _ _;refine sR<|sa J J<|zE<|bt<|sR<|sm J J<|sy (I4 J J) J<|zE<|?_;refine axg J (fun hc=>?_) (fun hc=>?_)
 ·refine sR<|sa J J<|zE<|c6<|?_
  refine zD (.tmp J .nil) ⟨⟨none,0,0⟩,J,?_⟩;rcases hx.sl.mem with h|⟨b,off,cs,ha,_⟩
  ·have:ds=[]:=by simpa using h
   subst this;exact .nil _
  ·rw[ha] at hc;cases hc
 refine zK<|sR<|?_;refine sc (My J ?_);intro b1;refine sm J J<|?_;refine sc (Rt (xs:=[]) (rest:=[]) (ys:=ds.map dI) J J (.hd ..) J J (aM _) (LX hx) (by simp[hlen]) (aAs ds) (by decide) (by omega) J J ?_);intro b cap rest h1 h2;refine sa J J<|zE<|p8 b (.hd ..) (fun G' _ hgb=>?_);refine c6<|?_;refine zD (.tmp J .nil) ⟨⟨some ⟨b,0,none⟩,x.n,cap⟩,by simp[gm,SV.v],?_⟩;exact .of_block hx.ok hgb.h hlen (by omega) (by simp)
def Gt{A G:Gh}{x:SV}{ds:List Nat}{k:Nat}(hx:ck A x ds)[GL A G](hk:dv ds<2^k)(hb:ds.length<=1125899906842):Fn prog 308 [x.v] G (fun v G'=> ∃z:SV,v=z.v/\fG k G' z (dv ds)):=by
 have htl:=nI ds;refine Fn.intro func308 J J ntmps308 J ?_;intro C _ _;refine sR<|sa J J<|zE<|sR<|sm J J<|?_;refine sc (zC J J (jc hx (by omega)) J ?_);rintro _ G1 _ rfl;refine sc (zC J J (Kk hx.trim (by omega)) J ?_);rintro _ G2 _ ⟨z,rfl,hz⟩;refine sa J J<|zE<|c6<|?_;refine zD (.tmp J .nil) ⟨z,J,?_⟩;exact⟨by rw[pz hx.ok];exact hz,hk⟩
end Go.Sx
end
