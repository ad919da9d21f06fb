import Derived.Test.YtefoocgiaegobaaGreatDoorPh7
import Derived.RangeFuncSeq
set_option linter.all false
set_option maxRecDepth 100000
section
namespace Go.Sx
open Go Go.Proofs Tryz
section
variable {F:Fence} {n:Nat} {P:Program} {Q:Exit->Act->World->Prop} {ops:Array Oper} {md:Region.Mode}
def PC: ∀{k:Nat} {listed:Array Bool} {a:Act} {w:World},wpAnyIn F n P md ops Q k listed a w->wpAnyIn F n P md ops Q (k+1) listed a w
 |0,_,_,_,h=>⟨fun _=>h.2,fun i hi=>by rw[h.1] at hi;cases hi⟩
 |_+1,_,_,_,h=>⟨h.1,fun i hi=>wpOpIn_mono (fun _ _ k=>PC k) (h.2 i hi)⟩
def Ke{k:Nat}{listed:Array Bool}{a:Act}{w:World}(h:wpAnyIn F n P md ops Q k listed a w): ∀j,wpAnyIn F n P md ops Q (j+k) listed a w
 |0=>by rw[dR];exact h
 |j+1=>by rw[show j+1+k=j+k+1 by omega];exact PC (Ke h j)
def Bf.lt{l:List Oper}(he:mt 0 l=true){i j:Nat}(h:Bf l i j):j<i:=by
 induction h with
 |b ho hm hb=>have:=qg he _ _ ho _ hm hb;omega
 |s ho hm hb _ ih=>have:=qg he _ _ ho _ hm hb;omega
def Bf.inv{l:List Oper}{i j:Nat}(h:Bf l i j): ∃o e,l[i]? =some o/\e∈o.after/\Region.binds .any e=true/\(e.on=j\/Bf l e.on j):=by
 induction h with
 |b ho hm hb=>exact⟨_,_,ho,hm,hb, .inl J⟩
 |s ho hm hb hh _=>exact⟨_,_,ho,hm,hb, .inr hh⟩
def Kf(he:mt 0 ops.toList=true): ∀(r pre:List Oper),ops.toList=pre++r->(∀i,pre.length<=i->i<ops.size-> ∀j,j<i->Bf ops.toList i j)-> ∀(listed:Array Bool) (a:Act) (w:World),(∀j d,listed.getD j d=if j<pre.length then true else if j<ops.size then false else d)->wpListIn F n P ops Q r a w->wpAnyIn F n P .any ops Q r.length listed a w
 |[],pre,hops,_,listed,a,w,hl,h=>by
  refine⟨?_,h⟩;rw[List.eq_nil_iff_forall_not_mem];intro i hi;obtain⟨h1,o,h2,_⟩:=mem_ready.1 hi;have h3:=(fV.1 h2).1;have h4:pre.length=ops.size:=by rw[<-iY,hops];simp
  rw[hl,if_pos (by omega)] at h1
  cases h1
 |o::r,pre,hops,hc,listed,a,w,hl,h=>by
  have hsz:ops.size=pre.length+(r.length+1):=by rw[<-iY,hops];simp
  have hp:ops.toList[pre.length]? =some o:=by rw[hops];simp
  have hp':ops[pre.length]? =some o:=by simpa using hp
  have only: ∀i,i∈Region.ready .any ops listed↔i=pre.length:=fun i=>by
   rw[mem_ready];constructor
   ·rintro ⟨h1,o',h2,h3⟩
    have h4:=(fV.1 h2).1;rw[hl] at h1;split at h1
    ·cases h1
    ·rename_i h5
     apply Classical.byContradiction;intro h6;have hb:=hc i (by omega) h4 pre.length (by omega);obtain⟨o2,e,ho,hm,hb,hh⟩:=hb.inv;have e':o'=o2:=Option.some.inj (h2.symm.trans (by simpa using ho));subst e';have h7:=h3 _ hm hb;have h9:=qg he _ _ ho _ hm hb;have h8:pre.length<=e.on:=by
      rcases hh with hh|hh
      ·omega
      ·have:=hh.lt he;omega
     rw[hl,if_neg (by omega),if_pos (by omega)] at h7
     cases h7
   ·rintro rfl
    refine⟨by rw[hl,if_neg (by omega),if_pos (by omega)],o,hp',fun e hm hb=>?_⟩;have:=qg he _ _ hp _ hm hb;rw[hl,if_pos (by omega)]
  refine⟨fun hn=>?_,fun i hi=>?_⟩
  ·have:=(only pre.length).2 J
   rw[hn] at this;cases this
  ·obtain rfl:=(only i).1 hi
   have ih:=Kf he r (pre++[o]) (by rw[hops];simp) (fun i h1 h2=>hc i (by simp at h1;omega) h2) (listed.setIfInBounds pre.length true);have hl': ∀j d,(listed.setIfInBounds pre.length true).getD j d=if j<(pre++[o]).length then true else if j<ops.size then false else d:=fun j d=>by
    have hls:pre.length<listed.size:=by
     apply Classical.byContradiction;intro hq;have h1:=hl pre.length true;rw[if_neg (by omega),if_pos (by omega),bT,mV (by omega)] at h1
     cases h1
    have h1:=hl j d;rw[bT] at h1⊢;rw[dW];by_cases hj:pre.length=j
    ·subst hj;rw[if_pos J,if_pos hls,if_pos (by simp)];rfl
    ·rw[if_neg hj,h1]
     simp only[aT,bK,iU];by_cases h2:j<pre.length
     ·rw[if_pos h2,if_pos (by omega)]
     ·rw[if_neg h2]
      by_cases h3:j<ops.size
      ·rw[if_pos h3,if_neg (by omega)];
      ·rw[if_neg h3,if_neg (by omega)]
   unfold wpOpIn;rw[hp'];simp only[wpListIn] at h⊢;split
   ·rename_i hw;rw[if_pos hw] at h
    exact Oper.wpIn_mono (fun a w k=>ih a w hl' k) h
   ·rename_i hw;rw[if_neg hw] at h
    exact⟨h.1,ih _ _ hl' h.2⟩
def Cu(F:Fence)(n:Nat)(P:Program)(ops:Array Oper)(r:List Oper)(Q:Exit->Act->World->Prop):Exit->Act->World->Prop
 | .normal=>wpListIn F n P ops Q r
 |e=>Q e
def Yj{o:Oper}{a:Act}{w:World}{r:List Oper}{K:Act->World->Prop}(h:o.wpIn F n P a w K (Cu F n P ops r Q)):o.wpIn F n P a w K Q:=by
 refine⟨h.1,?_⟩;have:=h.2
 cases hr:(o.semAt F.round a.eval).run P w with
 |ok x w'=>
  rw[hr] at this
  cases x with
  |enter f args=>exact⟨this.1,CallsIn.mono this.2 fun e w'' he=>by cases e<;>exact he⟩
  |round l f t x y=>exact⟨this.1,RoundIn.mono this.2 fun e w'' he=>by cases e<;>exact he⟩
  |_=>exact this
 |halt x w'=>
  rw[hr] at this
  cases x<;>exact this
def ZO{pre r:List Oper}(hops:ops.toList=pre++r)(hg: ∀o∈pre,o.guard=none)(he:mt 0 ops.toList=true)(hc: ∀i,pre.length<=i->i<ops.size-> ∀j,j<i->Bf ops.toList i j):
  ∀(fuel:Nat) (L listed:Array Bool) (a:Act) (w:World),L.size=pre.length->(∀j d,listed.getD j d=if j<pre.length then L.getD j d else if j<ops.size then false else d)->(∀i o,ops.toList[i]? =some o->listed.getD i false=true-> ∀e∈o.after,Region.binds .any e=true->listed.getD e.on false=true)->
   wpAnyIn F n P .any pre.toArray (Cu F n P ops r Q) fuel L a w->wpAnyIn F n P .any ops Q (fuel+r.length) listed a w:=by
 have hsz:ops.size=pre.length+r.length:=by rw[<-iY,hops];simp
 have hget: ∀i,i<pre.length->ops[i]? =pre.toArray[i]? :=fun i hi=>by rw[<-pQ,hops,eX hi];simp
 -- all of the first part is done
 have fin: ∀(L listed:Array Bool) (a:Act) (w:World),L.size=pre.length->(∀j d,listed.getD j d=if j<pre.length then L.getD j d else if j<ops.size then false else d)->Region.ready .any pre.toArray L=[]->wpListIn F n P ops Q r a w->wpAnyIn F n P .any ops Q r.length listed a w:=by
  intro L listed a w hL hl hr h;have all: ∀i,i<pre.length->L.getD i true=true:=by
   intro i
   induction i using Nat.strongRecOn with
   |ind i ih=>
    intro hi
    cases hq:L.getD i true with
    |true=>rfl
    |false=>
     have:i∈Region.ready .any pre.toArray L:=mem_ready.2 ⟨hq,pre[i],by simp[hi],fun e hm hb=>by
      have hlt:=qg he i pre[i] (by rw[hops,eX hi];simp[hi]) e hm hb;have:=ih e.on (by omega) (by omega);rw[bT,fN (by omega)] at this⊢;simpa using this⟩
     rw[hr] at this;cases this
  refine Kf he r pre hops hc listed a w (fun j d=>?_) h;rw[hl];by_cases hj:j<pre.length
  ·have:=all j hj
   rw[if_pos hj,if_pos hj];rw[bT,fN (by omega)] at this⊢;simpa using this
  ·rw[if_neg hj,if_neg hj]
 intro fuel
 induction fuel with
 |zero=>
  intro L listed a w hL hl hcl h;rw[dR];exact fin L listed a w hL hl h.1 h.2
 |succ fuel ih=>
  intro L listed a w hL hl hcl h;by_cases hr:Region.ready .any pre.toArray L=[]
  ·exact Ke (fin L listed a w hL hl hr (h.1 hr)) (fuel+1)
  ·have sub: ∀i,i∈Region.ready .any pre.toArray L->i∈Region.ready .any ops listed:=fun i hi=>by
    obtain⟨h1,o,h2,h3⟩:=mem_ready.1 hi;have hi':i<pre.length:=by have:=(fV.1 h2).1;simpa using this
    refine mem_ready.2 ⟨by rw[hl,if_pos hi'];exact h1,o,by rw[hget i hi'];exact h2,fun e hm hb=>?_⟩;have hlt:=qg he i o (by rw[hops,eX hi'];simpa using h2) e hm hb;rw[hl,if_pos (by omega)];exact h3 e hm hb
   have sup: ∀i,i∈Region.ready .any ops listed->i∈Region.ready .any pre.toArray L:=fun i hi=>by
    obtain⟨h1,o,h2,h3⟩:=mem_ready.1 hi;have h4:=(fV.1 h2).1;by_cases hi':i<pre.length
    ·rw[hl,if_pos hi'] at h1
     refine mem_ready.2 ⟨h1,o,by rw[<-hget i hi'];exact h2,fun e hm hb=>?_⟩;have hlt:=qg he i o (by simpa using h2) e hm hb;have:=h3 e hm hb;rw[hl,if_pos (by omega)] at this;exact this
    ·exfalso
     obtain⟨j,hj⟩:=List.exists_mem_of_ne_nil _ hr;obtain⟨g1,o2,g2,_⟩:=mem_ready.1 hj;have hj':j<pre.length:=by have:=(fV.1 g2).1;simpa using this
     have clo: ∀i j,Bf ops.toList i j->listed.getD i false=true->listed.getD j false=true:=fun i j hb=>by
      induction hb with
      |b ho hm hb=>intro hi;exact hcl _ _ ho hi _ hm hb
      |s ho hm hb _ ih=>intro hi;exact ih (hcl _ _ ho hi _ hm hb)
     have hjf:listed.getD j false=false:=by
      rw[hl,if_pos hj'];rw[bT,fN (by omega)] at g1⊢;simpa using g1
     have:listed.getD j false=true:=by
      obtain⟨o2,e,ho,hm,hb,hh⟩:=(hc i (by omega) h4 j (by omega)).inv;have e':o=o2:=Option.some.inj (h2.symm.trans (by simpa using ho));subst e';rcases hh with hh|hh
      ·rw[<-hh];exact h3 _ hm hb
      ·exact clo _ _ hh (h3 _ hm hb)
     rw[hjf] at this;cases this
   rw[show fuel+1+r.length=(fuel+r.length)+1 by omega];refine⟨fun hn=>?_,fun i hi=>?_⟩
   ·obtain⟨j,hj⟩:=List.exists_mem_of_ne_nil _ hr
    have:=sub j hj;rw[hn] at this;cases this
   ·have hi0:=sup i hi
    have hk:=h.2 i hi0;obtain⟨h1,o,h2,h3⟩:=mem_ready.1 hi0;have hi':i<pre.length:=by have:=(fV.1 h2).1;simpa using this
    have hgo:o.guard=none:=hg o (by
     have h2':pre[i]? =some o:=by simpa using h2
     exact bU h2')
    have step: ∀a w,wpAnyIn F n P .any pre.toArray (Cu F n P ops r Q) fuel (L.setIfInBounds i true) a w->wpAnyIn F n P .any ops Q (fuel+r.length) (listed.setIfInBounds i true) a w:=by
     intro a w hh;have hls:i<listed.size:=by
      apply Classical.byContradiction;intro hq;have q:=hl i true;have q':=hl i false;rw[if_pos hi'] at q q';rw[bT,mV (by omega)] at q q';rw[bT,fN (by omega)] at q q';simp only[Option.getD_none,jT] at q q';rw[<-q] at q';cases q'
     have hl': ∀j d,(listed.setIfInBounds i true).getD j d=if j<pre.length then(L.setIfInBounds i true).getD j d else if j<ops.size then false else d:=fun j d=>by
      have q:=hl j d;rw[bT] at q⊢;rw[bT] at q⊢;rw[dW,dW];by_cases hj:i=j
      ·subst hj;rw[if_pos J,if_pos J,if_pos hls,if_pos hi',if_pos (by omega)]
      ·rw[if_neg hj,if_neg hj];exact q
     refine ih _ _ a w (by simp[hL]) hl' (fun i2 o2 g1 g2 e hm hb=>?_) hh;have g3:i2=i\/listed.getD i2 false=true:=by
      rw[bT,dW] at g2;by_cases hj:i=i2
      ·exact .inl hj.symm
      ·rw[if_neg hj] at g2;rw[bT];exact .inr g2
     have g4:listed.getD e.on false=true:=by
      rcases g3 with rfl|g3
      ·have e':o=o2:=Option.some.inj (((hget i2 hi').trans h2).symm.trans (by simpa using g1))
       subst e';have hlt:=qg he i2 o g1 e hm hb;rw[hl,if_pos (by omega)];exact h3 e hm hb
      ·exact hcl i2 o2 g1 g3 e hm hb
     rw[bT,dW];by_cases hj:i=e.on
     ·rw[if_pos hj];rw[if_pos hls];rfl
     ·rw[if_neg hj];rw[bT] at g4;exact g4
    unfold wpOpIn at hk⊢;rw[hget i hi',h2];rw[h2] at hk;have hw: ∀y,Region.wanted o y=true:=fun y=>by unfold Region.wanted;rw[hgo]
    simp only[hw,if_true] at hk⊢;exact Yj (Oper.wpIn_mono step hk)
end
section
variable {P:Program} {GB:Gh} {C:aC} {n:Nat} {Q0:Exit->Act->World->Prop} {fr fr0:aw} {own own0:aH} {ops:Array Oper} {us:List Rc} {r:List Oper} {K:List Kt} {id:Nat}
def Ct(x:Nat):Nat->Bool
 |0=>true
 |i+1=>x.testBit i&&Ct x i
def HH{x:Nat}: ∀{i:Nat},Ct x i=true-> ∀j,j<i->x.testBit j=true
 |i+1,h,j,hj=>by
  simp only[Ct,aL] at h;by_cases e:j=i
  ·subst e;exact h.1
  ·exact HH h.2 j (by omega)
def yR:Nat->List Nat->Bool
 |_,[]=>true
 |i,x::t=>Ct x i&&yR (i+1) t
def LC: ∀{l:List Nat} {k:Nat},yR k l=true-> ∀i x,l[i]? =some x-> ∀j,j<k+i->x.testBit j=true
 |y::t,k,h,0,x,hx,j,hj=>by
  simp only[yR,aL] at h
  cases hx
  exact HH h.1 j (by omega)
 |y::t,k,h,i+1,x,hx,j,hj=>by
  simp only[yR,aL] at h;exact LC h.2 i x (by simpa using hx) j (by omega)
def J4: ∀(r:List Oper) (acc:List Nat),(nD r acc).length=acc.length+r.length
 |[],acc=>by simp[nD]
 |o::r,acc=>by simp only[nD];rw[J4];simp;omega
def Ge(m:Nat)(pre all:List Oper)(us:List Rc)(fr0:aw)(own0:aH):Bool:=
 (pre.all (fun o=>o.guard.isNone)&&sO (nD pre []) [] us)&&((mt 0 all&&yR m ((nD all []).drop m))&&Bg us fr0 own0)
def Xl(hm:P.follows .mixedOrders=true)(h:Ge us.length (ops.toList.take us.length) ops.toList us fr0 own0=true)(k:ak P GB C n Q0 fr own (.ops ops r K)):ak P GB C n Q0 fr own (.dr id ops fr0 own0 us r K):=by
 intro D;obtain⟨pre,hp,hl⟩:=D.pre;have ht:ops.toList.take us.length=pre:=by rw[hp,<-hl];simp
 rw[ht] at h;simp only[Ge,aL] at h;obtain⟨⟨h1,h2⟩,⟨h3,h4⟩,h5⟩:=h;have hg: ∀o∈pre,o.guard=none:=fun o ho=>by simpa using eY.1 h1 o ho
 have hgt: ∀i,i<pre.length->ops[i]? =pre.toArray[i]? :=fun i hi=>by rw[<-pQ,hp,eX hi];simp
 have hc: ∀i,pre.length<=i->i<ops.size-> ∀j,j<i->Bf ops.toList i j:=fun i g1 g2 j g3=>by
  refine Gq ops.toList [] [] J J (fun i j h=>by simp at h) i j ?_;have hlen:=J4 ops.toList [];have hi:i<(nD ops.toList []).length:=by rw[hlen];simpa using g2
  rw[aK,aX hi];refine LC h4 (i-us.length) _ ?_ j (by omega);rw[lS,show us.length+(i-us.length)=i by omega];exact aX hi
 have he':mt 0 pre=true:=by
  have: ∀(l l':List Oper) (k:Nat),mt k (l++l')=true->mt k l=true:=by
   intro l l'
   induction l with
   |nil=>intros;rfl
   |cons o t ih=>intro k h;simp only[cW,mt,aL] at h⊢;exact⟨h.1,ih _ h.2⟩
  exact this pre r 0 (by rw[<-hp];exact h3)
 have D':ja P GB C n pre.toArray us (bc fr0,bg own0):=by
  refine⟨by simpa using hl.symm,fun i u o hu ho=>?_,by simpa using h2,by simpa using he',NK h5⟩;have hi:i<pre.length:=by have:=(fV.1 ho).1;simpa using this
  obtain⟨d1,d2⟩:=D.snd i u o hu (by rw[hgt i hi];exact ho);refine⟨d1,fun Q tl tb K s1 s2 hf hk=>?_⟩;refine(d2 Q tl tb K s1 s2 hf hk).imp fun a w q=>?_;have hgo:o.guard=none:=hg o (bU (by simpa using ho));have hw: ∀y,Region.wanted o y=true:=fun y=>by unfold Region.wanted;rw[hgo]
  unfold wO at q⊢;simp only[hw,if_true] at q⊢;exact q
 have e:ck (dB (Array.replicate pre.length false)) 0 (bc fr0,bg own0) us=(bc fr0,bg own0):=by
  have: ∀(l:List Rc) (k:Nat) (s:ST),ck (dB (Array.replicate pre.length false)) k s l=s:=fun l=>by
   induction l with
   |nil=>intro k s;rfl
   |cons y l ih=>
    intro k s;simp only[ck];rw[ih];rw[AN];rfl
  exact this us 0 _
 have hw:=D'.walk (Q:=Cu (FW C.rd) 0 P ops r (cQ C.rd P Q0 K)) (by rw[D.st];exact k) pre.toArray.size (Array.replicate pre.length false) (by simp) (fun i o _ hi=>by rw[AN] at hi;cases hi) (by unfold un;exact dT (rY _ _) (by simp));rw[e] at hw;refine hw.drew.imp fun a w q=>wpIn_region_any hm ?_;have hsz:ops.size=pre.toArray.size+r.length:=by rw[<-iY,hp];simp
 rw[show wpAnyIn (FW C.rd) 0 P .any ops (cQ C.rd P Q0 K) ops.size=wpAnyIn (FW C.rd) 0 P .any ops (cQ C.rd P Q0 K) (pre.toArray.size+r.length) by rw[hsz]];refine ZO hp hg h3 hc _ _ _ _ _ (by simp) (fun j d=>?_) (fun i o _ hi=>?_) q
 ·have hs2:ops.size=pre.length+r.length:=by simpa using hsz
  simp only[bT,qK];by_cases g1:j<pre.length
  ·rw[if_pos (by omega),if_pos g1,if_pos g1]
  ·by_cases g2:j<ops.size
   ·rw[if_pos g2,if_neg g1,if_pos g2];rfl
   ·rw[if_neg g2,if_neg g1,if_neg g2];rfl
 ·simp only[bT,qK] at hi
  split at hi<;>cases hi
end
section
variable {GB:Gh} {C:aC} {n:Nat} {Q0:Exit->Act->World->Prop} {fr fr0 fr':aw} {own own0 own':aH} {cf':Cf} {vc:List Prop} {ops:Array Oper} {us:List Rc} {r:List Oper} {K:List Kt} {id:Nat}
def RB[fu:Fu](h:Ge us.length (ops.toList.take us.length) ops.toList us fr0 own0=true)(hgo:go tt n fu.n [] fr own (.ops ops r K)=⟨vc,fr',own',cf'⟩)(k:ak prog GB C n Q0 fr' own' cf')
  (hv:ah vc:=by first|exact trivial|(simp only[ah];kernel_rfl)|(simp only[ah];omega)):ak prog GB C n Q0 fr own (.dr id ops fr0 own0 us r K):=
 Xl follows h (fq hgo hv k)
end
def EB(o:Obj):Prop:= ∀cs ty z,o≠ .cells cs ty z
section
variable {C C':aC} {own:List aj} {G G1:Gh} {w w1:World}
def bt.ctx(h:bt C own G w)(h1:C'.w0=C.w0)(h2:C'.G0=C.G0)(h3:C'.mb=C.mb)(h4: ∀p∈C'.ex,p∈C.ex):bt C' own G w:=by
 obtain⟨a1,a2,a3,a4,a5,a6,a7,a8,a9,a10,a11,a12⟩:=h;exact⟨by rw[h1];exact a1,by rw[h1];exact a2,by rw[h1];exact a3,by rw[h1];exact a4,by rw[h1,h3];exact a5,a6,by rw[h2];exact a7,by rw[h1,h2];exact a8,by rw[h1,h3];exact a9,a10,by rw[h1];exact a11,fun p hp=>a12 p (h4 p hp)⟩
def bt.addx(h:bt C own G w){o:Obj}(ho:EB o)(h1:C'.w0=C.w0)(h2:C'.G0=C.G0)(h3:C'.mb=C.mb)(h4: ∀p∈C'.ex,p=(w.heap.size,o)\/p∈C.ex):bt C' own G (w.alloc o):=by
 have old: ∀b,b<w.heap.size->(w.alloc o).heap[b]? =w.heap[b]? :=fun b hb=>RowKit.Below.heap_alloc _ _ _ hb;obtain⟨a1,a2,a3,a4,a5,a6,a7,a8,a9,a10,a11,a12⟩:=h;refine⟨by rw[h1];exact a1,by rw[h1];exact a2,by rw[h1];exact a3,by rw[h1];simp;omega,?_,?_,by rw[h2];exact a7,by rw[h1,h2];exact a8,?_,a10,by rw[h1];exact a11,?_⟩
 ·rw[h1,h3];intro b hb hm;rw[old b (by omega)];exact a5 b hb hm
 ·intro b cs hb
  obtain⟨ty,fz,hc⟩:=a6 b cs hb;exact⟨ty,fz,by rw[old b (gw hc)];exact hc⟩
 ·rw[h1,h3];intro x hx
  obtain⟨b1,b2⟩:=a9 x hx;exact⟨by rw[old _ (gw b1)];exact b1,b2⟩
 ·intro p hp
  rcases h4 p hp with rfl|hp
  ·exact⟨ho,World.alloc_heap_new w o⟩
  ·exact⟨(a12 p hp).1,by rw[old _ (gw (a12 p hp).2)];exact(a12 p hp).2⟩
def bt.putx(h:bt C own G w){l:Nat}{o0 o:Obj}(hl:(l,o0)∈C.ex)(hs:C.w0.heap.size<=l)(ho:EB o)(h1:C'.w0=C.w0)(h2:C'.G0=C.G0)(h3:C'.mb=C.mb)(h4: ∀p∈C'.ex,p=(l,o)\/p∈C.ex/\p.1≠l):bt C' own G (w.putObj l o):=by
 have hne: ∀{b:Nat} {cs:Array Value} {ty:TypeId} {z:Nat×Nat},w.heap[b]? =some (.cells cs ty z)->b≠l:=fun hb e=>h.extNe hl hb e.symm;have hlt:=gw (h.ext _ hl).2;obtain⟨a1,a2,a3,a4,a5,a6,a7,a8,a9,a10,a11,a12⟩:=h;refine⟨by rw[h1];exact a1,by rw[h1];exact a2,by rw[h1];exact a3,by rw[h1];simpa using a4,?_,?_,by rw[h2];exact a7,by rw[h1,h2];exact a8,?_,a10,by rw[h1];exact a11,?_⟩
 ·rw[h1,h3];intro b hb hm;rw[World.putObj_heap_other (by omega)];exact a5 b hb hm
 ·intro b cs hb
  obtain⟨ty,fz,hc⟩:=a6 b cs hb;exact⟨ty,fz,by rw[World.putObj_heap_other (hne hc)];exact hc⟩
 ·rw[h1,h3];intro x hx
  obtain⟨b1,b2⟩:=a9 x hx;exact⟨by rw[World.putObj_heap_other (hne b1)];exact b1,b2⟩
 ·intro p hp
  rcases h4 p hp with rfl|⟨hp,hpl⟩
  ·exact⟨ho,World.putObj_heap_same hlt⟩
  ·exact⟨(a12 p hp).1,by rw[World.putObj_heap_other hpl];exact(a12 p hp).2⟩
end
abbrev kg (w:World) (G:Gh):aC:=⟨w,G,[],[],[],none,fun _=>none⟩
def EK(G:Gh)(w:World):Prop:= ∀b cs,G b=some cs-> ∃ty fz,w.heap[b]? =some (.cells ⟨cs⟩ ty fz)
structure IL (Jv:Gh->World->Prop):Prop where
 frz: ∀G w,Jv G w->EK G w
 on: ∀G w G1 w1,Jv G w->bt (kg w G) [] G1 w1->Jv G1 w1
def Bd{G:Gh}{w:World}(h:EK G w):bt (kg w G) [] G w:=
 ⟨J,J,J,aN _,fun _ _ _=>J,h,bz.refl _,fun _ _=>J,fun o ho=>(by cases ho), .nil,aN _,fun p hp=>by cases hp⟩
structure xA (GB:Gh) (P:Program) (l:Nat) (Jv:Nat->Gh->World->Prop) (Jx:Gh->World->Prop) (E:List (List DV)):Prop where
 st: ∀k,IL (Jv k)
 sx:IL Jx
 yd: ∀k e G w ys,E[k]? =some e->bz GB G->Jv k G w->IsLs G e ys->YieldAt (FW none) 0 P l ⟨ys⟩ w fun e w'=> ∃G',bz G G'/\(e= .returned (.bool true)/\Jv (k+1) G' w'\/e= .returned (.bool false)/\Jx G' w')
structure It (GB:Gh) (P:Program) (f:FuncId) (ds:List DV) (E:List (List DV)):Prop where
 able:nv P f
 run: ∀(l:Nat) (Jv:Nat->Gh->World->Prop) (Jx:Gh->World->Prop) (GB':Gh),bz GB GB'->xA GB' P l Jv Jx E-> ∀w vs,Jv 0 GB' w->IsLs GB' ds vs->
  CallsIn (FW none) 0 P f ⟨.func (.yield l) #[] #[]::vs⟩ w fun e w'=> ∃G',bz GB' G'/\(∃v,e= .returned v)/\(Jv E.length G' w'\/Jx G' w')
structure Pl (C:aC):Prop where
 mb:C.mb=[]
 mks:C.mks=[]
 rd:C.rd=none
def Gt(P:Program)(fb:Func)(GB:Gh)(Jv:Nat->Gh->World->Prop)(Jx:Gh->World->Prop)(N:Nat):Exit->Act->World->Prop:=
 bodyPost P fb fun e w'=> ∃G',bz GB G'/\(∃v,e= .returned v)/\(Jv N G' w'\/Jx G' w')
section
variable {GB:Gh} {C:aC} {n:Nat} {Q0:Exit->Act->World->Prop} {fr fr':aw} {own own':aH} {cf':Cf} {vc:List Prop} {ops:Array Oper} {o:Oper} {r:List Oper} {K:List Kt}
def aHi[fu:Fu]{f:FuncId}{fb:Func}{c:Code}{m:Nat}{ds:List DV}{E:List (List DV)}{cf:Nat->Cf}{fr:Nat->aw}{own:Nat->aH}{vc:Nat->List Prop}(hf:prog.funcs[f]? =some fb)(hb:fb.body=some c)(hn:(fb.name== "runtime.NumGoroutine")=false)(hm:fb.ntmps=m)(hlen:Nat.ble (ds.length+1) m=true)
  (hgo: ∀l,go tt m fu.n [] (p9 0 (.v (.func (.yield l) #[] #[])::ds)) [] (.code c [])=⟨vc l,fr l,own l,cf l⟩)
  (k: ∀l Jv Jx GB',bz GB GB'->xA GB' prog l Jv Jx E-> ∀C,Pl C->Jv 0 C.G0 C.w0->ak prog GB' C m (Gt prog fb GB' Jv Jx E.length) (fr l) (own l) (cf l))
  (hv: ∀l,ah (vc l):=by intros;first|exact trivial|(simp only[ah];kernel_rfl)|(simp only[ah];omega)):It GB prog f ds E:=by
 refine⟨⟨fb,hf,hn,by simp[hb]⟩,fun l Jv Jx GB' hg H w vs hJ hvs=>?_⟩;have hlen':vs.length+1<=m:=by rw[hvs.len];simpa using hlen
 have h:=fq (GB:=GB') (C:=kg w GB') (Q0:=Gt prog fb GB' Jv Jx E.length) (hgo l) (hv l) (k l Jv Jx GB' hg H (kg w GB') ⟨J,J,J⟩ hJ);refine callsIn_wide.2 (calls_of_wp hf hb ?_);have hvs':IsLs GB' (.v (.func (.yield l) #[] #[])::ds) (.func (.yield l) #[] #[]::vs):= .cons (aF.2 J) hvs;refine xt J (h.run (fun _=>⟨none,0,0⟩) GB' [] _ w ⟨bz.refl _,Bd ((H.st 0).frz _ _ hJ),by simp;omega,J,fun k f e=>vX hvs' (fun k v hk=>?_) k f e,(fun nm B e=>by cases e),(fun nm nm' B B' e=>by cases e),fun nm p _ _ e=>by cases e⟩);obtain⟨j,rfl,hj⟩:=sC (.func (.yield l) #[] #[]::vs) 0 k v hk;have hj':=(aS.1 hj).1;rw[jZ (by simpa using hj')];simpa using hj
def bt.pl{ov:List aj}{G:Gh}{w:World}(h:bt C ov G w)(hp:Pl C):bt (kg C.w0 C.G0) [] G w:=
 (h.drop (kZ _)).ctx J J hp.mb.symm (fun p hp=>by cases hp)
def Ny{P:Program}{l:Nat}{Jv:Nat->Gh->World->Prop}{Jx:Gh->World->Prop}{E:List (List DV)}{fb:Func}{e:Exit}(H:xA GB P l Jv Jx E)(hp:Pl C)(hJ:Jv E.length C.G0 C.w0\/Jx C.G0 C.w0)(hr:fb.results.toList=[])(he:yQ e=true:=by rfl):
  ak P GB C n (Gt P fb GB Jv Jx E.length) fr own (.ex e []):=by
 refine⟨fun ρ G ov a w r=>?_⟩;have hj:Jv E.length G w\/Jx G w:=hJ.imp (fun h=>(H.st _).on _ _ _ _ h (r.h.pl hp)) fun h=>H.sx.on _ _ _ _ h (r.h.pl hp);have hr':jI P (cA a) ov fb.results.toList []:=by rw[hr];exact .nil
 cases e with
 |ret=>exact⟨r.df.trans hp.mks,_,rk hr' (cG a) r.h,G,r.gb,⟨_,J⟩,hj⟩
 |normal=>exact⟨r.df.trans hp.mks,_,rk hr' (cG a) r.h,G,r.gb,⟨_,J⟩,hj⟩
 |_=>cases he
def WK{P:Program}{fo:Operand}{args:Array Operand}{tys:Array TypeId}{vs:List Value}{a:Act}{w:World}{fr:Fr}{l:Nat}{dst:Option Nat}{ty':TypeId}{pos:String}{af:Array Edge}{gd:Option (Nat×Bool)}(hf:kw fr a)(ho:av fr fo=some (.func (.yield l) ⟨[]⟩ ⟨[]⟩))(hv:fy fr args.toList=some vs):
  (execOp a.eval ⟨dst, .call ⟨.value fo,args,tys⟩,ty',pos,af,gd⟩).run P w=(Instr.yield l ⟨vs⟩).run P w:=by
 have e:args.map a.eval=⟨vs⟩:=by apply Array.ext';simpa using yV hf hv
 simp only[execOp,resolve,bi hf ho,e,Deferred.ofValue];show(invoke (.fn (.yield l) ⟨[]⟩) (⟨[]⟩++⟨vs⟩)).run P w=_;simp only[invoke];rw[show((⟨[]⟩:Array Value)++⟨vs⟩)=⟨vs⟩ by simp]
def nn:aw->aw
 |[]=>[]
 |(k,f)::t=>match f with
  | .ov .. =>nn t
  | .rw .. =>nn t
  | .be .. =>nn t
  | .rs .. =>nn t
  | .bx .. =>nn t
  | .no=>nn t
  |f=>(k,f)::nn t
def Kn(k:Nat):aw->Bool
 |[]=>false
 |(j,_)::t=>Nat.beq j k||Kn k t
def ndF:aw->Bool
 |[]=>true
 |(k,_)::t=>!Kn k t&&ndF t
def Kr(fr:aw)(ops:Array Oper)(o:Oper):Option (Nat×List DV×Nat):=match o with
 |⟨some d, .call ⟨.value fo,args,_⟩,_,_,_,none⟩=>match aI (bc fr) fo,evDs (bc fr) args.toList with
  |some (.d (.v (.func (.yield l) ⟨[]⟩ ⟨[]⟩))),some ds=>some (l,ds,d)
  |_,_=>none
 |_=>none
def cy[fu1:Fu][fu2:Fu]{l d k:Nat}{Jv:Nat->Gh->World->Prop}{Jx:Gh->World->Prop}{E:List (List DV)}{ds:List DV}{fr1 fr2:aw}{own1 own2:aH}{cf1 cf2:Cf}{vc1 vc2:List Prop}(frd:aw)(H:xA GB prog l Jv Jx E)(hp:Pl C)(hJ:Jv k C.G0 C.w0)(ha:Kr fr ops o=some (l,ds,d))(hE:E[k]? =some ds)(hd:b8 n (some d)=true)
  (hfd:sI frd fr)(hnd:nn frd=frd)
  (g1:go tt n fu1.n [] ((d, .tt)::frd) [] (.ops ops r K)=⟨vc1,fr1,own1,cf1⟩)(g2:go tt n fu2.n [] ((d, .ff)::frd) [] (.ops ops r K)=⟨vc2,fr2,own2,cf2⟩)
  (k1: ∀C',Pl C'->Jv (k+1) C'.G0 C'.w0->ak prog GB C' n Q0 fr1 own1 cf1)(k2: ∀C',Pl C'->Jx C'.G0 C'.w0->ak prog GB C' n Q0 fr2 own2 cf2)
  (v1:ah vc1:=by first|exact trivial|(simp only[ah];kernel_rfl)|(simp only[ah];omega))(v2:ah vc2:=by first|exact trivial|(simp only[ah];kernel_rfl)|(simp only[ah];omega)):
  ak prog GB C n Q0 fr own (.ops ops (o::r) K):=by
 unfold Kr at ha;split at ha<;>try (cases ha;done)
 rename_i d0 fo args tys ty pos af;split at ha<;>cases ha;rename_i h1 h2;have nmd: ∀{f:aw},nn f=f-> ∀k x,bc f k=some x->x.nm=none:=by
  have len: ∀f:aw,(nn f).length<=f.length:=fun f=>by
   induction f with
   |nil=>exact aN _
   |cons e t ih=>obtain⟨j,x⟩:=e;cases x<;>simp only[nn,bK]<;>omega
  intro f
  induction f with
  |nil=>intro _ k x e;cases e
  |cons e t ih=>
   obtain⟨j,y⟩:=e;intro hd k x hx;rw[jm] at hx;have:=len t;split at hx
   ·cases hx
    cases y<;>first|rfl|(have:=congrArg List.length hd;simp only[nn,bK] at this;omega)
   ·refine ih ?_ k x hx
    cases y<;>first|exact(List.cons.inj hd).2|(have:=congrArg List.length hd;simp only[nn,bK] at this;omega)
 refine⟨fun ρ G ov a w rl=>?_⟩;have hJG:Jv k G w:=(H.st k).on _ _ _ _ hJ (rl.h.pl hp);obtain⟨y,hy,hy'⟩:=rl.ev h1;rw[(aF (G:=G)).1 hy'] at hy;obtain⟨vs,h3,h4⟩:=rl.evDs h2;obtain⟨fn,tmps,assign,body,hrun,hround⟩:=H.yd k ds G w vs hE rl.gb hJG h4;rw[hp.rd];simp only[wpListIn];rw[if_pos (by rfl)];refine⟨fun _ _=>trivial,?_⟩;have hs: ∀o:Oper,Oper.semAt (FW none).round a.eval o=execOp a.eval o:=fun _=>J;rw[hs,WK (cG a) hy h3,hrun];refine⟨fun h=>(by cases h),hround.mono fun e w' he=>?_⟩;obtain⟨G',hg,he⟩:=he;have rel: ∀(b:Bool) (f:FX),(∀ρ,b7 ρ G' f (.bool b))->EK G' w'->bE GB (kg w' G') n (bc ((d,f)::frd)) (bg []) ρ G' [] (a.put (some d) (.bool b)) w':=fun b f hfb hz=>by
  have pa:=rl.putA (dst:=some d) (.bool b) hd;refine⟨rl.gb.trans hg,Bd hz,pa.sz,by rw[pa.df];exact hp.mks,fun k g e=>?_,(fun nm B e=>by cases e),(fun nm nm' B B' e=>by cases e),fun nm p _ _ e=>by cases e⟩;have e':ew (bc frd) (some d) f k=some g:=by
   rw[jm] at e;simp only[ew];split at e
   ·rename_i hk;rw[if_pos hk];exact e
   ·rename_i hk;rw[if_neg hk];exact e
  refine pa.fx (fun k g _ e=>?_) (hfb ρ) k g e';obtain⟨u,h5,h6⟩:=rl.fx k g (uM hfd k g e);exact⟨u,h5,h6.up hg⟩
 rcases he with⟨rfl,hj⟩|⟨rfl,hj⟩
 ·exact(fq (GB:=GB) (C:=kg w' G') (Q0:=Q0) g1 v1 (k1 (kg w' G') ⟨J,J,J⟩ hj)).run ρ G' [] _ w' (rel true .tt (fun _=>J) ((H.st _).frz _ _ hj))
 ·exact(fq (GB:=GB) (C:=kg w' G') (Q0:=Q0) g2 v2 (k2 (kg w' G') ⟨J,J,J⟩ hj)).run ρ G' [] _ w' (rel false .ff (fun _=>J) (H.sx.frz _ _ hj))
def Px(GB:Gh)(n:Nat){X:Type}(F:X->aw)(I:X->aC->Prop)(a:Act)(w:World):Prop:=
 ∃C x ρ G ov,Pl C/\I x C/\bE GB C n (bc (F x)) (bg []) ρ G ov a w
def UX[fu:Fu]{c:Code}{X:Type}(F:X->aw)(I:X->aC->Prop)(μ:X->Nat)(x0:X){cf':X->Cf}{fr':X->aw}{own':X->aH}{vc:X->List Prop}(hp:Pl C)(hI:I x0 C)
  (hgo: ∀x,go tt n fu.n [] (F x) [] (.code c (.ag (Px GB n F (fun y C=>I y C/\μ y<μ x))::K))=⟨vc x,fr' x,own' x,cf' x⟩)
  (round: ∀x C,Pl C->I x C->ak prog GB C n Q0 (fr' x) (own' x) (cf' x))(hF:sI (F x0) fr:=by repeat (first|exact trivial|refine And.intro J ?_|refine And.intro (nF J (by first|omega|(dsimp only;omega))) ?_|refine And.intro (nF J (by simp)) ?_))
  (hv: ∀x C,I x C->ah (vc x):=by intros;first|exact trivial|(simp only[ah];kernel_rfl)|(simp only[ah];omega)|(simp only[ah,aJ,aR,aW];omega)):ak prog GB C n Q0 fr own (.code (.loop c) K):=by
 refine⟨fun ρ G ov a w r=>?_⟩;have r0:=r.mono (bk:=bg []) (uM hF) (fun k x e=>by cases e);rw[hp.rd];intro b k cs hro hb hrm;have key: ∀m a w,(∃C x ρ G ov,Pl C/\I x C/\μ x=m/\bE GB C n (bc (F x)) (bg []) ρ G ov a w)->
   ∃e a' w',cQ none prog Q0 K e a' w'/\ArrivesIn (Machine.fenced prog (FW none)) prog (lone (b.atR a (.code c:: .inLoop c::k)) cs w) b k cs e a' w':=by
  intro m
  induction m using Nat.strongRecOn with
  |_ m ih=>
   intro a w ⟨C,x,ρ,G,ov,hpc,hx,hm,hr⟩;have h1:=fq (GB:=GB) (C:=C) (Q0:=Q0) (hgo x) (hv x C hx) (round x C hpc hx);have h2:=h1.run ρ G ov a w hr;rw[hpc.rd] at h2;obtain⟨e,a₁,w₁,hq,harr⟩:=h2 b (.inLoop c::k) cs hro hb hrm
   cases e with
   |normal=>
    obtain⟨C',x',ρ',G',ov',hpc',⟨hx',hlt⟩,hr'⟩:=hq;obtain⟨e₂,a₂,w₂,hq₂,harr₂⟩:=ih (μ x') (hm▸hlt) a₁ w₁ ⟨C',x',ρ',G',ov',hpc',hx',rfl,hr'⟩;exact⟨e₂,a₂,w₂,hq₂, .of_steps (StepsIn.trans harr (.one (fenced_calm hb hrm J) stepR_inLoop)) harr₂⟩
   |exit id=>exact⟨_,a₁,w₁,hq, .pass (x:= .inLoop c) J (fun _ _=> .inl (by simp)) harr⟩
   |goto l=>exact⟨_,a₁,w₁,hq, .pass (x:= .inLoop c) J (fun _ _=> .inl (by simp)) harr⟩
   |ret=>exact⟨_,a₁,w₁,hq, .pass (x:= .inLoop c) J (fun _ _=> .inl (by simp)) harr⟩
   |panic ch=>exact⟨_,a₁,w₁,hq, .pass (x:= .inLoop c) J (fun _ _=> .inl (by simp)) harr⟩
   |outgrown=>exact⟨_,a₁,w₁,hq, .pass (x:= .inLoop c) J (fun _ _=> .inl (by simp)) harr⟩
 obtain⟨e,a',w',q,rr⟩:=key (μ x0) a w ⟨C,x0,ρ,G,ov,hp,hI,rfl,r0⟩;exact⟨e,a',w',q, .of_steps (.one (fenced_calm hb hrm J) stepR_loop) rr⟩
def SC{P:Program}{X:Type}{F:X->aw}{I:X->aC->Prop}(x:X)(hp:Pl C)(hI:I x C)(hF:sI (F x) fr:=by repeat (first|exact trivial|refine And.intro J ?_|refine And.intro (nF J (by first|omega|(dsimp only;omega))) ?_|refine And.intro (nF J (by simp)) ?_)):ak P GB C n Q0 fr own (.ex .normal (.ag (Px GB n F I)::K)):=
 ⟨fun ρ G ov a w r=>⟨C,x,ρ,G,ov,hp,hI,r.mono (uM hF) (fun k x e=>by cases e)⟩⟩
end
section
variable {GB:Gh} {C:aC} {n:Nat} {Q0:Exit->Act->World->Prop} {fr fr':aw} {own own':aH} {cf cf':Cf} {vc:List Prop} {ops:Array Oper} {r:List Oper} {K:List Kt}
def Yc{x y:Nat}{Φ:Act->World->Prop}{R:xU}(hfx:C.fx=fun _=>none)(h:wR x y fr own=some R)(hk:SX GB C n (bc R.fr) (bg R.own) Φ):SX GB C n (bc fr) (bg own) Φ:=by
 unfold wR at h;rw[cond_eq_ite] at h;split at h<;>try (cases h;done)
 rename_i hb;have hxy:x≠y:=fun e=>hb (by subst e;simp);rw[FO,Gf] at h;cases h;refine⟨fun ρ G ov a w r=>hk.run (fun k=>if k=y then ρ x else ρ k) G ov a w ?_⟩;have inv: ∀m B,bg (own.map fun e=>(bif Nat.beq e.1 y then x else bif Nat.beq e.1 x then y else e.1,bif Nat.beq e.1 y then none else pE x y e.2)) m=some B-> ∃m0 B0,bg own m0=some B0/\pE x y (some B0)=some B/\(m=y/\m0=x\/m≠y/\m≠x/\m0=m):=fun m B e=>by
  rw[EJ hxy] at e;split at e
  ·cases e
  ·rename_i hm
   split at e
   ·cases hl:bg own x with
    |none=>rw[hl] at e;cases e
    |some B0=>rw[hl] at e;exact⟨x,B0,hl,e, .inl ⟨by assumption,J⟩⟩
   ·cases hl:bg own m with
    |none=>rw[hl] at e;cases e
    |some B0=>rw[hl] at e;exact⟨m,B0,hl,e, .inr ⟨by assumption,hm,J⟩⟩
 have rho: ∀m m0,(m=y/\m0=x\/m≠y/\m≠x/\m0=m)->(fun k=>if k=y then ρ x else ρ k) m=ρ m0:=fun m m0 h=>by
  rcases h with⟨h1,h2⟩|⟨h1,_,h2⟩
  ·subst h1 h2;simp
  ·subst h2;exact if_neg h1
 refine⟨r.gb,r.h,r.sz,r.df,fun k f e=>?_,fun m B e=>?_,fun m m' B B' e e' hne=>?_,fun m p _ _ e=>by rw[hfx] at e;cases e⟩
 ·rw[Ba] at e
  cases hf:bc fr k with
  |none=>rw[hf] at e;cases e
  |some g=>
   rw[hf] at e;cases e;obtain⟨v,h1,h2⟩:=r.fx k g hf;exact⟨v,h1,DU hxy h2⟩
 ·obtain⟨m0,B0,h1,h2,h3⟩:=inv m B e
  obtain⟨os,h4,h5⟩:=r.bx m0 B0 h1;refine⟨os,?_,h5⟩;have hr:=rho m m0 h3
  cases B0 with
  |b=>cases h2;obtain⟨vs,q1,q2,q3,q4⟩:=h4;exact⟨vs,by rw[hr];exact q1,q2,q3,q4⟩
  |c=>cases h2;obtain⟨vs,q1,q2,q3,q4,q5⟩:=h4;exact⟨vs,by rw[hr];exact q1,q2,q3,q4,by rw[hr];exact q5⟩
  |o ty cs lo=>cases h2;obtain⟨b,q,q1,q2,q3⟩:=h4;exact⟨b,q,by rw[hr];exact q1,q2,Fg hxy q3⟩
 ·obtain⟨m0,B0,h1,_,h3⟩:=inv m B e
  obtain⟨m1,B1,h4,_,h6⟩:=inv m' B' e';have q1:=rho m m0 h3;have q2:=rho m' m1 h6;simp only at q1 q2;rw[q1,q2];refine r.dj m0 m1 B0 B1 h1 h4 fun e=>?_;rcases h3 with⟨h7,h8⟩|⟨h7,h8,h9⟩<;>rcases h6 with⟨g7,g8⟩|⟨g7,g8,g9⟩
  ·exact hne (h7.trans g7.symm)
  ·exact g8 (by rw[<-g9,<-e,h8])
  ·exact h8 (by rw[<-h9,e,g8])
  ·exact hne (by rw[<-h9,e,g9])
def GA{P:Program}(x y:Nat){fr1:aw}{own1:aH}{c:Code}(hfx:C.fx=fun _=>none)(h:wR x y fr own=some ⟨fr1,own1⟩)(k:ak P GB C n Q0 fr1 own1 (.code c K)):ak P GB C n Q0 fr own (.code c K):=Yc hfx h k
def Hi(P:Program)(fb:Func)(R:Ending->World->Prop):Exit->Act->World->Prop:=bodyPostM (FW none) 0 P fb R
structure Ac (C:aC):Prop where
 mks:C.mks=[]
 rd:C.rd=none
 fx:C.fx=fun _=>none
def Mc[fu:Fu]{f:FuncId}{fb:Func}{c:Code}{m:Nat}{ds:List DV}{rv:DV}(hf:prog.funcs[f]? =some fb)(hb:fb.body=some c)(hn:(fb.name== "runtime.NumGoroutine")=false)(hm:fb.ntmps=m)(hlen:Nat.ble ds.length m=true)
  (hgo:go tt m fu.n [] (p9 0 ds) [] (.code c [])=⟨vc,fr,own,cf⟩)(k: ∀C:aC,Ac C->ak prog GB C m (Hi prog fb (i7 C (fun v G'=>Is G' rv v))) fr own cf)
  (hv:ah vc:=by first|exact trivial|(simp only[ah];kernel_rfl)|(simp only[ah];omega)|(simp only[ah,aJ,aR,aW];omega)):PF GB prog f ds rv:=by
 intro G vs hg hvs;refine⟨⟨fb,hf,hn,by simp[hb]⟩,fun w hw=>?_⟩;have hlen':vs.length<=m:=by rw[hvs.len];simpa using hlen
 have h:=fq (GB:=GB) (C:=kg w G) (Q0:=Hi prog fb (i7 (kg w G) (fun v G'=>Is G' rv v))) hgo hv (k (kg w G) ⟨J,J,J⟩);refine(callsIn_wide (n:=0)).1 (callsIn_of_wp_marks (F:=FW none) (n:=0) hf hb trivial ?_);refine h.run (fun _=>⟨none,0,0⟩) G [] _ w ⟨hg,Bd hw,by simp;omega,J,fun k f e=>vX hvs (fun k v hk=>?_) k f e,(fun nm B e=>by cases e),(fun nm nm' B B' e=>by cases e),fun nm p _ _ e=>by cases e⟩;obtain⟨j,rfl,hj⟩:=sC vs 0 k v hk;have hj':=(aS.1 hj).1;rw[jZ (by simpa using hj')];simpa using hj
def aC.mk3(C:aC)(D:Nat):aC:={C with ex:=(D, .deferred (some []))::C.ex,mks:=[{target:= .collected D,args:= #[]}]}
def Jk{fb:Func}{e:Exit}{ds:List DV}{rv:DV}{D:Nat}(hD:C.w0.heap.size<=D)(hx: ∀p∈C.ex,p.1≠D)(hr:px tt fr own fb.results.toList=some ds)(hd:iw ds=rv)(he:yQ e=true:=by rfl):ak prog GB (C.mk3 D) n (Hi prog fb (i7 C (fun v G'=>Is G' rv v))) fr own (.ex e []):=by
 refine⟨fun ρ G ov a w r=>?_⟩;obtain⟨vs,h1,h2⟩:=yD r hr;have hk:Is G rv (gu vs):=hd▸xK h2;have hex:((D,Obj.deferred (some [])):Nat×Obj)∈(C.mk3 D).ex:=aQ;have h3:bt C ov G (w.putObj D (.deferred none)):=r.h.putx hex hD (fun _ _ _ h=>by cases h) J J J fun p hp=> .inr ⟨aZ _ hp,hx p hp⟩;have hres:=rk (C:=C) (G:=G) (own:=ov) (w:=w.putObj D (.deferred none)) h1 (cG a) h3;have key:LeavesInM (FW none) 0 prog fb a.tmps (i7 C (fun v G'=>Is G' rv v)) a.defers .returning w:=by
  rw[r.df];exact⟨by simp, .inl ⟨D,_,J,run_takeDeferred (r.h.ext _ hex).2,_,hres,_,G,J,h3.drop (kZ _),hk⟩⟩
 cases e with
 |ret=>exact key
 |normal=>exact key
 |_=>cases he
end
section
variable {GB:Gh} {C:aC} {n:Nat} {Q0:Exit->Act->World->Prop} {fr fr':aw} {own own':aH} {cf cf':Cf} {vc:List Prop} {ops:Array Oper} {r:List Oper} {K:List Kt}
def bE.later{lk:LK}{bk:BM}{ρ:NE}{G G1:Gh}{ov:List aj}{a:Act}{w w1:World}(r:bE GB C n lk bk ρ G ov a w)(h:bt (kg w G) [] G1 w1):bE GB C n lk bk ρ G1 ov a w1:=
 ⟨r.gb.trans h.gle,r.h.called h,r.sz,r.df,fun k f e=>by obtain⟨y,h1,h2⟩:=r.fx k f e;exact⟨y,h1,h2.up h.gle⟩,fun nm B e=>by obtain⟨os,h1,h2⟩:=r.bx nm B e;exact⟨os,h1.up h.gle,h2⟩,r.dj,r.fxd⟩
def xY:List Nat->List DV->aw->aw
 |p::ps,d::ds,fr=>xY ps ds ((p, .d d)::fr)
 |_,_,fr=>fr
def MK{ρ:NE}{G:Gh}: ∀{ps:List Nat} {ds:List DV} {ys tm:List Value} {fr:aw},IsLs G ds ys->(∀p∈ps,p<tm.length)->(∀k f,bc fr k=some f-> ∃y,tm[k]? =some y/\b7 ρ G f y)->
  ((ps.zip ys).foldl (fun t e=>t.set e.1 e.2) tm).length=tm.length/\ ∀k f,bc (xY ps ds fr) k=some f-> ∃y,((ps.zip ys).foldl (fun t e=>t.set e.1 e.2) tm)[k]? =some y/\b7 ρ G f y
 |[],ds,ys,tm,fr,_,_,h=>⟨J,fun k f e=>h k f (by cases ds<;>exact e)⟩
 |p::ps,[],ys,tm,fr,hd,_,h=>by rw[cB.1 hd];exact⟨J,fun k f e=>h k f e⟩
 |p::ps,d::ds,ys,tm,fr,hd,hp,h=>by
  obtain⟨y,m,rfl,h1,h2⟩:=aO.1 hd;simp only[List.zip_cons_cons,fU,xY];have:=MK (ps:=ps) (ds:=ds) (ys:=m) (tm:=tm.set p y) (fr:=(p, .d d)::fr) h2 (fun q hq=>by rw[aR];exact hp q (aZ _ hq)) fun k f e=>by
   rw[jm] at e;split at e
   ·rename_i hk;subst hk;cases e
    exact⟨y,by rw[nW];rw[if_pos J,if_pos (hp k aQ)],h1⟩
   ·rename_i hk
    obtain⟨u,h3,h4⟩:=h k f e;exact⟨u,by rw[nW];rw[if_neg (fun e=>hk e.symm)];exact h3,h4⟩
  rw[aR] at this;exact this
def L0: ∀(l:List (Nat×Value)) (t:Array Value),(l.foldl (fun t e=>t.setIfInBounds e.1 e.2) t).toList=l.foldl (fun t e=>t.set e.1 e.2) t.toList
 |[],t=>rfl
 |e::l,t=>by simp only[fU];rw[L0 l];simp
def Fk:FX->Bool
 | .ov nm _=>Nat.ble 2000000 nm
 | .rw _=>false
 | .be .. =>false
 | .rs .. =>false
 | .bx .. =>false
 |_=>true
def Am:aw->Bool
 |[]=>true
 |(_,f)::t=>Fk f&&Am t
def My: ∀{fr:aw},Am fr=true-> ∀k f,bc fr k=some f->Fk f=true
 |[],_,k,f,e=>by cases e
 |(j,g)::t,h,k,f,e=>by
  simp only[Am,aL] at h;rw[jm] at e;split at e
  ·cases e;exact h.1
  ·exact My h.2 k f e
def KU(GB:Gh)(C:aC)(n:Nat)(fr:aw)(own:aH)(a:Act)(w:World):Prop:= ∃ρ G ov,bE GB C n (bc fr) (bg own) ρ G ov a w
def atR{P:Program}:ak P GB C n Q0 fr own (.ex .normal (.ag (KU GB C n fr own)::K)):=⟨fun ρ G ov a w r=>⟨ρ,G,ov,r⟩⟩
def RQ(GB:Gh)(C:aC)(n:Nat)(p:Prop)(O:aH){σ:Type}(S:σ->aH)(q:σ->Prop):Exit->Act->World->Prop
 | .normal,a,w=>p/\ ∃ρ G ov,bE GB C n (fun _=>none) (bg O) ρ G ov a w
 | .ret,a,w=> ∃s,q s/\ ∃ρ G ov,bE GB C n (fun _=>none) (bg (S s)) ρ G ov a w
 |_,_,_=>False
def rq{P:Program}{p:Prop}{O:aH}{σ:Type}{S:σ->aH}{q:σ->Prop}(hp:p)(hO:wi O own:=by repeat (first|exact trivial|refine And.intro J ?_)):ak P GB C n (RQ GB C n p O S q) fr own (.ex .normal []):=
 ⟨fun ρ G ov a w r=>⟨hp,ρ,G,ov,r.mono (fun k x e=>by cases e) (ug hO)⟩⟩
def On{P:Program}{g:Operand}{ps:Array Nat}{assign body:Code}{gf:FuncId}{caps:List Value}{ds:List DV}{E:List (List DV)}{σ:Type}(I:Nat->aH)(p:Nat->Prop)(S:σ->aH)(q:σ->Prop)(fr1:aw)
  (h0:Ac C)(hg:aI (bc fr) g=some (.d (.v (.func (.func gf) ⟨[]⟩ ⟨caps⟩))))(hIt:It GB P gf ds E)(hc:IsLs GB ds caps)
  (hfr:sI fr1 fr)(hfix:Am fr1=true)(hO:wi (I 0) own)(hp:p 0)(hps: ∀e∈E,e.length=ps.size)(hpn:ps.toList.all (fun k=>Nat.blt k n)=true)(hn2:Nat.ble n 2000000=true)
  (round: ∀k e GB',E[k]? =some e->bz GB GB'->p k-> ∃fr2 own2,(∀C2,ak P GB' C2 n (fun _ _ _=>False) (xY ps.toList e fr1) (I k) (.code assign [.ag (KU GB' C2 n fr2 own2)]))/\ ∀C2,ak P GB' C2 n (RQ GB' C2 n (p (k+1)) (I (k+1)) S q) fr2 own2 (.code body []))
  (after: ∀D,C.w0.heap.size<=D->(∀x∈C.ex,x.1≠D)->p E.length->ak P GB (C.mk3 D) n Q0 fr1 (I E.length) (.ex .normal K))
  (early: ∀D s,C.w0.heap.size<=D->(∀x∈C.ex,x.1≠D)->q s->ak P GB (C.mk3 D) n Q0 fr1 (S s) (.ex .ret K)):
  ak P GB C n Q0 fr own (.code (.rangeFunc g ps assign body) K):=by
 refine⟨fun ρ0 G0 ov0 a w r=>?_⟩;rw[h0.rd];refine wpIn_rangeFunc fun fn _=>?_;obtain⟨y,hy,hy'⟩:=r.ev hg;rw[(aF (G:=G0)).1 hy'] at hy;have hev:=bi (cG a) hy
 let D:=w.heap.size
 let l:=w.heap.size+1
 let rec_:Loop:={state:= .ready,pending:=none,fn,tmps:=a.tmps,params:=ps,assign,body,defers:=D}
 let w2:=(w.alloc (.deferred (some []))).alloc (.loop rec_)
 let mk:Deferred:={target:= .collected D,args:= #[]}
 let fx1:Nat->Option Addr:=fun nm=>(ρ0 nm).a
 let C1:Loop->aC:=fun rc=>{C with ex:=(l, .loop rc)::(D, .deferred (some []))::C.ex,mks:=[mk],fx:=fx1}
 let a0:Act:={a with defers:=[mk]++a.defers}
 have hszD:C.w0.heap.size<=D:=r.h.size;have hlt: ∀x∈C.ex,x.1<D:=fun x hx=>gw (r.h.ext x hx).2;have hszl:C.w0.heap.size<=l:=Nat.le_succ_of_le hszD;have hnl: ∀x∈((D,Obj.deferred (some []))::C.ex:List (Nat×Obj)),x.1≠l:=fun x hx=>by
  rcases aU.1 hx with rfl|hx
  ·show D≠D+1;omega
  ·have:=hlt x hx;show x.1≠D+1;omega
 have ncl: ∀rc:Loop,EB (.loop rc):=fun rc _ _ _ h=>by cases h
 -- the slots of the loop, at any time
 have stat: ∀(ρ':NE) (G':Gh),bz G0 G'->(∀nm p,n<=nm->2000000<=nm->fx1 nm=some p->(ρ' nm).a=some p)-> ∀k f,bc fr1 k=some f-> ∃y,a.tmps[k]? =some y/\b7 ρ' G' f y:=by
  intro ρ' G' hg' hf k f e;obtain⟨y,h1,h2⟩:=r.fx k f (uM hfr k f e);refine⟨y,h1,?_⟩;have hx:=My hfix k f e
  cases f with
  |ov nm off=>
   obtain⟨b,h3,h4⟩:=h2;have h5:2000000<=nm:=by simpa[Fk] using hx
   have h6:n<=2000000:=by simpa using hn2
   exact⟨b,hf nm _ (by omega) h5 h3,h4⟩
  |rw _=>cases hx
  |be _ _ _ _=>cases hx
  |rs _ _ _ _=>cases hx
  |bx _ _ _ _=>cases hx
  |_=>exact(h2.up hg').ren fun _ h=>by cases h
 let Jv:Nat->Gh->World->Prop:=fun k G' w'=>p k/\ ∃ρ ov,bE G0 (C1 rec_) n (bc fr1) (bg (I k)) ρ G' ov a0 w'
 let rcx:Loop:={rec_ with state:= .done,pending:=some .ret}
 let Jx:Gh->World->Prop:=fun G' w'=> ∃s,q s/\ ∃ρ ov,bE G0 (C1 rcx) n (bc fr1) (bg (S s)) ρ G' ov a0 w'
 have hsz0:a0.tmps.size=n:=r.sz;have hdf0:a0.defers=[mk]:=by show [mk]++a.defers=_;rw[r.df,h0.mks];rfl
 have H:xA G0 P l Jv Jx E:=by
  refine⟨fun k=>⟨fun G' w' ⟨_,ρ,ov,h⟩=>h.h.sub,fun G' w' G1 w1 ⟨h1,ρ,ov,h⟩ k=>⟨h1,ρ,ov,h.later k⟩⟩,⟨fun G' w' ⟨_,_,ρ,ov,h⟩=>h.h.sub,fun G' w' G1 w1 ⟨s,h1,ρ,ov,h⟩ k=>⟨s,h1,ρ,ov,h.later k⟩⟩,?_⟩;intro k e G' w' ys hE hgg ⟨hpk,ρ,ov,r1⟩ hys;have hrec:w'.heap[l]? =some (.loop rec_):=(r1.h.ext _ aQ).2;have hel:=hps e (bU hE);obtain⟨fr2,own2,hA,hB⟩:=round k e G' hE (r.gb.trans hgg) hpk;refine⟨_,_,_,_,run_yield hrec (by show ys.length=ps.size;rw[hys.len,hel]),roundIn_of_wpIn trivial ?_⟩
  let C2:aC:={C1 rec_ with mks:=[],rd:=some l}
  let tm:Array Value:=(ps.zip (⟨ys⟩:Array Value)).foldl (fun tmps (t,a)=>tmps.setIfInBounds t a) a.tmps
  have htm:tm.toList=(ps.toList.zip ys).foldl (fun t e=>t.set e.1 e.2) a.tmps.toList:=by
   simp only[tm];rw[<-qR,Array.toList_zip];exact L0 _ _
  have hfx0:=r1.fx;obtain⟨q1,q2⟩:=MK (ρ:=ρ) (ps:=ps.toList) (tm:=a.tmps.toList) (fr:=fr1) hys (fun k hk=>by have:=eY.1 hpn k hk;rw[iY,r.sz];simpa[mK] using this) fun k f e=>by
   obtain⟨y,h1,h2⟩:=hfx0 k f e;exact⟨y,by simpa using h1,h2⟩
  have hR0:bE G' C2 n (bc (xY ps.toList e fr1)) (bg (I k)) ρ G' ov {tmps:=tm,defers:=[]} w':=by
   refine⟨bz.refl _,r1.h.ctx J J J (fun _ h=>h),?_,J,fun k f e=>?_,r1.bx,r1.dj,r1.fxd⟩
   ·show tm.size=n
    rw[<-iY,htm,q1,iY,r.sz]
   ·obtain⟨y,h1,h2⟩:=q2 k f e
    exact⟨y,by rw[<-htm] at h1;simpa using h1,h2⟩
  refine wpIn_mono ((hA C2).run ρ G' ov _ w' hR0) fun ex a1 w1 hex=>?_
  cases ex with
  |normal=>
   obtain⟨ρ2,G2,ov2,r2⟩:=hex;have hrec1:w1.heap[l]? =some (.loop rec_):=(r2.h.ext _ aQ).2;refine⟨_,run_beginRound hrec1 J,?_⟩
   let busy:Loop:={rec_ with state:= .busy}
   let C3:aC:={C1 busy with mks:=[],rd:=some l}
   have h3:bt C3 ov2 G2 (w1.putObj l (.loop busy)):=r2.h.putx aQ hszl (ncl _) J J J fun x hx=>by
    rcases aU.1 hx with rfl|hx
    ·exact .inl J
    ·exact .inr ⟨aZ _ hx,hnl x hx⟩
   refine wpIn_mono ((hB C3).run ρ2 G2 ov2 a1 (w1.putObj l (.loop busy)) ⟨r2.gb,h3,r2.sz,r2.df,r2.fx,r2.bx,r2.dj,r2.fxd⟩) fun ex a2 w3 hex=>?_
   cases ex with
   |normal=>
    obtain⟨hp1,ρ3,G3,ov3,r3⟩:=hex;have hrec3:w3.heap[l]? =some (.loop busy):=(r3.h.ext _ aQ).2;refine⟨_,_,run_endRound none hrec3,G3,r3.gb, .inl ⟨J,hp1,ρ3,ov3,hgg.trans r3.gb,?_,hsz0,hdf0,stat ρ3 G3 (hgg.trans r3.gb) r3.fxd,r3.bx,r3.dj,r3.fxd⟩⟩;exact r3.h.putx aQ hszl (ncl _) J J J fun x hx=>by
     rcases aU.1 hx with rfl|hx
     ·exact .inl J
     ·exact .inr ⟨aZ _ hx,hnl x hx⟩
   |ret=>
    obtain⟨s,hq,ρ3,G3,ov3,r3⟩:=hex;have hrec3:w3.heap[l]? =some (.loop busy):=(r3.h.ext _ aQ).2;refine⟨_,_,run_endRound (some .ret) hrec3,G3,r3.gb, .inr ⟨J,s,hq,ρ3,ov3,hgg.trans r3.gb,?_,hsz0,hdf0,stat ρ3 G3 (hgg.trans r3.gb) r3.fxd,r3.bx,r3.dj,r3.fxd⟩⟩;exact r3.h.putx aQ hszl (ncl _) J J J fun x hx=>by
     rcases aU.1 hx with rfl|hx
     ·exact .inl J
     ·exact .inr ⟨aZ _ hx,hnl x hx⟩
   |exit id=>exact hex.elim
   |goto t=>exact hex.elim
   |panic ch=>exact hex.elim
   |outgrown=>exact hex.elim
  |exit id=>exact hex.elim
  |goto t=>exact hex.elim
  |ret=>exact hex.elim
  |panic ch=>exact hex.elim
  |outgrown=>exact hex.elim
 have hC1:bt (C1 rec_) ov0 G0 w2:=by
  have h1:bt {C with ex:=(D, .deferred (some []))::C.ex} ov0 G0 (w.alloc (.deferred (some []))):=r.h.addx (fun _ _ _ h=>by cases h) J J J fun x hx=>aU.1 hx;refine h1.addx (ncl rec_) J J J fun x hx=>?_;rcases aU.1 hx with rfl|hx
  ·exact .inl (by show((l,Obj.loop rec_):Nat×Obj)=_;rw[show(w.alloc (.deferred (some []))).heap.size=w.heap.size+1 by simp])
  ·exact .inr hx
 have hJ0:Jv 0 G0 w2:=⟨hp,ρ0,ov0,bz.refl _,hC1,hsz0,hdf0,stat ρ0 G0 (bz.refl _) (fun _ _ _ _ h=>h),fun nm B e=>r.bx nm B (ug hO nm B e),fun nm nm' B B' e e'=>r.dj nm nm' B B' (ug hO nm B e) (ug hO nm' B' e'),fun _ _ _ _ h=>h⟩;refine⟨l,[mk],w2,{target:= .fn (.func gf) ⟨caps⟩,args:= #[.func (.yield l) #[] #[]]},w2,gf, #[.func (.yield l) #[] #[]]++⟨caps⟩,w2,run_enterLoop_outer fn a.tmps ps assign body,?_,fun _ _=>trivial,?_,fun h=>(by cases h),?_⟩
 ·have he:(⟨[]⟩:Array Value)++Array.map a.eval #[.const (.func (.yield l) #[] #[])]= #[.func (.yield l) #[] #[]]:=by
   apply Array.ext';rw[Array.toList_append,oQ];rfl
  simp only[resolve,hev,Deferred.ofValue];rw[he];rfl
 ·simp only[invoke]
  exact zo hIt.able _ _
 refine CallsIn.mono (show CallsIn (FW none) 0 P gf _ w2 _ from by
  have:=hIt.run l Jv Jx G0 r.gb H w2 caps hJ0 (hc.up r.gb);rw[show(#[Value.func (.yield l) #[] #[]]++(⟨caps⟩:Array Value))=⟨.func (.yield l) #[] #[]::caps⟩ by simp];exact this) fun e w3 he=>?_
 obtain⟨G',hgg,⟨v,rfl⟩,hj⟩:=he;have fin: ∀(rc:Loop) (O:aH) (ρ:NE) (ov:List aj),bE G0 (C1 rc) n (bc fr1) (bg O) ρ G' ov a0 w3->bE GB (C.mk3 D) n (bc fr1) (bg O) ρ G' ov a0 (w3.putObj l (.loop {rc with state:= .exhausted})):=fun rc O ρ ov r3=>
  ⟨r.gb.trans r3.gb,r3.h.putx aQ hszl (ncl _) J J J fun x hx=> .inr ⟨aZ _ hx,hnl x hx⟩,r3.sz,r3.df,r3.fx,r3.bx,r3.dj,fun nm p _ _ e=>by rw[show(C.mk3 D).fx=fun _=>none from h0.fx] at e;cases e⟩
 have hxD: ∀x∈C.ex,x.1≠D:=fun x hx e=>by have:=hlt x hx;omega
 rcases hj with⟨hpn,ρ,ov,r3⟩|⟨s,hq,ρ,ov,r3⟩
 ·have hrec3:w3.heap[l]? =some (.loop rec_):=(r3.h.ext _ aQ).2
  have:=(after D hszD hxD hpn).run ρ G' ov a0 _ (fin rec_ _ ρ ov r3);rw[show(C.mk3 D).rd=none from h0.rd] at this;exact⟨_,_,run_endLoop hrec3 (by simp[rec_]),this⟩
 ·have hrec3:w3.heap[l]? =some (.loop rcx):=(r3.h.ext _ aQ).2
  have:=(early D s hszD hxD hq).run ρ G' ov a0 _ (fin rcx _ ρ ov r3);rw[show(C.mk3 D).rd=none from h0.rd] at this;exact⟨_,_,run_endLoop hrec3 (by simp[rcx]),wpIn_ret this⟩
end
section
variable {GB:Gh} {C:aC} {n:Nat} {Q0:Exit->Act->World->Prop} {fr fr':aw} {own own':aH} {cf cf':Cf} {vc:List Prop} {ops:Array Oper} {o:Oper} {r:List Oper} {K:List Kt}
def Dy(GB:Gh)(P:Program)(f:FuncId)(ds:List DV)(gf:FuncId)(dp:DV):Prop:=
 ∀G vs,bz GB G->IsLs G ds vs->Fn P f vs G fun v G'=> ∃pv,v= .func (.func gf) ⟨[]⟩ ⟨[pv]⟩/\Is G' dp pv
def zA(gf:FuncId)(dp:DV)(v:Value)(G':Gh):Prop:= ∃pv,v= .func (.func gf) ⟨[]⟩ ⟨[pv]⟩/\Is G' dp pv
def Uk[fu:Fu]{f gf:FuncId}{fb:Func}{c:Code}{m:Nat}{ds:List DV}{dp:DV}(hf:prog.funcs[f]? =some fb)(hb:fb.body=some c)(hn:(fb.name== "runtime.NumGoroutine")=false)(hm:fb.ntmps=m)(hlen:Nat.ble ds.length m=true)
  (hgo:go tt m fu.n [] (p9 0 ds) [] (.code c [])=⟨vc,fr,own,cf⟩)(k: ∀C:aC,ak prog GB C m (f7 C prog fb (i7 C (zA gf dp))) fr own cf)
  (hv:ah vc:=by first|exact trivial|(simp only[ah];kernel_rfl)|(simp only[ah];omega)):Dy GB prog f ds gf dp:=by
 intro G vs hg hvs;refine Fn.introR hf hb hn hm (by rw[hvs.len];exact hlen) fun C _ _ hrd hfx=>?_;intro a w rl;refine xt hrd ?_;have h:=fq (GB:=GB) (C:=C) (Q0:=f7 C prog fb (i7 C (zA gf dp))) hgo hv (k C);exact h.run (fun _=>⟨none,0,0⟩) G [] a w ⟨hg,rl.h,rl.sz,rl.df,(fun k f e=>vX hvs rl.fr k f e),(fun nm B e=>by cases e),(fun nm nm' B B' e=>by cases e),fun nm p _ _ e=>by rw[hfx] at e;cases e⟩
def Ty{P:Program}{fb:Func}{gf:FuncId}{dp:DV}{pv:Value}{t:Nat}(hr:fb.results.toList=[.tmp t])(hl:bc fr t=some (.d (.v (.func (.func gf) ⟨[]⟩ ⟨[pv]⟩))))(hp:Is GB dp pv):ak P GB C n (f7 C P fb (i7 C (zA gf dp))) fr own (.ex .ret []):=by
 refine⟨fun ρ G ov a w r=>?_⟩;obtain⟨y,hy,hy'⟩:=r.ev (x:= .tmp t) hl;rw[(aF (G:=G)).1 hy'] at hy;exact zD (C:=C) (n:=n) (fr:=cA a) (own:=ov) (G:=G) (K:=zA gf dp) (by rw[hr];exact .tmp hy .nil) ⟨pv,J,hp.up r.gb⟩ a w ⟨r.h,r.sz,cG a,r.df⟩
def Mz(fr:aw)(cf:Cf):Option (FuncId×Value):=match cb fr cf with
 |some ⟨_, .makeFunc (.func f) ⟨[]⟩ ⟨[x]⟩,_,_,_,_⟩=>match aI (bw fr cf) x with
  |some (.d (.v pv))=>some (f,pv)
  |_=>none
 |_=>none
def V4[fu:Fu]{f:FuncId}{pv:Value}(h:Mz fr cf=some (f,pv))(hgo:cD tt n fu.n fr own cf (.d (.v (.func (.func f) ⟨[]⟩ ⟨[pv]⟩))) [] []=⟨vc,fr',own',cf'⟩)(k:ak prog GB C n Q0 fr' own' cf')
  (hv:ah vc:=by first|exact trivial|(simp only[ah];kernel_rfl)|(simp only[ah];omega)):ak prog GB C n Q0 fr own cf:=by
 unfold Mz at h;split at h<;>try (cases h;done)
 rename_i hh;split at h<;>cases h;rename_i hx;exact us hh (.x1 hx fun ρ G ov a w y _ r h1 h2=>by
  rw[(aF (G:=G)).1 h2] at h1;exact⟨_,(aF (G:=G)).2 J,xQ (l1:=[]) (l2:=[pv]) J (by simp[h1])⟩) hgo hv k
def JY[fu:Fu]{f gf:FuncId}{ds:List DV}{dp:DV}{d:Nat}{fr':Value->aw}{own':Value->aH}{cf':Value->Cf}{vc:Value->List Prop}(ha:AF fr (.ops ops (o::r) K)=some (f,ds))(hdst:o.dst=some d)(hd:b8 n (some d)=true)(hF:Dy GB prog f ds gf dp)
  (hgo: ∀pv,go tt n fu.n [] ((d, .d (.v (.func (.func gf) ⟨[]⟩ ⟨[pv]⟩)))::fr) own (.ops ops r K)=⟨vc pv,fr' pv,own' pv,cf' pv⟩)
  (k: ∀GB' pv,bz GB GB'->Is GB' dp pv->ak prog GB' C n Q0 (fr' pv) (own' pv) (cf' pv))
  (hv: ∀pv,ah (vc pv):=by intros;first|exact trivial|(simp only[ah];kernel_rfl)|(simp only[ah];omega)):ak prog GB C n Q0 fr own (.ops ops (o::r) K):=by
 unfold AF at ha;split at ha<;>try (cases ha;done)
 rename_i fo args tys ty pos af gd hh;obtain⟨ops0,h1,h2⟩:=EQ hh
 cases h1
 cases hdst
 obtain⟨c1,c2⟩:=zN ha;refine⟨fun ρ G ov a w rl=>?_⟩;obtain⟨y,hy,hy'⟩:=rl.ev c1;rw[(aF (G:=G)).1 hy'] at hy;obtain⟨vs,h3,h4⟩:=rl.evDs c2;simp only[wpListIn];rw[if_pos (Ar h2 ρ G ov a w rl)];refine En (K':=fun a' w'=>a'.defers=C.mks/\wpListIn (FW C.rd) 0 prog ops (cQ C.rd prog Q0 K) r a' w') (fun Q=>?_) (fun a' w' q=>⟨q.1.trans rl.df.symm,q.2⟩);refine zC hy h3 (hF G vs rl.gb h4) hd (fun v G' hG hK a' w' rel=>?_) a w Q ⟨rl.h,rl.sz,cG a,rl.df⟩;obtain⟨pv,rfl,hpv⟩:=hK;refine⟨rel.df,?_⟩;have:=fq (GB:=G') (C:=C) (Q0:=Q0) (hgo pv) (hv pv) (k G' pv (rl.gb.trans hG.le) hpv);refine this.run ρ G' ov a' w' ⟨bz.refl _,rel.h,rel.sz,rel.df,fun j g e=>?_,fun nm B e=>by obtain⟨os,h5,h6⟩:=rl.bx nm B e;exact⟨os,h5.up hG.le,h6⟩,rl.dj,rl.fxd⟩;have e':ew (bc fr) (some d) (.d (.v (.func (.func gf) ⟨[]⟩ ⟨[pv]⟩))) j=some g:=by
  rw[jm] at e;simp only[ew];split at e
  ·rename_i hk;rw[if_pos hk];exact e
  ·rename_i hk;rw[if_neg hk];exact e
 exact(jj rel).fx (fun k g _ e=>by obtain⟨u,h5,h6⟩:=rl.fx k g e;exact⟨u,h5,h6.up hG.le⟩) (show b7 ρ G' (.d (.v (.func (.func gf) ⟨[]⟩ ⟨[pv]⟩))) _ from(aF (G:=G')).2 rfl) j g e'
end
section
variable {GB:Gh} {C:aC} {n:Nat} {Q0:Exit->Act->World->Prop} {fr fr':aw} {own own':aH} {cf cf':Cf} {vc:List Prop}
def M3(fr:aw)(cf:Cf):Option Nat:=match cb fr cf with
 |some ⟨_, .load t (.global g),_,_,_,_⟩=>(match dh tt t with
  |some i=>match i.ag with
   |some none=>some g
   |_=>none
  |none=>none)
 |_=>none
def gl[fu:Fu]{g:Nat}{v:Value}(h:M3 fr cf=some g)(hg:GB g=some [v])(hgo:cD tt n fu.n fr own cf (.d (.v v)) [] []=⟨vc,fr',own',cf'⟩)(k:ak prog GB C n Q0 fr' own' cf')
  (hv:ah vc:=by first|exact trivial|(simp only[ah];kernel_rfl)|(simp only[ah];omega)):ak prog GB C n Q0 fr own cf:=by
 unfold M3 at h;split at h<;>try (cases h;done)
 rename_i hh;split at h<;>try (cases h;done)
 rename_i i hT;split at h<;>cases h;rename_i ha;haveI:=uO (d7 _ _ hT) ha;refine us (f:= .d (.v v)) hh (bP.yd fun ρ G ov a w r=>⟨v,(aF (G:=G)).2 J,?_⟩) hgo hv k;haveI:sr G g [v]:=⟨r.gb _ _ hg⟩;exact vu (b:=g) (off:=0) J A9 J
def HF{d:Nat}{f:FX}{x:DV}(hl:bc fr d=some f)(e:jO f=some x){Φ:Act->World->Prop}(h:SX GB C n (bc ((d, .d x)::fr)) (bg own) Φ):SX GB C n (bc fr) (bg own) Φ:=pq (g:= .d x) hl (fun _ _ _ k=>oh k e) h
def Pm(d:Nat){f:FX}(x:DV){e:Exit}{K:List Kt}(hl:bc fr d=some f)(e1:jO f=some x)(k:ak prog GB C n Q0 ((d, .d x)::fr) own (.ex e K)):ak prog GB C n Q0 fr own (.ex e K):=HF hl e1 k
def PD(d:Nat){f:FX}(x:DV){c:Code}{K:List Kt}(hl:bc fr d=some f)(e1:jO f=some x)(k:ak prog GB C n Q0 ((d, .d x)::fr) own (.code c K)):ak prog GB C n Q0 fr own (.code c K):=HF hl e1 k
def ZR{nm0 nm:Nat}{B1 B2:Option Bk}:bg (ng (ng own nm0 B1) nm B2)=upB (upB (bg own) [(nm0,B1)]) [(nm,B2)]:=by
 funext j;rw[x6];simp only[upB];rw[x6]
def Zd{nm0 nm k:Nat}(hnm:Nat.blt nm 2000000=true){ty0:TypeId}{cs:List FX}{lo:Bool}(hb:bg own nm0=some (.o ty0 cs lo))(hk:cs[k]? =some .nl)(hne:nm0≠nm){Φ:Act->World->Prop}{ty s:Nat}(hf:jx [nm] none (bc fr) (bg own))
  (h:SX GB C n (bc fr) (bg (ng (ng own nm0 (some (.o ty0 (cs.set k (.rw nm)) lo))) nm (some (.b ty s [] true)))) Φ):SX GB C n (bc fr) (bg own) Φ:=by
 refine⟨fun ρ G ov a w r=>?_⟩;obtain⟨f1,f2⟩:=hf nm aQ;rw[ZR] at h;refine h.run (fun k=>if k=nm then⟨none,0,0⟩ else ρ k) G ov a w ⟨r.gb,r.h,r.sz,r.df,fun k f e=>?_,fun m B e=>?_,fun m m' B B' e e' hne=>?_,fun m p h1 h2 e=>by
  have:nm<2000000:=by simpa[mK] using hnm
  show(if m=nm then(⟨none,0,0⟩:SV) else ρ m).a=_;rw[if_neg (by omega)];exact r.fxd m p h1 h2 e⟩
 ·obtain⟨v,h1,h2⟩:=r.fx k f e
  exact⟨v,h1,h2.ren fun m hm=>tC _ fun hc=>f1 k f (by simp) e (by rw[hm,hc])⟩
 ·simp only[upB] at e
  by_cases hm:m=nm
  ·subst hm;simp only[if_true] at e;cases e
   exact⟨[],⟨[],by simp only[if_true];exact .inl ⟨J,J,J⟩, .nil,by simp,fun _ o ho=>by cases ho⟩,fun o ho=>by cases ho⟩
  ·simp only[hm,if_false] at e
   by_cases hm0:m=nm0
   ·subst hm0;simp only[if_true] at e;cases e
    obtain⟨os,h1,h2⟩:=r.bx m _ hb;have h1':kh (fun k=>if k=nm then⟨none,0,0⟩ else ρ k) G m (.o ty0 cs lo) os:=h1.ren (if_neg hm) fun q hq=>tC _ fun hc=>f2 m _ hm hb (by rw[<-hc];exact hq);obtain⟨b,ms,k1,k2,k3⟩:=h1';refine⟨os,⟨b,ms,k1,k2,?_⟩,h2⟩;obtain⟨y,e1,e2⟩:=k3.get hk;have:=k3.set (f:= .rw nm) (y:=y) k (by show y=_;simp only[if_true];exact e2);rwa [show ms.set k y=ms by apply lQ;intro j;rw[nW];split<;>(try rfl);rename_i hj;subst hj;split<;>simp_all] at this
   ·simp only[hm0,if_false] at e
    obtain⟨os,h1,h2⟩:=r.bx m B e;exact⟨os,h1.ren (if_neg hm) fun q hq=>tC _ fun hc=>f2 m B hm e (by rw[<-hc];exact hq),h2⟩
 ·intro b hbb hb'
  have key: ∀q B,upB (upB (bg own) [(nm0,some (.o ty0 (cs.set k (.rw nm)) lo))]) [(nm,some (.b ty s [] true))] q=some B->q≠nm-> ∃B0,bg own q=some B0:=fun q B eq hq=>by
   simp only[upB,hq,if_false] at eq;by_cases hq0:q=nm0
   ·subst hq0;exact⟨_,hb⟩
   ·simp only[hq0,if_false] at eq;exact⟨_,eq⟩
  by_cases hm:m=nm
  ·simp[hm] at hbb
  ·by_cases hm':m'=nm
   ·simp[hm'] at hb'
   ·obtain⟨B0,g0⟩:=key m B e hm
    obtain⟨B1,g1⟩:=key m' B' e' hm';simp only[hm,hm',if_false] at hbb hb';exact r.dj m m' B0 B1 g0 g1 hne b hbb hb'
def DH(nm0 k nm ty s:Nat){ty0:TypeId}{cs:List FX}{lo:Bool}{own1:aH}{c:Code}{K:List Kt}(hb:bg own nm0=some (.o ty0 cs lo))(hk:cs[k]? =some .nl)(hf:tH [nm] none fr own=true)(hne:Nat.beq nm0 nm=false)
  (ho:ng (ng own nm0 (some (.o ty0 (cs.set k (.rw nm)) lo))) nm (some (.b ty s [] true))=own1)(h:ak prog GB C n Q0 fr own1 (.code c K))(hnm:Nat.blt nm 2000000=true:=by rfl):ak prog GB C n Q0 fr own (.code c K):=by
 subst ho;exact Zd hnm hb hk (fun e=>by subst e;rw[oU] at hne;cases hne) (yo hf) h
def bzA(fr:aw)(cf:Cf):Option (Nat×List FX):=match cb fr cf with
 |some ⟨some d, .build t ⟨[]⟩,_,_,_,_⟩=>match dh tt t with
  |some ⟨.st _,_,some zx,_⟩=>some (d,zx)
  |_=>none
 |_=>none
end
section
variable {GB:Gh} {C:aC} {n:Nat} {Q0:Exit->Act->World->Prop} {fr fr':aw} {own own':aH} {cf cf':Cf} {vc:List Prop} {ops:Array Oper} {o:Oper} {r:List Oper} {K:List Kt}
def NU{p q:Nat->Option (Nat×Nat)}(h: ∀i x,p i=some x->q i=some x): ∀(ps:List (Nat×Value)) (cs out:Array Value),Instr.fill p cs ps=some out->Instr.fill q cs ps=some out
 |[],cs,out,e=>e
 |(i,v)::ps,cs,out,e=>by
  simp only[Instr.fill] at e⊢;split at e
  ·cases e
  ·rename_i off size hp
   rw[h i _ hp];dsimp only;split at e
   ·cases e
   ·rename_i hc
    rw[if_neg hc];exact NU h ps _ _ e
def QI{P:Program}{fr:Fr}{own:List aj}{G:Gh}{t e s len:Nat}{j:TypeInfo}{parts:Array (Nat×Operand)}{z:Value}{out:List Value}{dst:Option Nat}{ty':TypeId}{pos:String}{af:Array Edge}{gd:Option (Nat×Bool)}[hz:fP P t z](hu:P.underlying t=some (.array len e))(hj:P.info? e=some j)(hs:j.size=s)
  (hb:tq fr ((List.range len).map fun i=>(i*s,s)) (aD z) parts.toList=some out):Yd P C fr own G ⟨dst, .build t parts,ty',pos,af,gd⟩ (.agg ⟨out⟩):=by
 intro a w hf hh;simp only[execOp];have:(Instr.build t (parts.map fun(i,x)=>(i,a.eval x))).run P w= .ok (.agg ⟨out⟩) w:=by
  unfold Instr.build;rw[ba (hz.zero w),ny];rw[ba (pf hu w)];simp only[];rw[ba (s6 hj w),hs];have:=NU (q:=fun i=>some (i*s,s)) (fun i x hx=>by
   have hx':((List.range len).map fun i=>(i*s,s))[i]? =some x:=by simpa using hx
   rw[fR] at hx'
   cases hr:(List.range len)[i]? with
   |none=>rw[hr] at hx';cases hx'
   |some y=>
    rw[hr] at hx';cases hx';obtain⟨h1,h2⟩:=aS.1 hr;rw[List.getElem_range] at h2;rw[h2]) _ _ _ (C8 hf ((List.range len).map fun i=>(i*s,s)) parts.toList _ _ hb)
  simp only[oQ,this];rfl
 exact cF this
def zT:Nat->Nat->Nat->List (Nat×Nat×Nat)
 |_,0,_=>[]
 |i,k+1,s=>(i*s,0,s)::zT (i+1) k s
def Ld: ∀(i k s:Nat),(zT i k s).map (fun x=>(x.1,x.2.2))=(List.range' i k).map fun j=>(j*s,s)
 |_,0,_=>rfl
 |i,k+1,s=>by simp only[zT,bR,List.range',Ld (i+1) k s]
def Mt(fr:aw)(cf:Cf)(len s:Nat):Option (TypeId×FX):=match cb fr cf with
 |some ⟨_, .build t parts,_,_,_,_⟩=>match dh tt t with
  |some ⟨.o,_,some zx,_⟩=>match sN (bw fr cf) (zT 0 len s) zx parts.toList with
   |some cs=>match uL cs with
    |some f=>some (t,f)
    |none=>none
   |none=>none
  |_=>none
 |_=>none
def Yy[fu:Fu]{t e len s:Nat}{f:FX}(h:Mt fr cf len s=some (t,f))(hu:prog.underlying t=some (.array len e))(hs:(prog.info? e).map (·.size)=some s)
  (hgo:cD tt n fu.n fr own cf f [] []=⟨vc,fr',own',cf'⟩)(k:ak prog GB C n Q0 fr' own' cf')
  (hv:ah vc:=by first|exact trivial|(simp only[ah];kernel_rfl)|(simp only[ah];omega)):ak prog GB C n Q0 fr own cf:=by
 unfold Mt at h;split at h<;>try (cases h;done)
 rename_i hh;split at h<;>try (cases h;done)
 rename_i hT;split at h<;>try (cases h;done)
 rename_i hb;split at h<;>cases h;rename_i hf;refine us hh (.yd fun ρ G ov a w r=>?_) hgo hv k
 cases hj:prog.info? e with
 |none=>rw[hj] at hs;cases hs
 |some j=>
 rw[hj] at hs;obtain⟨v,hv,hv'⟩:=Bm (d7 _ _ hT) rfl;obtain⟨l,h1,h2⟩:=CN r _ _ _ _ hb (hv' ρ G);rw[Ld,<-List.range_eq_range'] at h1;exact⟨.agg ⟨l⟩,Gu h2 hf,QI hu hj (Option.some.inj hs) h1⟩
def aH7(fr:aw)(own:aH)(cf:Cf)(k:Nat):Option (TypeId×FX):=match cb fr cf with
 |some ⟨_, .load t x,_,_,_,_⟩=>match aI (bw fr cf) x with
  |some (.ov nm off)=>match f9 fr own cf nm with
   |some (.o _ cs _)=>match takeX cs off k with
    |some l=>match uL l with
     |some f=>some (t,f)
     |none=>none
    |none=>none
   |_=>none
  |_=>none
 |_=>none
def aIZ(fr:aw)(cf:Cf)(off s:Nat):Option (TypeId×List DV×Int):=match cb fr cf with
 |some ⟨_, .index t x y,_,_,_,_⟩=>match aI (bw fr cf) x with
  |some (.d (.ag ms))=>match aI (bw fr cf) y with
   |some (.d (.v (.int _ i)))=>match takeD ms off s with
    |some l=>some (t,l,i)
    |none=>none
   |_=>none
  |_=>none
 |_=>none
end
section
variable {GB:Gh} {C:aC} {n:Nat} {Q0:Exit->Act->World->Prop} {fr fr':aw} {own own':aH} {cf cf':Cf} {vc:List Prop} {lk:LK} {bk:BM} {dst:Option Nat} {ty:TypeId} {pos:String} {af:Array Edge} {gd:Option (Nat×Bool)}
def Eg(t:TypeId):Prop:= ∀(x:Value) w,(Instr.makeInterface t x).run prog w= .ok (.iface t x) w
def Bn(t:TypeId)(u:Value)(m:String)(f:FuncId):Prop:= ∀w,(method (prog.types.size+Made.depth) t u m).run prog w= .ok (f,u) w
def Qk{t:TypeId}{x:Operand}{d:DV}{u:Value}(ht:Eg t)(hx:evD lk x=some d)(hd: ∀G y,Is G d y->y=u):bP prog GB C n lk bk ⟨dst, .makeInterface t x,ty,pos,af,gd⟩ (.d (.v (.iface t u))) [] []:=
 bP.yd fun ρ G ov a w r=>by
  obtain⟨y,hy,hy'⟩:=r.evD hx;obtain rfl:=hd G y hy';refine⟨_,(aF (G:=G)).2 J,fun a' w' hf _=>?_⟩;refine cF (f:=Next.value) ?_;rw[bi hf hy];exact ht _ _
def Wf{x:Operand}{m:String}{args:Array Operand}{tys:Array TypeId}{t:TypeId}{u:Value}{f:FuncId}{vs:List Value}{fr:Fr}{a:Act}{w:World}(hf:kw fr a)(hx:av fr x=some (.iface t u))(hv:fy fr args.toList=some vs)(hm:Bn t u m f)(hc:nv prog f):
  (execOp a.eval ⟨dst, .call ⟨.invoke x m,args,tys⟩,ty,pos,af,gd⟩).run prog w= .ok (.enter f ⟨u::vs⟩) w:=by
 have e:args.map a.eval=⟨vs⟩:=by apply Array.ext';simpa using yV hf hv
 simp only[execOp,resolve,bi hf hx,e];show(invoke (.fn (.method m) #[]) (#[.iface t u]++⟨vs⟩)).run prog w=_;simp only[invoke];have h0:(#[Value.iface t u]++(⟨vs⟩:Array Value))[0]? =some (.iface t u):=by simp
 have h1:(#[Value.iface t u]++(⟨vs⟩:Array Value)).extract 1 (#[Value.iface t u]++(⟨vs⟩:Array Value)).size=⟨vs⟩:=by
  apply Array.ext';simp
 rw[h0,h1];show(callMethod (.iface t u) m ⟨vs⟩).run prog w=_;unfold callMethod;show((do
  let p<-program
  let(g,receiver)<-method (p.types.size+Made.depth) t u m
  callFunc g (#[receiver]++⟨vs⟩)):Sem Next).run prog w=_
 rw[ba (a:=prog) (w':=w) J,ba (hm w)];show(callFunc f (#[u]++⟨vs⟩)).run prog w=_;rw[zo hc];simp
def VO{x:Operand}{m:String}{args:Array Operand}{tys:Array TypeId}{t:TypeId}{u:Value}{f:FuncId}{ds:List DV}{rv:DV}(hx:aI lk x=some (.d (.v (.iface t u))))(ha:evDs lk args.toList=some ds)(hm:Bn t u m f)(hF:PF GB prog f (.v u::ds) rv):
  bP prog GB C n lk bk ⟨dst, .call ⟨.invoke x m,args,tys⟩,ty,pos,af,gd⟩ (.d rv) [] []:=by
 intro hd tl tb K' s1 s2 hf hk;refine⟨fun ρ G ov a w r Q=>?_⟩;obtain⟨y,hy,hy'⟩:=(r.mono s1 s2).ev hx;rw[(aF (G:=G)).1 hy'] at hy;obtain⟨vs,h3,h4⟩:=(r.mono s1 s2).evDs ha;have hFn:=hF G (u::vs) r.gb (.cons (aF.2 J) h4);have h2:=Wf (dst:=dst) (ty:=ty) (pos:=pos) (af:=af) (gd:=gd) (tys:=tys) (w:=w) (cG a) hy h3 hm hFn.able;simp only[Oper.wp,h2,Oper.upon];refine(hFn.run w r.h.sub).mono ?_;rintro e w' ⟨v,G',rfl,hh,hK⟩;have rl:f5 C n (cA a) ov G a w:=⟨r.h,r.sz,cG a,r.df⟩;have rl2:=(rl.heap (rl.h.called hh)).put v hd;exact hk.run ρ G' ov _ w' ⟨r.gb.trans hh.gle,rl2.h,rl2.sz,rl2.df,(jj rl2).fx (fun k g _ e=>by obtain⟨z,h5,h6⟩:=r.fx k g e;exact⟨z,h5,h6.up hh.gle⟩) hK,
  fun nm B e=>by obtain⟨os,h5,h6⟩:=r.bx nm B e;exact⟨os,h5.up hh.gle,h6⟩,r.dj,r.fxd⟩
def Oa(fr:aw)(cf:Cf):Option (TypeId×DV):=match cb fr cf with
 |some ⟨_, .makeInterface t x,_,_,_,_⟩=>match evD (bw fr cf) x with
  |some d=>some (t,d)
  |none=>none
 |_=>none
def YP[fu:Fu]{t:TypeId}{d:DV}(u:Value)(ha:Oa fr cf=some (t,d))(ht:Eg t)(hd: ∀G y,Is G d y->y=u)(hgo:cD tt n fu.n fr own cf (.d (.v (.iface t u))) [] []=⟨vc,fr',own',cf'⟩)(k:ak prog GB C n Q0 fr' own' cf')
  (hv:ah vc:=by first|exact trivial|(simp only[ah];kernel_rfl)|(simp only[ah];omega)):ak prog GB C n Q0 fr own cf:=by
 unfold Oa at ha;split at ha<;>try (cases ha;done)
 rename_i hh;split at ha<;>cases ha;rename_i hx;exact us hh (Qk ht hx hd) hgo hv k
def K5(fr:aw)(cf:Cf):Option (String×TypeId×Value×List DV):=match cb fr cf with
 |some ⟨_, .call ⟨.invoke x m,args,_⟩,_,_,_,_⟩=>match aI (bw fr cf) x with
  |some (.d (.v (.iface t u)))=>match evDs (bw fr cf) args.toList with
   |some ds=>some (m,t,u,ds)
   |none=>none
  |_=>none
 |_=>none
def Vp[fu:Fu]{m:String}{t:TypeId}{u:Value}{f:FuncId}{ds:List DV}{rv:DV}(ha:K5 fr cf=some (m,t,u,ds))(hm:Bn t u m f)(hF:PF GB prog f (.v u::ds) rv)(hgo:cD tt n fu.n fr own cf (.d rv) [] []=⟨vc,fr',own',cf'⟩)(k:ak prog GB C n Q0 fr' own' cf')
  (hv:ah vc:=by first|exact trivial|(simp only[ah];kernel_rfl)|(simp only[ah];omega)):ak prog GB C n Q0 fr own cf:=by
 unfold K5 at ha;split at ha<;>try (cases ha;done)
 rename_i hh;split at ha<;>try (cases ha;done)
 rename_i hx;split at ha<;>cases ha;rename_i hds;exact us hh (VO hx hds hm hF) hgo hv k
def PF.arg0{f:FuncId}{d e:DV}{ds:List DV}{rv:DV}(h:PF GB prog f (d::ds) rv)(he: ∀G y,Is G e y->Is G d y):PF GB prog f (e::ds) rv:=fun G vs hg hvs=>by
 obtain⟨y,m,rfl,h1,h2⟩:=aO.1 hvs;exact h G _ hg (.cons (he G y h1) h2)
end
section
variable {GB:Gh} {C:aC} {n:Nat} {Q0:Exit->Act->World->Prop} {fr fr':aw} {own own':aH} {cf cf':Cf} {vc:List Prop} {lk:LK} {bk:BM} {dst:Option Nat} {ty:TypeId} {pos:String} {af:Array Edge} {gd:Option (Nat×Bool)}
def xS(lk:LK):List Operand->Option (List Value)
 |[]=>some []
 |x::xs=>match aI lk x with
  |some (.d (.v pv))=>match xS lk xs with
   |some l=>some (pv::l)
   |none=>none
  |_=>none
def Hp{ρ:NE}{G:Gh}{ov:List aj}{a:Act}{w:World}(r:bE GB C n lk bk ρ G ov a w): ∀{xs:List Operand} {l:List Value},xS lk xs=some l->xs.mapM (av (cA a))=some l
 |[],l,h=>by cases h;rfl
 |x::xs,l,h=>by
  simp only[xS] at h;split at h<;>try (cases h;done)
  rename_i h1;split at h<;>cases h;rename_i h2;obtain⟨y,h3,h4⟩:=r.ev h1;rw[(aF (G:=G)).1 h4] at h3;rw[nN,h3,Hp r h2];rfl
def Li(fr:aw)(cf:Cf):Option (FuncId×List Value×List Value):=match cb fr cf with
 |some ⟨_, .makeFunc (.func f) ⟨xs⟩ ⟨ys⟩,_,_,_,_⟩=>match xS (bw fr cf) xs,xS (bw fr cf) ys with
  |some a,some b=>some (f,a,b)
  |_,_=>none
 |_=>none
def Ia[fu:Fu]{f:FuncId}{c1 c2:List Value}(h:Li fr cf=some (f,c1,c2))(hgo:cD tt n fu.n fr own cf (.d (.v (.func (.func f) ⟨c1⟩ ⟨c2⟩))) [] []=⟨vc,fr',own',cf'⟩)(k:ak prog GB C n Q0 fr' own' cf')
  (hv:ah vc:=by first|exact trivial|(simp only[ah];kernel_rfl)|(simp only[ah];omega)):ak prog GB C n Q0 fr own cf:=by
 unfold Li at h;split at h<;>try (cases h;done)
 rename_i hh;split at h<;>cases h;rename_i h1 h2;exact us hh (bP.yd (f:= .d (.v (.func (.func f) ⟨c1⟩ ⟨c2⟩))) fun ρ G ov a w r=>⟨_,(aF (G:=G)).2 J,xQ (Hp r h1) (Hp r h2)⟩) hgo hv k
def K6(fr:aw)(cf:Cf):Option (FuncId×DV):=match cb fr cf with
 |some ⟨_, .makeFunc (.func f) ⟨[x]⟩ ⟨[]⟩,_,_,_,_⟩=>match evD (bw fr cf) x with
  |some d=>some (f,d)
  |_=>none
 |_=>none
def AS[fu:Fu]{f:FuncId}{d:DV}(pv:Value)(h:K6 fr cf=some (f,d))(hd: ∀G y,Is G d y->y=pv)(hgo:cD tt n fu.n fr own cf (.d (.v (.func (.func f) ⟨[pv]⟩ ⟨[]⟩))) [] []=⟨vc,fr',own',cf'⟩)(k:ak prog GB C n Q0 fr' own' cf')
  (hv:ah vc:=by first|exact trivial|(simp only[ah];kernel_rfl)|(simp only[ah];omega)):ak prog GB C n Q0 fr own cf:=by
 unfold K6 at h;split at h<;>try (cases h;done)
 rename_i hh;split at h<;>cases h;rename_i hx;exact us hh (bP.yd (f:= .d (.v (.func (.func f) ⟨[pv]⟩ ⟨[]⟩))) fun ρ G ov a w r=>by
  obtain⟨y,hy,hy'⟩:=r.evD hx;obtain rfl:=hd G y hy';exact⟨_,(aF (G:=G)).2 J,xQ (l1:=[y]) (l2:=[]) (by simp[hy]) J⟩) hgo hv k
def Wk{fo:Operand}{args:Array Operand}{tys:Array TypeId}{f:FuncId}{c1 c2:List Value}{ds1 ds ds2:List DV}{rv:DV}(h1:aI lk fo=some (.d (.v (.func (.func f) ⟨c1⟩ ⟨c2⟩))))(h2:evDs lk args.toList=some ds)(hc:IsLs GB ds1 c1)(hc2:IsLs GB ds2 c2)(hF:PF GB prog f (ds1++ds++ds2) rv):
  bP prog GB C n lk bk ⟨dst, .call ⟨.value fo,args,tys⟩,ty,pos,af,gd⟩ (.d rv) [] []:=by
 intro hd tl tb K' s1 s2 hf hk;refine⟨fun ρ G ov a w r Q=>?_⟩;obtain⟨y,hy,hy'⟩:=(r.mono s1 s2).ev h1;rw[(aF (G:=G)).1 hy'] at hy;obtain⟨vs,h3,h4⟩:=(r.mono s1 s2).evDs h2;refine Jn (c1:=c1) (c2:=c2) hy h3 (hF G (c1++vs++c2) r.gb (((hc.up r.gb).app h4).app (hc2.up r.gb))) hd (fun v G' hG hK a' w' rl=>?_) a w Q ⟨r.h,r.sz,cG a,r.df⟩;exact hk.run ρ G' ov a' w' ⟨r.gb.trans hG.le,rl.h,rl.sz,rl.df,(jj rl).fx (fun k g _ e=>by obtain⟨u,h5,h6⟩:=r.fx k g e;exact⟨u,h5,h6.up hG.le⟩) hK,
  fun nm B e=>by obtain⟨os,h5,h6⟩:=r.bx nm B e;exact⟨os,h5.up hG.le,h6⟩,r.dj,r.fxd⟩
def Ka(fr:aw)(cf:Cf):Option (FuncId×List Value×List Value×List DV):=match cb fr cf with
 |some ⟨_, .call ⟨.value fo,args,_⟩,_,_,_,_⟩=>match aI (bw fr cf) fo,evDs (bw fr cf) args.toList with
  |some (.d (.v (.func (.func f) ⟨c1⟩ ⟨c2⟩))),some ds=>some (f,c1,c2,ds)
  |_,_=>none
 |_=>none
def yB[fu:Fu]{f:FuncId}{c1 c2:List Value}{ds ds1 ds2:List DV}{rv:DV}(ha:Ka fr cf=some (f,c1,c2,ds))(hc:IsLs GB ds1 c1)(hc2:IsLs GB ds2 c2)(hF:PF GB prog f (ds1++ds++ds2) rv)(hgo:cD tt n fu.n fr own cf (.d rv) [] []=⟨vc,fr',own',cf'⟩)(k:ak prog GB C n Q0 fr' own' cf')
  (hv:ah vc:=by first|exact trivial|(simp only[ah];kernel_rfl)|(simp only[ah];omega)):ak prog GB C n Q0 fr own cf:=by
 unfold Ka at ha;split at ha<;>try (cases ha;done)
 rename_i hh;split at ha<;>cases ha;rename_i h1 h2;exact us hh (Wk h1 h2 hc hc2 hF) hgo hv k
end
section
variable {GB:Gh} {C:aC} {n:Nat} {Q0:Exit->Act->World->Prop} {fr fr':aw} {own own':aH} {cf cf':Cf} {vc:List Prop}
def J0(fr:aw)(cf:Cf):Option (Int×Int):=match cb fr cf with
 |some ⟨_, .binOp .xor _ x y _,_,_,_,_⟩=>match aI (bw fr cf) x,aI (bw fr cf) y with
  |some (.d (.v (.int .u32 p))),some (.d (.v (.int .u32 q)))=>some (p,q)
  |_,_=>none
 |_=>none
def xr[fu:Fu]{p q:Int}(u:Int)(h:J0 fr cf=some (p,q))(e:(((BitVec.ofInt 32 p^^^BitVec.ofInt 32 q).toNat:Nat):Int)=u)(hgo:cD tt n fu.n fr own cf (.d (.v (.int .u32 u))) [] []=⟨vc,fr',own',cf'⟩)(k:ak prog GB C n Q0 fr' own' cf')
  (hv:ah vc:=by first|exact trivial|(simp only[ah];kernel_rfl)|(simp only[ah];omega)):ak prog GB C n Q0 fr own cf:=by
 unfold J0 at h;split at h<;>try (cases h;done)
 rename_i hh;split at h<;>cases h;rename_i h1 h2;subst e;exact us hh (.yd fun ρ G ov a w r=>by
  obtain⟨y1,h3,h4⟩:=r.ev h1;obtain⟨y2,h5,h6⟩:=r.ev h2;rw[c8] at h4 h6;subst h4 h6;exact⟨_,c8.2 J,ig h3 h5 fun w=>by
   show(pure (Value.int .u32 (IntKind.u32.wrap ((BitVec.ofInt 32 p^^^BitVec.ofInt 32 q).toNat:Int))):Sem Value).run prog w=_;rw[Bw];rfl⟩) hgo hv k
def Kh(fr:aw)(cf:Cf):Option (Int×Int):=match cb fr cf with
 |some ⟨_, .binOp .sub _ x y _,_,_,_,_⟩=>match aI (bw fr cf) x,aI (bw fr cf) y with
  |some (.d (.v (.int .u32 p))),some (.d (.v (.int .u32 q)))=>some (p,q)
  |_,_=>none
 |_=>none
def sw[fu:Fu]{p q:Int}(u:Int)(h:Kh fr cf=some (p,q))(e:(p-q)%4294967296=u)(hgo:cD tt n fu.n fr own cf (.d (.v (.int .u32 u))) [] []=⟨vc,fr',own',cf'⟩)(k:ak prog GB C n Q0 fr' own' cf')
  (hv:ah vc:=by first|exact trivial|(simp only[ah];kernel_rfl)|(simp only[ah];omega)):ak prog GB C n Q0 fr own cf:=by
 unfold Kh at h;split at h<;>try (cases h;done)
 rename_i hh;split at h<;>cases h;rename_i h1 h2;subst e;exact us hh (.yd fun ρ G ov a w r=>by
  obtain⟨y1,h3,h4⟩:=r.ev h1;obtain⟨y2,h5,h6⟩:=r.ev h2;rw[c8] at h4 h6;subst h4 h6;exact⟨_,c8.2 J,by rw[<-o8];exact vg h3 h5⟩) hgo hv k
def Pz(fr:aw)(cf:Cf):Option Int:=match cb fr cf with
 |some ⟨_, .unOp .xor _ x,_,_,_,_⟩=>match aI (bw fr cf) x with
  |some (.d (.v (.int .u32 p)))=>some p
  |_=>none
 |_=>none
def nt[fu:Fu]{p:Int}(u:Int)(h:Pz fr cf=some p)(e:(((BitVec.ofInt 32 IntKind.u32.max^^^BitVec.ofInt 32 p).toNat:Nat):Int)=u)(hgo:cD tt n fu.n fr own cf (.d (.v (.int .u32 u))) [] []=⟨vc,fr',own',cf'⟩)(k:ak prog GB C n Q0 fr' own' cf')
  (hv:ah vc:=by first|exact trivial|(simp only[ah];kernel_rfl)|(simp only[ah];omega)):ak prog GB C n Q0 fr own cf:=by
 unfold Pz at h;split at h<;>try (cases h;done)
 rename_i hh;split at h<;>cases h;rename_i hx;subst e;refine us hh (.x1 hx fun ρ G ov a w y _ r h1 h2=>?_) hgo hv k;rw[c8] at h2;subst h2;refine⟨_,c8.2 J,fun a w hf hh=>?_⟩;simp only[execOp,bi hf h1];refine cF (w':=w) ?_;show(pure (Value.int .u32 (IntKind.u32.wrap ((BitVec.ofInt 32 IntKind.u32.max^^^BitVec.ofInt 32 p).toNat:Int))):Sem Value).run prog w=_;rw[Bw];rfl
end

def UJ{ds:List Nat}{k:Nat}(hk:k<ds.length)(h:trimD ds=trimD (ds.take (k+1)))(h0:ds.getD k 0=0):trimD ds=trimD (ds.take k):=by
 rw[h,gM hk];have:ds[k]=0:=by rw[aK,aX hk] at h0;simpa using h0
 rw[this,IC]
def Sd{ds:List Nat}{k:Nat}(hk:k<ds.length)(h:trimD ds=trimD (ds.take (k+1)))(h0:ds.getD k 0≠0):trimD ds=ds.take (k+1):=by
 rw[h,gM hk];have:ds[k]≠0:=by rw[aK,aX hk] at h0;simpa using h0
 exact GV this
def iE{A G:Gh}{x:SV}{ds:List Nat}(hx:cg A x ds)[GL A G](hb:ds.length<=1125899906842624):Fn prog 361 [x.v] G (fun v _=>v= .slice x.a (trimD ds).length x.c):=by
 have hlen:=hx.len;have hcap:=hx.sl.cap;refine Fn.intro func361 J J ntmps361 J ?_;intro C _ _;refine sR<|sa J J<|zE<|bm<|dP<|?_;refine lv (X:=Nat) (fun k=>[(0, .slice x.a k x.c)]) (fun _=>[]) (fun k _=>k<=ds.length/\trimD ds=trimD (ds.take k)) (fun k=>k) ds.length ⟨aN _,by simp⟩ (hlen▸ .cons J .nil) J ?_;rintro k Gx _ ⟨hk,ht⟩;refine bm<|sR<|sm J J<|cH J J<|sy (rg J J) J<|sm J J<|?_;refine mP 6 J (fun hg=>?_) (fun hg=>?_)
 ·have hk1:k-1<ds.length:=by omega
  have hkt:((k:Int)-1).toNat=k-1:=by omega
  have hk2:k=k-1+1:=by omega
  refine bG J J (e8 J) J<|bG J J (e8 J) J<|bG J J (m8 J) J<|bG J J (jp J J) J<|?_;refine bG J J (gP (z:=⟨x.a,k,x.c⟩) (hx.take k hk) J J (by omega) (by show _<(k:Int);omega)) J<|bG J J (gO hx J (by omega)) J<|bG J J (ik J J) J<|sy (qr J J) J<|zE<|?_;rw[hkt];refine kO J (fun hc=>?_) (fun hc=>?_) -- slot 14
  ·refine jc<|eh<|eh<|jh<|sR<|sm J J<|sa J J<|zE<|c6<|?_
   have hs:=Sd hk1 (hk2▸ht) (fun e=>hc (by rw[e];rfl));refine zD (.tmp J .nil) ?_;rw[hs,<-hk2];simp[gu,hk]
  refine zK<|dP<|dH<|sm J J<|sm J J<|cH J J<|sy (jp J J) J<|sy (vU J J (by omega) (by omega)) J<|?_;refine sa J J<|zE<|?_;exact jd (k-1) ⟨by omega,UJ hk1 (hk2▸ht) (by omega)⟩ (by omega) (.cons (by rw[<-hkt];rfl) .nil) J
 refine ss J J J J<|ss J J J J<|ss J J J J<|ss J J J J<|ss J J J J<|ss J J J J<|?_;refine ss J J J J<|sy (lj J J) J<|zE<|uI J<|jc<|eh<|eh<|jh<|sR<|sm J J<|sa J J<|zE<|c6<|?_;have hk0:k=0:=by omega
 subst hk0;refine zD (.tmp J .nil) ?_;rw[ht];rfl
def W4{A G:Gh}{x:SV}{ds:List Nat}(hx:cg A x ds)[GL A G](hb:ds.length<=1125899906842624):Fn prog 348 [x.v] G (fun v _=>v= .bool (decide (d4 ds))):=by
 have hlen:=hx.len;refine Fn.intro func348 J J ntmps348 J ?_;intro C _ _;refine sR<|sa J J<|zE<|sR<|sm J J<|cH J J<|sy (ik J J) J<|sm J J<|?_;refine mP 6 J (fun hg=>?_) (fun hg=>?_)
 ·refine ss J J J J<|ss J J J J<|ss J J J J<|ss J J J J<|ss J J J J<|ss J J J J<|ss J J J J<|sy (qr J J) J<|sa J J<|?_
  refine zE<|c6<|?_;refine zD (.tmp J .nil) ?_;have:ds=[]:=bL (by omega);subst this;simp[gu,d4]
 have hne:0<ds.length:=by omega
 have hkt:((x.n:Int)-1).toNat=ds.length-1:=by omega
 refine bG J J (e8 J) J<|bG J J (e8 J) J<|bG J J (m8 J) J<|bG J J (jp J J) J<|bG J J (gP hx J J (by omega) (by omega)) J<|?_;refine bG J J (gO hx J (by omega)) J<|bG J J (tg J J) J<|sy (lj J J) J<|sa J J<|zE<|c6<|?_;refine zD (.tmp J .nil) ?_;rw[hkt];simp only[gu,Value.bool.injEq,decide_eq_decide,d4,List.getLast?_eq_getElem?,aK,aX (show ds.length-1<ds.length by omega),jT,ne_eq,Option.some.injEq];exact not_congr (by omega)
def T'(ds:List Nat): ∀v∈ds.map dI,flat v=true:=fun v hv=>by
 obtain⟨d,_,rfl⟩:=bW.1 hv;rfl
def Ow{A G:Gh}{x:SV}{ds:List Nat}(hx:cg A x ds)[GL A G](hb:ds.length<=1125899906842):Fn prog 365 [x.v] G (fun v G'=> ∃z:SV,v=z.v/\cg G' z ds):=by
 have hlen:=hx.len;refine Fn.intro func365 J J ntmps365 J ?_;intro C _ _;refine sR<|sa J J<|zE<|bm<|sR<|sm J J<|sy (Pt J J) J<|zE<|?_;refine QU J (fun hc=>?_) (fun hc=>?_)
 ·refine sR<|sa J J<|zE<|c6<|?_
  refine zD (.tmp J .nil) ⟨⟨none,0,0⟩,J,?_⟩;rcases hx.sl.mem with h|⟨b,off,cs,ha,_⟩
  ·have:ds=[]:=by simpa using h
   subst this;exact .nil _
  ·rw[ha] at hc;cases hc
 refine zK<|sR<|?_;refine sc (NA J ?_);intro b1;refine sm J J<|?_;refine sc (Lp (xs:=[]) (rest:=[]) (ys:=ds.map dI) J J (.hd ..) J J (aN _) (IK hx) (by simp[hlen]) (T' ds) (by decide) (by omega) J J ?_);intro b cap rest h1 h2;refine sa J J<|zE<|oO b (.hd ..) (fun G' _ hgb=>?_);refine c6<|?_;refine zD (.tmp J .nil) ⟨⟨some ⟨b,0,none⟩,x.n,cap⟩,by simp[gu,SV.v],?_⟩;exact .of_block hx.ok hgb.h hlen (by omega) (by simp)
def E7{A G:Gh}{x:SV}{ds:List Nat}{k:Nat}(hx:cg A x ds)[GL A G](hk:dv ds<2^k)(hb:ds.length<=1125899906842):Fn prog 308 [x.v] G (fun v G'=> ∃z:SV,v=z.v/\fg k G' z (dv ds)):=by
 have htl:=mn ds;refine Fn.intro func308 J J ntmps308 J ?_;intro C _ _;refine sR<|sa J J<|zE<|sR<|sm J J<|?_;refine sc (zC J J (iE hx (by omega)) J ?_);rintro _ G1 _ rfl;refine sc (zC J J (Ow hx.trim (by omega)) J ?_);rintro _ G2 _ ⟨z,rfl,hz⟩;refine sa J J<|zE<|c6<|?_;refine zD (.tmp J .nil) ⟨z,J,?_⟩;exact⟨by rw[oA hx.ok];exact hz,hk⟩
end Go.Sx
end
