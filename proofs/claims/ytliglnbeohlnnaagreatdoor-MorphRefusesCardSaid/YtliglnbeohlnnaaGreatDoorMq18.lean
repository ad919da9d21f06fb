import Derived.Test.YtliglnbeohlnnaaGreatDoorMq17
import Derived.RangeFuncSeq
set_option linter.all false
set_option maxHeartbeats 4000000
set_option maxRecDepth 100000
section
namespace Go.Sx
open Go Go.Proofs Tryz
variable {GB G G1:Gh}{n i k y D s len:Nat}{P:Program}{Q Q0:Exit->Act->World->Prop}{ops:Array Oper}{l r pre:List Oper}{o:Oper}{a:Act}{w w1:World}{K:List Kt}{C C':aF}{fr fr0 fr' fr1 fr2:aC}{own0 own' own1 own2 O:aO}{cf' cf cf1 cf2:Cf}{vc vc1 vc2:List Prop}{f gf:FuncId}{fb:Func}{c assign body:Code}{m pos:String}{ds ds1 ds2:List DV}{E:List (List DV)}{ov:List aB}{Jv:Nat->Gh->World->Prop}{Jx:Gh->World->Prop}{e:Exit}{fo x g:Operand}{args:Array Operand}{tys:Array TypeId}{vs caps out c1 c2:List Value}{dst:Option Nat}{ty' t ty:TypeId}{af:Array Edge}{d rv dp:DV}{X σ α:Type}{lk:LK}{bk:BM}{p:Prop}{pv z u:Value}
section
variable {F:Fence}{md:Region.Mode}
def NA: ∀{k:Nat} {listed:Array Bool} {a:Act} {w:World},wpAnyIn F n P md ops Q k listed a w->wpAnyIn F n P md ops Q (k+1) listed a w
 |0,_,_,_,h=>⟨fun _=>h.2,fun i hi=>by rw[h.1] at hi;cases hi⟩
 |_+1,_,_,_,h=>⟨h.1,fun i hi=>wpOpIn_mono (fun _ _ k=>NA k) (h.2 i hi)⟩
def LL{k:Nat}{listed:Array Bool}{a:Act}{w:World}(h:wpAnyIn F n P md ops Q k listed a w): ∀j,wpAnyIn F n P md ops Q (j+k) listed a w
 |0=>by rw[eM];exact h
 |j+1=>by rw[show j+1+k=j+k+1 by omega];exact NA (LL h j)
def Bf.lt(he:n8 0 l=true){j:Nat}(h:Bf l i j):j<i:=by
 induction h with
 |b ho hm hb=>have:=tE he _ _ ho _ hm hb;omega
 |s ho hm hb _ ih=>have:=tE he _ _ ho _ hm hb;omega
def Bf.inv{j:Nat}(h:Bf l i j): ∃o e,l[i]? =some o/\e∈o.after/\Region.binds .any e=true/\(e.on=j\/Bf l e.on j):=by
 induction h with
 |b ho hm hb=>exact⟨_,_,ho,hm,hb, .inl J⟩
 |s ho hm hb hh _=>exact⟨_,_,ho,hm,hb, .inr hh⟩
def Qd(he:n8 0 ops.toList=true): ∀(r pre:List Oper),ops.toList=pre++r->(∀i,pre.length<=i->i<ops.size-> ∀j,j<i->Bf ops.toList i j)-> ∀(listed:Array Bool) (a:Act) (w:World),(∀j d,listed.getD j d=if j<pre.length then true else if j<ops.size then false else d)->wpListIn F n P ops Q r a w->wpAnyIn F n P .any ops Q r.length listed a w
 |[],pre,hops,_,listed,a,w,hl,h=>by
  refine⟨?_,h⟩;rw[List.eq_nil_iff_forall_not_mem];intro i hi;obtain⟨h1,o,h2,_⟩:=mem_ready.1 hi;have h3:=(fV.1 h2).1;have h4:pre.length=ops.size:=by rw[<-lT,hops];simp
  rw[hl,if_pos we] at h1
  cases h1
 |o::r,pre,hops,hc,listed,a,w,hl,h=>by
  have hsz:ops.size=pre.length+(r.length+1):=by rw[<-lT,hops];simp
  have hp:ops.toList[pre.length]? =some o:=by rw[hops];simp
  have hp':ops[pre.length]? =some o:=by simpa using hp
  have only: ∀i,i∈Region.ready .any ops listed↔i=pre.length:=fun i=>by
   rw[mem_ready];constructor
   .rintro ⟨h1,o',h2,h3⟩
    have h4:=(fV.1 h2).1;rw[hl] at h1;split at h1
    .cases h1
    .rename_i h5
     apply Classical.byContradiction;intro h6;have hb:=hc i we h4 pre.length we;obtain⟨o2,e,ho,hm,hb,hh⟩:=hb.inv;have e':o'=o2:=Option.some.inj (h2.symm.trans okE);subst e';have h7:=h3 _ hm hb;have h9:=tE he _ _ ho _ hm hb;have h8:pre.length<=e.on:=by
      rcases hh with hh|hh
      .omega
      .have:=hh.lt he;omega
     rw[hl,if_neg we,if_pos we] at h7
     cases h7
   .rintro rfl
    refine⟨by rw[hl,if_neg we,if_pos we],o,hp',fun e hm hb=>?_⟩;have:=tE he _ _ hp _ hm hb;rw[hl,if_pos we]
  refine⟨fun hn=>?_,fun i hi=>?_⟩
  .have:=(only pre.length).2 J
   rw[hn] at this;cases this
  .obtain rfl:=(only i).1 hi
   have ih:=Qd he r (pre++[o]) (by rw[hops];simp) (fun i h1 h2=>hc i (by simp at h1;omega) h2) (listed.setIfInBounds pre.length true);have hl': ∀j d,(listed.setIfInBounds pre.length true).getD j d=if j<(pre++[o]).length then true else if j<ops.size then false else d:=fun j d=>by
    have hls:pre.length<listed.size:=by
     apply Classical.byContradiction;intro hq;have h1:=hl pre.length true;rw[if_neg we,if_pos we,cV,pX we] at h1
     cases h1
    have h1:=hl j d;rw[cV] at h1⊢;rw[eJ];by_cases hj:pre.length=j
    .subst hj;rw[if_pos J,if_pos hls,if_pos omc];rfl
    .rw[if_neg hj,h1]
     simp only[aY,bZ,fX];by_cases h2:j<pre.length
     .rw[if_pos h2,if_pos we]
     .rw[if_neg h2]
      by_cases h3:j<ops.size
      .rw[if_pos h3,if_neg we];
      .rw[if_neg h3,if_neg we]
   unfold wpOpIn;rw[hp'];simp only[wpListIn] at h⊢;split
   .rename_i hw;rw[if_pos hw] at h
    exact Oper.wpIn_mono (fun a w k=>ih a w hl' k) h
   .rename_i hw;rw[if_neg hw] at h
    exact⟨h.1,ih _ _ hl' h.2⟩
def De(F:Fence)(n:Nat)(P:Program)(ops:Array Oper)(r:List Oper)(Q:Exit->Act->World->Prop):Exit->Act->World->Prop
 | .normal=>wpListIn F n P ops Q r
 |e=>Q e
def X1{K:Act->World->Prop}(h:o.wpIn F n P a w K (De F n P ops r Q)):o.wpIn F n P a w K Q:=by
 refine⟨h.1,?_⟩;have:=h.2
 cases hr:(o.semAt F.round a.eval).run P w with
 |ok x w'=>
  rw[hr] at this
  cases x with
  |enter f args=>exact⟨this.1,CallsIn.mono this.2 fun e w'' he=>by cases e<;>exact he⟩
  |round l f t x y=>exact⟨this.1,RoundIn.mono this.2 fun e w'' he=>by cases e<;>exact he⟩
  |_=>exact this
 |halt x w'=>
  rw[hr] at this
  cases x<;>exact this
def aJQ(hops:ops.toList=pre++r)(hg: ∀o∈pre,o.guard=none)(he:n8 0 ops.toList=true)(hc: ∀i,pre.length<=i->i<ops.size-> ∀j,j<i->Bf ops.toList i j):
  ∀(fuel:Nat) (L listed:Array Bool) (a:Act) (w:World),L.size=pre.length->(∀j d,listed.getD j d=if j<pre.length then L.getD j d else if j<ops.size then false else d)->(∀i o,ops.toList[i]? =some o->listed.getD i false=true-> ∀e∈o.after,Region.binds .any e=true->listed.getD e.on false=true)->
   wpAnyIn F n P .any pre.toArray (De F n P ops r Q) fuel L a w->wpAnyIn F n P .any ops Q (fuel+r.length) listed a w:=by
 have hsz:ops.size=pre.length+r.length:=by rw[<-lT,hops];simp
 have hget: ∀i,i<pre.length->ops[i]? =pre.toArray[i]? :=fun i hi=>by rw[<-pS,hops,iQ hi];simp
 -- all of the first part is done
 have fin: ∀(L listed:Array Bool) (a:Act) (w:World),L.size=pre.length->(∀j d,listed.getD j d=if j<pre.length then L.getD j d else if j<ops.size then false else d)->Region.ready .any pre.toArray L=[]->wpListIn F n P ops Q r a w->wpAnyIn F n P .any ops Q r.length listed a w:=by
  intro L listed a w hL hl hr h;have all: ∀i,i<pre.length->L.getD i true=true:=by
   intro i
   induction i using Nat.strongRecOn with
   |ind i ih=>
    intro hi
    cases hq:L.getD i true with
    |true=>rfl
    |false=>
     have:i∈Region.ready .any pre.toArray L:=mem_ready.2 ⟨hq,pre[i],by simp[hi],fun e hm hb=>by
      have hlt:=tE he i pre[i] (by rw[hops,iQ hi];simp[hi]) e hm hb;have:=ih e.on we we;rw[cV,gM we] at this⊢;simpa using this⟩
     rw[hr] at this;cases this
  refine Qd he r pre hops hc listed a w (fun j d=>?_) h;rw[hl];by_cases hj:j<pre.length
  .have:=all j hj
   rw[if_pos hj,if_pos hj];rw[cV,gM we] at this⊢;simpa using this
  .rw[if_neg hj,if_neg hj]
 intro fuel
 induction fuel with
 |zero=>
  intro L listed a w hL hl hcl h;rw[eM];exact fin L listed a w hL hl h.1 h.2
 |succ fuel ih=>
  intro L listed a w hL hl hcl h;by_cases hr:Region.ready .any pre.toArray L=[]
  .exact LL (fin L listed a w hL hl hr (h.1 hr)) (fuel+1)
  .have sub: ∀i,i∈Region.ready .any pre.toArray L->i∈Region.ready .any ops listed:=fun i hi=>by
    obtain⟨h1,o,h2,h3⟩:=mem_ready.1 hi;have hi':i<pre.length:=by have:=(fV.1 h2).1;simpa using this
    refine mem_ready.2 ⟨by rw[hl,if_pos hi'];exact h1,o,by rw[hget i hi'];exact h2,fun e hm hb=>?_⟩;have hlt:=tE he i o (by rw[hops,iQ hi'];simpa using h2) e hm hb;rw[hl,if_pos we];exact h3 e hm hb
   have sup: ∀i,i∈Region.ready .any ops listed->i∈Region.ready .any pre.toArray L:=fun i hi=>by
    obtain⟨h1,o,h2,h3⟩:=mem_ready.1 hi;have h4:=(fV.1 h2).1;by_cases hi':i<pre.length
    .rw[hl,if_pos hi'] at h1
     refine mem_ready.2 ⟨h1,o,by rw[<-hget i hi'];exact h2,fun e hm hb=>?_⟩;have hlt:=tE he i o (by simpa using h2) e hm hb;have:=h3 e hm hb;rw[hl,if_pos we] at this;exact this
    .exfalso
     obtain⟨j,hj⟩:=List.exists_mem_of_ne_nil _ hr;obtain⟨g1,o2,g2,_⟩:=mem_ready.1 hj;have hj':j<pre.length:=by have:=(fV.1 g2).1;simpa using this
     have clo: ∀i j,Bf ops.toList i j->listed.getD i false=true->listed.getD j false=true:=fun i j hb=>by
      induction hb with
      |b ho hm hb=>intro hi;exact hcl _ _ ho hi _ hm hb
      |s ho hm hb _ ih=>intro hi;exact ih (hcl _ _ ho hi _ hm hb)
     have hjf:listed.getD j false=false:=by
      rw[hl,if_pos hj'];rw[cV,gM we] at g1⊢;simpa using g1
     have:listed.getD j false=true:=by
      obtain⟨o2,e,ho,hm,hb,hh⟩:=(hc i we h4 j we).inv;have e':o=o2:=Option.some.inj (h2.symm.trans okE);subst e';rcases hh with hh|hh
      .rw[<-hh];exact h3 _ hm hb
      .exact clo _ _ hh (h3 _ hm hb)
     rw[hjf] at this;cases this
   rw[show fuel+1+r.length=(fuel+r.length)+1 by omega];refine⟨fun hn=>?_,fun i hi=>?_⟩
   .obtain⟨j,hj⟩:=List.exists_mem_of_ne_nil _ hr
    have:=sub j hj;rw[hn] at this;cases this
   .have hi0:=sup i hi
    have hk:=h.2 i hi0;obtain⟨h1,o,h2,h3⟩:=mem_ready.1 hi0;have hi':i<pre.length:=by have:=(fV.1 h2).1;simpa using this
    have hgo:o.guard=none:=hg o (by
     have h2':pre[i]? =some o:=by simpa using h2
     exact aK h2')
    have step: ∀a w,wpAnyIn F n P .any pre.toArray (De F n P ops r Q) fuel (L.setIfInBounds i true) a w->wpAnyIn F n P .any ops Q (fuel+r.length) (listed.setIfInBounds i true) a w:=by
     intro a w hh;have hls:i<listed.size:=by
      apply Classical.byContradiction;intro hq;have q:=hl i true;have q':=hl i false;rw[if_pos hi'] at q q';rw[cV,pX we] at q q';rw[cV,gM we] at q q';simp only[Option.getD_none,lK] at q q';rw[<-q] at q';cases q'
     have hl': ∀j d,(listed.setIfInBounds i true).getD j d=if j<pre.length then(L.setIfInBounds i true).getD j d else if j<ops.size then false else d:=fun j d=>by
      have q:=hl j d;rw[cV] at q⊢;rw[cV] at q⊢;rw[eJ,eJ];by_cases hj:i=j
      .subst hj;rw[if_pos J,if_pos J,if_pos hls,if_pos hi',if_pos we]
      .rw[if_neg hj,if_neg hj];exact q
     refine ih _ _ a w (by simp[hL]) hl' (fun i2 o2 g1 g2 e hm hb=>?_) hh;have g3:i2=i\/listed.getD i2 false=true:=by
      rw[cV,eJ] at g2;by_cases hj:i=i2
      .exact .inl hj.symm
      .rw[if_neg hj] at g2;rw[cV];exact .inr g2
     have g4:listed.getD e.on false=true:=by
      rcases g3 with rfl|g3
      .have e':o=o2:=Option.some.inj (((hget i2 hi').trans h2).symm.trans (by simpa using g1))
       subst e';have hlt:=tE he i2 o g1 e hm hb;rw[hl,if_pos we];exact h3 e hm hb
      .exact hcl i2 o2 g1 g3 e hm hb
     rw[cV,eJ];by_cases hj:i=e.on
     .rw[if_pos hj];rw[if_pos hls];rfl
     .rw[if_neg hj];rw[cV] at g4;exact g4
    unfold wpOpIn at hk⊢;rw[hget i hi',h2];rw[h2] at hk;have hw: ∀y,Region.wanted o y=true:=fun y=>by unfold Region.wanted;rw[hgo]
    simp only[hw,if_true] at hk⊢;exact X1 (Oper.wpIn_mono step hk)
end
section
variable {own:aO}{us:List Rc}{id:Nat}
def Fm(x:Nat):Nat->Bool
 |0=>true
 |i+1=>x.testBit i&&Fm x i
def O6{x:Nat}: ∀{i:Nat},Fm x i=true-> ∀j,j<i->x.testBit j=true
 |i+1,h,j,hj=>by
  simp only[Fm,bW] at h;by_cases e:j=i
  .subst e;exact h.1
  .exact O6 h.2 j we
def Bi:Nat->List Nat->Bool
 |_,[]=>true
 |i,x::t=>Fm x i&&Bi (i+1) t
def Uu: ∀{l:List Nat} {k:Nat},Bi k l=true-> ∀i x,l[i]? =some x-> ∀j,j<k+i->x.testBit j=true
 |y::t,k,h,0,x,hx,j,hj=>by
  simp only[Bi,bW] at h
  cases hx
  exact O6 h.1 j we
 |y::t,k,h,i+1,x,hx,j,hj=>by
  simp only[Bi,bW] at h;exact Uu h.2 i x (by simpa using hx) j we
def TR: ∀(r:List Oper) (acc:List Nat),(qq r acc).length=acc.length+r.length
 |[],acc=>by simp[qq]
 |o::r,acc=>by simp only[qq];rw[TR];simp;omega
def JS(m:Nat)(pre all:List Oper)(us:List Rc)(fr0:aC)(own0:aO):Bool:=
 (pre.all (fun o=>o.guard.isNone)&&wG (qq pre []) [] us)&&((n8 0 all&&Bi m ((qq all []).drop m))&&F6 us fr0 own0)
def aNR(hm:P.follows .mixedOrders=true)(h:JS us.length (ops.toList.take us.length) ops.toList us fr0 own0=true)(k:aA P GB C n Q0 fr own (.ops ops r K)):aA P GB C n Q0 fr own (.dr id ops fr0 own0 us r K):=by
 intro D;obtain⟨pre,hp,hl⟩:=D.pre;have ht:ops.toList.take us.length=pre:=by rw[hp,<-hl];simp
 rw[ht] at h;simp only[JS,bW] at h;obtain⟨⟨h1,h2⟩,⟨h3,h4⟩,h5⟩:=h;have hg: ∀o∈pre,o.guard=none:=fun o ho=>by simpa using dJ.1 h1 o ho
 have hgt: ∀i,i<pre.length->ops[i]? =pre.toArray[i]? :=fun i hi=>by rw[<-pS,hp,iQ hi];simp
 have hc: ∀i,pre.length<=i->i<ops.size-> ∀j,j<i->Bf ops.toList i j:=fun i g1 g2 j g3=>by
  refine Kf ops.toList [] [] J J (fun i j h=>by simp at h) i j ?_;have hlen:=TR ops.toList [];have hi:i<(qq ops.toList []).length:=by rw[hlen];simpa using g2
  rw[aV,aQ hi];refine Uu h4 (i-us.length) _ ?_ j we;rw[mQ,show us.length+(i-us.length)=i by omega];exact aQ hi
 have he':n8 0 pre=true:=by
  have: ∀(l l':List Oper) (k:Nat),n8 k (l++l')=true->n8 k l=true:=by
   intro l l'
   induction l with
   |nil=>intros;rfl
   |cons o t ih=>intro k h;simp only[iJ,n8,bW] at h⊢;exact⟨h.1,ih _ h.2⟩
  exact this pre r 0 (by rw[<-hp];exact h3)
 have D':jC P GB C n pre.toArray us (bi fr0,bu own0):=by
  refine⟨by simpa using hl.symm,fun i u o hu ho=>?_,by simpa using h2,by simpa using he',NY h5⟩;have hi:i<pre.length:=by have:=(fV.1 ho).1;simpa using this
  obtain⟨d1,d2⟩:=D.snd i u o hu (by rw[hgt i hi];exact ho);refine⟨d1,fun Q tl tb K s1 s2 hf hk=>?_⟩;refine(d2 Q tl tb K s1 s2 hf hk).imp fun a w q=>?_;have hgo:o.guard=none:=hg o (aK okE);have hw: ∀y,Region.wanted o y=true:=fun y=>by unfold Region.wanted;rw[hgo]
  unfold wO at q⊢;simp only[hw,if_true] at q⊢;exact q
 have e:cA (d4 (Array.replicate pre.length false)) 0 (bi fr0,bu own0) us=(bi fr0,bu own0):=by
  have: ∀(l:List Rc) (k:Nat) (s:ST),cA (d4 (Array.replicate pre.length false)) k s l=s:=fun l=>by
   induction l with
   |nil=>intro k s;rfl
   |cons y l ih=>
    intro k s;simp only[cA];rw[ih];rw[Gj];rfl
  exact this us 0 _
 have hw:=D'.walk (Q:=De (FW C.rd) 0 P ops r (cQ C.rd P Q0 K)) (by rw[D.st];exact k) pre.toArray.size (Array.replicate pre.length false) omc (fun i o _ hi=>by rw[Gj] at hi;cases hi) (by unfold un;exact cN (pL _ _) omc);rw[e] at hw;refine hw.drew.imp fun a w q=>wpIn_region_any hm ?_;have hsz:ops.size=pre.toArray.size+r.length:=by rw[<-lT,hp];simp
 rw[show wpAnyIn (FW C.rd) 0 P .any ops (cQ C.rd P Q0 K) ops.size=wpAnyIn (FW C.rd) 0 P .any ops (cQ C.rd P Q0 K) (pre.toArray.size+r.length) by rw[hsz]];refine aJQ hp hg h3 hc _ _ _ _ _ omc (fun j d=>?_) (fun i o _ hi=>?_) q
 .have hs2:ops.size=pre.length+r.length:=by simpa using hsz
  simp only[cV,qN];by_cases g1:j<pre.length
  .rw[if_pos we,if_pos g1,if_pos g1]
  .by_cases g2:j<ops.size
   .rw[if_pos g2,if_neg g1,if_pos g2];rfl
   .rw[if_neg g2,if_neg g1,if_neg g2];rfl
 .simp only[cV,qN] at hi
  split at hi<;>cases hi
end
section
variable {own:aO}{us:List Rc}{id:Nat}
def YX[fu:Fu](h:JS us.length (ops.toList.take us.length) ops.toList us fr0 own0=true)(hgo:go tt n fu.n [] fr own (.ops ops r K)=⟨vc,fr',own',cf'⟩)(k:aA prog GB C n Q0 fr' own' cf')
  (hv:autoParam (ak vc) cL._auto_1):aA prog GB C n Q0 fr own (.dr id ops fr0 own0 us r K):=
 aNR follows h (fB hgo hv k)
end
def Il(o:Obj):Prop:= ∀cs ty z,o≠ .cells cs ty z
section
variable {own:List aB}
def bH.ctx(h:bH C own G w)(h1:C'.w0=C.w0)(h2:C'.G0=C.G0)(h3:C'.mb=C.mb)(h4: ∀p∈C'.ex,p∈C.ex):bH C' own G w:=by
 obtain⟨a1,a2,a3,a4,a5,a6,a7,a8,a9,a10,a11,a12⟩:=h;exact⟨by rw[h1];exact a1,by rw[h1];exact a2,by rw[h1];exact a3,by rw[h1];exact a4,by rw[h1,h3];exact a5,a6,by rw[h2];exact a7,by rw[h1,h2];exact a8,by rw[h1,h3];exact a9,a10,by rw[h1];exact a11,fun p hp=>a12 p (h4 p hp)⟩
def bH.addx(h:bH C own G w){o:Obj}(ho:Il o)(h1:C'.w0=C.w0)(h2:C'.G0=C.G0)(h3:C'.mb=C.mb)(h4: ∀p∈C'.ex,p=(w.heap.size,o)\/p∈C.ex):bH C' own G (w.alloc o):=by
 have old: ∀b,b<w.heap.size->(w.alloc o).heap[b]? =w.heap[b]? :=fun b hb=>RowKit.Below.heap_alloc _ _ _ hb;obtain⟨a1,a2,a3,a4,a5,a6,a7,a8,a9,a10,a11,a12⟩:=h;refine⟨by rw[h1];exact a1,by rw[h1];exact a2,by rw[h1];exact a3,by rw[h1];simp;omega,?_,?_,by rw[h2];exact a7,by rw[h1,h2];exact a8,?_,a10,by rw[h1];exact a11,?_⟩
 .rw[h1,h3];intro b hb hm;rw[old b we];exact a5 b hb hm
 .intro b cs hb
  obtain⟨ty,fz,hc⟩:=a6 b cs hb;exact⟨ty,fz,by rw[old b (iO hc)];exact hc⟩
 .rw[h1,h3];intro x hx
  obtain⟨b1,b2⟩:=a9 x hx;exact⟨by rw[old _ (iO b1)];exact b1,b2⟩
 .intro p hp
  rcases h4 p hp with rfl|hp
  .exact⟨ho,World.alloc_heap_new w o⟩
  .exact⟨(a12 p hp).1,by rw[old _ (iO (a12 p hp).2)];exact(a12 p hp).2⟩
def bH.putx(h:bH C own G w){l:Nat}{o0 o:Obj}(hl:(l,o0)∈C.ex)(hs:C.w0.heap.size<=l)(ho:Il o)(h1:C'.w0=C.w0)(h2:C'.G0=C.G0)(h3:C'.mb=C.mb)(h4: ∀p∈C'.ex,p=(l,o)\/p∈C.ex/\p.1≠l):bH C' own G (w.putObj l o):=by
 have hne: ∀{b:Nat} {cs:Array Value} {ty:TypeId} {z:Nat×Nat},w.heap[b]? =some (.cells cs ty z)->b≠l:=fun hb e=>h.extNe hl hb e.symm;have hlt:=iO (h.ext _ hl).2;obtain⟨a1,a2,a3,a4,a5,a6,a7,a8,a9,a10,a11,a12⟩:=h;refine⟨by rw[h1];exact a1,by rw[h1];exact a2,by rw[h1];exact a3,by rw[h1];simpa using a4,?_,?_,by rw[h2];exact a7,by rw[h1,h2];exact a8,?_,a10,by rw[h1];exact a11,?_⟩
 .rw[h1,h3];intro b hb hm;rw[World.putObj_heap_other we];exact a5 b hb hm
 .intro b cs hb
  obtain⟨ty,fz,hc⟩:=a6 b cs hb;exact⟨ty,fz,by rw[World.putObj_heap_other (hne hc)];exact hc⟩
 .rw[h1,h3];intro x hx
  obtain⟨b1,b2⟩:=a9 x hx;exact⟨by rw[World.putObj_heap_other (hne b1)];exact b1,b2⟩
 .intro p hp
  rcases h4 p hp with rfl|⟨hp,hpl⟩
  .exact⟨ho,World.putObj_heap_same hlt⟩
  .exact⟨(a12 p hp).1,by rw[World.putObj_heap_other hpl];exact(a12 p hp).2⟩
end
abbrev k9 (w:World) (G:Gh):aF:=⟨w,G,[],[],[],none,fun _=>none⟩
def KO(G:Gh)(w:World):Prop:= ∀b cs,G b=some cs-> ∃ty fz,w.heap[b]? =some (.cells ⟨cs⟩ ty fz)
structure Ra (Jv:Gh->World->Prop):Prop where
 frz: ∀G w,Jv G w->KO G w
 on: ∀G w G1 w1,Jv G w->bH (k9 w G) [] G1 w1->Jv G1 w1
def Dt(h:KO G w):bH (k9 w G) [] G w:=
 ⟨J,J,J,bJ _,fun _ _ _=>J,h,bI.refl _,fun _ _=>J,fun o ho=>(by cases ho), .nil,bJ _,fun p hp=>by cases hp⟩
structure AB (GB:Gh) (P:Program) (l:Nat) (Jv:Nat->Gh->World->Prop) (Jx:Gh->World->Prop) (E:List (List DV)):Prop where
 st: ∀k,Ra (Jv k)
 sx:Ra Jx
 yd: ∀k e G w ys,E[k]? =some e->bI GB G->Jv k G w->IsLs G e ys->YieldAt (FW none) 0 P l ⟨ys⟩ w fun e w'=> ∃G',bI G G'/\(e= .returned (.bool true)/\Jv (k+1) G' w'\/e= .returned (.bool false)/\Jx G' w')
structure It (GB:Gh) (P:Program) (f:FuncId) (ds:List DV) (E:List (List DV)):Prop where
 able:s6 P f
 run: ∀(l:Nat) (Jv:Nat->Gh->World->Prop) (Jx:Gh->World->Prop) (GB':Gh),bI GB GB'->AB GB' P l Jv Jx E-> ∀w vs,Jv 0 GB' w->IsLs GB' ds vs->
  CallsIn (FW none) 0 P f ⟨.func (.yield l) #[] #[]::vs⟩ w fun e w'=> ∃G',bI GB' G'/\(∃v,e= .returned v)/\(Jv E.length G' w'\/Jx G' w')
structure Pl (C:aF):Prop where
 mb:C.mb=[]
 mks:C.mks=[]
 rd:C.rd=none
def Ia(P:Program)(fb:Func)(GB:Gh)(Jv:Nat->Gh->World->Prop)(Jx:Gh->World->Prop)(N:Nat):Exit->Act->World->Prop:=
 bodyPost P fb fun e w'=> ∃G',bI GB G'/\(∃v,e= .returned v)/\(Jv N G' w'\/Jx G' w')
section
variable {own:aO}
def aNA[fu:Fu]{m:Nat}{cf:Nat->Cf}{fr:Nat->aC}{own:Nat->aO}{vc:Nat->List Prop}(hf:prog.funcs[f]? =some fb)(hb:fb.body=some c)(hn:(fb.name== "runtime.NumGoroutine")=false)(hm:fb.ntmps=m)(hlen:Nat.ble (ds.length+1) m=true)
  (hgo: ∀l,go tt m fu.n [] (pD 0 (.v (.func (.yield l) #[] #[])::ds)) [] (.code c [])=⟨vc l,fr l,own l,cf l⟩)
  (k: ∀l Jv Jx GB',bI GB GB'->AB GB' prog l Jv Jx E-> ∀C,Pl C->Jv 0 C.G0 C.w0->aA prog GB' C m (Ia prog fb GB' Jv Jx E.length) (fr l) (own l) (cf l))
  (hv: ∀l,ak (vc l):=by intros;first|exact trivial|(simp only[ak];kernel_rfl)|(simp only[ak];omega)):It GB prog f ds E:=by
 refine⟨⟨fb,hf,hn,by simp[hb]⟩,fun l Jv Jx GB' hg H w vs hJ hvs=>?_⟩;have hlen':vs.length+1<=m:=by rw[hvs.len];simpa using hlen
 have h:=fB (GB:=GB') (C:=k9 w GB') (Q0:=Ia prog fb GB' Jv Jx E.length) (hgo l) (hv l) (k l Jv Jx GB' hg H (k9 w GB') ⟨J,J,J⟩ hJ);refine callsIn_wide.2 (calls_of_wp hf hb ?_);have hvs':IsLs GB' (.v (.func (.yield l) #[] #[])::ds) (.func (.yield l) #[] #[]::vs):= .cons (aI.2 J) hvs;refine uO J (h.run (fun _=>⟨none,0,0⟩) GB' [] _ w ⟨bI.refl _,Dt ((H.st 0).frz _ _ hJ),by simp;omega,J,fun k f e=>vm hvs' (fun k v hk=>?_) k f e,(fun nm B e=>by cases e),(fun nm nm' B B' e=>by cases e),fun nm p _ _ e=>by cases e⟩);obtain⟨j,rfl,hj⟩:=wD (.func (.yield l) #[] #[]::vs) 0 k v hk;have hj':=(aT.1 hj).1;rw[lZ omO];simpa using hj
def bH.pl(h:bH C ov G w)(hp:Pl C):bH (k9 C.w0 C.G0) [] G w:=
 (h.drop (jV _)).ctx J J hp.mb.symm (fun p hp=>by cases hp)
def Uq{l:Nat}(H:AB GB P l Jv Jx E)(hp:Pl C)(hJ:Jv E.length C.G0 C.w0\/Jx C.G0 C.w0)(hr:fb.results.toList=[])(he:yE e=true:=by rfl):
  aA P GB C n (Ia P fb GB Jv Jx E.length) fr own (.ex e []):=by
 refine⟨fun ρ G ov a w r=>?_⟩;have hj:Jv E.length G w\/Jx G w:=hJ.imp (fun h=>(H.st _).on _ _ _ _ h (r.h.pl hp)) fun h=>H.sx.on _ _ _ _ h (r.h.pl hp);have hr':kh P (cp a) ov fb.results.toList []:=by rw[hr];exact .nil
 cases e with
 |ret=>exact⟨r.df.trans hp.mks,_,r8 hr' (cC a) r.h,G,r.gb,⟨_,J⟩,hj⟩
 |normal=>exact⟨r.df.trans hp.mks,_,r8 hr' (cC a) r.h,G,r.gb,⟨_,J⟩,hj⟩
 |_=>cases he
def W8{fr:Fr}{l:Nat}{gd:Option (Nat×Bool)}(hf:l6 fr a)(ho:aD fr fo=some (.func (.yield l) ⟨[]⟩ ⟨[]⟩))(hv:fG fr args.toList=some vs):
  (execOp a.eval ⟨dst, .call ⟨.value fo,args,tys⟩,ty',pos,af,gd⟩).run P w=(Instr.yield l ⟨vs⟩).run P w:=by
 have e:args.map a.eval=⟨vs⟩:=by apply Array.ext';simpa using Ca hf hv
 simp only[execOp,resolve,bC hf ho,e,Deferred.ofValue];show(invoke (.fn (.yield l) ⟨[]⟩) (⟨[]⟩++⟨vs⟩)).run P w=_;simp only[invoke];rw[show((⟨[]⟩:Array Value)++⟨vs⟩)=⟨vs⟩ by simp]
def oq:aC->aC
 |[]=>[]
 |(k,f)::t=>match f with
  | .ov .. =>oq t
  | .rw .. =>oq t
  | .be .. =>oq t
  | .rs .. =>oq t
  | .bx .. =>oq t
  | .ri .. =>oq t
  | .no=>oq t
  |f=>(k,f)::oq t
def PL(fr:aC)(ops:Array Oper)(o:Oper):Option (Nat×List DV×Nat):=match o with
 |⟨some d, .call ⟨.value fo,args,_⟩,_,_,_,none⟩=>match bj (bi fr) fo,evDs (bi fr) args.toList with
  |some (.d (.v (.func (.yield l) ⟨[]⟩ ⟨[]⟩))),some ds=>some (l,ds,d)
  |_,_=>none
 |_=>none
def cy[fu1:Fu][fu2:Fu]{l d:Nat}(frd:aC)(H:AB GB prog l Jv Jx E)(hp:Pl C)(hJ:Jv k C.G0 C.w0)(ha:PL fr ops o=some (l,ds,d))(hE:E[k]? =some ds)(hd:cg n (some d)=true)
  (hfd:wc frd fr)(hnd:oq frd=frd)
  (g1:go tt n fu1.n [] ((d, .tt)::frd) [] (.ops ops r K)=⟨vc1,fr1,own1,cf1⟩)(g2:go tt n fu2.n [] ((d, .ff)::frd) [] (.ops ops r K)=⟨vc2,fr2,own2,cf2⟩)
  (k1: ∀C',Pl C'->Jv (k+1) C'.G0 C'.w0->aA prog GB C' n Q0 fr1 own1 cf1)(k2: ∀C',Pl C'->Jx C'.G0 C'.w0->aA prog GB C' n Q0 fr2 own2 cf2)
  (v1:autoParam (ak vc1) cL._auto_1)(v2:autoParam (ak vc2) cL._auto_1):
  aA prog GB C n Q0 fr own (.ops ops (o::r) K):=by
 unfold PL at ha;split at ha<;>try (cases ha;done)
 rename_i d0 fo args tys ty pos af;split at ha<;>cases ha;rename_i h1 h2;have nmd: ∀{f:aC},oq f=f-> ∀k x,bi f k=some x->x.nm=none:=by
  have len: ∀f:aC,(oq f).length<=f.length:=fun f=>by
   induction f with
   |nil=>exact bJ _
   |cons e t ih=>obtain⟨j,x⟩:=e;cases x<;>simp only[oq,bZ]<;>omega
  intro f
  induction f with
  |nil=>intro _ k x e;cases e
  |cons e t ih=>
   obtain⟨j,y⟩:=e;intro hd k x hx;rw[kr] at hx;have:=len t;split at hx
   .cases hx
    cases y<;>first|rfl|(have:=congrArg List.length hd;simp only[oq,bZ] at this;omega)
   .refine ih ?_ k x hx
    cases y<;>first|exact(List.cons.inj hd).2|(have:=congrArg List.length hd;simp only[oq,bZ] at this;omega)
 refine⟨fun ρ G ov a w rl=>?_⟩;have hJG:Jv k G w:=(H.st k).on _ _ _ _ hJ (rl.h.pl hp);obtain⟨y,hy,hy'⟩:=rl.ev h1;rw[(aI (G:=G)).1 hy'] at hy;obtain⟨vs,h3,h4⟩:=rl.evDs h2;obtain⟨fn,tmps,assign,body,hrun,hround⟩:=H.yd k ds G w vs hE rl.gb hJG h4;rw[hp.rd];simp only[wpListIn];rw[if_pos okL];refine⟨fun _ _=>trivial,?_⟩;have hs: ∀o:Oper,Oper.semAt (FW none).round a.eval o=execOp a.eval o:=fun _=>J;rw[hs,W8 (cC a) hy h3,hrun];refine⟨fun h=>okZ,hround.mono fun e w' he=>?_⟩;obtain⟨G',hg,he⟩:=he;have rel: ∀(b:Bool) (f:FX),(∀ρ,b9 ρ G' f (.bool b))->KO G' w'->bP GB (k9 w' G') n (bi ((d,f)::frd)) (bu []) ρ G' [] (a.put (some d) (.bool b)) w':=fun b f hfb hz=>by
  have pa:=rl.putA (dst:=some d) (.bool b) hd;refine⟨rl.gb.trans hg,Dt hz,pa.sz,by rw[pa.df];exact hp.mks,fun k g e=>?_,(fun nm B e=>by cases e),(fun nm nm' B B' e=>by cases e),fun nm p _ _ e=>by cases e⟩;have e':eh (bi frd) (some d) f k=some g:=by
   rw[kr] at e;simp only[eh];split at e
   .rename_i hk;rw[if_pos hk];exact e
   .rename_i hk;rw[if_neg hk];exact e
  refine pa.fx (fun k g _ e=>?_) (hfb ρ) k g e';obtain⟨u,h5,h6⟩:=rl.fx k g (xM hfd k g e);exact⟨u,h5,h6.up hg⟩
 rcases he with⟨rfl,hj⟩|⟨rfl,hj⟩
 .exact(fB (GB:=GB) (C:=k9 w' G') (Q0:=Q0) g1 v1 (k1 (k9 w' G') ⟨J,J,J⟩ hj)).run ρ G' [] _ w' (rel true .tt (fun _=>J) ((H.st _).frz _ _ hj))
 .exact(fB (GB:=GB) (C:=k9 w' G') (Q0:=Q0) g2 v2 (k2 (k9 w' G') ⟨J,J,J⟩ hj)).run ρ G' [] _ w' (rel false .ff (fun _=>J) (H.sx.frz _ _ hj))
def RX(GB:Gh)(n:Nat)(F:X->aC)(I:X->aF->Prop)(a:Act)(w:World):Prop:=
 ∃C x ρ G ov,Pl C/\I x C/\bP GB C n (bi (F x)) (bu []) ρ G ov a w
def VP[fu:Fu](F:X->aC)(I:X->aF->Prop)(μ:X->Nat)(x0:X){cf':X->Cf}{fr':X->aC}{own':X->aO}{vc:X->List Prop}(hp:Pl C)(hI:I x0 C)
  (hgo: ∀x,go tt n fu.n [] (F x) [] (.code c (.ag (RX GB n F (fun y C=>I y C/\μ y<μ x))::K))=⟨vc x,fr' x,own' x,cf' x⟩)
  (round: ∀x C,Pl C->I x C->aA prog GB C n Q0 (fr' x) (own' x) (cf' x))(hF:wc (F x0) fr:=by repeat (first|exact trivial|refine And.intro J ?_|refine And.intro (pC J oko) ?_|refine And.intro (pC J omc) ?_))
  (hv: ∀x C,I x C->ak (vc x):=by intros;first|exact trivial|(simp only[ak];kernel_rfl)|(simp only[ak];omega)|(simp only[ak,aX,bQ,aL];omega)):aA prog GB C n Q0 fr own (.code (.loop c) K):=by
 refine⟨fun ρ G ov a w r=>?_⟩;have r0:=r.mono (bk:=bu []) (xM hF) (fun k x e=>by cases e);rw[hp.rd];intro b k cs hro hb hrm;have key: ∀m a w,(∃C x ρ G ov,Pl C/\I x C/\μ x=m/\bP GB C n (bi (F x)) (bu []) ρ G ov a w)->
   ∃e a' w',cQ none prog Q0 K e a' w'/\ArrivesIn (Machine.fenced prog (FW none)) prog (lone (b.atR a (.code c:: .inLoop c::k)) cs w) b k cs e a' w':=by
  intro m
  induction m using Nat.strongRecOn with
  |_ m ih=>
   intro a w ⟨C,x,ρ,G,ov,hpc,hx,hm,hr⟩;have h1:=fB (GB:=GB) (C:=C) (Q0:=Q0) (hgo x) (hv x C hx) (round x C hpc hx);have h2:=h1.run ρ G ov a w hr;rw[hpc.rd] at h2;obtain⟨e,a₁,w₁,hq,harr⟩:=h2 b (.inLoop c::k) cs hro hb hrm
   cases e with
   |normal=>
    obtain⟨C',x',ρ',G',ov',hpc',⟨hx',hlt⟩,hr'⟩:=hq;obtain⟨e₂,a₂,w₂,hq₂,harr₂⟩:=ih (μ x') (hm▸hlt) a₁ w₁ ⟨C',x',ρ',G',ov',hpc',hx',rfl,hr'⟩;exact⟨e₂,a₂,w₂,hq₂, .of_steps (StepsIn.trans harr (.one (fenced_calm hb hrm J) stepR_inLoop)) harr₂⟩
   |exit id=>exact⟨_,a₁,w₁,hq, .pass (x:= .inLoop c) J (fun _ _=> .inl omc) harr⟩
   |goto l=>exact⟨_,a₁,w₁,hq, .pass (x:= .inLoop c) J (fun _ _=> .inl omc) harr⟩
   |ret=>exact⟨_,a₁,w₁,hq, .pass (x:= .inLoop c) J (fun _ _=> .inl omc) harr⟩
   |panic ch=>exact⟨_,a₁,w₁,hq, .pass (x:= .inLoop c) J (fun _ _=> .inl omc) harr⟩
   |outgrown=>exact⟨_,a₁,w₁,hq, .pass (x:= .inLoop c) J (fun _ _=> .inl omc) harr⟩
 obtain⟨e,a',w',q,rr⟩:=key (μ x0) a w ⟨C,x0,ρ,G,ov,hp,hI,rfl,r0⟩;exact⟨e,a',w',q, .of_steps (.one (fenced_calm hb hrm J) stepR_loop) rr⟩
def atC{F:X->aC}{I:X->aF->Prop}(x:X)(hp:Pl C)(hI:I x C)(hF:wc (F x) fr:=by repeat (first|exact trivial|refine And.intro J ?_|refine And.intro (pC J oko) ?_|refine And.intro (pC J omc) ?_)):aA P GB C n Q0 fr own (.ex .normal (.ag (RX GB n F I)::K)):=
 ⟨fun ρ G ov a w r=>⟨C,x,ρ,G,ov,hp,hI,r.mono (xM hF) (fun k x e=>by cases e)⟩⟩
end
section
variable {own:aO}
def aEn{x:Nat}{Φ:Act->World->Prop}{R:Bh}(hfx:C.fx=fun _=>none)(h:zo x y fr own=some R)(hk:SX GB C n (bi R.fr) (bu R.own) Φ):SX GB C n (bi fr) (bu own) Φ:=by
 unfold zo at h;rw[cond_eq_ite] at h;split at h<;>try (cases h;done)
 rename_i hb;have hxy:x≠y:=fun e=>hb (by subst e;simp);rw[I4,GY] at h;cases h;refine⟨fun ρ G ov a w r=>hk.run (fun k=>if k=y then ρ x else ρ k) G ov a w ?_⟩;have inv: ∀m B,bu (own.map fun e=>(bif Nat.beq e.1 y then x else bif Nat.beq e.1 x then y else e.1,bif Nat.beq e.1 y then none else sF x y e.2)) m=some B-> ∃m0 B0,bu own m0=some B0/\sF x y (some B0)=some B/\(m=y/\m0=x\/m≠y/\m≠x/\m0=m):=fun m B e=>by
  rw[IG hxy] at e;split at e
  .cases e
  .rename_i hm
   split at e
   .cases hl:bu own x with
    |none=>rw[hl] at e;cases e
    |some B0=>rw[hl] at e;exact⟨x,B0,hl,e, .inl ⟨ome,J⟩⟩
   .cases hl:bu own m with
    |none=>rw[hl] at e;cases e
    |some B0=>rw[hl] at e;exact⟨m,B0,hl,e, .inr ⟨ome,hm,J⟩⟩
 have rho: ∀m m0,(m=y/\m0=x\/m≠y/\m≠x/\m0=m)->(fun k=>if k=y then ρ x else ρ k) m=ρ m0:=fun m m0 h=>by
  rcases h with⟨h1,h2⟩|⟨h1,_,h2⟩
  .subst h1 h2;simp
  .subst h2;exact if_neg h1
 refine⟨r.gb,r.h,r.sz,r.df,fun k f e=>?_,fun m B e=>?_,fun m m' B B' e e' hne=>?_,fun m p _ _ e=>by rw[hfx] at e;cases e⟩
 .rw[FF] at e
  cases hf:bi fr k with
  |none=>rw[hf] at e;cases e
  |some g=>
   rw[hf] at e;cases e;obtain⟨v,h1,h2⟩:=r.fx k g hf;exact⟨v,h1,GN hxy h2⟩
 .obtain⟨m0,B0,h1,h2,h3⟩:=inv m B e
  obtain⟨os,h4,h5⟩:=r.bx m0 B0 h1;refine⟨os,?_,h5⟩;have hr:=rho m m0 h3
  cases B0 with
  |b=>cases h2;obtain⟨vs,q1,q2,q3,q4⟩:=h4;exact⟨vs,by rw[hr];exact q1,q2,q3,q4⟩
  |c=>cases h2;obtain⟨vs,q1,q2,q3,q4,q5⟩:=h4;exact⟨vs,by rw[hr];exact q1,q2,q3,q4,by rw[hr];exact q5⟩
  |p=>cases h2;obtain⟨q0,vs,q1,q2,q3,q4⟩:=h4;exact⟨by rw[hr];exact q0,vs,q1,q2,q3,q4⟩
  |o ty cs lo=>cases h2;obtain⟨b,q,q1,q2,q3⟩:=h4;exact⟨b,q,by rw[hr];exact q1,q2,H5 hxy q3⟩
 .obtain⟨m0,B0,h1,_,h3⟩:=inv m B e
  obtain⟨m1,B1,h4,_,h6⟩:=inv m' B' e';have q1:=rho m m0 h3;have q2:=rho m' m1 h6;simp only at q1 q2;rw[q1,q2];refine r.dj m0 m1 B0 B1 h1 h4 fun e=>?_;rcases h3 with⟨h7,h8⟩|⟨h7,h8,h9⟩<;>rcases h6 with⟨g7,g8⟩|⟨g7,g8,g9⟩
  .exact hne (h7.trans g7.symm)
  .exact g8 (by rw[<-g9,<-e,h8])
  .exact h8 (by rw[<-h9,e,g8])
  .exact hne (by rw[<-h9,e,g9])
def wq(x y:Nat)(hfx:C.fx=fun _=>none)(h:zo x y fr own=some ⟨fr1,own1⟩)(k:aA P GB C n Q0 fr1 own1 (.code c K)):aA P GB C n Q0 fr own (.code c K):=aEn hfx h k
def yO(P:Program)(fb:Func)(R:Ending->World->Prop):Exit->Act->World->Prop:=bodyPostM (FW none) 0 P fb R
structure Hg (C:aF):Prop where
 mks:C.mks=[]
 rd:C.rd=none
 fx:C.fx=fun _=>none
def K9[fu:Fu]{m:Nat}(hf:prog.funcs[f]? =some fb)(hb:fb.body=some c)(hn:(fb.name== "runtime.NumGoroutine")=false)(hm:fb.ntmps=m)(hlen:Nat.ble ds.length m=true)
  (hgo:go tt m fu.n [] (pD 0 ds) [] (.code c [])=⟨vc,fr,own,cf⟩)(k: ∀C:aF,Hg C->aA prog GB C m (yO prog fb (jb C (fun v G'=>Is G' rv v))) fr own cf)
  (hv:autoParam (ak vc) fn._auto_1):PF GB prog f ds rv:=by
 intro G vs hg hvs;refine⟨⟨fb,hf,hn,by simp[hb]⟩,fun w hw=>?_⟩;have hlen':vs.length<=m:=by rw[hvs.len];simpa using hlen
 have h:=fB (GB:=GB) (C:=k9 w G) (Q0:=yO prog fb (jb (k9 w G) (fun v G'=>Is G' rv v))) hgo hv (k (k9 w G) ⟨J,J,J⟩);refine(callsIn_wide (n:=0)).1 (callsIn_of_wp_marks (F:=FW none) (n:=0) hf hb trivial ?_);refine h.run (fun _=>⟨none,0,0⟩) G [] _ w ⟨hg,Dt hw,by simp;omega,J,fun k f e=>vm hvs (fun k v hk=>?_) k f e,(fun nm B e=>by cases e),(fun nm nm' B B' e=>by cases e),fun nm p _ _ e=>by cases e⟩;obtain⟨j,rfl,hj⟩:=wD vs 0 k v hk;have hj':=(aT.1 hj).1;rw[lZ omO];simpa using hj
def aF.mk3(C:aF)(D:Nat):aF:={C with ex:=(D, .deferred (some []))::C.ex,mks:=[{target:= .collected D,args:= #[]}]}
def FE(hD:C.w0.heap.size<=D)(hx: ∀p∈C.ex,p.1≠D)(hr:qh tt fr own fb.results.toList=some ds)(hd:fg ds=rv)(he:yE e=true:=by rfl):aA prog GB (C.mk3 D) n (yO prog fb (jb C (fun v G'=>Is G' rv v))) fr own (.ex e []):=by
 refine⟨fun ρ G ov a w r=>?_⟩;obtain⟨vs,h1,h2⟩:=yx r hr;have hk:Is G rv (m9 vs):=hd▸zF h2;have hex:((D,Obj.deferred (some [])):Nat×Obj)∈(C.mk3 D).ex:=aZ;have h3:bH C ov G (w.putObj D (.deferred none)):=r.h.putx hex hD (fun _ _ _ h=>by cases h) J J J fun p hp=> .inr ⟨aJ _ hp,hx p hp⟩;have hres:=r8 (C:=C) (G:=G) (own:=ov) (w:=w.putObj D (.deferred none)) h1 (cC a) h3;have key:LeavesInM (FW none) 0 prog fb a.tmps (jb C (fun v G'=>Is G' rv v)) a.defers .returning w:=by
  rw[r.df];exact⟨omc, .inl ⟨D,_,J,run_takeDeferred (r.h.ext _ hex).2,_,hres,_,G,J,h3.drop (jV _),hk⟩⟩
 cases e with
 |ret=>exact key
 |normal=>exact key
 |_=>cases he
end
section
variable {own:aO}
def bP.later{ρ:NE}(r:bP GB C n lk bk ρ G ov a w)(h:bH (k9 w G) [] G1 w1):bP GB C n lk bk ρ G1 ov a w1:=
 ⟨r.gb.trans h.gle,r.h.called h,r.sz,r.df,fun k f e=>by obtain⟨y,h1,h2⟩:=r.fx k f e;exact⟨y,h1,h2.up h.gle⟩,fun nm B e=>by obtain⟨os,h1,h2⟩:=r.bx nm B e;exact⟨os,h1.up h.gle,h2⟩,r.dj,r.fxd⟩
def Ao:List Nat->List DV->aC->aC
 |p::ps,d::ds,fr=>Ao ps ds ((p, .d d)::fr)
 |_,_,fr=>fr
def Oq{ρ:NE}{G:Gh}: ∀{ps:List Nat} {ds:List DV} {ys tm:List Value} {fr:aC},IsLs G ds ys->(∀p∈ps,p<tm.length)->(∀k f,bi fr k=some f-> ∃y,tm[k]? =some y/\b9 ρ G f y)->
  ((ps.zip ys).foldl (fun t e=>t.set e.1 e.2) tm).length=tm.length/\ ∀k f,bi (Ao ps ds fr) k=some f-> ∃y,((ps.zip ys).foldl (fun t e=>t.set e.1 e.2) tm)[k]? =some y/\b9 ρ G f y
 |[],ds,ys,tm,fr,_,_,h=>⟨J,fun k f e=>h k f (by cases ds<;>exact e)⟩
 |p::ps,[],ys,tm,fr,hd,_,h=>by rw[dm.1 hd];exact⟨J,fun k f e=>h k f e⟩
 |p::ps,d::ds,ys,tm,fr,hd,hp,h=>by
  obtain⟨y,m,rfl,h1,h2⟩:=bh.1 hd;simp only[List.zip_cons_cons,iK,Ao];have:=Oq (ps:=ps) (ds:=ds) (ys:=m) (tm:=tm.set p y) (fr:=(p, .d d)::fr) h2 (fun q hq=>by rw[bQ];exact hp q (aJ _ hq)) fun k f e=>by
   rw[kr] at e;split at e
   .rename_i hk;subst hk;cases e
    exact⟨y,by rw[qQ];rw[if_pos J,if_pos (hp k aZ)],h1⟩
   .rename_i hk
    obtain⟨u,h3,h4⟩:=h k f e;exact⟨u,by rw[qQ];rw[if_neg (fun e=>hk e.symm)];exact h3,h4⟩
  rw[bQ] at this;exact this
def PY: ∀(l:List (Nat×Value)) (t:Array Value),(l.foldl (fun t e=>t.setIfInBounds e.1 e.2) t).toList=l.foldl (fun t e=>t.set e.1 e.2) t.toList
 |[],t=>rfl
 |e::l,t=>by simp only[iK];rw[PY l];simp
def Lk:FX->Bool
 | .ov nm _=>Nat.ble 2000000 nm
 | .rw _=>false
 | .be .. =>false
 | .rs .. =>false
 | .bx .. =>false
 |_=>true
def DZ:aC->Bool
 |[]=>true
 |(_,f)::t=>Lk f&&DZ t
def M2: ∀{fr:aC},DZ fr=true-> ∀k f,bi fr k=some f->Lk f=true
 |[],_,k,f,e=>by cases e
 |(j,g)::t,h,k,f,e=>by
  simp only[DZ,bW] at h;rw[kr] at e;split at e
  .cases e;exact h.1
  .exact M2 h.2 k f e
def OP(GB:Gh)(C:aF)(n:Nat)(fr:aC)(own:aO)(a:Act)(w:World):Prop:= ∃ρ G ov,bP GB C n (bi fr) (bu own) ρ G ov a w
def atR:aA P GB C n Q0 fr own (.ex .normal (.ag (OP GB C n fr own)::K)):=⟨fun ρ G ov a w r=>⟨ρ,G,ov,r⟩⟩
def RQ(GB:Gh)(C:aF)(n:Nat)(p:Prop)(O:aO)(S:σ->aO)(q:σ->Prop):Exit->Act->World->Prop
 | .normal,a,w=>p/\ ∃ρ G ov,bP GB C n (fun _=>none) (bu O) ρ G ov a w
 | .ret,a,w=> ∃s,q s/\ ∃ρ G ov,bP GB C n (fun _=>none) (bu (S s)) ρ G ov a w
 |_,_,_=>False
def rq{S:σ->aO}{q:σ->Prop}(hp:p)(hO:wX O own:=by repeat (first|exact trivial|refine And.intro J ?_)):aA P GB C n (RQ GB C n p O S q) fr own (.ex .normal []):=
 ⟨fun ρ G ov a w r=>⟨hp,ρ,G,ov,r.mono (fun k x e=>by cases e) (vk hO)⟩⟩
def Tm{S:σ->aO}{q:σ->Prop}(s:σ)(hq:q s)(hO:wX (S s) own:=by repeat (first|exact trivial|refine And.intro J ?_)):aA P GB C n (RQ GB C n p O S q) fr own (.ex .ret []):=
 ⟨fun ρ G ov a w r=>⟨s,hq,ρ,G,ov,r.mono (fun k x e=>by cases e) (vk hO)⟩⟩
def CE{ps:Array Nat}(I:Nat->aO)(p:Nat->Prop)(S:σ->aO)(q:σ->Prop)(fr1:aC)
  (h0:Hg C)(hg:bj (bi fr) g=some (.d (.v (.func (.func gf) ⟨[]⟩ ⟨caps⟩))))(hIt:It GB P gf ds E)(hc:IsLs GB ds caps)
  (hfr:wc fr1 fr)(hfix:DZ fr1=true)(hO:wX (I 0) own)(hp:p 0)(hps: ∀e∈E,e.length=ps.size)(hpn:ps.toList.all (fun k=>Nat.blt k n)=true)(hn2:Nat.ble n 2000000=true)
  (round: ∀k e GB',E[k]? =some e->bI GB GB'->p k-> ∃fr2 own2,(∀C2,aA P GB' C2 n (fun _ _ _=>False) (Ao ps.toList e fr1) (I k) (.code assign [.ag (OP GB' C2 n fr2 own2)]))/\ ∀C2,aA P GB' C2 n (RQ GB' C2 n (p (k+1)) (I (k+1)) S q) fr2 own2 (.code body []))
  (after: ∀D,C.w0.heap.size<=D->(∀x∈C.ex,x.1≠D)->p E.length->aA P GB (C.mk3 D) n Q0 fr1 (I E.length) (.ex .normal K))
  (early: ∀D s,C.w0.heap.size<=D->(∀x∈C.ex,x.1≠D)->q s->aA P GB (C.mk3 D) n Q0 fr1 (S s) (.ex .ret K)):
  aA P GB C n Q0 fr own (.code (.rangeFunc g ps assign body) K):=by
 refine⟨fun ρ0 G0 ov0 a w r=>?_⟩;rw[h0.rd];refine wpIn_rangeFunc fun fn _=>?_;obtain⟨y,hy,hy'⟩:=r.ev hg;rw[(aI (G:=G0)).1 hy'] at hy;have hev:=bC (cC a) hy
 let D:=w.heap.size
 let l:=w.heap.size+1
 let rec_:Loop:={state:= .ready,pending:=none,fn,tmps:=a.tmps,params:=ps,assign,body,defers:=D}
 let w2:=(w.alloc (.deferred (some []))).alloc (.loop rec_)
 let mk:Deferred:={target:= .collected D,args:= #[]}
 let fx1:Nat->Option Addr:=fun nm=>(ρ0 nm).a
 let C1:Loop->aF:=fun rc=>{C with ex:=(l, .loop rc)::(D, .deferred (some []))::C.ex,mks:=[mk],fx:=fx1}
 let a0:Act:={a with defers:=[mk]++a.defers}
 have hszD:C.w0.heap.size<=D:=r.h.size;have hlt: ∀x∈C.ex,x.1<D:=fun x hx=>iO (r.h.ext x hx).2;have hszl:C.w0.heap.size<=l:=Nat.le_succ_of_le hszD;have hnl: ∀x∈((D,Obj.deferred (some []))::C.ex:List (Nat×Obj)),x.1≠l:=fun x hx=>by
  rcases aW.1 hx with rfl|hx
  .show D≠D+1;omega
  .have:=hlt x hx;show x.1≠D+1;omega
 have ncl: ∀rc:Loop,Il (.loop rc):=fun rc _ _ _ h=>by cases h
 -- the slots of the loop, at any time
 have stat: ∀(ρ':NE) (G':Gh),bI G0 G'->(∀nm p,n<=nm->2000000<=nm->fx1 nm=some p->(ρ' nm).a=some p)-> ∀k f,bi fr1 k=some f-> ∃y,a.tmps[k]? =some y/\b9 ρ' G' f y:=by
  intro ρ' G' hg' hf k f e;obtain⟨y,h1,h2⟩:=r.fx k f (xM hfr k f e);refine⟨y,h1,?_⟩;have hx:=M2 hfix k f e
  cases f with
  |ov nm off=>
   obtain⟨b,h3,h4⟩:=h2;have h5:2000000<=nm:=by simpa[Lk] using hx
   have h6:n<=2000000:=by simpa using hn2
   exact⟨b,hf nm _ we h5 h3,h4⟩
  |rw _=>cases hx
  |be _ _ _ _=>cases hx
  |rs _ _ _ _=>cases hx
  |bx _ _ _ _=>cases hx
  |ri _ _=>exact h2
  |_=>exact(h2.up hg').ren fun _ h=>by cases h
 let Jv:Nat->Gh->World->Prop:=fun k G' w'=>p k/\ ∃ρ ov,bP G0 (C1 rec_) n (bi fr1) (bu (I k)) ρ G' ov a0 w'
 let rcx:Loop:={rec_ with state:= .done,pending:=some .ret}
 let Jx:Gh->World->Prop:=fun G' w'=> ∃s,q s/\ ∃ρ ov,bP G0 (C1 rcx) n (bi fr1) (bu (S s)) ρ G' ov a0 w'
 have hsz0:a0.tmps.size=n:=r.sz;have hdf0:a0.defers=[mk]:=by show [mk]++a.defers=_;rw[r.df,h0.mks];rfl
 have H:AB G0 P l Jv Jx E:=by
  refine⟨fun k=>⟨fun G' w' ⟨_,ρ,ov,h⟩=>h.h.sub,fun G' w' G1 w1 ⟨h1,ρ,ov,h⟩ k=>⟨h1,ρ,ov,h.later k⟩⟩,⟨fun G' w' ⟨_,_,ρ,ov,h⟩=>h.h.sub,fun G' w' G1 w1 ⟨s,h1,ρ,ov,h⟩ k=>⟨s,h1,ρ,ov,h.later k⟩⟩,?_⟩;intro k e G' w' ys hE hgg ⟨hpk,ρ,ov,r1⟩ hys;have hrec:w'.heap[l]? =some (.loop rec_):=(r1.h.ext _ aZ).2;have hel:=hps e (aK hE);obtain⟨fr2,own2,hA,hB⟩:=round k e G' hE (r.gb.trans hgg) hpk;refine⟨_,_,_,_,run_yield hrec (by show ys.length=ps.size;rw[hys.len,hel]),roundIn_of_wpIn trivial ?_⟩
  let C2:aF:={C1 rec_ with mks:=[],rd:=some l}
  let tm:Array Value:=(ps.zip (⟨ys⟩:Array Value)).foldl (fun tmps (t,a)=>tmps.setIfInBounds t a) a.tmps
  have htm:tm.toList=(ps.toList.zip ys).foldl (fun t e=>t.set e.1 e.2) a.tmps.toList:=by
   simp only[tm];rw[<-rV,Array.toList_zip];exact PY _ _
  have hfx0:=r1.fx;obtain⟨q1,q2⟩:=Oq (ρ:=ρ) (ps:=ps.toList) (tm:=a.tmps.toList) (fr:=fr1) hys (fun k hk=>by have:=dJ.1 hpn k hk;rw[lT,r.sz];simpa[lU] using this) fun k f e=>by
   obtain⟨y,h1,h2⟩:=hfx0 k f e;exact⟨y,by simpa using h1,h2⟩
  have hR0:bP G' C2 n (bi (Ao ps.toList e fr1)) (bu (I k)) ρ G' ov {tmps:=tm,defers:=[]} w':=by
   refine⟨bI.refl _,r1.h.ctx J J J (fun _ h=>h),?_,J,fun k f e=>?_,r1.bx,r1.dj,r1.fxd⟩
   .show tm.size=n
    rw[<-lT,htm,q1,lT,r.sz]
   .obtain⟨y,h1,h2⟩:=q2 k f e
    exact⟨y,by rw[<-htm] at h1;simpa using h1,h2⟩
  refine wpIn_mono ((hA C2).run ρ G' ov _ w' hR0) fun ex a1 w1 hex=>?_
  cases ex with
  |normal=>
   obtain⟨ρ2,G2,ov2,r2⟩:=hex;have hrec1:w1.heap[l]? =some (.loop rec_):=(r2.h.ext _ aZ).2;refine⟨_,run_beginRound hrec1 J,?_⟩
   let busy:Loop:={rec_ with state:= .busy}
   let C3:aF:={C1 busy with mks:=[],rd:=some l}
   have h3:bH C3 ov2 G2 (w1.putObj l (.loop busy)):=r2.h.putx aZ hszl (ncl _) J J J fun x hx=>by
    rcases aW.1 hx with rfl|hx
    .exact .inl J
    .exact .inr ⟨aJ _ hx,hnl x hx⟩
   refine wpIn_mono ((hB C3).run ρ2 G2 ov2 a1 (w1.putObj l (.loop busy)) ⟨r2.gb,h3,r2.sz,r2.df,r2.fx,r2.bx,r2.dj,r2.fxd⟩) fun ex a2 w3 hex=>?_
   cases ex with
   |normal=>
    obtain⟨hp1,ρ3,G3,ov3,r3⟩:=hex;have hrec3:w3.heap[l]? =some (.loop busy):=(r3.h.ext _ aZ).2;refine⟨_,_,run_endRound none hrec3,G3,r3.gb, .inl ⟨J,hp1,ρ3,ov3,hgg.trans r3.gb,?_,hsz0,hdf0,stat ρ3 G3 (hgg.trans r3.gb) r3.fxd,r3.bx,r3.dj,r3.fxd⟩⟩;exact r3.h.putx aZ hszl (ncl _) J J J fun x hx=>by
     rcases aW.1 hx with rfl|hx
     .exact .inl J
     .exact .inr ⟨aJ _ hx,hnl x hx⟩
   |ret=>
    obtain⟨s,hq,ρ3,G3,ov3,r3⟩:=hex;have hrec3:w3.heap[l]? =some (.loop busy):=(r3.h.ext _ aZ).2;refine⟨_,_,run_endRound (some .ret) hrec3,G3,r3.gb, .inr ⟨J,s,hq,ρ3,ov3,hgg.trans r3.gb,?_,hsz0,hdf0,stat ρ3 G3 (hgg.trans r3.gb) r3.fxd,r3.bx,r3.dj,r3.fxd⟩⟩;exact r3.h.putx aZ hszl (ncl _) J J J fun x hx=>by
     rcases aW.1 hx with rfl|hx
     .exact .inl J
     .exact .inr ⟨aJ _ hx,hnl x hx⟩
   |exit id=>exact hex.elim
   |goto t=>exact hex.elim
   |panic ch=>exact hex.elim
   |outgrown=>exact hex.elim
  |exit id=>exact hex.elim
  |goto t=>exact hex.elim
  |ret=>exact hex.elim
  |panic ch=>exact hex.elim
  |outgrown=>exact hex.elim
 have hC1:bH (C1 rec_) ov0 G0 w2:=by
  have h1:bH {C with ex:=(D, .deferred (some []))::C.ex} ov0 G0 (w.alloc (.deferred (some []))):=r.h.addx (fun _ _ _ h=>by cases h) J J J fun x hx=>aW.1 hx;refine h1.addx (ncl rec_) J J J fun x hx=>?_;rcases aW.1 hx with rfl|hx
  .exact .inl (by show((l,Obj.loop rec_):Nat×Obj)=_;rw[show(w.alloc (.deferred (some []))).heap.size=w.heap.size+1 by simp])
  .exact .inr hx
 have hJ0:Jv 0 G0 w2:=⟨hp,ρ0,ov0,bI.refl _,hC1,hsz0,hdf0,stat ρ0 G0 (bI.refl _) (fun _ _ _ _ h=>h),fun nm B e=>r.bx nm B (vk hO nm B e),fun nm nm' B B' e e'=>r.dj nm nm' B B' (vk hO nm B e) (vk hO nm' B' e'),fun _ _ _ _ h=>h⟩;refine⟨l,[mk],w2,{target:= .fn (.func gf) ⟨caps⟩,args:= #[.func (.yield l) #[] #[]]},w2,gf, #[.func (.yield l) #[] #[]]++⟨caps⟩,w2,run_enterLoop_outer fn a.tmps ps assign body,?_,fun _ _=>trivial,?_,fun h=>okZ,?_⟩
 .have he:(⟨[]⟩:Array Value)++Array.map a.eval #[.const (.func (.yield l) #[] #[])]= #[.func (.yield l) #[] #[]]:=by
   apply Array.ext';rw[Array.toList_append,qX];rfl
  simp only[resolve,hev,Deferred.ofValue];rw[he];rfl
 .simp only[invoke]
  exact Jk hIt.able _ _
 refine CallsIn.mono (show CallsIn (FW none) 0 P gf _ w2 _ from by
  have:=hIt.run l Jv Jx G0 r.gb H w2 caps hJ0 (hc.up r.gb);rw[show(#[Value.func (.yield l) #[] #[]]++(⟨caps⟩:Array Value))=⟨.func (.yield l) #[] #[]::caps⟩ by simp];exact this) fun e w3 he=>?_
 obtain⟨G',hgg,⟨v,rfl⟩,hj⟩:=he;have fin: ∀(rc:Loop) (O:aO) (ρ:NE) (ov:List aB),bP G0 (C1 rc) n (bi fr1) (bu O) ρ G' ov a0 w3->bP GB (C.mk3 D) n (bi fr1) (bu O) ρ G' ov a0 (w3.putObj l (.loop {rc with state:= .exhausted})):=fun rc O ρ ov r3=>
  ⟨r.gb.trans r3.gb,r3.h.putx aZ hszl (ncl _) J J J fun x hx=> .inr ⟨aJ _ hx,hnl x hx⟩,r3.sz,r3.df,r3.fx,r3.bx,r3.dj,fun nm p _ _ e=>by rw[show(C.mk3 D).fx=fun _=>none from h0.fx] at e;cases e⟩
 have hxD: ∀x∈C.ex,x.1≠D:=fun x hx e=>by have:=hlt x hx;omega
 rcases hj with⟨hpn,ρ,ov,r3⟩|⟨s,hq,ρ,ov,r3⟩
 .have hrec3:w3.heap[l]? =some (.loop rec_):=(r3.h.ext _ aZ).2
  have:=(after D hszD hxD hpn).run ρ G' ov a0 _ (fin rec_ _ ρ ov r3);rw[show(C.mk3 D).rd=none from h0.rd] at this;exact⟨_,_,run_endLoop hrec3 (by simp[rec_]),this⟩
 .have hrec3:w3.heap[l]? =some (.loop rcx):=(r3.h.ext _ aZ).2
  have:=(early D s hszD hxD hq).run ρ G' ov a0 _ (fin rcx _ ρ ov r3);rw[show(C.mk3 D).rd=none from h0.rd] at this;exact⟨_,_,run_endLoop hrec3 (by simp[rcx]),wpIn_ret this⟩
end
section
variable {own:aO}
def IN(GB:Gh)(P:Program)(f:FuncId)(ds:List DV)(gf:FuncId)(dp:DV):Prop:=
 ∀G vs,bI GB G->IsLs G ds vs->Fn P f vs G fun v G'=> ∃pv,v= .func (.func gf) ⟨[]⟩ ⟨[pv]⟩/\Is G' dp pv
def FY(gf:FuncId)(dp:DV)(v:Value)(G':Gh):Prop:= ∃pv,v= .func (.func gf) ⟨[]⟩ ⟨[pv]⟩/\Is G' dp pv
def aNZ[fu:Fu]{m:Nat}(hf:prog.funcs[f]? =some fb)(hb:fb.body=some c)(hn:(fb.name== "runtime.NumGoroutine")=false)(hm:fb.ntmps=m)(hlen:Nat.ble ds.length m=true)
  (hgo:go tt m fu.n [] (pD 0 ds) [] (.code c [])=⟨vc,fr,own,cf⟩)(k: ∀C:aF,aA prog GB C m (eH C prog fb (jb C (FY gf dp))) fr own cf)
  (hv:autoParam (ak vc) cL._auto_1):IN GB prog f ds gf dp:=by
 intro G vs hg hvs;refine Fn.introR hf hb hn hm okp fun C _ _ hrd hfx=>?_;intro a w rl;refine uO hrd ?_;have h:=fB (GB:=GB) (C:=C) (Q0:=eH C prog fb (jb C (FY gf dp))) hgo hv (k C);exact h.run (fun _=>⟨none,0,0⟩) G [] a w ⟨hg,rl.h,rl.sz,rl.df,(fun k f e=>vm hvs rl.fr k f e),(fun nm B e=>by cases e),(fun nm nm' B B' e=>by cases e),fun nm p _ _ e=>by rw[hfx] at e;cases e⟩
def aNH{t:Nat}(hr:fb.results.toList=[.tmp t])(hl:bi fr t=some (.d (.v (.func (.func gf) ⟨[]⟩ ⟨[pv]⟩))))(hp:Is GB dp pv):aA P GB C n (eH C P fb (jb C (FY gf dp))) fr own (.ex .ret []):=by
 refine⟨fun ρ G ov a w r=>?_⟩;obtain⟨y,hy,hy'⟩:=r.ev (x:= .tmp t) hl;rw[(aI (G:=G)).1 hy'] at hy;exact zD (C:=C) (n:=n) (fr:=cp a) (own:=ov) (G:=G) (K:=FY gf dp) okh ⟨pv,J,hp.up r.gb⟩ a w ⟨r.h,r.sz,cC a,r.df⟩
def UB(fr:aC)(cf:Cf):Option (FuncId×Value):=match c6 fr cf with
 |some ⟨_, .makeFunc (.func f) ⟨[]⟩ ⟨[x]⟩,_,_,_,_⟩=>match bj (cd fr cf) x with
  |some (.d (.v pv))=>some (f,pv)
  |_=>none
 |_=>none
def V4[fu:Fu](h:UB fr cf=some (f,pv))(hgo:cB tt n fu.n fr own cf (.d (.v (.func (.func f) ⟨[]⟩ ⟨[pv]⟩))) [] []=⟨vc,fr',own',cf'⟩)(k:aA prog GB C n Q0 fr' own' cf')
  (hv:autoParam (ak vc) cL._auto_1):aA prog GB C n Q0 fr own cf:=by
 unfold UB at h;split at h<;>try (cases h;done)
 rename_i hh;split at h<;>cases h;rename_i hx;exact us hh (.x1 hx fun ρ G ov a w y _ r h1 h2=>by
  rw[(aI (G:=G)).1 h2] at h1;exact⟨_,(aI (G:=G)).2 J,Gs (l1:=[]) (l2:=[pv]) J (by simp[h1])⟩) hgo hv k
def Eh[fu:Fu]{d:Nat}{fr':Value->aC}{own':Value->aO}{cf':Value->Cf}{vc:Value->List Prop}(ha:yF fr (.ops ops (o::r) K)=some (f,ds))(hdst:o.dst=some d)(hd:cg n (some d)=true)(hF:IN GB prog f ds gf dp)
  (hgo: ∀pv,go tt n fu.n [] ((d, .d (.v (.func (.func gf) ⟨[]⟩ ⟨[pv]⟩)))::fr) own (.ops ops r K)=⟨vc pv,fr' pv,own' pv,cf' pv⟩)
  (k: ∀GB' pv,bI GB GB'->Is GB' dp pv->aA prog GB' C n Q0 (fr' pv) (own' pv) (cf' pv))
  (hv: ∀pv,ak (vc pv):=by intros;first|exact trivial|(simp only[ak];kernel_rfl)|(simp only[ak];omega)):aA prog GB C n Q0 fr own (.ops ops (o::r) K):=by
 unfold yF at ha;split at ha<;>try (cases ha;done)
 rename_i fo args tys ty pos af gd hh;obtain⟨ops0,h1,h2⟩:=IQ hh
 cases h1
 cases hdst
 obtain⟨c1,c2⟩:=A1 ha;refine⟨fun ρ G ov a w rl=>?_⟩;obtain⟨y,hy,hy'⟩:=rl.ev c1;rw[(aI (G:=G)).1 hy'] at hy;obtain⟨vs,h3,h4⟩:=rl.evDs c2;simp only[wpListIn];rw[if_pos (Cn h2 ρ G ov a w rl)];refine F3 (K':=fun a' w'=>a'.defers=C.mks/\wpListIn (FW C.rd) 0 prog ops (cQ C.rd prog Q0 K) r a' w') (fun Q=>?_) (fun a' w' q=>⟨q.1.trans rl.df.symm,q.2⟩);refine zC hy h3 (hF G vs rl.gb h4) hd (fun v G' hG hK a' w' rel=>?_) a w Q ⟨rl.h,rl.sz,cC a,rl.df⟩;obtain⟨pv,rfl,hpv⟩:=hK;refine⟨rel.df,?_⟩;have:=fB (GB:=G') (C:=C) (Q0:=Q0) (hgo pv) (hv pv) (k G' pv (rl.gb.trans hG.le) hpv);refine this.run ρ G' ov a' w' ⟨bI.refl _,rel.h,rel.sz,rel.df,fun j g e=>?_,fun nm B e=>by obtain⟨os,h5,h6⟩:=rl.bx nm B e;exact⟨os,h5.up hG.le,h6⟩,rl.dj,rl.fxd⟩;have e':eh (bi fr) (some d) (.d (.v (.func (.func gf) ⟨[]⟩ ⟨[pv]⟩))) j=some g:=by
  rw[kr] at e;simp only[eh];split at e
  .rename_i hk;rw[if_pos hk];exact e
  .rename_i hk;rw[if_neg hk];exact e
 exact(jp rel).fx (fun k g _ e=>by obtain⟨u,h5,h6⟩:=rl.fx k g e;exact⟨u,h5,h6.up hG.le⟩) (show b9 ρ G' (.d (.v (.func (.func gf) ⟨[]⟩ ⟨[pv]⟩))) _ from(aI (G:=G')).2 rfl) j g e'
end
section
variable {own:aO}
def Rx{p q:Nat->Option (Nat×Nat)}(h: ∀i x,p i=some x->q i=some x): ∀(ps:List (Nat×Value)) (cs out:Array Value),Instr.fill p cs ps=some out->Instr.fill q cs ps=some out
 |[],cs,out,e=>e
 |(i,v)::ps,cs,out,e=>by
  simp only[Instr.fill] at e⊢;split at e
  .cases e
  .rename_i off size hp
   rw[h i _ hp];dsimp only;split at e
   .cases e
   .rename_i hc
    rw[if_neg hc];exact Rx h ps _ _ e
def Ve{fr:Fr}{own:List aB}{t e:Nat}{j:TypeInfo}{parts:Array (Nat×Operand)}{gd:Option (Nat×Bool)}[hz:gv P t z](hu:P.underlying t=some (.array len e))(hj:P.info? e=some j)(hs:j.size=s)
  (hb:vr fr ((List.range len).map fun i=>(i*s,s)) (aG z) parts.toList=some out):Yd P C fr own G ⟨dst, .build t parts,ty',pos,af,gd⟩ (.agg ⟨out⟩):=by
 intro a w hf hh;simp only[execOp];have:(Instr.build t (parts.map fun(i,x)=>(i,a.eval x))).run P w= .ok (.agg ⟨out⟩) w:=by
  unfold Instr.build;rw[aP (hz.zero w),pO];rw[aP (rh hu w)];simp only[];rw[aP (vJ hj w),hs];have:=Rx (q:=fun i=>some (i*s,s)) (fun i x hx=>by
   have hx':((List.range len).map fun i=>(i*s,s))[i]? =some x:=by simpa using hx
   rw[bL] at hx'
   cases hr:(List.range len)[i]? with
   |none=>rw[hr] at hx';cases hx'
   |some y=>
    rw[hr] at hx';cases hx';obtain⟨h1,h2⟩:=aT.1 hr;rw[List.getElem_range] at h2;rw[h2]) _ _ _ (K2 hf ((List.range len).map fun i=>(i*s,s)) parts.toList _ _ hb)
  simp only[qX,this];rfl
 exact c7 this
def Fp:Nat->Nat->Nat->List (Nat×Nat×Nat)
 |_,0,_=>[]
 |i,k+1,s=>(i*s,0,s)::Fp (i+1) k s
def Td: ∀(i k s:Nat),(Fp i k s).map (fun x=>(x.1,x.2.2))=(List.range' i k).map fun j=>(j*s,s)
 |_,0,_=>rfl
 |i,k+1,s=>by simp only[Fp,bV,List.range',Td (i+1) k s]
def Mo(fr:aC)(cf:Cf)(len s:Nat):Option (TypeId×FX):=match c6 fr cf with
 |some ⟨_, .build t parts,_,_,_,_⟩=>match eo tt t with
  |some ⟨.o,_,some zx,_⟩=>match uB (cd fr cf) (Fp 0 len s) zx parts.toList with
   |some cs=>match ya cs with
    |some f=>some (t,f)
    |none=>none
   |none=>none
  |_=>none
 |_=>none
def bar[fu:Fu]{t e:Nat}{f:FX}(h:Mo fr cf len s=some (t,f))(hu:prog.underlying t=some (.array len e))(hs:(prog.info? e).map (·.size)=some s)
  (hgo:cB tt n fu.n fr own cf f [] []=⟨vc,fr',own',cf'⟩)(k:aA prog GB C n Q0 fr' own' cf')
  (hv:autoParam (ak vc) cL._auto_1):aA prog GB C n Q0 fr own cf:=by
 unfold Mo at h;split at h<;>try (cases h;done)
 rename_i hh;split at h<;>try (cases h;done)
 rename_i hT;split at h<;>try (cases h;done)
 rename_i hb;split at h<;>cases h;rename_i hf;refine us hh (.yd fun ρ G ov a w r=>?_) hgo hv k
 cases hj:prog.info? e with
 |none=>rw[hj] at hs;cases hs
 |some j=>
 rw[hj] at hs;obtain⟨v,hv,hv'⟩:=Bo (fi _ _ hT) rfl;obtain⟨l,h1,h2⟩:=EB r _ _ _ _ hb (hv' ρ G);rw[Td,<-List.range_eq_range'] at h1;exact⟨.agg ⟨l⟩,JF h2 hf,Ve hu hj (Option.some.inj hs) h1⟩
end
section
variable {own:aO}{gd:Option (Nat×Bool)}
def yK(t:TypeId):Prop:= ∀(x:Value) w,(Instr.makeInterface t x).run prog w= .ok (.iface t x) w
def Av(t:TypeId)(u:Value)(m:String)(f:FuncId):Prop:= ∀w,(method (prog.types.size+Made.depth) t u m).run prog w= .ok (f,u) w
def at7{fr:Fr}(hf:l6 fr a)(hx:aD fr x=some (.iface t u))(hv:fG fr args.toList=some vs)(hm:Av t u m f)(hc:s6 prog f):
  (execOp a.eval ⟨dst, .call ⟨.invoke x m,args,tys⟩,ty,pos,af,gd⟩).run prog w= .ok (.enter f ⟨u::vs⟩) w:=by
 have e:args.map a.eval=⟨vs⟩:=by apply Array.ext';simpa using Ca hf hv
 simp only[execOp,resolve,bC hf hx,e];show(invoke (.fn (.method m) #[]) (#[.iface t u]++⟨vs⟩)).run prog w=_;simp only[invoke];have h0:(#[Value.iface t u]++(⟨vs⟩:Array Value))[0]? =some (.iface t u):=by simp
 have h1:(#[Value.iface t u]++(⟨vs⟩:Array Value)).extract 1 (#[Value.iface t u]++(⟨vs⟩:Array Value)).size=⟨vs⟩:=by
  apply Array.ext';simp
 rw[h0,h1];show(callMethod (.iface t u) m ⟨vs⟩).run prog w=_;unfold callMethod;show((do
  let p<-program
  let(g,receiver)<-method (p.types.size+Made.depth) t u m
  callFunc g (#[receiver]++⟨vs⟩)):Sem Next).run prog w=_
 rw[aP (a:=prog) (w':=w) J,aP (hm w)];show(callFunc f (#[u]++⟨vs⟩)).run prog w=_;rw[Jk hc];simp
def Vj(ht:yK t)(hx:bj lk x=some (.d d)):b8 prog GB C n lk bk ⟨dst, .makeInterface t x,ty,pos,af,gd⟩ (.ip t d) [] []:=
 b8.yd fun ρ G ov a w r=>by
  obtain⟨y,hy,hy'⟩:=r.ev hx;refine⟨_,⟨y,J,hy'⟩,fun a' w' hf _=>?_⟩;refine c7 (f:=Next.value) ?_;rw[bC hf hy];exact ht _ _
def O2(fr:aC)(cf:Cf):Option (TypeId×DV):=match c6 fr cf with
 |some ⟨_, .makeInterface t x,_,_,_,_⟩=>match bj (cd fr cf) x with
  |some (.d d)=>some (t,d)
  |_=>none
 |_=>none
def Wv[fu:Fu](ha:O2 fr cf=some (t,d))(ht:yK t)(hgo:cB tt n fu.n fr own cf (.ip t d) [] []=⟨vc,fr',own',cf'⟩)(k:aA prog GB C n Q0 fr' own' cf')
  (hv:autoParam (ak vc) cL._auto_1):aA prog GB C n Q0 fr own cf:=by
 unfold O2 at ha;split at ha<;>try (cases ha;done)
 rename_i hh;split at ha<;>cases ha;rename_i hx;exact us hh (Vj ht hx) hgo hv k
def ZO(hx:bj lk x=some (.ip t d))(ha:evDs lk args.toList=some ds)(hm: ∀G u,Is G d u->Av t u m f)(hF:PF GB prog f (d::ds) rv):
  b8 prog GB C n lk bk ⟨dst, .call ⟨.invoke x m,args,tys⟩,ty,pos,af,gd⟩ (.d rv) [] []:=by
 intro hd tl tb K' s1 s2 hf hk;refine⟨fun ρ G ov a w r Q=>?_⟩;obtain⟨y,hy,u,rfl,hu⟩:=(r.mono s1 s2).ev hx;obtain⟨vs,h3,h4⟩:=(r.mono s1 s2).evDs ha;have hFn:=hF G (u::vs) r.gb (.cons hu h4);have h2:=at7 (dst:=dst) (ty:=ty) (pos:=pos) (af:=af) (gd:=gd) (tys:=tys) (w:=w) (cC a) hy h3 (hm G u hu) hFn.able;simp only[Oper.wp,h2,Oper.upon];refine(hFn.run w r.h.sub).mono ?_;rintro e w' ⟨v,G',rfl,hh,hK⟩;have rl:gA C n (cp a) ov G a w:=⟨r.h,r.sz,cC a,r.df⟩;have rl2:=(rl.heap (rl.h.called hh)).put v hd;exact hk.run ρ G' ov _ w' ⟨r.gb.trans hh.gle,rl2.h,rl2.sz,rl2.df,(jp rl2).fx (fun k g _ e=>by obtain⟨z,h5,h6⟩:=r.fx k g e;exact⟨z,h5,h6.up hh.gle⟩) hK,
  fun nm B e=>by obtain⟨os,h5,h6⟩:=r.bx nm B e;exact⟨os,h5.up hh.gle,h6⟩,r.dj,r.fxd⟩
def NF(fr:aC)(cf:Cf):Option (String×TypeId×DV×List DV):=match c6 fr cf with
 |some ⟨_, .call ⟨.invoke x m,args,_⟩,_,_,_,_⟩=>match bj (cd fr cf) x with
  |some (.ip t d)=>match evDs (cd fr cf) args.toList with
   |some ds=>some (m,t,d,ds)
   |none=>none
  |_=>none
 |_=>none
def Yb[fu:Fu](ha:NF fr cf=some (m,t,d,ds))(hm: ∀G u,Is G d u->Av t u m f)(hF:PF GB prog f (d::ds) rv)(hgo:cB tt n fu.n fr own cf (.d rv) [] []=⟨vc,fr',own',cf'⟩)(k:aA prog GB C n Q0 fr' own' cf')
  (hv:autoParam (ak vc) cL._auto_1):aA prog GB C n Q0 fr own cf:=by
 unfold NF at ha;split at ha<;>try (cases ha;done)
 rename_i hh;split at ha<;>try (cases ha;done)
 rename_i hx;split at ha<;>cases ha;rename_i hds;exact us hh (ZO hx hds hm hF) hgo hv k
end
section
variable {own:aO}{gd:Option (Nat×Bool)}
def azT(h1:bj lk fo=some (.d (.v (.func (.func f) ⟨c1⟩ ⟨c2⟩))))(h2:evDs lk args.toList=some ds)(hc:IsLs GB ds1 c1)(hc2:IsLs GB ds2 c2)(hF:PF GB prog f (ds1++ds++ds2) rv):
  b8 prog GB C n lk bk ⟨dst, .call ⟨.value fo,args,tys⟩,ty,pos,af,gd⟩ (.d rv) [] []:=by
 intro hd tl tb K' s1 s2 hf hk;refine⟨fun ρ G ov a w r Q=>?_⟩;obtain⟨y,hy,hy'⟩:=(r.mono s1 s2).ev h1;rw[(aI (G:=G)).1 hy'] at hy;obtain⟨vs,h3,h4⟩:=(r.mono s1 s2).evDs h2;refine Mz (c1:=c1) (c2:=c2) hy h3 (hF G (c1++vs++c2) r.gb (((hc.up r.gb).app h4).app (hc2.up r.gb))) hd (fun v G' hG hK a' w' rl=>?_) a w Q ⟨r.h,r.sz,cC a,r.df⟩;exact hk.run ρ G' ov a' w' ⟨r.gb.trans hG.le,rl.h,rl.sz,rl.df,(jp rl).fx (fun k g _ e=>by obtain⟨u,h5,h6⟩:=r.fx k g e;exact⟨u,h5,h6.up hG.le⟩) hK,
  fun nm B e=>by obtain⟨os,h5,h6⟩:=r.bx nm B e;exact⟨os,h5.up hG.le,h6⟩,r.dj,r.fxd⟩
def U6(fr:aC)(cf:Cf):Option (FuncId×List Value×List Value×List DV):=match c6 fr cf with
 |some ⟨_, .call ⟨.value fo,args,_⟩,_,_,_,_⟩=>match bj (cd fr cf) fo,evDs (cd fr cf) args.toList with
  |some (.d (.v (.func (.func f) ⟨c1⟩ ⟨c2⟩))),some ds=>some (f,c1,c2,ds)
  |_,_=>none
 |_=>none
def cfw[fu:Fu](ha:U6 fr cf=some (f,c1,c2,ds))(hc:IsLs GB ds1 c1)(hc2:IsLs GB ds2 c2)(hF:PF GB prog f (ds1++ds++ds2) rv)(hgo:cB tt n fu.n fr own cf (.d rv) [] []=⟨vc,fr',own',cf'⟩)(k:aA prog GB C n Q0 fr' own' cf')
  (hv:autoParam (ak vc) cL._auto_1):aA prog GB C n Q0 fr own cf:=by
 unfold U6 at ha;split at ha<;>try (cases ha;done)
 rename_i hh;split at ha<;>cases ha;rename_i h1 h2;exact us hh (azT h1 h2 hc hc2 hF) hgo hv k
end
def I3(p q:ah):DV:= .ag [vI (ew p.x),vI (et p.x),ez p.x,vI (ew p.y),vI (et p.y),ez p.y,vI (ew q.x),vI (et q.x),ez q.x,vI (ew q.y),vI (et q.y),ez q.y]
def XF{own:aO}(k:Nat){l:List DV}(hl:bi fr k=some (.d (.pt l)))(h:aA prog GB C n Q0 ((k, .ep l)::fr) own (.ops ops r K)):aA prog GB C n Q0 fr own (.ops ops r K):=
 ql hl (fun ρ G y hy=>by
  obtain⟨b,m,rfl,h1,h2⟩:=lG.1 hy;have e:=h2.len;exact⟨b,0,m,m,J,h1,by rw[ld m 0 l.length we,iZ,<-e,dQ],h2⟩) h
def cG(v:List ah):List (ah×ah):=(List.range v.length).map fun i=>(v.getD i ⟨0,0⟩,v.getD ((i+1)%v.length) ⟨0,0⟩)
def aq2{ls:List aa}(hb: ∀p∈ls,LB p)(hn:ls.length<=100000):PR GB prog 63 [.sl (ls.map eL)] 6 99 ((mi ls).map eL):=by
 have hm':=d7 eL ls;refine E7 (fu:=⟨15⟩) func63 J J ntmps63 J J (fun C hmb=>?_);refine aj 8 (.d (vI (ls.length:Nat))) J (by rw[hm']<;>rfl)<|gx J<|nr 3 3 99 6 J J J<|lp (X:=List aa×Nat) (fun⟨xs,k⟩=>[(9, .d (vI (k:Nat))),(3, .rw 3)]) (fun⟨xs,k⟩=>[(3,some (.b 99 6 (xs.map eL) true))]) (fun⟨xs,k⟩=>xs=qr en aa.canon ls k/\k<=ls.length) (fun⟨xs,k⟩=>ls.length-k) ⟨[],0⟩ J ⟨J,aS _⟩ (fun _=>J) (fun⟨xs,k⟩ hk=>?_)
 try dsimp only at hk⊢
 obtain⟨hS,hkl⟩:=hk;refine br J J J (fun hc10=>?_) (fun hc10=>?_)
 .
  have hk:k<ls.length:=by omega
  obtain⟨z,hm⟩: ∃m,m=ls[k]:=⟨_,rfl⟩;have hz:ls[k]? =some z:=by rw[hm];exact aQ hk
  haveI hzb:LB z:=hm▸hb _ (cR hk);obtain⟨m,hmc⟩: ∃m,m=z.canon:=⟨_,rfl⟩;haveI hmb:LB m:=by rw[hmc];infer_instance
  have hxl:=d7 eL xs;have hxn:xs.length<=k:=by rw[hS];exact Ed
  have hxb: ∀q∈xs,LB q:=fun q hq=>by rw[hS] at hq;obtain⟨z,hz,rfl⟩:=EJ hq;haveI:=hb z hz;infer_instance
  refine ix (fu:=⟨1⟩) _ J (my hk) J<|aj 12 (.d (eL z)) J okK<|gx J<|cl (fu:=⟨2⟩) J (UR (l:=z)) J<|aj 16 (.d (eL m)) J (by rw[hmc])<|gx (fu:=⟨10⟩) J<|mg (fu:=⟨0⟩) (X:=Nat) (fun n=>[(6, .d (vI (n:Nat)))]) (fun n=>[]) (fun n=>jt en m xs=n) [6] [] rfl ?_ (fun _=>J) (fun n hnx=>?_)
  .
   refine gx J<|lp (fu:=⟨6⟩) (X:=Nat) (fun n=>[(6, .d (vI (n:Nat)))]) (fun n=>[]) (fun n=>n<=xs.length/\ ∀j (h:j<xs.length),j<n->en xs[j] m<0) (fun n=>xs.length-n) 0 J ⟨aS _,fun j _ hj=>absurd hj we⟩ (fun _=>J) (fun n hk=>?_);obtain⟨n1,n2⟩:=hk;refine gF (v2:=fun hg21=>by simp only[ak];kernel_rfl) J J J J (fun hg21=>?_) (fun hg21=>?_)
   .
    refine lb _ J (my) J<|cl J (xD (l:=xs[n]' we) (m:=m) (hl:=hxb _ (cR we)) (hm:=hmb)) J<|br J J J (fun hc30=>?_) (fun hc30=>?_)
    .
     exact at_ (n+1) ⟨⟨we,fun j h hj=>by by_cases q:j=n;(subst q;exact hc30);exact n2 j h we⟩,we⟩
    .
     exact at_ n (p8 en n1 n2 (fun h=>hc30))
   .
    exact at_ n (p8 en n1 n2 (fun h=>absurd h we))
  .
   have hnl:n<=xs.length:=by rw[<-hnx];exact yN _ _ _
   rcases(show n=xs.length\/(∃h:n<xs.length,en xs[n] m≠0)\/ ∃h:n<xs.length,en xs[n] m=0 by by_cases q:n<xs.length;(by_cases q2:en xs[n] m=0;exact .inr (.inr ⟨q,q2⟩);exact .inr (.inl ⟨q,q2⟩));exact .inl we) with hq|⟨hq,hq2⟩|⟨hq,hq2⟩
   .
    have hnew: ∀h:n<xs.length,en xs[n] m≠0:=fun h=>absurd h we;obtain⟨ys,hys⟩: ∃ys,ys=xs.take n++m::xs.drop n:=⟨_,rfl⟩;have hin:c9 en m xs=ys:=by rw[hys];exact oH en hnx hnew
    have hyl:ys.length<=xs.length+1:=by rw[hys];simp;omega
    refine lv 3 J<|gx (fu:=⟨5⟩) J<|cF J (omg (by rw[hxl];omega)) J<|s3 n _ J J J J (dO _) omA J<|ro J J<|je n xs.length _ J J oke J (dO _) hnl we J<|ap _ J J (oF dO _ _ _) J<|ap (hv:=by simp only[ak];exact⟨omd,we⟩) (ho:=fun _=>⟨pI dO _ _,omc⟩) (ys.map eL) J omw (qj dO _ _ _ _) J<|d8 56 3 J<|at_ ⟨ys,k+1⟩ omv
   .
    have hnew: ∀h:n<xs.length,en xs[n] m≠0:=fun h=>hq2;obtain⟨ys,hys⟩: ∃ys,ys=xs.take n++m::xs.drop n:=⟨_,rfl⟩;have hin:c9 en m xs=ys:=by rw[hys];exact oH en hnx hnew
    have hyl:ys.length<=xs.length+1:=by rw[hys];simp;omega
    refine lv 3 J<|gx (fu:=⟨5⟩) J<|bO J (omh (by rw[hxl];omega)) J<|ix _ J (my hq) J<|cl (fu:=⟨0⟩) J (xD (l:=xs[n]' we) (m:=m) (hl:=hxb _ (cR we)) (hm:=hmb)) J<|cF J (omg ome) J<|s3 n _ J J J J (dO _) omA J<|ro J J<|je n xs.length _ J J oke J (dO _) hnl we J<|ap _ J J (oF dO _ _ _) J<|ap (hv:=by simp only[ak];exact⟨omd,we⟩) (ho:=fun _=>⟨pI dO _ _,omc⟩) (ys.map eL) J omw (qj dO _ _ _ _) J<|d8 56 3 J<|at_ ⟨ys,k+1⟩ omv
   .
    have hin:c9 en m xs=xs:=wL en hnx hq hq2;refine gx (fu:=⟨5⟩) J<|bO J (omh (by rw[hxl];omega)) J<|lb _ J (my hq) J<|cl (fu:=⟨0⟩) J (xD (l:=xs[n]' we) (m:=m) (hl:=hxb _ (cR we)) (hm:=hmb)) J<|bO (hv:=by simp only[ak];exact⟨omd,we⟩) J (omh (fun h=>h hq2)) J<|at_ ⟨xs,k+1⟩ omv
 .
  have hfin:mi ls=xs:=by rw[hS,F9];rfl
  exact JZ J J J (by rw[hfin])


def Yc{f:α->DV}{l:List α}{s:α}(h:l[0]? =some s):(l.map f)[(0:Int).toNat]? =some (f s):=by simp[h]
def NP(c:List aa):(jB c).length<=c.length:=JI c _
theorem V3{c:List aa}(hb: ∀l∈c,LB l): ∀p∈jB c,aE p 1200:=fun p hp=>by
 obtain⟨l,hl,m,hm,rfl⟩:=WC hp;have:= @aE.imeet l m (hb l hl) (hb m hm);exact⟨this.x.mono oma,this.y.mono oma⟩



theorem aE.mono{p:ah}{i j:Nat}(h:aE p i)(hj:i<=j:=by decide):aE p j:=⟨h.x.mono hj,h.y.mono hj⟩





def zP{P:aa->Prop}(hr: ∀l,P l->P l.rev): ∀{t:Tr} {c:av} {x:Bool×av},t.all P->(∀s∈c,P s.l)->x∈t.parts c-> ∀s∈x.2,P s.l
 | .leaf b,c,x,_,hc,h=>by
  rw[Tr.parts,aR] at h;subst h;exact hc
 | .node l u v,c,x,ht,hc,h=>by
  have cl: ∀k,P k-> ∀s∈bE c k,P s.l:=fun k hk s hs=>by
   unfold bE at hs;split at hs
   .rcases ra.1 hs with rfl|hs
    .exact hk
    .obtain⟨s0,g,_,rfl⟩:=sg.1 hs
     exact hc s0 g
   .exact hc s hs
  rw[Tr.parts] at h;rcases bX.1 h with h|h
  .split at h
   .exact zP hr ht.2.1 (cl l ht.1) h
   .cases h
  .split at h
   .exact zP hr ht.2.2 (cl l.rev (hr l ht.1)) h
   .cases h



def jw{own:aO}[fu:Fu](ha:yF fr cf=some (f,ds))(hF:PF GB prog f ds (.v (.bool true)))(hgo:cB tt n fu.n fr own cf .tt [] []=⟨vc,fr',own',cf'⟩)(k:aA prog GB C n Q0 fr' own' cf')
  (hv:autoParam (ak vc) cL._auto_1):aA prog GB C n Q0 fr own cf:=by
 unfold yF at ha;split at ha<;>try (cases ha;done)
 rename_i hh;exact us hh (b8.to (g:= .tt) (MZ ha hF) fun ρ G y hy=>(aI (G:=G)).1 hy) hgo hv k

def azy{u v z:ah}(hu:u.half≠0)(hv:v.half≠0)(h0:u.cross v=0)(h1:0<u.cross z)(h2:0<v.cross z):u.half=v.half:=by
 have ex:v.x*(u.cross z)=u.x*(v.cross z):=by unfold ah.cross at*;grind
 have ey:v.y*(u.cross z)=u.y*(v.cross z):=by unfold ah.cross at*;grind
 have key: ∀{a b:Rat},a*(u.cross z)=b*(v.cross z)->(0<a↔0<b)/\(a=0↔b=0):=fun{a b} e=>by
  have k1:0<a*(u.cross z)↔0<a:=gh h1;have k2:0<b*(v.cross z)↔0<b:=gh h2;refine⟨by rw[<-k1,<-k2,e],fun h=>?_,fun h=>?_⟩
  .rw[h,Rat.zero_mul] at e
   rcases fJ.1 e.symm with q|q
   .exact q
   .grind
  .rw[h,Rat.zero_mul] at e
   rcases fJ.1 e with q|q
   .exact q
   .grind
 obtain⟨x1,x2⟩:=key ex;obtain⟨y1,y2⟩:=key ey;have:u.half=1↔v.half=1:=by rw[qa,qa,x1,y1,y2]
 rcases oO hu with a|a<;>rcases oO hv with b|b<;>omega
def IK(n q p:ah)(e:Rat):n.dot (kD q p e)=n.dot q+e*(n.dot p-n.dot q):=by
 unfold ah.dot kD;grind
def zT(n q u:ah)(e:Rat):n.dot (de q u e)=n.dot q+e*n.dot u:=by
 unfold ah.dot de;grind
structure TD where
 ax:Rat
 ay:Rat
 ac:Rat
def TD.ev(g:TD)(p:ah):Rat:=g.ax*p.x+g.ay*p.y+g.ac
def Gl{x y:Rat}(h: ¬(x=0/\y=0)):0<x*x+y*y:=by
 have h1:=FL x;have h2:=FL y;rcases kt (x*x+y*y) with k|k|k
 .exfalso
  refine h ⟨?_,?_⟩
  .have:x*x=0:=by grind
   exact(fJ.1 this).elim id id
  .have:y*y=0:=by grind
   exact(fJ.1 this).elim id id
 .exact k
 .grind
def aEh{a b:ah}(h:a≠b): ¬(b.x-a.x=0/\b.y-a.y=0):=fun k=>h (by
 cases a;cases b
 simp only[ah.mk.injEq] at*;constructor<;>grind)
def div_pos{a b:Rat}(ha:0<a)(hb:0<b):0<a/b:=by
 have e:a/b*b=a:=by grind
 exact(gh hb).1 (by rw[e];exact ha)
def E0{a b:ZP}(h:a.q=b.q):a=b:=by
 have hx:(a.1:Rat)=(b.1:Rat):=congrArg ah.x h;have hy:(a.2:Rat)=(b.2:Rat):=congrArg ah.y h;exact Prod.ext (by exact_mod_cast hx) (by exact_mod_cast hy)
section
variable {rs:List (List ZP)}{fill:Int}{p v w:ah}{b c:Bool}
end
section
variable {ds:List ah}
end
end Go.Sx
end
