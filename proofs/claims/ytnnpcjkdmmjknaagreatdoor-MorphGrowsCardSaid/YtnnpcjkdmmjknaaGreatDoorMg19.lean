import Derived.Test.YtnnpcjkdmmjknaaGreatDoorMg18
import Derived.RangeFuncSeq
set_option linter.all false
set_option maxRecDepth 100000
section
namespace Go.Sx
open Go Go.Proofs Tryz
variable {n i k D s len:Nat}{P:Program}{Q Q0:Exit->Act->World->Prop}{ops:Array Oper}{l r pre:List Oper}{o:Oper}{a:Act}{w w1:World}{K:List Kt}{GB G G1:Gh}{C C':aD}{fr fr0 fr' fr1 fr2:aC}{own0 own' own1 own2 O:aH}{cf' cf cf1 cf2:Cf}{vc vc1 vc2:List Prop}{f gf:FuncId}{fb:Func}{c assign body:Code}{m pos:String}{ds ds1 ds2:List DV}{E:List (List DV)}{ov:List av}{Jv:Nat->Gh->World->Prop}{Jx:Gh->World->Prop}{e:Exit}{fo x g:Operand}{args:Array Operand}{tys:Array TypeId}{vs caps out c1 c2:List Value}{dst:Option Nat}{ty' t ty:TypeId}{af:Array Edge}{gd:Option (Nat×Bool)}{d rv dp:DV}{X σ α:Type}{y b w2 w3 w4:Rat}{lk:LK}{bk:BM}{p:Prop}{pv z u:Value}{q v p1 p2 p3 p4:ah}
section
variable {F:Fence}{md:Region.Mode}
def K4: ∀{k:Nat} {listed:Array Bool} {a:Act} {w:World},wpAnyIn F n P md ops Q k listed a w->wpAnyIn F n P md ops Q (k+1) listed a w
 |0,_,_,_,h=>⟨fun _=>h.2,fun i hi=>by rw[h.1] at hi;cases hi⟩
 |_+1,_,_,_,h=>⟨h.1,fun i hi=>wpOpIn_mono (fun _ _ k=>K4 k) (h.2 i hi)⟩
def Rm{k:Nat}{listed:Array Bool}{a:Act}{w:World}(h:wpAnyIn F n P md ops Q k listed a w): ∀j,wpAnyIn F n P md ops Q (j+k) listed a w
 |0=>by rw[eJ];exact h
 |j+1=>by rw[show j+1+k=j+k+1 by omega];exact K4 (Rm h j)
def Bf.lt(he:oo 0 l=true){j:Nat}(h:Bf l i j):j<i:=by
 induction h with
 |b ho hm hb=>have:=sr he _ _ ho _ hm hb;omega
 |s ho hm hb _ ih=>have:=sr he _ _ ho _ hm hb;omega
def Bf.inv{j:Nat}(h:Bf l i j): ∃o e,l[i]? =some o/\e∈o.after/\Region.binds .any e=true/\(e.on=j\/Bf l e.on j):=by
 induction h with
 |b ho hm hb=>exact⟨_,_,ho,hm,hb, .inl J⟩
 |s ho hm hb hh _=>exact⟨_,_,ho,hm,hb, .inr hh⟩
def KX(he:oo 0 ops.toList=true): ∀(r pre:List Oper),ops.toList=pre++r->(∀i,pre.length<=i->i<ops.size-> ∀j,j<i->Bf ops.toList i j)-> ∀(listed:Array Bool) (a:Act) (w:World),(∀j d,listed.getD j d=if j<pre.length then true else if j<ops.size then false else d)->wpListIn F n P ops Q r a w->wpAnyIn F n P .any ops Q r.length listed a w
 |[],pre,hops,_,listed,a,w,hl,h=>by
  refine⟨?_,h⟩;rw[List.eq_nil_iff_forall_not_mem];intro i hi;obtain⟨h1,o,h2,_⟩:=mem_ready.1 hi;have h3:=(fT.1 h2).1;have h4:pre.length=ops.size:=by rw[<-kL,hops];simp
  rw[hl,if_pos (by omega)] at h1
  cases h1
 |o::r,pre,hops,hc,listed,a,w,hl,h=>by
  have hsz:ops.size=pre.length+(r.length+1):=by rw[<-kL,hops];simp
  have hp:ops.toList[pre.length]? =some o:=by rw[hops];simp
  have hp':ops[pre.length]? =some o:=by simpa using hp
  have only: ∀i,i∈Region.ready .any ops listed↔i=pre.length:=fun i=>by
   rw[mem_ready];constructor
   .rintro ⟨h1,o',h2,h3⟩
    have h4:=(fT.1 h2).1;rw[hl] at h1;split at h1
    .cases h1
    .rename_i h5
     apply Classical.byContradiction;intro h6;have hb:=hc i (by omega) h4 pre.length (by omega);obtain⟨o2,e,ho,hm,hb,hh⟩:=hb.inv;have e':o'=o2:=Option.some.inj (h2.symm.trans (by simpa using ho));subst e';have h7:=h3 _ hm hb;have h9:=sr he _ _ ho _ hm hb;have h8:pre.length<=e.on:=by
      rcases hh with hh|hh
      .omega
      .have:=hh.lt he;omega
     rw[hl,if_neg (by omega),if_pos (by omega)] at h7
     cases h7
   .rintro rfl
    refine⟨by rw[hl,if_neg (by omega),if_pos (by omega)],o,hp',fun e hm hb=>?_⟩;have:=sr he _ _ hp _ hm hb;rw[hl,if_pos (by omega)]
  refine⟨fun hn=>?_,fun i hi=>?_⟩
  .have:=(only pre.length).2 J
   rw[hn] at this;cases this
  .obtain rfl:=(only i).1 hi
   have ih:=KX he r (pre++[o]) (by rw[hops];simp) (fun i h1 h2=>hc i (by simp at h1;omega) h2) (listed.setIfInBounds pre.length true);have hl': ∀j d,(listed.setIfInBounds pre.length true).getD j d=if j<(pre++[o]).length then true else if j<ops.size then false else d:=fun j d=>by
    have hls:pre.length<listed.size:=by
     apply Classical.byContradiction;intro hq;have h1:=hl pre.length true;rw[if_neg (by omega),if_pos (by omega),cY,pJ (by omega)] at h1
     cases h1
    have h1:=hl j d;rw[cY] at h1⊢;rw[fQ];by_cases hj:pre.length=j
    .subst hj;rw[if_pos J,if_pos hls,if_pos (by simp)];rfl
    .rw[if_neg hj,h1]
     simp only[aU,bJ,eX];by_cases h2:j<pre.length
     .rw[if_pos h2,if_pos (by omega)]
     .rw[if_neg h2]
      by_cases h3:j<ops.size
      .rw[if_pos h3,if_neg (by omega)];
      .rw[if_neg h3,if_neg (by omega)]
   unfold wpOpIn;rw[hp'];simp only[wpListIn] at h⊢;split
   .rename_i hw;rw[if_pos hw] at h
    exact Oper.wpIn_mono (fun a w k=>ih a w hl' k) h
   .rename_i hw;rw[if_neg hw] at h
    exact⟨h.1,ih _ _ hl' h.2⟩
def DG(F:Fence)(n:Nat)(P:Program)(ops:Array Oper)(r:List Oper)(Q:Exit->Act->World->Prop):Exit->Act->World->Prop
 | .normal=>wpListIn F n P ops Q r
 |e=>Q e
def X4{K:Act->World->Prop}(h:o.wpIn F n P a w K (DG F n P ops r Q)):o.wpIn F n P a w K Q:=by
 refine⟨h.1,?_⟩;have:=h.2
 cases hr:(o.semAt F.round a.eval).run P w with
 |ok x w'=>
  rw[hr] at this
  cases x with
  |enter f args=>exact⟨this.1,CallsIn.mono this.2 fun e w'' he=>by cases e<;>exact he⟩
  |round l f t x y=>exact⟨this.1,RoundIn.mono this.2 fun e w'' he=>by cases e<;>exact he⟩
  |_=>exact this
 |halt x w'=>
  rw[hr] at this
  cases x<;>exact this
def TV(hops:ops.toList=pre++r)(hg: ∀o∈pre,o.guard=none)(he:oo 0 ops.toList=true)(hc: ∀i,pre.length<=i->i<ops.size-> ∀j,j<i->Bf ops.toList i j):
  ∀(fuel:Nat) (L listed:Array Bool) (a:Act) (w:World),L.size=pre.length->(∀j d,listed.getD j d=if j<pre.length then L.getD j d else if j<ops.size then false else d)->(∀i o,ops.toList[i]? =some o->listed.getD i false=true-> ∀e∈o.after,Region.binds .any e=true->listed.getD e.on false=true)->
   wpAnyIn F n P .any pre.toArray (DG F n P ops r Q) fuel L a w->wpAnyIn F n P .any ops Q (fuel+r.length) listed a w:=by
 have hsz:ops.size=pre.length+r.length:=by rw[<-kL,hops];simp
 have hget: ∀i,i<pre.length->ops[i]? =pre.toArray[i]? :=fun i hi=>by rw[<-qQ,hops,jX hi];simp
 -- all of the first part is done
 have fin: ∀(L listed:Array Bool) (a:Act) (w:World),L.size=pre.length->(∀j d,listed.getD j d=if j<pre.length then L.getD j d else if j<ops.size then false else d)->Region.ready .any pre.toArray L=[]->wpListIn F n P ops Q r a w->wpAnyIn F n P .any ops Q r.length listed a w:=by
  intro L listed a w hL hl hr h;have all: ∀i,i<pre.length->L.getD i true=true:=by
   intro i
   induction i using Nat.strongRecOn with
   |ind i ih=>
    intro hi
    cases hq:L.getD i true with
    |true=>rfl
    |false=>
     have:i∈Region.ready .any pre.toArray L:=mem_ready.2 ⟨hq,pre[i],by simp[hi],fun e hm hb=>by
      have hlt:=sr he i pre[i] (by rw[hops,jX hi];simp[hi]) e hm hb;have:=ih e.on (by omega) (by omega);rw[cY,iQ (by omega)] at this⊢;simpa using this⟩
     rw[hr] at this;cases this
  refine KX he r pre hops hc listed a w (fun j d=>?_) h;rw[hl];by_cases hj:j<pre.length
  .have:=all j hj
   rw[if_pos hj,if_pos hj];rw[cY,iQ (by omega)] at this⊢;simpa using this
  .rw[if_neg hj,if_neg hj]
 intro fuel
 induction fuel with
 |zero=>
  intro L listed a w hL hl hcl h;rw[eJ];exact fin L listed a w hL hl h.1 h.2
 |succ fuel ih=>
  intro L listed a w hL hl hcl h;by_cases hr:Region.ready .any pre.toArray L=[]
  .exact Rm (fin L listed a w hL hl hr (h.1 hr)) (fuel+1)
  .have sub: ∀i,i∈Region.ready .any pre.toArray L->i∈Region.ready .any ops listed:=fun i hi=>by
    obtain⟨h1,o,h2,h3⟩:=mem_ready.1 hi;have hi':i<pre.length:=by have:=(fT.1 h2).1;simpa using this
    refine mem_ready.2 ⟨by rw[hl,if_pos hi'];exact h1,o,by rw[hget i hi'];exact h2,fun e hm hb=>?_⟩;have hlt:=sr he i o (by rw[hops,jX hi'];simpa using h2) e hm hb;rw[hl,if_pos (by omega)];exact h3 e hm hb
   have sup: ∀i,i∈Region.ready .any ops listed->i∈Region.ready .any pre.toArray L:=fun i hi=>by
    obtain⟨h1,o,h2,h3⟩:=mem_ready.1 hi;have h4:=(fT.1 h2).1;by_cases hi':i<pre.length
    .rw[hl,if_pos hi'] at h1
     refine mem_ready.2 ⟨h1,o,by rw[<-hget i hi'];exact h2,fun e hm hb=>?_⟩;have hlt:=sr he i o (by simpa using h2) e hm hb;have:=h3 e hm hb;rw[hl,if_pos (by omega)] at this;exact this
    .exfalso
     obtain⟨j,hj⟩:=List.exists_mem_of_ne_nil _ hr;obtain⟨g1,o2,g2,_⟩:=mem_ready.1 hj;have hj':j<pre.length:=by have:=(fT.1 g2).1;simpa using this
     have clo: ∀i j,Bf ops.toList i j->listed.getD i false=true->listed.getD j false=true:=fun i j hb=>by
      induction hb with
      |b ho hm hb=>intro hi;exact hcl _ _ ho hi _ hm hb
      |s ho hm hb _ ih=>intro hi;exact ih (hcl _ _ ho hi _ hm hb)
     have hjf:listed.getD j false=false:=by
      rw[hl,if_pos hj'];rw[cY,iQ (by omega)] at g1⊢;simpa using g1
     have:listed.getD j false=true:=by
      obtain⟨o2,e,ho,hm,hb,hh⟩:=(hc i (by omega) h4 j (by omega)).inv;have e':o=o2:=Option.some.inj (h2.symm.trans (by simpa using ho));subst e';rcases hh with hh|hh
      .rw[<-hh];exact h3 _ hm hb
      .exact clo _ _ hh (h3 _ hm hb)
     rw[hjf] at this;cases this
   rw[show fuel+1+r.length=(fuel+r.length)+1 by omega];refine⟨fun hn=>?_,fun i hi=>?_⟩
   .obtain⟨j,hj⟩:=List.exists_mem_of_ne_nil _ hr
    have:=sub j hj;rw[hn] at this;cases this
   .have hi0:=sup i hi
    have hk:=h.2 i hi0;obtain⟨h1,o,h2,h3⟩:=mem_ready.1 hi0;have hi':i<pre.length:=by have:=(fT.1 h2).1;simpa using this
    have hgo:o.guard=none:=hg o (by
     have h2':pre[i]? =some o:=by simpa using h2
     exact aV h2')
    have step: ∀a w,wpAnyIn F n P .any pre.toArray (DG F n P ops r Q) fuel (L.setIfInBounds i true) a w->wpAnyIn F n P .any ops Q (fuel+r.length) (listed.setIfInBounds i true) a w:=by
     intro a w hh;have hls:i<listed.size:=by
      apply Classical.byContradiction;intro hq;have q:=hl i true;have q':=hl i false;rw[if_pos hi'] at q q';rw[cY,pJ (by omega)] at q q';rw[cY,iQ (by omega)] at q q';simp only[Option.getD_none,kW] at q q';rw[<-q] at q';cases q'
     have hl': ∀j d,(listed.setIfInBounds i true).getD j d=if j<pre.length then(L.setIfInBounds i true).getD j d else if j<ops.size then false else d:=fun j d=>by
      have q:=hl j d;rw[cY] at q⊢;rw[cY] at q⊢;rw[fQ,fQ];by_cases hj:i=j
      .subst hj;rw[if_pos J,if_pos J,if_pos hls,if_pos hi',if_pos (by omega)]
      .rw[if_neg hj,if_neg hj];exact q
     refine ih _ _ a w (by simp[hL]) hl' (fun i2 o2 g1 g2 e hm hb=>?_) hh;have g3:i2=i\/listed.getD i2 false=true:=by
      rw[cY,fQ] at g2;by_cases hj:i=i2
      .exact .inl hj.symm
      .rw[if_neg hj] at g2;rw[cY];exact .inr g2
     have g4:listed.getD e.on false=true:=by
      rcases g3 with rfl|g3
      .have e':o=o2:=Option.some.inj (((hget i2 hi').trans h2).symm.trans (by simpa using g1))
       subst e';have hlt:=sr he i2 o g1 e hm hb;rw[hl,if_pos (by omega)];exact h3 e hm hb
      .exact hcl i2 o2 g1 g3 e hm hb
     rw[cY,fQ];by_cases hj:i=e.on
     .rw[if_pos hj];rw[if_pos hls];rfl
     .rw[if_neg hj];rw[cY] at g4;exact g4
    unfold wpOpIn at hk⊢;rw[hget i hi',h2];rw[h2] at hk;have hw: ∀y,Region.wanted o y=true:=fun y=>by unfold Region.wanted;rw[hgo]
    simp only[hw,if_true] at hk⊢;exact X4 (Oper.wpIn_mono step hk)
end
section
variable {own:aH}{us:List Rc}{id:Nat}
def Eu(x:Nat):Nat->Bool
 |0=>true
 |i+1=>x.testBit i&&Eu x i
def SI{x:Nat}: ∀{i:Nat},Eu x i=true-> ∀j,j<i->x.testBit j=true
 |i+1,h,j,hj=>by
  simp only[Eu,cZ] at h;by_cases e:j=i
  .subst e;exact h.1
  .exact SI h.2 j (by omega)
def Cm:Nat->List Nat->Bool
 |_,[]=>true
 |i,x::t=>Eu x i&&Cm (i+1) t
def NP: ∀{l:List Nat} {k:Nat},Cm k l=true-> ∀i x,l[i]? =some x-> ∀j,j<k+i->x.testBit j=true
 |y::t,k,h,0,x,hx,j,hj=>by
  simp only[Cm,cZ] at h
  cases hx
  exact SI h.1 j (by omega)
 |y::t,k,h,i+1,x,hx,j,hj=>by
  simp only[Cm,cZ] at h;exact NP h.2 i x (by simpa using hx) j (by omega)
def L9: ∀(r:List Oper) (acc:List Nat),(qf r acc).length=acc.length+r.length
 |[],acc=>by simp[qf]
 |o::r,acc=>by simp only[qf];rw[L9];simp;omega
def IA(m:Nat)(pre all:List Oper)(us:List Rc)(fr0:aC)(own0:aH):Bool:=
 (pre.all (fun o=>o.guard.isNone)&&vU (qf pre []) [] us)&&((oo 0 all&&Cm m ((qf all []).drop m))&&En us fr0 own0)
def UP(hm:P.follows .mixedOrders=true)(h:IA us.length (ops.toList.take us.length) ops.toList us fr0 own0=true)(k:aw P GB C n Q0 fr own (.ops ops r K)):aw P GB C n Q0 fr own (.dr id ops fr0 own0 us r K):=by
 intro D;obtain⟨pre,hp,hl⟩:=D.pre;have ht:ops.toList.take us.length=pre:=by rw[hp,<-hl];simp
 rw[ht] at h;simp only[IA,cZ] at h;obtain⟨⟨h1,h2⟩,⟨h3,h4⟩,h5⟩:=h;have hg: ∀o∈pre,o.guard=none:=fun o ho=>by simpa using dK.1 h1 o ho
 have hgt: ∀i,i<pre.length->ops[i]? =pre.toArray[i]? :=fun i hi=>by rw[<-qQ,hp,jX hi];simp
 have hc: ∀i,pre.length<=i->i<ops.size-> ∀j,j<i->Bf ops.toList i j:=fun i g1 g2 j g3=>by
  refine H0 ops.toList [] [] J J (fun i j h=>by simp at h) i j ?_;have hlen:=L9 ops.toList [];have hi:i<(qf ops.toList []).length:=by rw[hlen];simpa using g2
  rw[aK,aZ hi];refine NP h4 (i-us.length) _ ?_ j (by omega);rw[mX,show us.length+(i-us.length)=i by omega];exact aZ hi
 have he':oo 0 pre=true:=by
  have: ∀(l l':List Oper) (k:Nat),oo k (l++l')=true->oo k l=true:=by
   intro l l'
   induction l with
   |nil=>intros;rfl
   |cons o t ih=>intro k h;simp only[iJ,oo,cZ] at h⊢;exact⟨h.1,ih _ h.2⟩
  exact this pre r 0 (by rw[<-hp];exact h3)
 have D':j' P GB C n pre.toArray us (bh fr0,bp own0):=by
  refine⟨by simpa using hl.symm,fun i u o hu ho=>?_,by simpa using h2,by simpa using he',L8 h5⟩;have hi:i<pre.length:=by have:=(fT.1 ho).1;simpa using this
  obtain⟨d1,d2⟩:=D.snd i u o hu (by rw[hgt i hi];exact ho);refine⟨d1,fun Q tl tb K s1 s2 hf hk=>?_⟩;refine(d2 Q tl tb K s1 s2 hf hk).imp fun a w q=>?_;have hgo:o.guard=none:=hg o (aV (by simpa using ho));have hw: ∀y,Region.wanted o y=true:=fun y=>by unfold Region.wanted;rw[hgo]
  unfold wO at q⊢;simp only[hw,if_true] at q⊢;exact q
 have e:cp (dB (Array.replicate pre.length false)) 0 (bh fr0,bp own0) us=(bh fr0,bp own0):=by
  have: ∀(l:List Rc) (k:Nat) (s:ST),cp (dB (Array.replicate pre.length false)) k s l=s:=fun l=>by
   induction l with
   |nil=>intro k s;rfl
   |cons y l ih=>
    intro k s;simp only[cp];rw[ih];rw[ER];rfl
  exact this us 0 _
 have hw:=D'.walk (Q:=DG (FW C.rd) 0 P ops r (cQ C.rd P Q0 K)) (by rw[D.st];exact k) pre.toArray.size (Array.replicate pre.length false) (by simp) (fun i o _ hi=>by rw[ER] at hi;cases hi) (by unfold un;exact cS (nL _ _) (by simp));rw[e] at hw;refine hw.drew.imp fun a w q=>wpIn_region_any hm ?_;have hsz:ops.size=pre.toArray.size+r.length:=by rw[<-kL,hp];simp
 rw[show wpAnyIn (FW C.rd) 0 P .any ops (cQ C.rd P Q0 K) ops.size=wpAnyIn (FW C.rd) 0 P .any ops (cQ C.rd P Q0 K) (pre.toArray.size+r.length) by rw[hsz]];refine TV hp hg h3 hc _ _ _ _ _ (by simp) (fun j d=>?_) (fun i o _ hi=>?_) q
 .have hs2:ops.size=pre.length+r.length:=by simpa using hsz
  simp only[cY,rJ];by_cases g1:j<pre.length
  .rw[if_pos (by omega),if_pos g1,if_pos g1]
  .by_cases g2:j<ops.size
   .rw[if_pos g2,if_neg g1,if_pos g2];rfl
   .rw[if_neg g2,if_neg g1,if_neg g2];rfl
 .simp only[cY,rJ] at hi
  split at hi<;>cases hi
end
section
variable {own:aH}{us:List Rc}{id:Nat}
def drT[fu:Fu](h:IA us.length (ops.toList.take us.length) ops.toList us fr0 own0=true)(hgo:go tt n fu.n [] fr own (.ops ops r K)=⟨vc,fr',own',cf'⟩)(k:aw prog GB C n Q0 fr' own' cf')
  (hv:autoParam (aj vc) cL._auto_1):aw prog GB C n Q0 fr own (.dr id ops fr0 own0 us r K):=
 UP follows h (f7 hgo hv k)
end
def F6(o:Obj):Prop:= ∀cs ty z,o≠ .cells cs ty z
section
variable {own:List av}
def bF.ctx(h:bF C own G w)(h1:C'.w0=C.w0)(h2:C'.G0=C.G0)(h3:C'.mb=C.mb)(h4: ∀p∈C'.ex,p∈C.ex):bF C' own G w:=by
 obtain⟨a1,a2,a3,a4,a5,a6,a7,a8,a9,a10,a11,a12⟩:=h;exact⟨by rw[h1];exact a1,by rw[h1];exact a2,by rw[h1];exact a3,by rw[h1];exact a4,by rw[h1,h3];exact a5,a6,by rw[h2];exact a7,by rw[h1,h2];exact a8,by rw[h1,h3];exact a9,a10,by rw[h1];exact a11,fun p hp=>a12 p (h4 p hp)⟩
def bF.addx(h:bF C own G w){o:Obj}(ho:F6 o)(h1:C'.w0=C.w0)(h2:C'.G0=C.G0)(h3:C'.mb=C.mb)(h4: ∀p∈C'.ex,p=(w.heap.size,o)\/p∈C.ex):bF C' own G (w.alloc o):=by
 have old: ∀b,b<w.heap.size->(w.alloc o).heap[b]? =w.heap[b]? :=fun b hb=>RowKit.Below.heap_alloc _ _ _ hb;obtain⟨a1,a2,a3,a4,a5,a6,a7,a8,a9,a10,a11,a12⟩:=h;refine⟨by rw[h1];exact a1,by rw[h1];exact a2,by rw[h1];exact a3,by rw[h1];simp;omega,?_,?_,by rw[h2];exact a7,by rw[h1,h2];exact a8,?_,a10,by rw[h1];exact a11,?_⟩
 .rw[h1,h3];intro b hb hm;rw[old b (by omega)];exact a5 b hb hm
 .intro b cs hb
  obtain⟨ty,fz,hc⟩:=a6 b cs hb;exact⟨ty,fz,by rw[old b (iG hc)];exact hc⟩
 .rw[h1,h3];intro x hx
  obtain⟨b1,b2⟩:=a9 x hx;exact⟨by rw[old _ (iG b1)];exact b1,b2⟩
 .intro p hp
  rcases h4 p hp with rfl|hp
  .exact⟨ho,World.alloc_heap_new w o⟩
  .exact⟨(a12 p hp).1,by rw[old _ (iG (a12 p hp).2)];exact(a12 p hp).2⟩
def bF.putx(h:bF C own G w){l:Nat}{o0 o:Obj}(hl:(l,o0)∈C.ex)(hs:C.w0.heap.size<=l)(ho:F6 o)(h1:C'.w0=C.w0)(h2:C'.G0=C.G0)(h3:C'.mb=C.mb)(h4: ∀p∈C'.ex,p=(l,o)\/p∈C.ex/\p.1≠l):bF C' own G (w.putObj l o):=by
 have hne: ∀{b:Nat} {cs:Array Value} {ty:TypeId} {z:Nat×Nat},w.heap[b]? =some (.cells cs ty z)->b≠l:=fun hb e=>h.extNe hl hb e.symm;have hlt:=iG (h.ext _ hl).2;obtain⟨a1,a2,a3,a4,a5,a6,a7,a8,a9,a10,a11,a12⟩:=h;refine⟨by rw[h1];exact a1,by rw[h1];exact a2,by rw[h1];exact a3,by rw[h1];simpa using a4,?_,?_,by rw[h2];exact a7,by rw[h1,h2];exact a8,?_,a10,by rw[h1];exact a11,?_⟩
 .rw[h1,h3];intro b hb hm;rw[World.putObj_heap_other (by omega)];exact a5 b hb hm
 .intro b cs hb
  obtain⟨ty,fz,hc⟩:=a6 b cs hb;exact⟨ty,fz,by rw[World.putObj_heap_other (hne hc)];exact hc⟩
 .rw[h1,h3];intro x hx
  obtain⟨b1,b2⟩:=a9 x hx;exact⟨by rw[World.putObj_heap_other (hne b1)];exact b1,b2⟩
 .intro p hp
  rcases h4 p hp with rfl|⟨hp,hpl⟩
  .exact⟨ho,World.putObj_heap_same hlt⟩
  .exact⟨(a12 p hp).1,by rw[World.putObj_heap_other hpl];exact(a12 p hp).2⟩
end
abbrev n4 (w:World) (G:Gh):aD:=⟨w,G,[],[],[],none,fun _=>none⟩
def HR(G:Gh)(w:World):Prop:= ∀b cs,G b=some cs-> ∃ty fz,w.heap[b]? =some (.cells ⟨cs⟩ ty fz)
structure L0 (Jv:Gh->World->Prop):Prop where
 frz: ∀G w,Jv G w->HR G w
 on: ∀G w G1 w1,Jv G w->bF (n4 w G) [] G1 w1->Jv G1 w1
def JF(h:HR G w):bF (n4 w G) [] G w:=
 ⟨J,J,J,bX _,fun _ _ _=>J,h,bI.refl _,fun _ _=>J,fun o ho=>(by cases ho), .nil,bX _,fun p hp=>by cases hp⟩
structure Be (GB:Gh) (P:Program) (l:Nat) (Jv:Nat->Gh->World->Prop) (Jx:Gh->World->Prop) (E:List (List DV)):Prop where
 st: ∀k,L0 (Jv k)
 sx:L0 Jx
 yd: ∀k e G w ys,E[k]? =some e->bI GB G->Jv k G w->IsLs G e ys->YieldAt (FW none) 0 P l ⟨ys⟩ w fun e w'=> ∃G',bI G G'/\(e= .returned (.bool true)/\Jv (k+1) G' w'\/e= .returned (.bool false)/\Jx G' w')
structure It (GB:Gh) (P:Program) (f:FuncId) (ds:List DV) (E:List (List DV)):Prop where
 able:uE P f
 run: ∀(l:Nat) (Jv:Nat->Gh->World->Prop) (Jx:Gh->World->Prop) (GB':Gh),bI GB GB'->Be GB' P l Jv Jx E-> ∀w vs,Jv 0 GB' w->IsLs GB' ds vs->
  CallsIn (FW none) 0 P f ⟨.func (.yield l) #[] #[]::vs⟩ w fun e w'=> ∃G',bI GB' G'/\(∃v,e= .returned v)/\(Jv E.length G' w'\/Jx G' w')
structure Pl (C:aD):Prop where
 mb:C.mb=[]
 mks:C.mks=[]
 rd:C.rd=none
def Ky(P:Program)(fb:Func)(GB:Gh)(Jv:Nat->Gh->World->Prop)(Jx:Gh->World->Prop)(N:Nat):Exit->Act->World->Prop:=
 bodyPost P fb fun e w'=> ∃G',bI GB G'/\(∃v,e= .returned v)/\(Jv N G' w'\/Jx G' w')
section
variable {own:aH}
def VI[fu:Fu]{m:Nat}{cf:Nat->Cf}{fr:Nat->aC}{own:Nat->aH}{vc:Nat->List Prop}(hf:prog.funcs[f]? =some fb)(hb:fb.body=some c)(hn:(fb.name== "runtime.NumGoroutine")=false)(hm:fb.ntmps=m)(hlen:Nat.ble (ds.length+1) m=true)
  (hgo: ∀l,go tt m fu.n [] (rP 0 (.v (.func (.yield l) #[] #[])::ds)) [] (.code c [])=⟨vc l,fr l,own l,cf l⟩)
  (k: ∀l Jv Jx GB',bI GB GB'->Be GB' prog l Jv Jx E-> ∀C,Pl C->Jv 0 C.G0 C.w0->aw prog GB' C m (Ky prog fb GB' Jv Jx E.length) (fr l) (own l) (cf l))
  (hv: ∀l,aj (vc l):=by intros;first|exact trivial|(simp only[aj];kernel_rfl)|(simp only[aj];omega)):It GB prog f ds E:=by
 refine⟨⟨fb,hf,hn,by simp[hb]⟩,fun l Jv Jx GB' hg H w vs hJ hvs=>?_⟩;have hlen':vs.length+1<=m:=by rw[hvs.len];simpa using hlen
 have h:=f7 (GB:=GB') (C:=n4 w GB') (Q0:=Ky prog fb GB' Jv Jx E.length) (hgo l) (hv l) (k l Jv Jx GB' hg H (n4 w GB') ⟨J,J,J⟩ hJ);refine callsIn_wide.2 (calls_of_wp hf hb ?_);have hvs':IsLs GB' (.v (.func (.yield l) #[] #[])::ds) (.func (.yield l) #[] #[]::vs):= .cons (aB.2 J) hvs;refine vo J (h.run (fun _=>⟨none,0,0⟩) GB' [] _ w ⟨bI.refl _,JF ((H.st 0).frz _ _ hJ),by simp;omega,J,fun k f e=>An hvs' (fun k v hk=>?_) k f e,(fun nm B e=>by cases e),(fun nm nm' B B' e=>by cases e),fun nm p _ _ e=>by cases e⟩);obtain⟨j,rfl,hj⟩:=wZ (.func (.yield l) #[] #[]::vs) 0 k v hk;have hj':=(aY.1 hj).1;rw[lT (by simpa using hj')];simpa using hj
def bF.pl(h:bF C ov G w)(hp:Pl C):bF (n4 C.w0 C.G0) [] G w:=
 (h.drop (fM _)).ctx J J hp.mb.symm (fun p hp=>by cases hp)
def Pm{l:Nat}(H:Be GB P l Jv Jx E)(hp:Pl C)(hJ:Jv E.length C.G0 C.w0\/Jx C.G0 C.w0)(hr:fb.results.toList=[])(he:DQ e=true:=by rfl):
  aw P GB C n (Ky P fb GB Jv Jx E.length) fr own (.ex e []):=by
 refine⟨fun ρ G ov a w r=>?_⟩;have hj:Jv E.length G w\/Jx G w:=hJ.imp (fun h=>(H.st _).on _ _ _ _ h (r.h.pl hp)) fun h=>H.sx.on _ _ _ _ h (r.h.pl hp);have hr':kz P (cx a) ov fb.results.toList []:=by rw[hr];exact .nil
 cases e with
 |ret=>exact⟨r.df.trans hp.mks,_,tC hr' (cC a) r.h,G,r.gb,⟨_,J⟩,hj⟩
 |normal=>exact⟨r.df.trans hp.mks,_,tC hr' (cC a) r.h,G,r.gb,⟨_,J⟩,hj⟩
 |_=>cases he
def aHg{fr:Fr}{l:Nat}(hf:mf fr a)(ho:aA fr fo=some (.func (.yield l) ⟨[]⟩ ⟨[]⟩))(hv:fy fr args.toList=some vs):
  (execOp a.eval ⟨dst, .call ⟨.value fo,args,tys⟩,ty',pos,af,gd⟩).run P w=(Instr.yield l ⟨vs⟩).run P w:=by
 have e:args.map a.eval=⟨vs⟩:=by apply Array.ext';simpa using Ba hf hv
 simp only[execOp,resolve,bw hf ho,e,Deferred.ofValue];show(invoke (.fn (.yield l) ⟨[]⟩) (⟨[]⟩++⟨vs⟩)).run P w=_;simp only[invoke];rw[show((⟨[]⟩:Array Value)++⟨vs⟩)=⟨vs⟩ by simp]
def px:aC->aC
 |[]=>[]
 |(k,f)::t=>match f with
  | .ov .. =>px t
  | .rw .. =>px t
  | .be .. =>px t
  | .rs .. =>px t
  | .bx .. =>px t
  | .no=>px t
  |f=>(k,f)::px t
def M5(fr:aC)(ops:Array Oper)(o:Oper):Option (Nat×List DV×Nat):=match o with
 |⟨some d, .call ⟨.value fo,args,_⟩,_,_,_,none⟩=>match bj (bh fr) fo,evDs (bh fr) args.toList with
  |some (.d (.v (.func (.yield l) ⟨[]⟩ ⟨[]⟩))),some ds=>some (l,ds,d)
  |_,_=>none
 |_=>none
def cy[fu1:Fu][fu2:Fu]{l d:Nat}(frd:aC)(H:Be GB prog l Jv Jx E)(hp:Pl C)(hJ:Jv k C.G0 C.w0)(ha:M5 fr ops o=some (l,ds,d))(hE:E[k]? =some ds)(hd:b7 n (some d)=true)
  (hfd:uW frd fr)(hnd:px frd=frd)
  (g1:go tt n fu1.n [] ((d, .tt)::frd) [] (.ops ops r K)=⟨vc1,fr1,own1,cf1⟩)(g2:go tt n fu2.n [] ((d, .ff)::frd) [] (.ops ops r K)=⟨vc2,fr2,own2,cf2⟩)
  (k1: ∀C',Pl C'->Jv (k+1) C'.G0 C'.w0->aw prog GB C' n Q0 fr1 own1 cf1)(k2: ∀C',Pl C'->Jx C'.G0 C'.w0->aw prog GB C' n Q0 fr2 own2 cf2)
  (v1:autoParam (aj vc1) cL._auto_1)(v2:autoParam (aj vc2) cL._auto_1):
  aw prog GB C n Q0 fr own (.ops ops (o::r) K):=by
 unfold M5 at ha;split at ha<;>try (cases ha;done)
 rename_i d0 fo args tys ty pos af;split at ha<;>cases ha;rename_i h1 h2;have nmd: ∀{f:aC},px f=f-> ∀k x,bh f k=some x->x.nm=none:=by
  have len: ∀f:aC,(px f).length<=f.length:=fun f=>by
   induction f with
   |nil=>exact bX _
   |cons e t ih=>obtain⟨j,x⟩:=e;cases x<;>simp only[px,bJ]<;>omega
  intro f
  induction f with
  |nil=>intro _ k x e;cases e
  |cons e t ih=>
   obtain⟨j,y⟩:=e;intro hd k x hx;rw[kn] at hx;have:=len t;split at hx
   .cases hx
    cases y<;>first|rfl|(have:=congrArg List.length hd;simp only[px,bJ] at this;omega)
   .refine ih ?_ k x hx
    cases y<;>first|exact(List.cons.inj hd).2|(have:=congrArg List.length hd;simp only[px,bJ] at this;omega)
 refine⟨fun ρ G ov a w rl=>?_⟩;have hJG:Jv k G w:=(H.st k).on _ _ _ _ hJ (rl.h.pl hp);obtain⟨y,hy,hy'⟩:=rl.ev h1;rw[(aB (G:=G)).1 hy'] at hy;obtain⟨vs,h3,h4⟩:=rl.evDs h2;obtain⟨fn,tmps,assign,body,hrun,hround⟩:=H.yd k ds G w vs hE rl.gb hJG h4;rw[hp.rd];simp only[wpListIn];rw[if_pos (by rfl)];refine⟨fun _ _=>trivial,?_⟩;have hs: ∀o:Oper,Oper.semAt (FW none).round a.eval o=execOp a.eval o:=fun _=>J;rw[hs,aHg (cC a) hy h3,hrun];refine⟨fun h=>(by cases h),hround.mono fun e w' he=>?_⟩;obtain⟨G',hg,he⟩:=he;have rel: ∀(b:Bool) (f:FX),(∀ρ,bO ρ G' f (.bool b))->HR G' w'->bH GB (n4 w' G') n (bh ((d,f)::frd)) (bp []) ρ G' [] (a.put (some d) (.bool b)) w':=fun b f hfb hz=>by
  have pa:=rl.putA (dst:=some d) (.bool b) hd;refine⟨rl.gb.trans hg,JF hz,pa.sz,by rw[pa.df];exact hp.mks,fun k g e=>?_,(fun nm B e=>by cases e),(fun nm nm' B B' e=>by cases e),fun nm p _ _ e=>by cases e⟩;have e':ef (bh frd) (some d) f k=some g:=by
   rw[kn] at e;simp only[ef];split at e
   .rename_i hk;rw[if_pos hk];exact e
   .rename_i hk;rw[if_neg hk];exact e
  refine pa.fx (fun k g _ e=>?_) (hfb ρ) k g e';obtain⟨u,h5,h6⟩:=rl.fx k g (xf hfd k g e);exact⟨u,h5,h6.up hg⟩
 rcases he with⟨rfl,hj⟩|⟨rfl,hj⟩
 .exact(f7 (GB:=GB) (C:=n4 w' G') (Q0:=Q0) g1 v1 (k1 (n4 w' G') ⟨J,J,J⟩ hj)).run ρ G' [] _ w' (rel true .tt (fun _=>J) ((H.st _).frz _ _ hj))
 .exact(f7 (GB:=GB) (C:=n4 w' G') (Q0:=Q0) g2 v2 (k2 (n4 w' G') ⟨J,J,J⟩ hj)).run ρ G' [] _ w' (rel false .ff (fun _=>J) (H.sx.frz _ _ hj))
def LY(GB:Gh)(n:Nat)(F:X->aC)(I:X->aD->Prop)(a:Act)(w:World):Prop:=
 ∃C x ρ G ov,Pl C/\I x C/\bH GB C n (bh (F x)) (bp []) ρ G ov a w
def W5[fu:Fu](F:X->aC)(I:X->aD->Prop)(μ:X->Nat)(x0:X){cf':X->Cf}{fr':X->aC}{own':X->aH}{vc:X->List Prop}(hp:Pl C)(hI:I x0 C)
  (hgo: ∀x,go tt n fu.n [] (F x) [] (.code c (.ag (LY GB n F (fun y C=>I y C/\μ y<μ x))::K))=⟨vc x,fr' x,own' x,cf' x⟩)
  (round: ∀x C,Pl C->I x C->aw prog GB C n Q0 (fr' x) (own' x) (cf' x))(hF:uW (F x0) fr:=by repeat (first|exact trivial|refine And.intro J ?_|refine And.intro (qz J (by first|omega|(dsimp only;omega))) ?_|refine And.intro (qz J (by simp)) ?_))
  (hv: ∀x C,I x C->aj (vc x):=by intros;first|exact trivial|(simp only[aj];kernel_rfl)|(simp only[aj];omega)|(simp only[aj,aX,bY,aL];omega)):aw prog GB C n Q0 fr own (.code (.loop c) K):=by
 refine⟨fun ρ G ov a w r=>?_⟩;have r0:=r.mono (bk:=bp []) (xf hF) (fun k x e=>by cases e);rw[hp.rd];intro b k cs hro hb hrm;have key: ∀m a w,(∃C x ρ G ov,Pl C/\I x C/\μ x=m/\bH GB C n (bh (F x)) (bp []) ρ G ov a w)->
   ∃e a' w',cQ none prog Q0 K e a' w'/\ArrivesIn (Machine.fenced prog (FW none)) prog (lone (b.atR a (.code c:: .inLoop c::k)) cs w) b k cs e a' w':=by
  intro m
  induction m using Nat.strongRecOn with
  |_ m ih=>
   intro a w ⟨C,x,ρ,G,ov,hpc,hx,hm,hr⟩;have h1:=f7 (GB:=GB) (C:=C) (Q0:=Q0) (hgo x) (hv x C hx) (round x C hpc hx);have h2:=h1.run ρ G ov a w hr;rw[hpc.rd] at h2;obtain⟨e,a₁,w₁,hq,harr⟩:=h2 b (.inLoop c::k) cs hro hb hrm
   cases e with
   |normal=>
    obtain⟨C',x',ρ',G',ov',hpc',⟨hx',hlt⟩,hr'⟩:=hq;obtain⟨e₂,a₂,w₂,hq₂,harr₂⟩:=ih (μ x') (hm▸hlt) a₁ w₁ ⟨C',x',ρ',G',ov',hpc',hx',rfl,hr'⟩;exact⟨e₂,a₂,w₂,hq₂, .of_steps (StepsIn.trans harr (.one (fenced_calm hb hrm J) stepR_inLoop)) harr₂⟩
   |exit id=>exact⟨_,a₁,w₁,hq, .pass (x:= .inLoop c) J (fun _ _=> .inl (by simp)) harr⟩
   |goto l=>exact⟨_,a₁,w₁,hq, .pass (x:= .inLoop c) J (fun _ _=> .inl (by simp)) harr⟩
   |ret=>exact⟨_,a₁,w₁,hq, .pass (x:= .inLoop c) J (fun _ _=> .inl (by simp)) harr⟩
   |panic ch=>exact⟨_,a₁,w₁,hq, .pass (x:= .inLoop c) J (fun _ _=> .inl (by simp)) harr⟩
   |outgrown=>exact⟨_,a₁,w₁,hq, .pass (x:= .inLoop c) J (fun _ _=> .inl (by simp)) harr⟩
 obtain⟨e,a',w',q,rr⟩:=key (μ x0) a w ⟨C,x0,ρ,G,ov,hp,hI,rfl,r0⟩;exact⟨e,a',w',q, .of_steps (.one (fenced_calm hb hrm J) stepR_loop) rr⟩
def WA{F:X->aC}{I:X->aD->Prop}(x:X)(hp:Pl C)(hI:I x C)(hF:uW (F x) fr:=by repeat (first|exact trivial|refine And.intro J ?_|refine And.intro (qz J (by first|omega|(dsimp only;omega))) ?_|refine And.intro (qz J (by simp)) ?_)):aw P GB C n Q0 fr own (.ex .normal (.ag (LY GB n F I)::K)):=
 ⟨fun ρ G ov a w r=>⟨C,x,ρ,G,ov,hp,hI,r.mono (xf hF) (fun k x e=>by cases e)⟩⟩
end
section
variable {own:aH}
def Yf{x y:Nat}{Φ:Act->World->Prop}{R:BR}(hfx:C.fx=fun _=>none)(h:ze x y fr own=some R)(hk:SX GB C n (bh R.fr) (bp R.own) Φ):SX GB C n (bh fr) (bp own) Φ:=by
 unfold ze at h;rw[cond_eq_ite] at h;split at h<;>try (cases h;done)
 rename_i hb;have hxy:x≠y:=fun e=>hb (by subst e;simp);rw[GJ,Ku] at h;cases h;refine⟨fun ρ G ov a w r=>hk.run (fun k=>if k=y then ρ x else ρ k) G ov a w ?_⟩;have inv: ∀m B,bp (own.map fun e=>(bif Nat.beq e.1 y then x else bif Nat.beq e.1 x then y else e.1,bif Nat.beq e.1 y then none else rI x y e.2)) m=some B-> ∃m0 B0,bp own m0=some B0/\rI x y (some B0)=some B/\(m=y/\m0=x\/m≠y/\m≠x/\m0=m):=fun m B e=>by
  rw[FS hxy] at e;split at e
  .cases e
  .rename_i hm
   split at e
   .cases hl:bp own x with
    |none=>rw[hl] at e;cases e
    |some B0=>rw[hl] at e;exact⟨x,B0,hl,e, .inl ⟨by assumption,J⟩⟩
   .cases hl:bp own m with
    |none=>rw[hl] at e;cases e
    |some B0=>rw[hl] at e;exact⟨m,B0,hl,e, .inr ⟨by assumption,hm,J⟩⟩
 have rho: ∀m m0,(m=y/\m0=x\/m≠y/\m≠x/\m0=m)->(fun k=>if k=y then ρ x else ρ k) m=ρ m0:=fun m m0 h=>by
  rcases h with⟨h1,h2⟩|⟨h1,_,h2⟩
  .subst h1 h2;simp
  .subst h2;exact if_neg h1
 refine⟨r.gb,r.h,r.sz,r.df,fun k f e=>?_,fun m B e=>?_,fun m m' B B' e e' hne=>?_,fun m p _ _ e=>by rw[hfx] at e;cases e⟩
 .rw[C8] at e
  cases hf:bh fr k with
  |none=>rw[hf] at e;cases e
  |some g=>
   rw[hf] at e;cases e;obtain⟨v,h1,h2⟩:=r.fx k g hf;exact⟨v,h1,J0 hxy h2⟩
 .obtain⟨m0,B0,h1,h2,h3⟩:=inv m B e
  obtain⟨os,h4,h5⟩:=r.bx m0 B0 h1;refine⟨os,?_,h5⟩;have hr:=rho m m0 h3
  cases B0 with
  |b=>cases h2;obtain⟨vs,q1,q2,q3,q4⟩:=h4;exact⟨vs,by rw[hr];exact q1,q2,q3,q4⟩
  |c=>cases h2;obtain⟨vs,q1,q2,q3,q4,q5⟩:=h4;exact⟨vs,by rw[hr];exact q1,q2,q3,q4,by rw[hr];exact q5⟩
  |o ty cs lo=>cases h2;obtain⟨b,q,q1,q2,q3⟩:=h4;exact⟨b,q,by rw[hr];exact q1,q2,J' hxy q3⟩
 .obtain⟨m0,B0,h1,_,h3⟩:=inv m B e
  obtain⟨m1,B1,h4,_,h6⟩:=inv m' B' e';have q1:=rho m m0 h3;have q2:=rho m' m1 h6;simp only at q1 q2;rw[q1,q2];refine r.dj m0 m1 B0 B1 h1 h4 fun e=>?_;rcases h3 with⟨h7,h8⟩|⟨h7,h8,h9⟩<;>rcases h6 with⟨g7,g8⟩|⟨g7,g8,g9⟩
  .exact hne (h7.trans g7.symm)
  .exact g8 (by rw[<-g9,<-e,h8])
  .exact h8 (by rw[<-h9,e,g8])
  .exact hne (by rw[<-h9,e,g9])
def yh(x y:Nat)(hfx:C.fx=fun _=>none)(h:ze x y fr own=some ⟨fr1,own1⟩)(k:aw P GB C n Q0 fr1 own1 (.code c K)):aw P GB C n Q0 fr own (.code c K):=Yf hfx h k
def I8(P:Program)(fb:Func)(R:Ending->World->Prop):Exit->Act->World->Prop:=bodyPostM (FW none) 0 P fb R
structure L6 (C:aD):Prop where
 mks:C.mks=[]
 rd:C.rd=none
 fx:C.fx=fun _=>none
def IX[fu:Fu]{m:Nat}(hf:prog.funcs[f]? =some fb)(hb:fb.body=some c)(hn:(fb.name== "runtime.NumGoroutine")=false)(hm:fb.ntmps=m)(hlen:Nat.ble ds.length m=true)
  (hgo:go tt m fu.n [] (rP 0 ds) [] (.code c [])=⟨vc,fr,own,cf⟩)(k: ∀C:aD,L6 C->aw prog GB C m (I8 prog fb (mv C (fun v G'=>Is G' rv v))) fr own cf)
  (hv:autoParam (aj vc) fn._auto_1):PF GB prog f ds rv:=by
 intro G vs hg hvs;refine⟨⟨fb,hf,hn,by simp[hb]⟩,fun w hw=>?_⟩;have hlen':vs.length<=m:=by rw[hvs.len];simpa using hlen
 have h:=f7 (GB:=GB) (C:=n4 w G) (Q0:=I8 prog fb (mv (n4 w G) (fun v G'=>Is G' rv v))) hgo hv (k (n4 w G) ⟨J,J,J⟩);refine(callsIn_wide (n:=0)).1 (callsIn_of_wp_marks (F:=FW none) (n:=0) hf hb trivial ?_);refine h.run (fun _=>⟨none,0,0⟩) G [] _ w ⟨hg,JF hw,by simp;omega,J,fun k f e=>An hvs (fun k v hk=>?_) k f e,(fun nm B e=>by cases e),(fun nm nm' B B' e=>by cases e),fun nm p _ _ e=>by cases e⟩;obtain⟨j,rfl,hj⟩:=wZ vs 0 k v hk;have hj':=(aY.1 hj).1;rw[lT (by simpa using hj')];simpa using hj
def aD.mk3(C:aD)(D:Nat):aD:={C with ex:=(D, .deferred (some []))::C.ex,mks:=[{target:= .collected D,args:= #[]}]}
def ET(hD:C.w0.heap.size<=D)(hx: ∀p∈C.ex,p.1≠D)(hr:rG tt fr own fb.results.toList=some ds)(hd:fh ds=rv)(he:DQ e=true:=by rfl):aw prog GB (C.mk3 D) n (I8 prog fb (mv C (fun v G'=>Is G' rv v))) fr own (.ex e []):=by
 refine⟨fun ρ G ov a w r=>?_⟩;obtain⟨vs,h1,h2⟩:=DM r hr;have hk:Is G rv (gI vs):=hd▸Cx h2;have hex:((D,Obj.deferred (some [])):Nat×Obj)∈(C.mk3 D).ex:=aQ;have h3:bF C ov G (w.putObj D (.deferred none)):=r.h.putx hex hD (fun _ _ _ h=>by cases h) J J J fun p hp=> .inr ⟨aJ _ hp,hx p hp⟩;have hres:=tC (C:=C) (G:=G) (own:=ov) (w:=w.putObj D (.deferred none)) h1 (cC a) h3;have key:LeavesInM (FW none) 0 prog fb a.tmps (mv C (fun v G'=>Is G' rv v)) a.defers .returning w:=by
  rw[r.df];exact⟨by simp, .inl ⟨D,_,J,run_takeDeferred (r.h.ext _ hex).2,_,hres,_,G,J,h3.drop (fM _),hk⟩⟩
 cases e with
 |ret=>exact key
 |normal=>exact key
 |_=>cases he
end
section
variable {own:aH}
def bH.later{ρ:NE}(r:bH GB C n lk bk ρ G ov a w)(h:bF (n4 w G) [] G1 w1):bH GB C n lk bk ρ G1 ov a w1:=
 ⟨r.gb.trans h.gle,r.h.called h,r.sz,r.df,fun k f e=>by obtain⟨y,h1,h2⟩:=r.fx k f e;exact⟨y,h1,h2.up h.gle⟩,fun nm B e=>by obtain⟨os,h1,h2⟩:=r.bx nm B e;exact⟨os,h1.up h.gle,h2⟩,r.dj,r.fxd⟩
def BZ:List Nat->List DV->aC->aC
 |p::ps,d::ds,fr=>BZ ps ds ((p, .d d)::fr)
 |_,_,fr=>fr
def MX{ρ:NE}{G:Gh}: ∀{ps:List Nat} {ds:List DV} {ys tm:List Value} {fr:aC},IsLs G ds ys->(∀p∈ps,p<tm.length)->(∀k f,bh fr k=some f-> ∃y,tm[k]? =some y/\bO ρ G f y)->
  ((ps.zip ys).foldl (fun t e=>t.set e.1 e.2) tm).length=tm.length/\ ∀k f,bh (BZ ps ds fr) k=some f-> ∃y,((ps.zip ys).foldl (fun t e=>t.set e.1 e.2) tm)[k]? =some y/\bO ρ G f y
 |[],ds,ys,tm,fr,_,_,h=>⟨J,fun k f e=>h k f (by cases ds<;>exact e)⟩
 |p::ps,[],ys,tm,fr,hd,_,h=>by rw[dE.1 hd];exact⟨J,fun k f e=>h k f e⟩
 |p::ps,d::ds,ys,tm,fr,hd,hp,h=>by
  obtain⟨y,m,rfl,h1,h2⟩:=aI.1 hd;simp only[List.zip_cons_cons,kK,BZ];have:=MX (ps:=ps) (ds:=ds) (ys:=m) (tm:=tm.set p y) (fr:=(p, .d d)::fr) h2 (fun q hq=>by rw[bY];exact hp q (aJ _ hq)) fun k f e=>by
   rw[kn] at e;split at e
   .rename_i hk;subst hk;cases e
    exact⟨y,by rw[mS];rw[if_pos J,if_pos (hp k aQ)],h1⟩
   .rename_i hk
    obtain⟨u,h3,h4⟩:=h k f e;exact⟨u,by rw[mS];rw[if_neg (fun e=>hk e.symm)];exact h3,h4⟩
  rw[bY] at this;exact this
def Pr: ∀(l:List (Nat×Value)) (t:Array Value),(l.foldl (fun t e=>t.setIfInBounds e.1 e.2) t).toList=l.foldl (fun t e=>t.set e.1 e.2) t.toList
 |[],t=>rfl
 |e::l,t=>by simp only[kK];rw[Pr l];simp
def F1:FX->Bool
 | .ov nm _=>Nat.ble 2000000 nm
 | .rw _=>false
 | .be .. =>false
 | .rs .. =>false
 | .bx .. =>false
 |_=>true
def DK:aC->Bool
 |[]=>true
 |(_,f)::t=>F1 f&&DK t
def Tl: ∀{fr:aC},DK fr=true-> ∀k f,bh fr k=some f->F1 f=true
 |[],_,k,f,e=>by cases e
 |(j,g)::t,h,k,f,e=>by
  simp only[DK,cZ] at h;rw[kn] at e;split at e
  .cases e;exact h.1
  .exact Tl h.2 k f e
def Rk(GB:Gh)(C:aD)(n:Nat)(fr:aC)(own:aH)(a:Act)(w:World):Prop:= ∃ρ G ov,bH GB C n (bh fr) (bp own) ρ G ov a w
def atR:aw P GB C n Q0 fr own (.ex .normal (.ag (Rk GB C n fr own)::K)):=⟨fun ρ G ov a w r=>⟨ρ,G,ov,r⟩⟩
def RQ(GB:Gh)(C:aD)(n:Nat)(p:Prop)(O:aH)(S:σ->aH)(q:σ->Prop):Exit->Act->World->Prop
 | .normal,a,w=>p/\ ∃ρ G ov,bH GB C n (fun _=>none) (bp O) ρ G ov a w
 | .ret,a,w=> ∃s,q s/\ ∃ρ G ov,bH GB C n (fun _=>none) (bp (S s)) ρ G ov a w
 |_,_,_=>False
def rq{S:σ->aH}{q:σ->Prop}(hp:p)(hO:wV O own:=by repeat (first|exact trivial|refine And.intro J ?_)):aw P GB C n (RQ GB C n p O S q) fr own (.ex .normal []):=
 ⟨fun ρ G ov a w r=>⟨hp,ρ,G,ov,r.mono (fun k x e=>by cases e) (vh hO)⟩⟩
def VK{S:σ->aH}{q:σ->Prop}(s:σ)(hq:q s)(hO:wV (S s) own:=by repeat (first|exact trivial|refine And.intro J ?_)):aw P GB C n (RQ GB C n p O S q) fr own (.ex .ret []):=
 ⟨fun ρ G ov a w r=>⟨s,hq,ρ,G,ov,r.mono (fun k x e=>by cases e) (vh hO)⟩⟩
def J3{ps:Array Nat}(I:Nat->aH)(p:Nat->Prop)(S:σ->aH)(q:σ->Prop)(fr1:aC)
  (h0:L6 C)(hg:bj (bh fr) g=some (.d (.v (.func (.func gf) ⟨[]⟩ ⟨caps⟩))))(hIt:It GB P gf ds E)(hc:IsLs GB ds caps)
  (hfr:uW fr1 fr)(hfix:DK fr1=true)(hO:wV (I 0) own)(hp:p 0)(hps: ∀e∈E,e.length=ps.size)(hpn:ps.toList.all (fun k=>Nat.blt k n)=true)(hn2:Nat.ble n 2000000=true)
  (round: ∀k e GB',E[k]? =some e->bI GB GB'->p k-> ∃fr2 own2,(∀C2,aw P GB' C2 n (fun _ _ _=>False) (BZ ps.toList e fr1) (I k) (.code assign [.ag (Rk GB' C2 n fr2 own2)]))/\ ∀C2,aw P GB' C2 n (RQ GB' C2 n (p (k+1)) (I (k+1)) S q) fr2 own2 (.code body []))
  (after: ∀D,C.w0.heap.size<=D->(∀x∈C.ex,x.1≠D)->p E.length->aw P GB (C.mk3 D) n Q0 fr1 (I E.length) (.ex .normal K))
  (early: ∀D s,C.w0.heap.size<=D->(∀x∈C.ex,x.1≠D)->q s->aw P GB (C.mk3 D) n Q0 fr1 (S s) (.ex .ret K)):
  aw P GB C n Q0 fr own (.code (.rangeFunc g ps assign body) K):=by
 refine⟨fun ρ0 G0 ov0 a w r=>?_⟩;rw[h0.rd];refine wpIn_rangeFunc fun fn _=>?_;obtain⟨y,hy,hy'⟩:=r.ev hg;rw[(aB (G:=G0)).1 hy'] at hy;have hev:=bw (cC a) hy
 let D:=w.heap.size
 let l:=w.heap.size+1
 let rec_:Loop:={state:= .ready,pending:=none,fn,tmps:=a.tmps,params:=ps,assign,body,defers:=D}
 let w2:=(w.alloc (.deferred (some []))).alloc (.loop rec_)
 let mk:Deferred:={target:= .collected D,args:= #[]}
 let fx1:Nat->Option Addr:=fun nm=>(ρ0 nm).a
 let C1:Loop->aD:=fun rc=>{C with ex:=(l, .loop rc)::(D, .deferred (some []))::C.ex,mks:=[mk],fx:=fx1}
 let a0:Act:={a with defers:=[mk]++a.defers}
 have hszD:C.w0.heap.size<=D:=r.h.size;have hlt: ∀x∈C.ex,x.1<D:=fun x hx=>iG (r.h.ext x hx).2;have hszl:C.w0.heap.size<=l:=Nat.le_succ_of_le hszD;have hnl: ∀x∈((D,Obj.deferred (some []))::C.ex:List (Nat×Obj)),x.1≠l:=fun x hx=>by
  rcases aW.1 hx with rfl|hx
  .show D≠D+1;omega
  .have:=hlt x hx;show x.1≠D+1;omega
 have ncl: ∀rc:Loop,F6 (.loop rc):=fun rc _ _ _ h=>by cases h
 -- the slots of the loop, at any time
 have stat: ∀(ρ':NE) (G':Gh),bI G0 G'->(∀nm p,n<=nm->2000000<=nm->fx1 nm=some p->(ρ' nm).a=some p)-> ∀k f,bh fr1 k=some f-> ∃y,a.tmps[k]? =some y/\bO ρ' G' f y:=by
  intro ρ' G' hg' hf k f e;obtain⟨y,h1,h2⟩:=r.fx k f (xf hfr k f e);refine⟨y,h1,?_⟩;have hx:=Tl hfix k f e
  cases f with
  |ov nm off=>
   obtain⟨b,h3,h4⟩:=h2;have h5:2000000<=nm:=by simpa[F1] using hx
   have h6:n<=2000000:=by simpa using hn2
   exact⟨b,hf nm _ (by omega) h5 h3,h4⟩
  |rw _=>cases hx
  |be _ _ _ _=>cases hx
  |rs _ _ _ _=>cases hx
  |bx _ _ _ _=>cases hx
  |_=>exact(h2.up hg').ren fun _ h=>by cases h
 let Jv:Nat->Gh->World->Prop:=fun k G' w'=>p k/\ ∃ρ ov,bH G0 (C1 rec_) n (bh fr1) (bp (I k)) ρ G' ov a0 w'
 let rcx:Loop:={rec_ with state:= .done,pending:=some .ret}
 let Jx:Gh->World->Prop:=fun G' w'=> ∃s,q s/\ ∃ρ ov,bH G0 (C1 rcx) n (bh fr1) (bp (S s)) ρ G' ov a0 w'
 have hsz0:a0.tmps.size=n:=r.sz;have hdf0:a0.defers=[mk]:=by show [mk]++a.defers=_;rw[r.df,h0.mks];rfl
 have H:Be G0 P l Jv Jx E:=by
  refine⟨fun k=>⟨fun G' w' ⟨_,ρ,ov,h⟩=>h.h.sub,fun G' w' G1 w1 ⟨h1,ρ,ov,h⟩ k=>⟨h1,ρ,ov,h.later k⟩⟩,⟨fun G' w' ⟨_,_,ρ,ov,h⟩=>h.h.sub,fun G' w' G1 w1 ⟨s,h1,ρ,ov,h⟩ k=>⟨s,h1,ρ,ov,h.later k⟩⟩,?_⟩;intro k e G' w' ys hE hgg ⟨hpk,ρ,ov,r1⟩ hys;have hrec:w'.heap[l]? =some (.loop rec_):=(r1.h.ext _ aQ).2;have hel:=hps e (aV hE);obtain⟨fr2,own2,hA,hB⟩:=round k e G' hE (r.gb.trans hgg) hpk;refine⟨_,_,_,_,run_yield hrec (by show ys.length=ps.size;rw[hys.len,hel]),roundIn_of_wpIn trivial ?_⟩
  let C2:aD:={C1 rec_ with mks:=[],rd:=some l}
  let tm:Array Value:=(ps.zip (⟨ys⟩:Array Value)).foldl (fun tmps (t,a)=>tmps.setIfInBounds t a) a.tmps
  have htm:tm.toList=(ps.toList.zip ys).foldl (fun t e=>t.set e.1 e.2) a.tmps.toList:=by
   simp only[tm];rw[<-rS,Array.toList_zip];exact Pr _ _
  have hfx0:=r1.fx;obtain⟨q1,q2⟩:=MX (ρ:=ρ) (ps:=ps.toList) (tm:=a.tmps.toList) (fr:=fr1) hys (fun k hk=>by have:=dK.1 hpn k hk;rw[kL,r.sz];simpa[mM] using this) fun k f e=>by
   obtain⟨y,h1,h2⟩:=hfx0 k f e;exact⟨y,by simpa using h1,h2⟩
  have hR0:bH G' C2 n (bh (BZ ps.toList e fr1)) (bp (I k)) ρ G' ov {tmps:=tm,defers:=[]} w':=by
   refine⟨bI.refl _,r1.h.ctx J J J (fun _ h=>h),?_,J,fun k f e=>?_,r1.bx,r1.dj,r1.fxd⟩
   .show tm.size=n
    rw[<-kL,htm,q1,kL,r.sz]
   .obtain⟨y,h1,h2⟩:=q2 k f e
    exact⟨y,by rw[<-htm] at h1;simpa using h1,h2⟩
  refine wpIn_mono ((hA C2).run ρ G' ov _ w' hR0) fun ex a1 w1 hex=>?_
  cases ex with
  |normal=>
   obtain⟨ρ2,G2,ov2,r2⟩:=hex;have hrec1:w1.heap[l]? =some (.loop rec_):=(r2.h.ext _ aQ).2;refine⟨_,run_beginRound hrec1 J,?_⟩
   let busy:Loop:={rec_ with state:= .busy}
   let C3:aD:={C1 busy with mks:=[],rd:=some l}
   have h3:bF C3 ov2 G2 (w1.putObj l (.loop busy)):=r2.h.putx aQ hszl (ncl _) J J J fun x hx=>by
    rcases aW.1 hx with rfl|hx
    .exact .inl J
    .exact .inr ⟨aJ _ hx,hnl x hx⟩
   refine wpIn_mono ((hB C3).run ρ2 G2 ov2 a1 (w1.putObj l (.loop busy)) ⟨r2.gb,h3,r2.sz,r2.df,r2.fx,r2.bx,r2.dj,r2.fxd⟩) fun ex a2 w3 hex=>?_
   cases ex with
   |normal=>
    obtain⟨hp1,ρ3,G3,ov3,r3⟩:=hex;have hrec3:w3.heap[l]? =some (.loop busy):=(r3.h.ext _ aQ).2;refine⟨_,_,run_endRound none hrec3,G3,r3.gb, .inl ⟨J,hp1,ρ3,ov3,hgg.trans r3.gb,?_,hsz0,hdf0,stat ρ3 G3 (hgg.trans r3.gb) r3.fxd,r3.bx,r3.dj,r3.fxd⟩⟩;exact r3.h.putx aQ hszl (ncl _) J J J fun x hx=>by
     rcases aW.1 hx with rfl|hx
     .exact .inl J
     .exact .inr ⟨aJ _ hx,hnl x hx⟩
   |ret=>
    obtain⟨s,hq,ρ3,G3,ov3,r3⟩:=hex;have hrec3:w3.heap[l]? =some (.loop busy):=(r3.h.ext _ aQ).2;refine⟨_,_,run_endRound (some .ret) hrec3,G3,r3.gb, .inr ⟨J,s,hq,ρ3,ov3,hgg.trans r3.gb,?_,hsz0,hdf0,stat ρ3 G3 (hgg.trans r3.gb) r3.fxd,r3.bx,r3.dj,r3.fxd⟩⟩;exact r3.h.putx aQ hszl (ncl _) J J J fun x hx=>by
     rcases aW.1 hx with rfl|hx
     .exact .inl J
     .exact .inr ⟨aJ _ hx,hnl x hx⟩
   |exit id=>exact hex.elim
   |goto t=>exact hex.elim
   |panic ch=>exact hex.elim
   |outgrown=>exact hex.elim
  |exit id=>exact hex.elim
  |goto t=>exact hex.elim
  |ret=>exact hex.elim
  |panic ch=>exact hex.elim
  |outgrown=>exact hex.elim
 have hC1:bF (C1 rec_) ov0 G0 w2:=by
  have h1:bF {C with ex:=(D, .deferred (some []))::C.ex} ov0 G0 (w.alloc (.deferred (some []))):=r.h.addx (fun _ _ _ h=>by cases h) J J J fun x hx=>aW.1 hx;refine h1.addx (ncl rec_) J J J fun x hx=>?_;rcases aW.1 hx with rfl|hx
  .exact .inl (by show((l,Obj.loop rec_):Nat×Obj)=_;rw[show(w.alloc (.deferred (some []))).heap.size=w.heap.size+1 by simp])
  .exact .inr hx
 have hJ0:Jv 0 G0 w2:=⟨hp,ρ0,ov0,bI.refl _,hC1,hsz0,hdf0,stat ρ0 G0 (bI.refl _) (fun _ _ _ _ h=>h),fun nm B e=>r.bx nm B (vh hO nm B e),fun nm nm' B B' e e'=>r.dj nm nm' B B' (vh hO nm B e) (vh hO nm' B' e'),fun _ _ _ _ h=>h⟩;refine⟨l,[mk],w2,{target:= .fn (.func gf) ⟨caps⟩,args:= #[.func (.yield l) #[] #[]]},w2,gf, #[.func (.yield l) #[] #[]]++⟨caps⟩,w2,run_enterLoop_outer fn a.tmps ps assign body,?_,fun _ _=>trivial,?_,fun h=>(by cases h),?_⟩
 .have he:(⟨[]⟩:Array Value)++Array.map a.eval #[.const (.func (.yield l) #[] #[])]= #[.func (.yield l) #[] #[]]:=by
   apply Array.ext';rw[Array.toList_append,qV];rfl
  simp only[resolve,hev,Deferred.ofValue];rw[he];rfl
 .simp only[invoke]
  exact Jl hIt.able _ _
 refine CallsIn.mono (show CallsIn (FW none) 0 P gf _ w2 _ from by
  have:=hIt.run l Jv Jx G0 r.gb H w2 caps hJ0 (hc.up r.gb);rw[show(#[Value.func (.yield l) #[] #[]]++(⟨caps⟩:Array Value))=⟨.func (.yield l) #[] #[]::caps⟩ by simp];exact this) fun e w3 he=>?_
 obtain⟨G',hgg,⟨v,rfl⟩,hj⟩:=he;have fin: ∀(rc:Loop) (O:aH) (ρ:NE) (ov:List av),bH G0 (C1 rc) n (bh fr1) (bp O) ρ G' ov a0 w3->bH GB (C.mk3 D) n (bh fr1) (bp O) ρ G' ov a0 (w3.putObj l (.loop {rc with state:= .exhausted})):=fun rc O ρ ov r3=>
  ⟨r.gb.trans r3.gb,r3.h.putx aQ hszl (ncl _) J J J fun x hx=> .inr ⟨aJ _ hx,hnl x hx⟩,r3.sz,r3.df,r3.fx,r3.bx,r3.dj,fun nm p _ _ e=>by rw[show(C.mk3 D).fx=fun _=>none from h0.fx] at e;cases e⟩
 have hxD: ∀x∈C.ex,x.1≠D:=fun x hx e=>by have:=hlt x hx;omega
 rcases hj with⟨hpn,ρ,ov,r3⟩|⟨s,hq,ρ,ov,r3⟩
 .have hrec3:w3.heap[l]? =some (.loop rec_):=(r3.h.ext _ aQ).2
  have:=(after D hszD hxD hpn).run ρ G' ov a0 _ (fin rec_ _ ρ ov r3);rw[show(C.mk3 D).rd=none from h0.rd] at this;exact⟨_,_,run_endLoop hrec3 (by simp[rec_]),this⟩
 .have hrec3:w3.heap[l]? =some (.loop rcx):=(r3.h.ext _ aQ).2
  have:=(early D s hszD hxD hq).run ρ G' ov a0 _ (fin rcx _ ρ ov r3);rw[show(C.mk3 D).rd=none from h0.rd] at this;exact⟨_,_,run_endLoop hrec3 (by simp[rcx]),wpIn_ret this⟩
end
section
variable {own:aH}
def GX(GB:Gh)(P:Program)(f:FuncId)(ds:List DV)(gf:FuncId)(dp:DV):Prop:=
 ∀G vs,bI GB G->IsLs G ds vs->Fn P f vs G fun v G'=> ∃pv,v= .func (.func gf) ⟨[]⟩ ⟨[pv]⟩/\Is G' dp pv
def Ft(gf:FuncId)(dp:DV)(v:Value)(G':Gh):Prop:= ∃pv,v= .func (.func gf) ⟨[]⟩ ⟨[pv]⟩/\Is G' dp pv
def Vd[fu:Fu]{m:Nat}(hf:prog.funcs[f]? =some fb)(hb:fb.body=some c)(hn:(fb.name== "runtime.NumGoroutine")=false)(hm:fb.ntmps=m)(hlen:Nat.ble ds.length m=true)
  (hgo:go tt m fu.n [] (rP 0 ds) [] (.code c [])=⟨vc,fr,own,cf⟩)(k: ∀C:aD,aw prog GB C m (fg C prog fb (mv C (Ft gf dp))) fr own cf)
  (hv:autoParam (aj vc) cL._auto_1):GX GB prog f ds gf dp:=by
 intro G vs hg hvs;refine Fn.introR hf hb hn hm (by rw[hvs.len];exact hlen) fun C _ _ hrd hfx=>?_;intro a w rl;refine vo hrd ?_;have h:=f7 (GB:=GB) (C:=C) (Q0:=fg C prog fb (mv C (Ft gf dp))) hgo hv (k C);exact h.run (fun _=>⟨none,0,0⟩) G [] a w ⟨hg,rl.h,rl.sz,rl.df,(fun k f e=>An hvs rl.fr k f e),(fun nm B e=>by cases e),(fun nm nm' B B' e=>by cases e),fun nm p _ _ e=>by rw[hfx] at e;cases e⟩
def aJ9{t:Nat}(hr:fb.results.toList=[.tmp t])(hl:bh fr t=some (.d (.v (.func (.func gf) ⟨[]⟩ ⟨[pv]⟩))))(hp:Is GB dp pv):aw P GB C n (fg C P fb (mv C (Ft gf dp))) fr own (.ex .ret []):=by
 refine⟨fun ρ G ov a w r=>?_⟩;obtain⟨y,hy,hy'⟩:=r.ev (x:= .tmp t) hl;rw[(aB (G:=G)).1 hy'] at hy;exact zD (C:=C) (n:=n) (fr:=cx a) (own:=ov) (G:=G) (K:=Ft gf dp) (by rw[hr];exact .tmp hy .nil) ⟨pv,J,hp.up r.gb⟩ a w ⟨r.h,r.sz,cC a,r.df⟩
def K9(fr:aC)(cf:Cf):Option (FuncId×Value):=match dd fr cf with
 |some ⟨_, .makeFunc (.func f) ⟨[]⟩ ⟨[x]⟩,_,_,_,_⟩=>match bj (b9 fr cf) x with
  |some (.d (.v pv))=>some (f,pv)
  |_=>none
 |_=>none
def mkG[fu:Fu](h:K9 fr cf=some (f,pv))(hgo:cI tt n fu.n fr own cf (.d (.v (.func (.func f) ⟨[]⟩ ⟨[pv]⟩))) [] []=⟨vc,fr',own',cf'⟩)(k:aw prog GB C n Q0 fr' own' cf')
  (hv:autoParam (aj vc) cL._auto_1):aw prog GB C n Q0 fr own cf:=by
 unfold K9 at h;split at h<;>try (cases h;done)
 rename_i hh;split at h<;>cases h;rename_i hx;exact us hh (.x1 hx fun ρ G ov a w y _ r h1 h2=>by
  rw[(aB (G:=G)).1 h2] at h1;exact⟨_,(aB (G:=G)).2 J,GY (l1:=[]) (l2:=[pv]) J (by simp[h1])⟩) hgo hv k
def Gv[fu:Fu]{d:Nat}{fr':Value->aC}{own':Value->aH}{cf':Value->Cf}{vc:Value->List Prop}(ha:Ac fr (.ops ops (o::r) K)=some (f,ds))(hdst:o.dst=some d)(hd:b7 n (some d)=true)(hF:GX GB prog f ds gf dp)
  (hgo: ∀pv,go tt n fu.n [] ((d, .d (.v (.func (.func gf) ⟨[]⟩ ⟨[pv]⟩)))::fr) own (.ops ops r K)=⟨vc pv,fr' pv,own' pv,cf' pv⟩)
  (k: ∀GB' pv,bI GB GB'->Is GB' dp pv->aw prog GB' C n Q0 (fr' pv) (own' pv) (cf' pv))
  (hv: ∀pv,aj (vc pv):=by intros;first|exact trivial|(simp only[aj];kernel_rfl)|(simp only[aj];omega)):aw prog GB C n Q0 fr own (.ops ops (o::r) K):=by
 unfold Ac at ha;split at ha<;>try (cases ha;done)
 rename_i fo args tys ty pos af gd hh;obtain⟨ops0,h1,h2⟩:=JV hh
 cases h1
 cases hdst
 obtain⟨c1,c2⟩:=E3 ha;refine⟨fun ρ G ov a w rl=>?_⟩;obtain⟨y,hy,hy'⟩:=rl.ev c1;rw[(aB (G:=G)).1 hy'] at hy;obtain⟨vs,h3,h4⟩:=rl.evDs c2;simp only[wpListIn];rw[if_pos (Dh h2 ρ G ov a w rl)];refine HY (K':=fun a' w'=>a'.defers=C.mks/\wpListIn (FW C.rd) 0 prog ops (cQ C.rd prog Q0 K) r a' w') (fun Q=>?_) (fun a' w' q=>⟨q.1.trans rl.df.symm,q.2⟩);refine zC hy h3 (hF G vs rl.gb h4) hd (fun v G' hG hK a' w' rel=>?_) a w Q ⟨rl.h,rl.sz,cC a,rl.df⟩;obtain⟨pv,rfl,hpv⟩:=hK;refine⟨rel.df,?_⟩;have:=f7 (GB:=G') (C:=C) (Q0:=Q0) (hgo pv) (hv pv) (k G' pv (rl.gb.trans hG.le) hpv);refine this.run ρ G' ov a' w' ⟨bI.refl _,rel.h,rel.sz,rel.df,fun j g e=>?_,fun nm B e=>by obtain⟨os,h5,h6⟩:=rl.bx nm B e;exact⟨os,h5.up hG.le,h6⟩,rl.dj,rl.fxd⟩;have e':ef (bh fr) (some d) (.d (.v (.func (.func gf) ⟨[]⟩ ⟨[pv]⟩))) j=some g:=by
  rw[kn] at e;simp only[ef];split at e
  .rename_i hk;rw[if_pos hk];exact e
  .rename_i hk;rw[if_neg hk];exact e
 exact(jG rel).fx (fun k g _ e=>by obtain⟨u,h5,h6⟩:=rl.fx k g e;exact⟨u,h5,h6.up hG.le⟩) (show bO ρ G' (.d (.v (.func (.func gf) ⟨[]⟩ ⟨[pv]⟩))) _ from(aB (G:=G')).2 rfl) j g e'
end
section
variable {own:aH}
def K7{p q:Nat->Option (Nat×Nat)}(h: ∀i x,p i=some x->q i=some x): ∀(ps:List (Nat×Value)) (cs out:Array Value),Instr.fill p cs ps=some out->Instr.fill q cs ps=some out
 |[],cs,out,e=>e
 |(i,v)::ps,cs,out,e=>by
  simp only[Instr.fill] at e⊢;split at e
  .cases e
  .rename_i off size hp
   rw[h i _ hp];dsimp only;split at e
   .cases e
   .rename_i hc
    rw[if_neg hc];exact K7 h ps _ _ e
def XF{fr:Fr}{own:List av}{t e:Nat}{j:TypeInfo}{parts:Array (Nat×Operand)}[hz:gq P t z](hu:P.underlying t=some (.array len e))(hj:P.info? e=some j)(hs:j.size=s)
  (hb:vr fr ((List.range len).map fun i=>(i*s,s)) (aE z) parts.toList=some out):Yd P C fr own G ⟨dst, .build t parts,ty',pos,af,gd⟩ (.agg ⟨out⟩):=by
 intro a w hf hh;simp only[execOp];have:(Instr.build t (parts.map fun(i,x)=>(i,a.eval x))).run P w= .ok (.agg ⟨out⟩) w:=by
  unfold Instr.build;rw[aP (hz.zero w),pz];rw[aP (ru hu w)];simp only[];rw[aP (vp hj w),hs];have:=K7 (q:=fun i=>some (i*s,s)) (fun i x hx=>by
   have hx':((List.range len).map fun i=>(i*s,s))[i]? =some x:=by simpa using hx
   rw[bS] at hx'
   cases hr:(List.range len)[i]? with
   |none=>rw[hr] at hx';cases hx'
   |some y=>
    rw[hr] at hx';cases hx';obtain⟨h1,h2⟩:=aY.1 hr;rw[List.getElem_range] at h2;rw[h2]) _ _ _ (Gm hf ((List.range len).map fun i=>(i*s,s)) parts.toList _ _ hb)
  simp only[qV,this];rfl
 exact cE this
def D7:Nat->Nat->Nat->List (Nat×Nat×Nat)
 |_,0,_=>[]
 |i,k+1,s=>(i*s,0,s)::D7 (i+1) k s
def P6: ∀(i k s:Nat),(D7 i k s).map (fun x=>(x.1,x.2.2))=(List.range' i k).map fun j=>(j*s,s)
 |_,0,_=>rfl
 |i,k+1,s=>by simp only[D7,bT,List.range',P6 (i+1) k s]
def SZ(fr:aC)(cf:Cf)(len s:Nat):Option (TypeId×FX):=match dd fr cf with
 |some ⟨_, .build t parts,_,_,_,_⟩=>match d8 tt t with
  |some ⟨.o,_,some zx,_⟩=>match tA (b9 fr cf) (D7 0 len s) zx parts.toList with
   |some cs=>match Am cs with
    |some f=>some (t,f)
    |none=>none
   |none=>none
  |_=>none
 |_=>none
def YI[fu:Fu]{t e:Nat}{f:FX}(h:SZ fr cf len s=some (t,f))(hu:prog.underlying t=some (.array len e))(hs:(prog.info? e).map (·.size)=some s)
  (hgo:cI tt n fu.n fr own cf f [] []=⟨vc,fr',own',cf'⟩)(k:aw prog GB C n Q0 fr' own' cf')
  (hv:autoParam (aj vc) cL._auto_1):aw prog GB C n Q0 fr own cf:=by
 unfold SZ at h;split at h<;>try (cases h;done)
 rename_i hh;split at h<;>try (cases h;done)
 rename_i hT;split at h<;>try (cases h;done)
 rename_i hb;split at h<;>cases h;rename_i hf;refine us hh (.yd fun ρ G ov a w r=>?_) hgo hv k
 cases hj:prog.info? e with
 |none=>rw[hj] at hs;cases hs
 |some j=>
 rw[hj] at hs;obtain⟨v,hv,hv'⟩:=BX (eE _ _ hT) rfl;obtain⟨l,h1,h2⟩:=Da r _ _ _ _ hb (hv' ρ G);rw[P6,<-List.range_eq_range'] at h1;exact⟨.agg ⟨l⟩,Gj h2 hf,XF hu hj (Option.some.inj hs) h1⟩
end
section
variable {own:aH}
def H9(t:TypeId):Prop:= ∀(x:Value) w,(Instr.makeInterface t x).run prog w= .ok (.iface t x) w
def Ek(t:TypeId)(u:Value)(m:String)(f:FuncId):Prop:= ∀w,(method (prog.types.size+Made.depth) t u m).run prog w= .ok (f,u) w
def aFR(ht:H9 t)(hx:evD lk x=some d)(hd: ∀G y,Is G d y->y=u):bP prog GB C n lk bk ⟨dst, .makeInterface t x,ty,pos,af,gd⟩ (.d (.v (.iface t u))) [] []:=
 bP.yd fun ρ G ov a w r=>by
  obtain⟨y,hy,hy'⟩:=r.evD hx;obtain rfl:=hd G y hy';refine⟨_,(aB (G:=G)).2 J,fun a' w' hf _=>?_⟩;refine cE (f:=Next.value) ?_;rw[bw hf hy];exact ht _ _
def Ws{fr:Fr}(hf:mf fr a)(hx:aA fr x=some (.iface t u))(hv:fy fr args.toList=some vs)(hm:Ek t u m f)(hc:uE prog f):
  (execOp a.eval ⟨dst, .call ⟨.invoke x m,args,tys⟩,ty,pos,af,gd⟩).run prog w= .ok (.enter f ⟨u::vs⟩) w:=by
 have e:args.map a.eval=⟨vs⟩:=by apply Array.ext';simpa using Ba hf hv
 simp only[execOp,resolve,bw hf hx,e];show(invoke (.fn (.method m) #[]) (#[.iface t u]++⟨vs⟩)).run prog w=_;simp only[invoke];have h0:(#[Value.iface t u]++(⟨vs⟩:Array Value))[0]? =some (.iface t u):=by simp
 have h1:(#[Value.iface t u]++(⟨vs⟩:Array Value)).extract 1 (#[Value.iface t u]++(⟨vs⟩:Array Value)).size=⟨vs⟩:=by
  apply Array.ext';simp
 rw[h0,h1];show(callMethod (.iface t u) m ⟨vs⟩).run prog w=_;unfold callMethod;show((do
  let p<-program
  let(g,receiver)<-method (p.types.size+Made.depth) t u m
  callFunc g (#[receiver]++⟨vs⟩)):Sem Next).run prog w=_
 rw[aP (a:=prog) (w':=w) J,aP (hm w)];show(callFunc f (#[u]++⟨vs⟩)).run prog w=_;rw[Jl hc];simp
def U'(hx:bj lk x=some (.d (.v (.iface t u))))(ha:evDs lk args.toList=some ds)(hm:Ek t u m f)(hF:PF GB prog f (.v u::ds) rv):
  bP prog GB C n lk bk ⟨dst, .call ⟨.invoke x m,args,tys⟩,ty,pos,af,gd⟩ (.d rv) [] []:=by
 intro hd tl tb K' s1 s2 hf hk;refine⟨fun ρ G ov a w r Q=>?_⟩;obtain⟨y,hy,hy'⟩:=(r.mono s1 s2).ev hx;rw[(aB (G:=G)).1 hy'] at hy;obtain⟨vs,h3,h4⟩:=(r.mono s1 s2).evDs ha;have hFn:=hF G (u::vs) r.gb (.cons (aB.2 J) h4);have h2:=Ws (dst:=dst) (ty:=ty) (pos:=pos) (af:=af) (gd:=gd) (tys:=tys) (w:=w) (cC a) hy h3 hm hFn.able;simp only[Oper.wp,h2,Oper.upon];refine(hFn.run w r.h.sub).mono ?_;rintro e w' ⟨v,G',rfl,hh,hK⟩;have rl:gD C n (cx a) ov G a w:=⟨r.h,r.sz,cC a,r.df⟩;have rl2:=(rl.heap (rl.h.called hh)).put v hd;exact hk.run ρ G' ov _ w' ⟨r.gb.trans hh.gle,rl2.h,rl2.sz,rl2.df,(jG rl2).fx (fun k g _ e=>by obtain⟨z,h5,h6⟩:=r.fx k g e;exact⟨z,h5,h6.up hh.gle⟩) hK,
  fun nm B e=>by obtain⟨os,h5,h6⟩:=r.bx nm B e;exact⟨os,h5.up hh.gle,h6⟩,r.dj,r.fxd⟩
def Ry(fr:aC)(cf:Cf):Option (TypeId×DV):=match dd fr cf with
 |some ⟨_, .makeInterface t x,_,_,_,_⟩=>match evD (b9 fr cf) x with
  |some d=>some (t,d)
  |none=>none
 |_=>none
def mki[fu:Fu](u:Value)(ha:Ry fr cf=some (t,d))(ht:H9 t)(hd: ∀G y,Is G d y->y=u)(hgo:cI tt n fu.n fr own cf (.d (.v (.iface t u))) [] []=⟨vc,fr',own',cf'⟩)(k:aw prog GB C n Q0 fr' own' cf')
  (hv:autoParam (aj vc) cL._auto_1):aw prog GB C n Q0 fr own cf:=by
 unfold Ry at ha;split at ha<;>try (cases ha;done)
 rename_i hh;split at ha<;>cases ha;rename_i hx;exact us hh (aFR ht hx hd) hgo hv k
def RC(fr:aC)(cf:Cf):Option (String×TypeId×Value×List DV):=match dd fr cf with
 |some ⟨_, .call ⟨.invoke x m,args,_⟩,_,_,_,_⟩=>match bj (b9 fr cf) x with
  |some (.d (.v (.iface t u)))=>match evDs (b9 fr cf) args.toList with
   |some ds=>some (m,t,u,ds)
   |none=>none
  |_=>none
 |_=>none
def ivk[fu:Fu](ha:RC fr cf=some (m,t,u,ds))(hm:Ek t u m f)(hF:PF GB prog f (.v u::ds) rv)(hgo:cI tt n fu.n fr own cf (.d rv) [] []=⟨vc,fr',own',cf'⟩)(k:aw prog GB C n Q0 fr' own' cf')
  (hv:autoParam (aj vc) cL._auto_1):aw prog GB C n Q0 fr own cf:=by
 unfold RC at ha;split at ha<;>try (cases ha;done)
 rename_i hh;split at ha<;>try (cases ha;done)
 rename_i hx;split at ha<;>cases ha;rename_i hds;exact us hh (U' hx hds hm hF) hgo hv k
def PF.arg0{e:DV}(h:PF GB prog f (d::ds) rv)(he: ∀G y,Is G e y->Is G d y):PF GB prog f (e::ds) rv:=fun G vs hg hvs=>by
 obtain⟨y,m,rfl,h1,h2⟩:=aI.1 hvs;exact h G _ hg (.cons (he G y h1) h2)
end
section
variable {own:aH}
def TC(h1:bj lk fo=some (.d (.v (.func (.func f) ⟨c1⟩ ⟨c2⟩))))(h2:evDs lk args.toList=some ds)(hc:IsLs GB ds1 c1)(hc2:IsLs GB ds2 c2)(hF:PF GB prog f (ds1++ds++ds2) rv):
  bP prog GB C n lk bk ⟨dst, .call ⟨.value fo,args,tys⟩,ty,pos,af,gd⟩ (.d rv) [] []:=by
 intro hd tl tb K' s1 s2 hf hk;refine⟨fun ρ G ov a w r Q=>?_⟩;obtain⟨y,hy,hy'⟩:=(r.mono s1 s2).ev h1;rw[(aB (G:=G)).1 hy'] at hy;obtain⟨vs,h3,h4⟩:=(r.mono s1 s2).evDs h2;refine Lm (c1:=c1) (c2:=c2) hy h3 (hF G (c1++vs++c2) r.gb (((hc.up r.gb).app h4).app (hc2.up r.gb))) hd (fun v G' hG hK a' w' rl=>?_) a w Q ⟨r.h,r.sz,cC a,r.df⟩;exact hk.run ρ G' ov a' w' ⟨r.gb.trans hG.le,rl.h,rl.sz,rl.df,(jG rl).fx (fun k g _ e=>by obtain⟨u,h5,h6⟩:=r.fx k g e;exact⟨u,h5,h6.up hG.le⟩) hK,
  fun nm B e=>by obtain⟨os,h5,h6⟩:=r.bx nm B e;exact⟨os,h5.up hG.le,h6⟩,r.dj,r.fxd⟩
def Lc(fr:aC)(cf:Cf):Option (FuncId×List Value×List Value×List DV):=match dd fr cf with
 |some ⟨_, .call ⟨.value fo,args,_⟩,_,_,_,_⟩=>match bj (b9 fr cf) fo,evDs (b9 fr cf) args.toList with
  |some (.d (.v (.func (.func f) ⟨c1⟩ ⟨c2⟩))),some ds=>some (f,c1,c2,ds)
  |_,_=>none
 |_=>none
def UT[fu:Fu](ha:Lc fr cf=some (f,c1,c2,ds))(hc:IsLs GB ds1 c1)(hc2:IsLs GB ds2 c2)(hF:PF GB prog f (ds1++ds++ds2) rv)(hgo:cI tt n fu.n fr own cf (.d rv) [] []=⟨vc,fr',own',cf'⟩)(k:aw prog GB C n Q0 fr' own' cf')
  (hv:autoParam (aj vc) cL._auto_1):aw prog GB C n Q0 fr own cf:=by
 unfold Lc at ha;split at ha<;>try (cases ha;done)
 rename_i hh;split at ha<;>cases ha;rename_i h1 h2;exact us hh (TC h1 h2 hc hc2 hF) hgo hv k
end
def F2(p q:ah):DV:= .ag [vI (dw p.x),vI (dx p.x),dm p.x,vI (dw p.y),vI (dx p.y),dm p.y,vI (dw q.x),vI (dx q.x),dm q.x,vI (dw q.y),vI (dx q.y),dm q.y]
def ptE{own:aH}(k:Nat){l:List DV}(hl:bh fr k=some (.d (.pt l)))(h:aw prog GB C n Q0 ((k, .ep l)::fr) own (.ops ops r K)):aw prog GB C n Q0 fr own (.ops ops r K):=
 qj hl (fun ρ G y hy=>by
  obtain⟨b,m,rfl,h1,h2⟩:=li.1 hy;have e:=h2.len;exact⟨b,0,m,m,J,h1,by rw[l8 m 0 l.length (by omega),jV,<-e,dQ],h2⟩) h
def b8(v:List ah):List (ah×ah):=(List.range v.length).map fun i=>(v.getD i ⟨0,0⟩,v.getD ((i+1)%v.length) ⟨0,0⟩)
def ayC(v:List ah){p:ah}(h1:v[i]? =some p)(h2:v[(i+1)%v.length]? =some q):(b8 v)[i]? =some (p,q):=by
 have hi:=(aY.1 h1).1;unfold b8;rw[bS,oT hi,kJ,aK,aK,h1,h2];rfl
def Ub(v:List ah):(b8 v).length=v.length:=by unfold b8;simp



def Wg{f:α->DV}{l:List α}{s:α}(h:l[0]? =some s):(l.map f)[(0:Int).toNat]? =some (f s):=by simp[h]
def Pq(c:List aa):(jC c).length<=c.length:=FG c _
theorem azf{c:List aa}(hb: ∀l∈c,LB l): ∀p∈jC c,aG p 1200:=fun p hp=>by
 obtain⟨l,hl,m,hm,rfl⟩:=XG hp;have:= @aG.imeet l m (hb l hl) (hb m hm);exact⟨this.x.mono (by decide),this.y.mono (by decide)⟩



theorem aG.mono{p:ah}{i j:Nat}(h:aG p i)(hj:i<=j:=by decide):aG p j:=⟨h.x.mono hj,h.y.mono hj⟩





def yk{P:aa->Prop}(hr: ∀l,P l->P l.rev): ∀{t:Tr} {c:ar} {x:Bool×ar},t.all P->(∀s∈c,P s.l)->x∈t.parts c-> ∀s∈x.2,P s.l
 | .leaf b,c,x,_,hc,h=>by
  rw[Tr.parts,aS] at h;subst h;exact hc
 | .node l u v,c,x,ht,hc,h=>by
  have cl: ∀k,P k-> ∀s∈bC c k,P s.l:=fun k hk s hs=>by
   unfold bC at hs;split at hs
   .rcases ry.1 hs with rfl|hs
    .exact hk
    .obtain⟨s0,g,_,rfl⟩:=ta.1 hs
     exact hc s0 g
   .exact hc s hs
  rw[Tr.parts] at h;rcases bW.1 h with h|h
  .split at h
   .exact yk hr ht.2.1 (cl l ht.1) h
   .cases h
  .split at h
   .exact yk hr ht.2.2 (cl l.rev (hr l ht.1)) h
   .cases h



def VR{own:aH}[fu:Fu](ha:Ac fr cf=some (f,ds))(hF:PF GB prog f ds (.v (.bool true)))(hgo:cI tt n fu.n fr own cf .tt [] []=⟨vc,fr',own',cf'⟩)(k:aw prog GB C n Q0 fr' own' cf')
  (hv:autoParam (aj vc) cL._auto_1):aw prog GB C n Q0 fr own cf:=by
 unfold Ac at ha;split at ha<;>try (cases ha;done)
 rename_i hh;exact us hh (bP.to (g:= .tt) (Ow ha hF) fun ρ G y hy=>(aB (G:=G)).1 hy) hgo hv k

def Ug{u z:ah}(hu:u.half≠0)(hv:v.half≠0)(h0:u.cross v=0)(h1:0<u.cross z)(h2:0<v.cross z):u.half=v.half:=by
 have ex:v.x*(u.cross z)=u.x*(v.cross z):=by unfold ah.cross at*;grind
 have ey:v.y*(u.cross z)=u.y*(v.cross z):=by unfold ah.cross at*;grind
 have key: ∀{a b:Rat},a*(u.cross z)=b*(v.cross z)->(0<a↔0<b)/\(a=0↔b=0):=fun{a b} e=>by
  have k1:0<a*(u.cross z)↔0<a:=f9 h1;have k2:0<b*(v.cross z)↔0<b:=f9 h2;refine⟨by rw[<-k1,<-k2,e],fun h=>?_,fun h=>?_⟩
  .rw[h,Rat.zero_mul] at e
   rcases fW.1 e.symm with q|q
   .exact q
   .grind
  .rw[h,Rat.zero_mul] at e
   rcases fW.1 e with q|q
   .exact q
   .grind
 obtain⟨x1,x2⟩:=key ex;obtain⟨y1,y2⟩:=key ey;have:u.half=1↔v.half=1:=by rw[qm,qm,x1,y1,y2]
 rcases pn hu with a|a<;>rcases pn hv with b|b<;>omega
def Gw(n q p:ah)(e:Rat):n.dot (kB q p e)=n.dot q+e*(n.dot p-n.dot q):=by
 unfold ah.dot kB;grind
def zh(n q u:ah)(e:Rat):n.dot (cD q u e)=n.dot q+e*n.dot u:=by
 unfold ah.dot cD;grind
structure R8 where
 ax:Rat
 ay:Rat
 ac:Rat
def R8.ev(g:R8)(p:ah):Rat:=g.ax*p.x+g.ay*p.y+g.ac
def I1{x:Rat}(h: ¬(x=0/\y=0)):0<x*x+y*y:=by
 have h1:=DX x;have h2:=DX y;rcases kE (x*x+y*y) with k|k|k
 .exfalso
  refine h ⟨?_,?_⟩
  .have:x*x=0:=by grind
   exact(fW.1 this).elim id id
  .have:y*y=0:=by grind
   exact(fW.1 this).elim id id
 .exact k
 .grind
def WQ{a b:ah}(h:a≠b): ¬(b.x-a.x=0/\b.y-a.y=0):=fun k=>h (by
 cases a;cases b
 simp only[ah.mk.injEq] at*;constructor<;>grind)
def div_pos{a:Rat}(ha:0<a)(hb:0<b):0<a/b:=by
 have e:a/b*b=a:=by grind
 exact(f9 hb).1 (by rw[e];exact ha)
def Em{a b:ZP}(h:a.q=b.q):a=b:=by
 have hx:(a.1:Rat)=(b.1:Rat):=congrArg ah.x h;have hy:(a.2:Rat)=(b.2:Rat):=congrArg ah.y h;exact Prod.ext (by exact_mod_cast hx) (by exact_mod_cast hy)
section
variable {rs:List (List ZP)}{fill:Int}{p w:ah}{b c:Bool}
end
section
variable {ds:List ah}
end
def uz{a c x z:Rat}(ha:0<=a)(hb:0<=b)(hc:0<=c)(hs:0<a+b+c)(hx:0<x)(hy:0<y)(hz:0<z):0<a*x+b*y+c*z:=by
 have h1:=cG ha (cM hx);have h2:=cG hb (cM hy);have h3:=cG hc (cM hz);by_cases k1:0<a
 .have:=dh k1 hx;grind
 .by_cases k2:0<b
  .have:=dh k2 hy;grind
  .have:=dh (show 0<c by grind) hz;grind
def jD(x:Rat):Rat:=if 0<x then x else 0
def uK(x:Rat):0<=jD x:=by unfold jD;split<;>grind
def Fq(x:Rat):jD x-jD (-x)=x:=by unfold jD;split<;>split<;>grind
def Dk(x:Rat):jD x=0\/jD (-x)=0:=by unfold jD;split<;>split<;>grind
def Lo{x:Rat}(h:0<x):0<jD x:=by unfold jD;rw[if_pos h];exact h
def wJ(w1 w2 w3 w4:Rat)(p1 p2 p3 p4:ah):ah:=⟨(w1*p1.x+w2*p2.x+w3*p3.x+w4*p4.x)*(w1+w2+w3+w4)⁻¹,(w1*p1.y+w2*p2.y+w3*p3.y+w4*p4.y)*(w1+w2+w3+w4)⁻¹⟩
def Q9(l:aa){w1:Rat}(hs:0<w1+w2+w3+w4)(p1 p2 p3 p4:ah):(w1+w2+w3+w4)*l.value (wJ w1 w2 w3 w4 p1 p2 p3 p4)=w1*l.value p1+w2*l.value p2+w3*l.value p3+w4*l.value p4:=by
 have e:(w1+w2+w3+w4)*(w1+w2+w3+w4)⁻¹=1:=Rat.mul_inv_cancel _ (by grind);unfold wJ aa.value aa.nor ah.dot;dsimp only;generalize (w1+w2+w3+w4)⁻¹=i at*;grind
def Zk(h:bu p1 p2 p3≠0): ∃r:ah,∀l:aa,((0<l.value p2/\0<l.value p3/\0<l.value p4)\/(0<l.value p1/\0<l.value p3/\0<l.value p4)\/(0<l.value p1/\0<l.value p2/\0<l.value p4)\/(0<l.value p1/\0<l.value p2/\0<l.value p3))->0<l.value r:=by
 obtain⟨u1,e1⟩: ∃u,u=bu p2 p3 p4:=⟨_,rfl⟩;obtain⟨u2,e2⟩: ∃u,u= -bu p1 p3 p4:=⟨_,rfl⟩;obtain⟨u3,e3⟩: ∃u,u=bu p1 p2 p4:=⟨_,rfl⟩;obtain⟨u4,e4⟩: ∃u,u= -bu p1 p2 p3:=⟨_,rfl⟩;have hz:u1+u2+u3+u4=0:=by rw[e1,e2,e3,e4];unfold bu;grind
 have hx:u1*p1.x+u2*p2.x+u3*p3.x+u4*p4.x=0:=by rw[e1,e2,e3,e4];unfold bu;grind
 have hy:u1*p1.y+u2*p2.y+u3*p3.y+u4*p4.y=0:=by rw[e1,e2,e3,e4];unfold bu;grind
 have h4:u4≠0:=by rw[e4];grind
 clear e1 e2 e3 e4 h;have s1:=Fq u1;have s2:=Fq u2;have s3:=Fq u3;have s4:=Fq u4;have a1:=uK u1;have a2:=uK u2;have a3:=uK u3;have a4:=uK u4;have b1:=uK (-u1);have b2:=uK (-u2);have b3:=uK (-u3);have b4:=uK (-u4);have z1:=Dk u1;have z2:=Dk u2;have z3:=Dk u3;have z4:=Dk u4;have c4:0<jD u4+jD (-u4):=by
  rcases kE u4 with k|k|k
  .exact absurd k h4
  .have:=Lo k;grind
  .have:=Lo (show 0< -u4 by grind);grind
 generalize jD u1=v1 at*;generalize jD u2=v2 at*;generalize jD u3=v3 at*;generalize jD u4=v4 at*;generalize jD (-u1)=w1 at*;generalize jD (-u2)=w2 at*;generalize jD (-u3)=w3 at*;generalize jD (-u4)=w4 at*;have hS:v1+v2+v3+v4=w1+w2+w3+w4:=by grind
 have hp:0<v1+v2+v3+v4:=by grind
 have hX:v1*p1.x+v2*p2.x+v3*p3.x+v4*p4.x=w1*p1.x+w2*p2.x+w3*p3.x+w4*p4.x:=by
  rw[<-s1,<-s2,<-s3,<-s4] at hx;grind
 have hY:v1*p1.y+v2*p2.y+v3*p3.y+v4*p4.y=w1*p1.y+w2*p2.y+w3*p3.y+w4*p4.y:=by
  rw[<-s1,<-s2,<-s3,<-s4] at hy;grind
 refine⟨wJ v1 v2 v3 v4 p1 p2 p3 p4,fun l hl=>?_⟩;have eq:wJ v1 v2 v3 v4 p1 p2 p3 p4=wJ w1 w2 w3 w4 p1 p2 p3 p4:=by unfold wJ;rw[hX,hY,hS]
 have f1:=Q9 l hp p1 p2 p3 p4;have f2:=Q9 l (show 0<w1+w2+w3+w4 by grind) p1 p2 p3 p4;rw[<-eq] at f2;have fin:(0<v1*l.value p1+v2*l.value p2+v3*l.value p3+v4*l.value p4\/0<w1*l.value p1+w2*l.value p2+w3*l.value p3+w4*l.value p4)->0<l.value (wJ v1 v2 v3 v4 p1 p2 p3 p4):=fun k=>by
  rcases k with k|k
  .exact(f9 hp).1 (by rw[Rat.mul_comm,f1];exact k)
  .exact(f9 (show 0<w1+w2+w3+w4 by grind)).1 (by rw[Rat.mul_comm,f2];exact k)
 apply fin;clear f1 f2 fin eq hX hY hx hy;generalize l.value p1=x1 at*;generalize l.value p2=x2 at*;generalize l.value p3=x3 at*;generalize l.value p4=x4 at*;rcases hl with⟨k1,k2,k3⟩|⟨k1,k2,k3⟩|⟨k1,k2,k3⟩|⟨k1,k2,k3⟩
 .rcases z1 with z|z
  .left;have:=uz a2 a3 a4 (by grind) k1 k2 k3;rw[z];grind
  .right;have:=uz b2 b3 b4 (by grind) k1 k2 k3;rw[z];grind
 .rcases z2 with z|z
  .left;have:=uz a1 a3 a4 (by grind) k1 k2 k3;rw[z];grind
  .right;have:=uz b1 b3 b4 (by grind) k1 k2 k3;rw[z];grind
 .rcases z3 with z|z
  .left;have:=uz a1 a2 a4 (by grind) k1 k2 k3;rw[z];grind
  .right;have:=uz b1 b2 b4 (by grind) k1 k2 k3;rw[z];grind
 .rcases z4 with z|z
  .left;have:=uz a1 a2 a3 (by grind) k1 k2 k3;rw[z];grind
  .right;have:=uz b1 b2 b3 (by grind) k1 k2 k3;rw[z];grind
def Mo: ∀(n:Nat) (L:List aa),L.length=n->(∀a∈L,∀b∈L,∀d∈L,∃q:ah,0<a.value q/\0<b.value q/\0<d.value q)-> ∃q,gh L q
 |0,L,hn,_=>⟨⟨0,0⟩,fun m hm=>by rw[bM hn] at hm;cases hm⟩
 |n+1,[],hn,_=>by cases hn
 |n+1,[a],_,h=>by
  obtain⟨q,h1,_⟩:=h a (by simp) a (by simp) a (by simp);exact⟨q,fun m hm=>by rw[aS.1 hm];exact h1⟩
 |n+1,[a,b],_,h=>by
  obtain⟨q,h1,h2,_⟩:=h a (by simp) b (by simp) b (by simp);exact⟨q,fun m hm=>by simp only[aW,dR,or_false] at hm;rcases hm with rfl|rfl<;>assumption⟩
 |n+1,[a,b,d],_,h=>by
  obtain⟨q,h1,h2,h3⟩:=h a (by simp) b (by simp) d (by simp);exact⟨q,fun m hm=>by simp only[aW,dR,or_false] at hm;rcases hm with rfl|rfl|rfl<;>assumption⟩
 |n+1,a::b::d::e::L,hn,h=>by
  have sub: ∀M:List aa,M.length=n->(∀m∈M,m∈a::b::d::e::L)-> ∃q,gh M q:=fun M hM hs=>Mo n M hM fun x hx y hy z hz=>h x (hs x hx) y (hs y hy) z (hs z hz);simp only[bJ] at hn;obtain⟨p1,q1⟩:=sub (b::d::e::L) (by simp only[bJ];omega) (fun m hm=>by simp only[aW] at hm⊢;grind);obtain⟨p2,q2⟩:=sub (a::d::e::L) (by simp only[bJ];omega) (fun m hm=>by simp only[aW] at hm⊢;grind);obtain⟨p3,q3⟩:=sub (a::b::e::L) (by simp only[bJ];omega) (fun m hm=>by simp only[aW] at hm⊢;grind);obtain⟨p4,q4⟩:=sub (a::b::d::L) (by simp only[bJ];omega) (fun m hm=>by simp only[aW] at hm⊢;grind);by_cases e12:p1=p2
  .refine⟨p1,fun m hm=>?_⟩
   rcases aW.1 hm with rfl|hm
   .rw[e12];exact q2 m (by simp)
   .exact q1 m hm
  .have hN:=I1 (WQ e12)
   obtain⟨p3',q3',ho⟩: ∃p3',gh (a::b::e::L) p3'/\bu p1 p2 p3'≠0:=by
    by_cases k:bu p1 p2 p3=0
    .obtain⟨ep,he,hm⟩:=q3.open ⟨-(p2.y-p1.y),p2.x-p1.x⟩
     refine⟨_,hm ep (cM he) iS,?_⟩;have e:bu p1 p2 (cD p3 ⟨-(p2.y-p1.y),p2.x-p1.x⟩ ep)=bu p1 p2 p3+ep*((p2.x-p1.x)*(p2.x-p1.x)+(p2.y-p1.y)*(p2.y-p1.y)):=by unfold bu cD;dsimp only;grind
     rw[e,k];have:=dh he hN;grind
    .exact⟨p3,q3,k⟩
   obtain⟨r,hr⟩:=Zk (p4:=p4) ho;refine⟨r,fun m hm=>hr m ?_⟩;simp only[aW] at hm;have i1:=q1 m;have i2:=q2 m;have i3:=q3' m;have i4:=q4 m;simp only[aW] at i1 i2 i3 i4;rcases hm with rfl|rfl|rfl|rfl|hm
   .exact .inl ⟨i2 (by simp),i3 (by simp),i4 (by simp)⟩
   .exact .inr (.inl ⟨i1 (by simp),i3 (by simp),i4 (by simp)⟩)
   .exact .inr (.inr (.inl ⟨i1 (by simp),i2 (by simp),i4 (by simp)⟩))
   .exact .inr (.inr (.inr ⟨i1 (by simp),i2 (by simp),i3 (by simp)⟩))
   .exact .inl ⟨i2 (by simp[hm]),i3 (by simp[hm]),i4 (by simp[hm])⟩
end Go.Sx
end
