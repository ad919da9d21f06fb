/- Part 7 of a proof. -/
import Derived.Test.YtfccecinjmbfhaaGreatDoorMb6
set_option linter.unusedSimpArgs false
set_option maxRecDepth 100000
set_option linter.unusedVariables false
section
namespace Go.Sx
open Go
def axm:List Nat→Nat→Bool
 |[],_=>false
 |x::t,k=>Nat.beq x k||axm t k
structure Rc where
 rs:List Nat
 d:Option Nat
 f:FX
 rn:List Nat
 bl:List (Nat×Option Bk)
 nw:List Nat
abbrev ST:=LK×BM
def Rc.ap(r:Rc)(s:ST):ST:=(upL s.1 r.d r.f,upB s.2 r.bl)
def sel(p:Nat→Bool):Nat→ST→List Rc→ST
 |_,s,[]=>s
 |k,s,r::t=>sel p (k+1) (if p k then r.ap s else s) t
def rsX{α:Type}(l:List Nat)(g:Nat→Option α):Nat→Option α:=fun k=>bif axm l k then g k else none
theorem ak1{nm:Nat}: ∀{bl:List (Nat×Option Bk)} {s s':BM},((∀e∈bl,e.1≠nm)→s nm=s' nm)→upB s bl nm=upB s' bl nm
 |[],s,s',h=>h (by simp)
 |(k,B)::t,s,s',h=>by
  simp only[upB]
  refine ak1 fun ht=>?_
  by_cases e:nm=k
  ·simp[e]
  ·simp only[e,if_false];exact h fun x hx=>(aS.1 hx).elim (fun c=>by rw[c];exact Ne.symm e) (ht x)
theorem apl{nm:Nat}: ∀{bl:List (Nat×Option Bk)} {s:BM},(∀e∈bl,e.1≠nm)→upB s bl nm=s nm
 |[],s,h=>rfl
 |(k,B)::t,s,h=>by
  simp only[upB]
  rw[apl fun e he=>h e (aK _ he)]
  simp[Ne.symm (h _ aZ)]
theorem asy{x:Nat}{d:Option Nat}{f:FX}{s:LK}(h:d≠some x):upL s d f x=s x:=by
 cases d with
 |none=>rfl
 |some d=>simp only[upL];rw[if_neg fun e=>h (by rw[e])]
theorem aua{x:Nat}{p q:Nat→Bool}: ∀{us:List Rc} {k:Nat} {s s':ST},s.1 x=s'.1 x→(∀j r,us[j]? =some r→r.d=some x→p (k+j)=q (k+j))→(sel p k s us).1 x=(sel q k s' us).1 x
 |[],k,s,s',h,_=>h
 |r::t,k,s,s',h,hp=>by
  simp only[sel]
  refine aua ?_ fun j u hj hd=>by have:=hp (j+1) u (by simpa using hj) hd;rwa [show k+(j+1)=k+1+j by omega] at this
  by_cases hd:r.d=some x
  ·have:=hp 0 r rfl hd
   rw[dT] at this
   rw[this]
   split
   ·simp only[Rc.ap,upL,hd,if_true]
   ·exact h
  ·have: ∀(b:Bool) (s:ST),(if b then r.ap s else s).1 x=s.1 x:=fun b s=>by cases b<;>simp[Rc.ap,asy hd]
   rw[this,this,h]
theorem aqv{nm:Nat}{p q:Nat→Bool}: ∀{us:List Rc} {k:Nat} {s s':ST},s.2 nm=s'.2 nm→(∀j r,us[j]? =some r→(∃e∈r.bl,e.1=nm)→p (k+j)=q (k+j))→(sel p k s us).2 nm=(sel q k s' us).2 nm
 |[],k,s,s',h,_=>h
 |r::t,k,s,s',h,hp=>by
  simp only[sel]
  refine aqv ?_ fun j u hj hd=>by have:=hp (j+1) u (by simpa using hj) hd;rwa [show k+(j+1)=k+1+j by omega] at this
  by_cases hd: ∃e∈r.bl,e.1=nm
  ·have:=hp 0 r rfl hd
   rw[dT] at this
   rw[this]
   split
   ·exact ak1 fun _=>h
   ·exact h
  ·have: ∀(b:Bool) (s:ST),(if b then r.ap s else s).2 nm=s.2 nm:=fun b s=>by
    cases b
    ·rfl
    ·exact apl fun e he hc=>hd ⟨e,he,hc⟩
   rw[this,this,h]
theorem al7{x:Nat}{f:FX}{p:Nat→Bool}: ∀{us:List Rc} {k:Nat} {s:ST},(sel p k s us).1 x=some f→s.1 x=some f∨ ∃j r,us[j]? =some r∧p (k+j)=true∧r.d=some x∧r.f=f
 |[],k,s,h=> .inl h
 |r::t,k,s,h=>by
  simp only[sel] at h
  rcases al7 h with h|⟨j,u,h1,h2,h3⟩
  ·cases hp:p k with
   |false=>rw[hp] at h;exact .inl h
   |true=>
    rw[hp] at h
    simp only[if_true,Rc.ap] at h
    by_cases hd:r.d=some x
    ·rw[hd] at h;simp only[upL,if_true] at h;cases h;exact .inr ⟨0,r,rfl,by simpa using hp,hd,rfl⟩
    ·rw[asy hd] at h;exact .inl h
  ·exact .inr ⟨j+1,u,by simpa using h1,by rw[show k+(j+1)=k+1+j by omega];exact h2,h3⟩
theorem apM{nm:Nat}{B:Bk}: ∀{bl:List (Nat×Option Bk)} {s:BM},upB s bl nm=some B→s nm=some B∨(nm,some B)∈bl
 |[],s,h=> .inl h
 |(k,B')::t,s,h=>by
  simp only[upB] at h
  rcases apM h with h|h
  ·by_cases e:nm=k
   ·subst e;simp only[if_true] at h;subst h;exact .inr aZ
   ·simp only[e,if_false] at h;exact .inl h
  ·exact .inr (aK _ h)
theorem am4{nm:Nat}{B:Bk}{p:Nat→Bool}: ∀{us:List Rc} {k:Nat} {s:ST},(sel p k s us).2 nm=some B→s.2 nm=some B∨ ∃j r,us[j]? =some r∧p (k+j)=true∧(nm,some B)∈r.bl
 |[],k,s,h=> .inl h
 |r::t,k,s,h=>by
  simp only[sel] at h
  rcases am4 h with h|⟨j,u,h1,h2,h3⟩
  ·cases hp:p k with
   |false=>rw[hp] at h;exact .inl h
   |true=>
    rw[hp] at h
    rcases apM h with h|h
    ·exact .inl h
    ·exact .inr ⟨0,r,rfl,by simpa using hp,h⟩
  ·exact .inr ⟨j+1,u,by simpa using h1,by rw[show k+(j+1)=k+1+j by omega];exact h2,h3⟩
/-! ### the order of the text -/
def aGh(acc:List Nat)(l:List Edge):Nat:=l.foldl (fun s e=>if Region.binds .any e then(s ||| 2^e.on) ||| acc.getD e.on 0 else s) 0
def aqo:List Oper→List Nat→List Nat
 |[],acc=>acc
 |o::r,acc=>aqo r (acc++[aGh acc o.after.toList])
inductive Bf (ops:List Oper):Nat→Nat→Prop
 |b {i:Nat} {o:Oper} {e:Edge} (ho:ops[i]? =some o) (he:e∈o.after) (hb:Region.binds .any e=true):Bf ops i e.on
 |s {i j:Nat} {o:Oper} {e:Edge} (ho:ops[i]? =some o) (he:e∈o.after) (hb:Region.binds .any e=true) (h:Bf ops e.on j):Bf ops i j
theorem amX{acc:List Nat}{j:Nat}: ∀(l:List Edge) (s:Nat),(l.foldl (fun s e=>if Region.binds .any e then(s ||| 2^e.on) ||| acc.getD e.on 0 else s) s).testBit j=true→s.testBit j=true∨ ∃e∈l,Region.binds .any e=true∧(e.on=j∨(acc.getD e.on 0).testBit j=true)
 |[],s,h=> .inl h
 |e::t,s,h=>by
  rw[kK] at h
  rcases amX t _ h with h|⟨e',h1,h2⟩
  ·split at h
   ·rename_i hb
    simp only[Nat.testBit_or,gU,Nat.testBit_two_pow,decide_eq_true_eq] at h
    rcases h with(h|h)|h
    ·exact .inl h
    ·exact .inr ⟨e,aZ,hb, .inl h⟩
    ·exact .inr ⟨e,aZ,hb, .inr h⟩
   ·exact .inl h
  ·exact .inr ⟨e',aK _ h1,h2⟩
theorem akj{all:List Oper}: ∀(r:List Oper) (acc:List Nat) (pre:List Oper),all=pre++r→acc.length=pre.length→(∀i j,(acc.getD i 0).testBit j=true→Bf all i j)→ ∀i j,((aqo r acc).getD i 0).testBit j=true→Bf all i j
 |[],acc,pre,_,_,h=>h
 |o::r,acc,pre,he,hl,h=>by
  refine akj r _ (pre++[o]) (by rw[he];simp) (by simp[hl]) fun i j hij=>?_
  rw[aX,List.getElem?_append] at hij
  split at hij
  ·rename_i hi
   exact h i j (by rw[aX];exact hij)
  ·rename_i hi
   by_cases e:i=acc.length
   ·subst e
    simp only[Nat.sub_self,List.getElem?_cons_zero,lK] at hij
    have ho:all[acc.length]? =some o:=by rw[he,hl];simp
    rcases amX _ _ hij with h0|⟨e,h1,h2,h3⟩
    ·simp at h0
    ·rcases h3 with rfl|h3
     ·exact .b ho (by simpa using h1) h2
     ·exact .s ho (by simpa using h1) h2 (h _ _ h3)
   ·rw[dX (by simp;omega)] at hij
    simp at hij
/-! ### what may change places -/
def aAJ:Option Nat→Nat→Bool
 |some x,y=>Nat.beq x y
 |none,_=>false
def hit(a b:Rc):Bool:=(match a.d with|some x=>axm b.rs x||aAJ b.d x|none=>false)||a.bl.any fun e=>axm b.rn e.1||b.bl.any fun e'=>Nat.beq e'.1 e.1
def azc(nm:Nat)(f:FX):Bool:=aAJ f.nm nm
def aDr(nm:Nat):Option Bk→Bool
 |some (.o _ cs _)=>cs.any (azc nm)
 |_=>false
def aq4(r:Rc)(nm:Nat):Bool:=azc nm r.f||r.bl.any fun e=>aDr nm e.2
def av4(m:Nat)(r:Rc):Nat→List Rc→Bool
 |_,[]=>true
 |j,u::t=>(!(hit u r||hit r u||u.nw.any (aq4 r))||m.testBit j)&&!(r.nw.any (aq4 u))&&av4 m r (j+1) t
def an3:List Nat→List Rc→List Rc→Bool
 |m::ms,pre,r::t=>av4 m r 0 pre&&an3 ms (pre++[r]) t
 |_,_,[]=>true
 |[],_,_::_=>false
def aj5:Nat→List Oper→Bool
 |_,[]=>true
 |i,o::t=>o.after.all (fun e=>!Region.binds .any e||Nat.blt e.on i)&&aj5 (i+1) t
def arr(us:List Rc)(fr:List (Nat×FX))(own:List (Nat×Option Bk)):Bool:=us.all fun r=>r.nw.all fun nm=>fr.all (fun e=>!azc nm e.2)&&own.all fun e=>!aDr nm e.2
theorem ajN{m:Nat}{r:Rc}: ∀{l:List Rc} {k:Nat},av4 m r k l=true→ ∀j u,l[j]? =some u→((hit u r=true∨hit r u=true∨ ∃nm∈u.nw,aq4 r nm=true)→m.testBit (k+j)=true)∧ ∀nm∈r.nw,aq4 u nm=false
 |[],k,_,j,u,h=>by simp at h
 |x::t,k,h,j,u,hj=>by
  simp only[av4,bL,gU,fS] at h
  obtain⟨⟨h1,h2⟩,h3⟩:=h
  cases j with
  |zero=>
   simp at hj;subst hj
   refine⟨fun hh=>?_,fun nm hn=>by have:=List.any_eq_false.1 h2 nm hn;simpa using this⟩
   rcases h1 with h1|h1
   ·simp only[qN] at h1
    rcases hh with hh|hh|⟨nm,hn,hh⟩
    ·rw[h1.1.1] at hh;cases hh
    ·rw[h1.1.2] at hh;cases hh
    ·have:=List.any_eq_false.1 h1.2 nm hn;exact absurd hh this
   ·simpa using h1
  |succ j=>
   have:=ajN h3 j u (by simpa using hj)
   rwa [show k+(j+1)=k+1+j by omega]
theorem ajT: ∀{ms:List Nat} {pre t:List Rc},an3 ms pre t=true→ ∀i r,t[i]? =some r→ ∀j u,(pre++t)[j]? =some u→j<pre.length+i→((hit u r=true∨hit r u=true∨ ∃nm∈u.nw,aq4 r nm=true)→(ms.getD i 0).testBit j=true)∧ ∀nm∈r.nw,aq4 u nm=false
 |[],pre,[],_,i,r,h=>by simp at h
 |_::_,pre,[],_,i,r,h=>by simp at h
 |[],pre,_::_,h,i,r,_=>by simp[an3] at h
 |m::ms,pre,x::t,h,i,r,hi=>by
  simp only[an3,bL] at h
  intro j u hj hlt
  cases i with
  |zero=>
   simp at hi;subst hi
   rw[gL (by omega)] at hj
   simpa using ajN h.1 j u hj
  |succ i=>
   have:=ajT h.2 i r (by simpa using hi) j u (by simpa using hj) (by simp;omega)
   simpa using this
theorem ais: ∀{l:List Oper} {k:Nat},aj5 k l=true→ ∀i o,l[i]? =some o→ ∀e∈o.after,Region.binds .any e=true→e.on<k+i
 |[],k,_,i,o,h=>by simp at h
 |x::t,k,h,i,o,hi=>by
  simp only[aj5,bL] at h
  intro e he hb
  cases i with
  |zero=>
   simp at hi;subst hi
   have:=Array.all_eq_true_iff_forall_mem.1 h.1 e he
   simpa[hb] using this
  |succ i=>have:=ais h.2 i o (by simpa using hi) e he hb;omega
def wO(P:Program)(ops:Array Oper)(Q:Exit→Act→World→Prop)(o:Oper)(K:Act→World→Prop)(a:Act)(w:World):Prop:=
 if Region.wanted o (yielded ops a.tmps) then o.wp P a w K Q else K (a.put o.dst undef) w
section
variable {P:Program} {GB:Gh} {C:Ctx} {n:Nat} {ops:Array Oper} {Q:Exit→Act→World→Prop}
def OpS(P:Program)(GB:Gh)(C:Ctx)(n:Nat)(ops:Array Oper)(lk:LK)(bk:BM)(o:Oper)(f:FX)(bl:List (Nat×Option Bk))(nw:List Nat):Prop:=
 ∀(Q:Exit→Act→World→Prop) (tl:LK) (tb:BM) (K:Act→World→Prop),akG lk tl→akG bk tb→acH nw o.dst tl tb→SX GB C n (upL tl o.dst f) (upB tb bl) K→SX GB C n tl tb (wO P ops Q o K)
theorem SX.drew{lk:LK}{bk:BM}{Φ:Act→World→Prop}(h:SX GB C n lk bk Φ):SX GB C n lk bk (fun a w=>Φ a {w with drawn:=w.drawn+1}):=
 ⟨fun ρ G ov a w r=>h.run ρ G ov a _ ⟨r.gb,r.h.drew,r.sz,r.df,r.fx,r.bx,r.dj⟩⟩
structure Drawn (P:Program) (GB:Gh) (C:Ctx) (n:Nat) (ops:Array Oper) (us:List Rc) (s0:ST):Prop where
 len:us.length=ops.size
 snd: ∀i r o,us[i]? =some r→ops[i]? =some o→o.dst=r.d∧OpS P GB C n ops (rsX r.rs (sel (fun j=>decide (j<i)) 0 s0 us).1) (rsX r.rn (sel (fun j=>decide (j<i)) 0 s0 us).2) o r.f r.bl r.nw
 all:an3 (aqo ops.toList []) [] us=true
 edge:aj5 0 ops.toList=true
 fr0: ∀r∈us,∀nm∈r.nw,(∀k f,s0.1 k=some f→f.nm≠some nm)∧ ∀k B,s0.2 k=some B→ ¬B.men nm
theorem agm{o:Option Nat}{k:Nat}:aAJ o k=true↔o=some k:=by cases o<;>simp[aAJ]
theorem anM{B:Bk}{nm:Nat}(h:B.men nm):aDr nm (some B)=true:=by
 cases B with
 |o ty cs lo=>obtain⟨f,hf,e⟩:=h;exact jL.2 ⟨f,hf,agm.2 e⟩
 |b=>cases h
 |c=>cases h
def lst(listed:Array Bool):Nat→Bool:=fun j=>listed.getD j false
def un(ops:Array Oper)(listed:Array Bool):Nat:=((List.range ops.size).filter fun j=>!listed.getD j true).length
theorem amk{α:Type}{p q:α→Bool}{x:α}: ∀{l:List α},x∈l→(∀y,q y=true→p y=true)→p x=true→q x=false→(l.filter q).length<(l.filter p).length
 |[],h,_,_,_=>by cases h
 |y::t,h,hpq,h1,h2=>by
  have le: ∀l:List α,(l.filter q).length≤(l.filter p).length:=fun l=>by
   induction l with
   |nil=>exact aL _
   |cons z l ih=>
    simp only[oL]
    cases hq:q z with
    |true=>simp[hpq z hq];omega
    |false=>cases hp:p z<;>simp<;>omega
  rcases aS.1 h with rfl|h
  ·simp only[oL,h1,h2,if_true];have:=le t;simp;omega
  ·have ih:=amk h hpq h1 h2
   simp only[oL]
   cases hq:q y with
   |true=>simp[hpq y hq];omega
   |false=>cases hp:p y<;>simp<;>omega
theorem Drawn.walk{us:List Rc}{s0:ST}(D:Drawn P GB C n ops us s0)(hk:SX GB C n (sel (fun _=>true) 0 s0 us).1 (sel (fun _=>true) 0 s0 us).2 (Q .normal)):
  ∀(fuel:Nat) (listed:Array Bool),listed.size=ops.size→(∀i o,ops[i]? =some o→lst listed i=true→ ∀e∈o.after,Region.binds .any e=true→lst listed e.on=true)→un ops listed≤fuel→
   SX GB C n (sel (lst listed) 0 s0 us).1 (sel (lst listed) 0 s0 us).2 (wpAny P .any ops Q fuel listed):=by
 -- what comes before something listed is listed
 have clo: ∀listed:Array Bool,(∀i o,ops[i]? =some o→lst listed i=true→ ∀e∈o.after,Region.binds .any e=true→lst listed e.on=true)→ ∀i j,Bf ops.toList i j→lst listed i=true→lst listed j=true:=by
  intro listed hc i j hb
  induction hb with
  |b ho he hb=>intro hi;exact hc _ _ (by simpa using ho) hi _ he hb
  |s ho he hb _ ih=>intro hi;exact ih (hc _ _ (by simpa using ho) hi _ he hb)
 have bf: ∀i j,((aqo ops.toList []).getD i 0).testBit j=true→Bf ops.toList i j:=akj ops.toList [] [] J J (fun i j h=>by simp at h)
 have spec: ∀i r,us[i]? =some r→ ∀j u,us[j]? =some u→j<i→((hit u r=true∨hit r u=true∨ ∃nm∈u.nw,aq4 r nm=true)→Bf ops.toList i j)∧ ∀nm∈r.nw,aq4 u nm=false:=fun i r hi j u hj hlt=>by
  have:=ajT D.all i r hi j u (by simpa using hj) (by simpa using hlt)
  exact⟨fun h=>bf _ _ (this.1 h),this.2⟩
 have done: ∀listed:Array Bool,listed.size=ops.size→Region.ready .any ops listed=[]→ ∀i,i<ops.size→lst listed i=true:=by
  intro listed hsz hr i
  induction i using Nat.strongRecOn with
  |ind i ih=>
   intro hi
   cases hl:listed.getD i true with
   |true=>unfold lst;simp only[gJ] at hl⊢;rw[jJ (by omega)] at hl⊢;simpa using hl
   |false=>
    have:i∈Region.ready .any ops listed:=mem_ready.2 ⟨hl,ops[i],jJ hi,fun e he hb=>by
     have hlt:=ais D.edge i ops[i] (by simp[hi]) e he hb
     exact ih e.on (by omega) (by omega)⟩
    rw[hr] at this;cases this
 have same: ∀listed:Array Bool,listed.size=ops.size→(∀i,i<ops.size→lst listed i=true)→(sel (lst listed) 0 s0 us).1=(sel (fun _=>true) 0 s0 us).1∧(sel (lst listed) 0 s0 us).2=(sel (fun _=>true) 0 s0 us).2:=by
  intro listed hsz h
  refine⟨funext fun x=>aua rfl fun j r hj _=>?_,funext fun x=>aqv rfl fun j r hj _=>?_⟩<;>
  ·rw[eY];exact h j (by have:=(bJ.1 hj).1;rw[D.len] at this;exact this)
 intro fuel
 induction fuel with
 |zero=>
  intro listed hsz hc hu
  have all: ∀i,i<ops.size→lst listed i=true:=fun i hi=>by
   cases hl:listed.getD i true with
   |true=>unfold lst;simp only[gJ] at hl⊢;rw[jJ (by omega)] at hl⊢;simpa using hl
   |false=>
    have h0:=List.length_eq_zero_iff.1 (Nat.le_zero.1 hu)
    have:=List.filter_eq_nil_iff.1 h0 i (qQ.2 hi)
    simp[hl] at this
  obtain⟨e1,e2⟩:=same listed hsz all
  rw[e1,e2]
  refine hk.imp fun a w h=>⟨?_,h⟩
  refine List.eq_nil_iff_forall_not_mem.2 fun i hi=>?_
  obtain⟨h1,o,ho,_⟩:=mem_ready.1 hi
  have hlt:=(oW.1 ho).1
  have h2:=all i hlt
  unfold lst at h2
  simp only[gJ] at h1 h2
  rw[jJ (by omega)] at h1 h2
  simp at h1 h2
  rw[h1] at h2;cases h2
 |succ fuel ih=>
  intro listed hsz hc hu
  refine⟨fun ρ G ov a w r=>⟨fun hr=>?_,fun i hi=>?_⟩⟩
  ·obtain⟨e1,e2⟩:=same listed hsz (done listed hsz hr)
   rw[e1,e2] at r
   exact hk.run ρ G ov a w r
  ·obtain⟨h1,o,ho,hall⟩:=mem_ready.1 hi
   have hlt:=(oW.1 ho).1
   have hli:lst listed i=false:=by
    unfold lst
    simp only[gJ] at h1⊢
    rw[jJ (by omega)] at h1⊢
    simpa using h1
   obtain⟨u,hui⟩: ∃u,us[i]? =some u:=⟨us[i]'(by rw[D.len];exact hlt),aQ _⟩
   obtain⟨hd,hop⟩:=D.snd i u o hui ho
   have bl: ∀j,Bf ops.toList i j→lst listed j=true:=fun j hb=>by
    cases hb with
    |b ho' he hb=>rw[Array.getElem?_toList,ho] at ho';cases ho';exact hall _ he hb
    |s ho' he hb h=>rw[Array.getElem?_toList,ho] at ho';cases ho';exact clo listed hc _ _ h (hall _ he hb)
   have nb: ∀j r,us[j]? =some r→(hit r u=true∨hit u r=true)→decide (j<i)=lst listed j:=fun j r hj hh=>by
    rcases Nat.lt_trichotomy j i with h|h|h
    ·rw[bl j ((spec i u hui j r hj h).1 (hh.imp id .inl))];simpa using h
    ·subst h;rw[hli];simp
    ·cases hl:lst listed j with
     |false=>simp;omega
     |true=>have:=clo listed hc j i ((spec j r hj i u hui h).1 (hh.symm.imp id .inl)) hl;rw[hli] at this;cases this
   have sz':(listed.setIfInBounds i true).size=ops.size:=by simpa using hsz
   have l': ∀j,j≠i→lst (listed.setIfInBounds i true) j=lst listed j:=fun j hj=>by unfold lst;rw[getD_set_ne false (Ne.symm hj)]
   have li':lst (listed.setIfInBounds i true) i=true:=by unfold lst;simp[hsz,hlt]
   have hc': ∀j o',ops[j]? =some o'→lst (listed.setIfInBounds i true) j=true→ ∀e∈o'.after,Region.binds .any e=true→lst (listed.setIfInBounds i true) e.on=true:=fun j o' hj hlj e he hb=>by
    by_cases hji:j=i
    ·subst hji;rw[ho] at hj;cases hj
     exact getD_set_true (hall e he hb)
    ·rw[l' j hji] at hlj
     exact getD_set_true (hc j o' hj hlj e he hb)
   have hu':un ops (listed.setIfInBounds i true)≤fuel:=by
    have:un ops (listed.setIfInBounds i true)<un ops listed:=by
     refine amk (x:=i) (qQ.2 hlt) (fun y hy=>?_) (by simp[h1]) (by simp[hsz,hlt])
     by_cases hyi:y=i
     ·subst hyi;simp[hsz,hlt] at hy
     ·rwa [getD_set_ne true (Ne.symm hyi)] at hy
    omega
   have next:=ih _ sz' hc' hu'
   have e1:(sel (lst (listed.setIfInBounds i true)) 0 s0 us).1=upL (sel (lst listed) 0 s0 us).1 o.dst u.f:=by
    funext x
    rw[hd]
    by_cases hx:u.d=some x
    ·-- i is the last to write x
     have key: ∀(us':List Rc) (k:Nat) (s:ST) (p:Nat→Bool) (m:Nat),us'[m]? =some u→p (k+m)=true→(∀j r,us'[j]? =some r→r.d=some x→j≠m→j<m∨p (k+j)=false)→(sel p k s us').1 x=some u.f:=by
      intro us'
      induction us' with
      |nil=>intro k s p m h;simp at h
      |cons r t iht=>
       intro k s p m h hp hj
       simp only[sel]
       cases m with
       |zero=>
        simp at h;subst h
        rw[dT] at hp
        rw[hp]
        have:(sel p (k+1) (r.ap s) t).1 x=(sel (fun _=>false) (k+1) (r.ap s) t).1 x:=aua rfl fun j r' hj' hd'=>by
         have:=hj (j+1) r' (by simpa using hj') hd' (by omega)
         rw[show k+(j+1)=k+1+j by omega] at this
         exact this.resolve_left (by omega)
        simp only[if_true,this]
        have nosel: ∀(l:List Rc) (k:Nat) (s:ST),sel (fun _=>false) k s l=s:=fun l=>by
         induction l with
         |nil=>intro k s;rfl
         |cons y l ih=>intro k s;exact ih _ _
        rw[nosel]
        simp[Rc.ap,upL,hx]
       |succ m=>
        refine iht _ _ p m (by simpa using h) (by rw[show k+1+m=k+(m+1) by omega];exact hp) fun j r' hj' hd' hne=>?_
        have:=hj (j+1) r' (by simpa using hj') hd' (by omega)
        rw[show k+1+j=k+(j+1) by omega]
        exact this.imp (fun h=>by omega) id
     rw[key us 0 s0 _ i hui (by rw[eY];exact li') fun j r hj hdr hne=>?_]
     ·rw[hx];simp[upL]
     ·rw[eY,l' j hne]
      have:=nb j r hj (.inl (by simp[hit,hdr,hx,aAJ]))
      rw[←this]
      by_cases hji:j<i
      ·exact .inl hji
      ·exact .inr (by simpa using hji)
    ·rw[asy hx]
     refine aua rfl fun j r hj hdr=>?_
     rw[eY]
     exact l' j fun e=>by subst e;rw[hui] at hj;cases hj;exact hx hdr
   have e2:(sel (lst (listed.setIfInBounds i true)) 0 s0 us).2=upB (sel (lst listed) 0 s0 us).2 u.bl:=by
    funext x
    by_cases hx: ∃e∈u.bl,e.1=x
    ·have key: ∀(us':List Rc) (k:Nat) (s s':ST) (p q:Nat→Bool) (m:Nat),us'[m]? =some u→p (k+m)=true→(∀j r,us'[j]? =some r→(∃e∈r.bl,e.1=x)→j≠m→q (k+j)=p (k+j)∧(j<m∨p (k+j)=false))→q (k+m)=false→s.2 x=s'.2 x→(sel p k s us').2 x=upB (sel q k s' us').2 u.bl x:=by
      intro us'
      induction us' with
      |nil=>intro k s s' p q m h;simp at h
      |cons r t iht=>
       intro k s s' p q m h hp hj hq hs
       simp only[sel]
       cases m with
       |zero=>
        simp at h;subst h
        rw[dT] at hp hq
        rw[hp,hq]
        have nosel: ∀(l:List Rc) (k:Nat) (s:ST),sel (fun _=>false) k s l=s:=fun l=>by
         induction l with
         |nil=>intro k s;rfl
         |cons y l ih=>intro k s;exact ih _ _
        have a1:(sel p (k+1) (r.ap s) t).2 x=(sel (fun _=>false) (k+1) (r.ap s) t).2 x:=aqv rfl fun j r' hj' hd'=>by
         have:=(hj (j+1) r' (by simpa using hj') hd' (by omega)).2
         rw[show k+(j+1)=k+1+j by omega] at this
         exact this.resolve_left (by omega)
        have a2:(sel q (k+1) s' t).2 x=(sel (fun _=>false) (k+1) s' t).2 x:=aqv rfl fun j r' hj' hd'=>by
         obtain⟨h3,h4⟩:=hj (j+1) r' (by simpa using hj') hd' (by omega)
         rw[show k+(j+1)=k+1+j by omega] at h3 h4
         rw[h3];exact h4.resolve_left (by omega)
        simp only[if_true,iT,if_false,a1,nosel]
        exact ak1 fun _=>by rw[a2,nosel];exact hs
       |succ m=>
        refine iht _ _ _ p q m (by simpa using h) (by rw[show k+1+m=k+(m+1) by omega];exact hp) (fun j r' hj' hd' hne=>?_) (by rw[show k+1+m=k+(m+1) by omega];exact hq) ?_
        ·obtain⟨h3,h4⟩:=hj (j+1) r' (by simpa using hj') hd' (by omega)
         rw[show k+1+j=k+(j+1) by omega]
         exact⟨h3,h4.imp (fun h=>by omega) id⟩
        ·by_cases hr: ∃e∈r.bl,e.1=x
         ·have:=(hj 0 r rfl hr (by omega)).1
          rw[dT] at this
          rw[this]
          cases p k
          ·exact hs
          ·exact ak1 fun _=>hs
         ·have: ∀(b:Bool) (s:ST),(if b then r.ap s else s).2 x=s.2 x:=fun b s=>by
           cases b
           ·rfl
           ·exact apl fun e he hc=>hr ⟨e,he,hc⟩
          rw[this,this];exact hs
     refine key us 0 s0 s0 _ _ i hui (by rw[eY];exact li') (fun j r hj hdr hne=>?_) (by rw[eY];exact hli) rfl
     rw[eY]
     refine⟨(l' j hne).symm,?_⟩
     rw[l' j hne]
     obtain⟨e,he,rfl⟩:=hx
     obtain⟨e',he',hee⟩:=hdr
     have hh:hit u r=true:=by
      unfold hit
      rw[gU]
      exact .inr (jL.2 ⟨e,he,by rw[gU];exact .inr (jL.2 ⟨e',he',by simpa using hee⟩)⟩)
     rw[←nb j r hj (.inr hh)]
     by_cases hji:j<i
     ·exact .inl hji
     ·exact .inr (by simpa using hji)
    ·rw[apl fun e he hc=>hx ⟨e,he,hc⟩]
     refine aqv rfl fun j r hj hdr=>?_
     rw[eY]
     exact l' j fun e=>by subst e;rw[hui] at hj;cases hj;exact hx hdr
   rw[e1,e2] at next
   have sub1:akG (rsX u.rs (sel (fun j=>decide (j<i)) 0 s0 us).1) (sel (lst listed) 0 s0 us).1:=fun x f hx=>by
    unfold rsX at hx
    cases hm:axm u.rs x with
    |false=>rw[hm] at hx;cases hx
    |true=>
     rw[hm,cond_true] at hx
     rw[←hx]
     refine(aua rfl fun j r hj hdr=>?_).symm
     rw[eY]
     exact nb j r hj (.inl (by simp[hit,hdr,hm]))
   have aDw:akG (rsX u.rn (sel (fun j=>decide (j<i)) 0 s0 us).2) (sel (lst listed) 0 s0 us).2:=fun x B hx=>by
    unfold rsX at hx
    cases hm:axm u.rn x with
    |false=>rw[hm] at hx;cases hx
    |true=>
     rw[hm,cond_true] at hx
     rw[←hx]
     refine(aqv rfl fun j r hj hdr=>?_).symm
     rw[eY]
     obtain⟨e,he,rfl⟩:=hdr
     refine nb j r hj (.inl ?_)
     unfold hit
     rw[gU]
     exact .inr (jL.2 ⟨e,he,by rw[hm];rfl⟩)
   have fr:acH u.nw o.dst (sel (lst listed) 0 s0 us).1 (sel (lst listed) 0 s0 us).2:=fun nm hnm=>by
    obtain⟨g1,g2⟩:=D.fr0 u (aM hui) nm hnm
    have men: ∀j r,us[j]? =some r→lst listed j=true→aq4 r nm=false:=fun j r hj hlj=>by
     rcases Nat.lt_trichotomy j i with h|h|h
     ·exact(spec i u hui j r hj h).2 nm hnm
     ·subst h;rw[hli] at hlj;cases hlj
     ·cases hm:aq4 r nm with
      |false=>rfl
      |true=>have:=clo listed hc j i ((spec j r hj i u hui h).1 (.inr (.inr ⟨nm,hnm,hm⟩))) hlj;rw[hli] at this;cases this
    refine⟨fun k f hk e=>?_,fun k B hk e hm=>?_⟩
    ·intro hc'
     rcases al7 e with h|⟨j,r,h1,h2,h3,h4⟩
     ·exact g1 k f h hc'
     ·have:=men j r h1 (by simpa using h2)
      simp only[aq4,qN,azc] at this
      rw[h4,agm.2 hc'] at this
      cases this.1
    ·rcases am4 e with h|⟨j,r,h1,h2,h3⟩
     ·exact g2 k B h hm
     ·have:=men j r h1 (by simpa using h2)
      simp only[aq4,qN] at this
      have:=List.any_eq_false.1 this.2 _ h3
      exact this (anM hm)
   have fin:=hop Q _ _ _ sub1 aDw fr next
   have:=fin.run ρ G ov a w r
   unfold wO at this
   unfold wpOp
   rw[ho]
   simp only
   split
   ·rename_i hw;rw[if_pos hw] at this;exact .inl this
   ·rename_i hw;rw[if_neg hw] at this;exact this
theorem aFp(m k:Nat):lst (Array.replicate m false) k=false:=by unfold lst;simp[Array.getElem?_replicate];split<;>rfl
theorem Drawn.region{us:List Rc}{s0:ST}{id:Nat}(D:Drawn P GB C n ops us s0)(hm:P.follows .mixedOrders=true)(hk:SX GB C n (sel (fun _=>true) 0 s0 us).1 (sel (fun _=>true) 0 s0 us).2 (Q .normal)):SX GB C n s0.1 s0.2 ((Code.region id ops true).wp P Q):=by
 have h:=D.walk hk ops.size (Array.replicate ops.size false) (by simp) (fun i o _ hi=>by rw[aFp] at hi;cases hi) (by unfold un;exact cJ (lM _ _) (by simp))
 have e:sel (lst (Array.replicate ops.size false)) 0 s0 us=s0:=by
  have: ∀(l:List Rc) (k:Nat) (s:ST),sel (lst (Array.replicate ops.size false)) k s l=s:=fun l=>by
   induction l with
   |nil=>intro k s;rfl
   |cons y l ih=>
    intro k s
    simp only[sel]
    rw[ih]
    rw[aFp];rfl
  exact this us 0 s0
 rw[e] at h
 exact h.drew.imp fun a w k=>wp_region_any hm k
end
abbrev FrX:=List (Nat×FX)
abbrev OwX:=List (Nat×Option Bk)
def aaw:FrX→Nat→Option FX
 |[],_=>none
 |(k,v)::t,j=>bif Nat.beq k j then some v else aaw t j
def aaz:OwX→Nat→Option Bk
 |[],_=>none
 |(k,v)::t,j=>bif Nat.beq k j then v else aaz t j
def aAn{α:Type}:OwX→Nat→Option Bk→(OwX→α)→α
 |[],nm,B,k=>k [(nm,B)]
 |(j,v)::t,nm,B,k=>bif Nat.beq j nm then k ((nm,B)::t) else aAn t nm B fun t'=>k ((j,v)::t')
def ajJ{α:Type}:OwX→List (Nat×Option Bk)→(OwX→α)→α
 |own,[],k=>k own
 |own,(nm,B)::t,k=>aAn own nm B fun own'=>ajJ own' t k
def aqZ(own:OwX)(nm:Nat)(B:Option Bk):OwX:=aAn own nm B id
def al2(own:OwX)(l:List (Nat×Option Bk)):OwX:=ajJ own l id
theorem agZ{α:Type}{nm:Nat}{B:Option Bk}: ∀{own:OwX} {k:OwX→α},aAn own nm B k=k (aqZ own nm B)
 |[],k=>rfl
 |(j,v)::t,k=>by
  unfold aqZ aAn
  cases Nat.beq j nm with
  |true=>rfl
  |false=>rw[cond_false,cond_false,agZ (own:=t),agZ (own:=t)];rfl
theorem aer{α:Type}: ∀{l:List (Nat×Option Bk)} {own:OwX} {k:OwX→α},ajJ own l k=k (al2 own l)
 |[],own,k=>rfl
 |(nm,B)::t,own,k=>by
  unfold al2 ajJ
  rw[agZ,agZ,aer (l:=t),aer (l:=t)]
  rfl
theorem abb(k:Nat)(v:FX)(t:FrX)(j:Nat):aaw ((k,v)::t) j=if j=k then some v else aaw t j:=by
 simp only[aaw]
 by_cases h:k=j
 ·simp[h]
 ·have:Nat.beq k j=false:=by
   cases hb:Nat.beq k j with
   |false=>rfl
   |true=>exact absurd (aT hb) h
  simp[this,Ne.symm h]
theorem aaH(k:Nat)(v:Option Bk)(t:OwX)(j:Nat):aaz ((k,v)::t) j=if j=k then v else aaz t j:=by
 simp only[aaz]
 by_cases h:k=j
 ·simp[h]
 ·have:Nat.beq k j=false:=by
   cases hb:Nat.beq k j with
   |false=>rfl
   |true=>exact absurd (aT hb) h
  simp[this,Ne.symm h]
theorem afj{nm:Nat}{B:Option Bk}(j:Nat): ∀own:OwX,aaz (aqZ own nm B) j=if j=nm then B else aaz own j
 |[]=>aaH nm B [] j
 |(k,v)::t=>by
  have ih:=afj (nm:=nm) (B:=B) j t
  unfold aqZ aAn
  cases hb:Nat.beq k nm with
  |true=>
   have e:=aT hb;subst e
   rw[cond_true,id,aaH,aaH]
   by_cases h:j=k<;>simp[h]
  |false=>
   have hne:k≠nm:=fun e=>by subst e;simp at hb
   rw[cond_false,agZ,id,aaH,aaH,ih]
   by_cases h:j=k
   ·subst h;simp[hne]
   ·simp[h]
theorem afu: ∀(l:List (Nat×Option Bk)) (own:OwX),aaz (al2 own l)=upB (aaz own) l
 |[],own=>rfl
 |(nm,B)::t,own=>by
  have:al2 own ((nm,B)::t)=al2 (aqZ own nm B) t:=by rw[al2,ajJ,agZ];rfl
  rw[this,afu t]
  simp only[upB]
  congr 1
  funext j
  exact afj j own
def aDk(fr:FrX)(dst:Option Nat)(f:FX):FrX:=match dst with
 |some d=>(d,f)::fr
 |none=>fr
theorem aiO{fr:FrX}{dst:Option Nat}{f:FX}:aaw (aDk fr dst f)=upL (aaw fr) dst f:=by
 cases dst with
 |none=>rfl
 |some d=>funext j;exact abb d f fr j
/-! ### one operation -/
def aqD(T:TT)(n:Nat)(ops:Array Oper)(lk:LK)(bk:BM):Oper→Option CR
 |⟨dst,op,_,_,_,gd⟩=>bif aaO n dst then(match gd with
  |none=>aAG T lk bk dst op
  |some (j,b)=>match ops[j]? with
   |some oj=>match oj.dst with
    |some d=>match lk d with
     |some .tt=>bif b then aAG T lk bk dst op else some ⟨none, .un,[],[]⟩
     |some .ff=>bif b then some ⟨none, .un,[],[]⟩ else aAG T lk bk dst op
     |some .un=>some ⟨none, .un,[],[]⟩
     |_=>none
    |none=>none
   |none=>none) else none
section
variable {P:Program} {T:TT} {GB:Gh} {C:Ctx} {n:Nat} {lk:LK} {bk:BM} {ops:Array Oper}
theorem OpR.toS{dst:Option Nat}{op:Op}{ty:TypeId}{pos:String}{af:Array Edge}{gd:Option (Nat×Bool)}{f:FX}{bl:List (Nat×Option Bk)}{nw:List Nat}(h:OpR P GB C n lk bk ⟨dst,op,ty,pos,af,gd⟩ f bl nw)(hd:aaO n dst=true)
  (hw: ∀ρ G ov a w,RlX GB C n lk bk ρ G ov a w→Region.wanted ⟨dst,op,ty,pos,af,gd⟩ (yielded ops a.tmps)=true):OpS P GB C n ops lk bk ⟨dst,op,ty,pos,af,gd⟩ f bl nw:=by
 intro Q tl tb K s1 s2 hf hk
 have:=h hd tl tb K s1 s2 hf hk
 refine⟨fun ρ G ov a w r=>?_⟩
 unfold wO
 rw[if_pos (hw ρ G ov a w (r.mono s1 s2))]
 exact this.run ρ G ov a w r Q
theorem OpS.skip{dst:Option Nat}{op:Op}{ty:TypeId}{pos:String}{af:Array Edge}{gd:Option (Nat×Bool)}(hd:aaO n dst=true)
  (hw: ∀ρ G ov a w,RlX GB C n lk bk ρ G ov a w→Region.wanted ⟨dst,op,ty,pos,af,gd⟩ (yielded ops a.tmps)=false):OpS P GB C n ops lk bk ⟨dst,op,ty,pos,af,gd⟩ .un [] []:=by
 intro Q tl tb K s1 s2 hf hk
 refine⟨fun ρ G ov a w r=>?_⟩
 unfold wO
 rw[hw ρ G ov a w (r.mono s1 s2)]
 exact hk.run ρ G ov _ w (r.put rfl (r.putA undef hd))
theorem ae6{ρ:NE}{G:Gh}{ov:List Own}{a:Act}{w:World}(r:RlX GB C n lk bk ρ G ov a w){j d:Nat}{oj:Oper}{f:FX}(hj:ops[j]? =some oj)(hd:oj.dst=some d)(hf:lk d=some f): ∃y,IsX ρ G f y∧yielded ops a.tmps j=match y with| .bool b=>some b|_=>none:=by
 obtain⟨y,h1,h2⟩:=r.fx d f hf
 refine⟨y,h2,?_⟩
 unfold yielded
 rw[hj]
 simp only[Option.bind_some,hd,h1]
 cases y<;>rfl
theorem ao5{o:Oper}{r:CR}(hT:TOK P T)(h:aqD T n ops lk bk o=some r)(hv: ∀p,r.vc=some p→p):OpS P GB C n ops lk bk o r.f r.bl r.nw∧aaO n o.dst=true:=by
 obtain⟨dst,op,ty,pos,af,gd⟩:=o
 simp only[aqD] at h
 cases hd:aaO n dst with
 |false=>rw[hd] at h;cases h
 |true=>
  rw[hd,cond_true] at h
  refine⟨?_,rfl⟩
  split at h
  ·exact(ahb hT h hv).toS hd fun _ _ _ _ _ _=>rfl
  ·rename_i j b
   split at h<;>try (cases h;done)
   rename_i oj hj
   split at h<;>try (cases h;done)
   rename_i d hdj
   split at h<;>try (cases h;done)
   ·rename_i hl
    have wt: ∀ρ G ov (a:Act) w,RlX GB C n lk bk ρ G ov a w→Region.wanted ⟨dst,op,ty,pos,af,some (j,b)⟩ (yielded ops a.tmps)=b:=fun ρ G ov a w r=>by
     obtain⟨y,h1,h2⟩:=ae6 r hj hdj hl
     cases h1
     simp only[Region.wanted,h2];cases b<;>rfl
    cases b with
    |true=>exact(ahb hT h hv).toS hd wt
    |false=>cases h;exact .skip hd wt
   ·rename_i hl
    have wt: ∀ρ G ov (a:Act) w,RlX GB C n lk bk ρ G ov a w→Region.wanted ⟨dst,op,ty,pos,af,some (j,b)⟩ (yielded ops a.tmps)=!b:=fun ρ G ov a w r=>by
     obtain⟨y,h1,h2⟩:=ae6 r hj hdj hl
     cases h1
     simp only[Region.wanted,h2];cases b<;>rfl
    cases b with
    |true=>cases h;exact .skip hd wt
    |false=>exact(ahb hT h hv).toS hd wt
   ·rename_i hl
    cases h
    refine .skip hd fun ρ G ov a w r=>?_
    obtain⟨y,h1,h2⟩:=ae6 r hj hdj hl
    cases h1
    simp only[Region.wanted,h2];rfl
end
/-! ### places in the code -/
inductive Kt where
 |sq (c:Code)
 |bl (id:Nat)
 |sc
 |ag (A:Act→World→Prop)
def cQ(P:Program)(Q0:Exit→Act→World→Prop):List Kt→Exit→Act→World→Prop
 |[]=>Q0
 | .sq y::K=>Exit.then (y.wp P (cQ P Q0 K)) (cQ P Q0 K)
 | .bl id::K=>Exit.inBlock id (cQ P Q0 K)
 | .sc::K=>Exit.noGoto (cQ P Q0 K)
 | .ag A::K=>Exit.then A (cQ P Q0 K)
inductive Cf where
 |code (c:Code) (K:List Kt)
 |ops (ops:Array Oper) (r:List Oper) (K:List Kt)
 |dr (id:Nat) (ops:Array Oper) (fr0:FrX) (own0:OwX) (us:List Rc) (r:List Oper) (K:List Kt)
 |ex (e:Exit) (K:List Kt)
structure DrI (P:Program) (GB:Gh) (C:Ctx) (n:Nat) (ops:Array Oper) (fr0:FrX) (own0:OwX) (us:List Rc) (r:List Oper) (fr:FrX) (own:OwX):Prop where
 pre: ∃pre,ops.toList=pre++r∧pre.length=us.length
 st:sel (fun _=>true) 0 (aaw fr0,aaz own0) us=(aaw fr,aaz own)
 snd: ∀i u o,us[i]? =some u→ops[i]? =some o→o.dst=u.d∧OpS P GB C n ops (rsX u.rs (sel (fun j=>decide (j<i)) 0 (aaw fr0,aaz own0) us).1) (rsX u.rn (sel (fun j=>decide (j<i)) 0 (aaw fr0,aaz own0) us).2) o u.f u.bl u.nw
def CfS(P:Program)(GB:Gh)(C:Ctx)(n:Nat)(Q0:Exit→Act→World→Prop)(fr:FrX)(own:OwX):Cf→Prop
 | .code c K=>SX GB C n (aaw fr) (aaz own) (c.wp P (cQ P Q0 K))
 | .ops ops r K=>SX GB C n (aaw fr) (aaz own) (wpL P ops (cQ P Q0 K) r)
 | .dr id ops fr0 own0 us r K=>DrI P GB C n ops fr0 own0 us r fr own→SX GB C n (aaw fr0) (aaz own0) ((Code.region id ops true).wp P (cQ P Q0 K))
 | .ex e K=>SX GB C n (aaw fr) (aaz own) (cQ P Q0 K e)
structure Res where
 vc:List Prop
 fr:FrX
 own:OwX
 cf:Cf
def acc(v:Option Prop)(l:List Prop):List Prop:=match v with
 |some p=>p::l
 |none=>l
def aDQ{α:Type}(v:Option Prop)(l:List Prop)(k:List Prop→α):α:=match v with
 |some p=>k (p::l)
 |none=>k l
theorem arS{α:Type}{v:Option Prop}{l:List Prop}{k:List Prop→α}:aDQ v l k=k (acc v l):=by cases v<;>rfl
def aAE{α:Type}(fr:FrX)(dst:Option Nat)(f:FX)(k:FrX→α):α:=match dst with
 |some d=>k ((d,f)::fr)
 |none=>k fr
theorem aju{α:Type}{fr:FrX}{dst:Option Nat}{f:FX}{k:FrX→α}:aAE fr dst f k=k (aDk fr dst f):=by cases dst<;>rfl
def ahG(nw:List Nat)(dst:Option Nat)(fr:FrX)(own:OwX):Bool:=nw.all fun nm=>fr.all (fun e=>aAJ dst e.1||!azc nm e.2)&&own.all fun e=>Nat.beq e.1 nm||!aDr nm e.2
def aj4:List Operand→List Nat
 |[]=>[]
 | .tmp t::r=>t::aj4 r
 |_::r=>aj4 r
def akJ(fr:FrX):List Nat→List Nat
 |[]=>[]
 |t::r=>match aaw fr t with
  |some f=>match f.nm with
   |some nm=>nm::akJ fr r
   |none=>akJ fr r
  |none=>akJ fr r
def aoZ(o:Oper)(fr:FrX)(rs:List Nat):List Nat:=match o.op with
 | .move _=>[]
 |_=>akJ fr rs
def ain(ops:Array Oper)(o:Oper):List Nat:=match o.guard with
 |some (j,_)=>match ops[j]? with
  |some oj=>match oj.dst with
   |some d=>d::aj4 o.op.operands.toList
   |none=>aj4 o.op.operands.toList
  |none=>aj4 o.op.operands.toList
 |none=>aj4 o.op.operands.toList
def go(T:TT)(n:Nat):Nat→List Prop→FrX→OwX→Cf→Res
 |0,l,fr,own,cf=>⟨l,fr,own,cf⟩
 |k+1,l,fr,own, .code c K=>match c with
  | .seq x y=>go T n k l fr own (.code x (.sq y::K))
  | .region id ops d=>bif d then go T n k l fr own (.dr id ops fr own [] ops.toList K) else go T n k l fr own (.ops ops ops.toList K)
  | .skip=>go T n k l fr own (.ex .normal K)
  | .ret=>go T n k l fr own (.ex .ret K)
  | .exit id=>go T n k l fr own (.ex (.exit id) K)
  | .block id c=>go T n k l fr own (.code c (.bl id::K))
  | .scope c=>go T n k l fr own (.code c (.sc::K))
  | .label _=>go T n k l fr own (.ex .normal K)
  | .cond c x y=>match evX (aaw fr) c with
   |some .tt=>go T n k l fr own (.code x K)
   |some .ff=>go T n k l fr own (.code y K)
   |_=>⟨l,fr,own, .code (.cond c x y) K⟩
  |c=>⟨l,fr,own, .code c K⟩
 |k+1,l,fr,own, .ex e K=>match K with
  | .sq y::K'=>match e with
   | .normal=>go T n k l fr own (.code y K')
   |e=>go T n k l fr own (.ex e K')
  | .bl id::K'=>match e with
   | .exit j=>bif Nat.beq j id then go T n k l fr own (.ex .normal K') else go T n k l fr own (.ex (.exit j) K')
   |e=>go T n k l fr own (.ex e K')
  | .sc::K'=>bif aun e then go T n k l fr own (.ex e K') else⟨l,fr,own, .ex e (.sc::K')⟩
  | .ag A::K'=>match e with
   | .normal=>⟨l,fr,own, .ex .normal (.ag A::K')⟩
   |e=>go T n k l fr own (.ex e K')
  |[]=>⟨l,fr,own, .ex e []⟩
 |k+1,l,fr,own, .ops ops r K=>match r with
  |[]=>go T n k l fr own (.ex .normal K)
  |o::r'=>match aqD T n ops (aaw fr) (aaz own) o with
   |some ⟨v,f,bl,nw⟩=>bif ahG nw o.dst fr own then ajJ own bl fun own'=>aDQ v l fun l'=>aAE fr o.dst f fun fr'=>go T n k l' fr' own' (.ops ops r' K) else⟨l,fr,own, .ops ops (o::r') K⟩
   |none=>⟨l,fr,own, .ops ops (o::r') K⟩
 |k+1,l,fr,own, .dr id ops fr0 own0 us r K=>match r with
  |[]=>go T n k (((an3 (aqo ops.toList []) [] us&&aj5 0 ops.toList&&arr us fr0 own0)=true)::l) fr own (.ex .normal K)
  |o::r'=>fcL (ain ops o) fun rs=>fcL (aoZ o fr rs) fun rn=>match aqD T n ops (rsX rs (aaw fr)) (rsX rn (aaz own)) o with
   |some ⟨v,f,bl,nw⟩=>ajJ own bl fun own'=>fcL (us++[⟨rs,o.dst,f,rn,bl,nw⟩]) fun us'=>aDQ v l fun l'=>aAE fr o.dst f fun fr'=>go T n k l' fr' own' (.dr id ops fr0 own0 us' r' K)
   |none=>⟨l,fr,own, .dr id ops fr0 own0 us (o::r') K⟩
def aah:List Prop→Prop
 |[]=>True
 |[p]=>p
 |p::t=>aah t∧p
theorem ano{p:Prop}{t:List Prop}:aah (p::t)↔aah t∧p:=by cases t<;>simp[aah]
theorem apK{v:Option Prop}{l:List Prop}(h:aah (acc v l)):aah l∧ ∀p,v=some p→p:=by
 cases v with
 |none=>exact⟨h,fun p e=>by cases e⟩
 |some q=>obtain⟨h1,h2⟩:=ano.1 h;exact⟨h1,fun p e=>by cases e;exact h2⟩
theorem ajs{f:FX}{k:Nat}: ∀{fr:FrX},aaw fr k=some f→(k,f)∈fr
 |[],h=>by cases h
 |(j,g)::t,h=>by
  rw[abb] at h
  split at h
  ·cases h;rename_i e;rw[e];exact aZ
  ·exact aK _ (ajs h)
theorem aiC{B:Bk}{k:Nat}: ∀{own:OwX},aaz own k=some B→(k,some B)∈own
 |[],h=>by cases h
 |(j,g)::t,h=>by
  rw[aaH] at h
  split at h
  ·rename_i e;rw[e,h];exact aZ
  ·exact aK _ (aiC h)
theorem afe{nw:List Nat}{dst:Option Nat}{fr:FrX}{own:OwX}(h:ahG nw dst fr own=true):acH nw dst (aaw fr) (aaz own):=fun nm hnm=>by
 have:=eX.1 h nm hnm
 simp only[bL] at this
 refine⟨fun k f hk e hc=>?_,fun k B hk e hm=>?_⟩
 ·have:=eX.1 this.1 _ (ajs e)
  simp only[gU,fS,azc] at this
  rcases this with h|h
  ·exact hk (agm.1 h).symm
  ·rw[agm.2 hc] at h;cases h
 ·have:=eX.1 this.2 _ (aiC e)
  simp only[gU,fS] at this
  rcases this with h|h
  ·exact hk (aT h)
  ·rw[anM hm] at h;cases h
theorem ar5{us:List Rc}{fr:FrX}{own:OwX}(h:arr us fr own=true): ∀r∈us,∀nm∈r.nw,(∀k f,aaw fr k=some f→f.nm≠some nm)∧ ∀k B,aaz own k=some B→ ¬B.men nm:=fun r hr nm hnm=>by
 have:=eX.1 (eX.1 h r hr) nm hnm
 simp only[bL] at this
 refine⟨fun k f e hc=>?_,fun k B e hm=>?_⟩
 ·have:=eX.1 this.1 _ (ajs e)
  simp only[fS,azc] at this
  rw[agm.2 hc] at this;cases this
 ·have:=eX.1 this.2 _ (aiC e)
  simp only[fS] at this
  rw[anM hm] at this;cases this
section
variable {P:Program} {T:TT} {GB:Gh} {C:Ctx} {n:Nat} {Q0:Exit→Act→World→Prop} {fr fr0:FrX} {own own0:OwX} {ops:Array Oper} {us:List Rc} {r:List Oper} {o:Oper} {K:List Kt}
theorem akO{p q:Nat→Bool}{u:Rc}: ∀{us:List Rc} {k:Nat} {s:ST},(∀j,j<us.length→p (k+j)=q (k+j))→sel p k s (us++[u])=if p (k+us.length) then u.ap (sel q k s us) else sel q k s us
 |[],k,s,h=>rfl
 |x::t,k,s,h=>by
  simp only[jQ,sel]
  rw[akO (q:=q) fun j hj=>by have:=h (j+1) (by simp;omega);rwa [show k+(j+1)=k+1+j by omega] at this]
  have h0:=h 0 (by simp)
  rw[dT] at h0
  rw[h0,bU,show k+1+t.length=k+(t.length+1) by omega]
theorem DrI.push(D:DrI P GB C n ops fr0 own0 us (o::r) fr own){rs rn nw:List Nat}{f:FX}{bl:List (Nat×Option Bk)}(h:OpS P GB C n ops (rsX rs (aaw fr)) (rsX rn (aaz own)) o f bl nw):DrI P GB C n ops fr0 own0 (us++[⟨rs,o.dst,f,rn,bl,nw⟩]) r (aDk fr o.dst f) (al2 own bl):=by
 obtain⟨pre,hp,hl⟩:=D.pre
 refine⟨⟨pre++[o],by rw[hp];simp,by simp[hl]⟩,?_,fun i u o' hu ho=>?_⟩
 ·rw[akO (q:=fun _=>true) fun _ _=>rfl,if_pos rfl,D.st]
  simp only[Rc.ap]
  rw[aiO,afu]
 ·rw[List.getElem?_append] at hu
  split at hu
  ·rename_i hi
   obtain⟨h1,h2⟩:=D.snd i u o' hu ho
   rw[akO (q:=fun j=>decide (j<i)) fun _ _=>rfl,if_neg (by simp;omega)]
   exact⟨h1,h2⟩
  ·rename_i hi
   by_cases e:i=us.length
   ·subst e
    simp at hu;subst hu
    have ho':ops[us.length]? =some o:=by
     have:ops.toList[us.length]? =some o:=by rw[hp,←hl];simp
     simpa using this
    rw[ho'] at ho;cases ho
    refine⟨rfl,?_⟩
    rw[akO (q:=fun _=>true) fun j hj=>by simpa using hj,if_neg (by simp),D.st]
    exact h
   ·rw[dX (by simp;omega)] at hu;cases hu
theorem DrI.done(D:DrI P GB C n ops fr0 own0 us [] fr own){id:Nat}(hm:P.follows .mixedOrders=true)(h:(an3 (aqo ops.toList []) [] us&&aj5 0 ops.toList&&arr us fr0 own0)=true)(hk:SX GB C n (aaw fr) (aaz own) (cQ P Q0 K .normal)):
  SX GB C n (aaw fr0) (aaz own0) ((Code.region id ops true).wp P (cQ P Q0 K)):=by
 obtain⟨pre,hp,hl⟩:=D.pre
 simp only[bL] at h
 have D':Drawn P GB C n ops us (aaw fr0,aaz own0):=⟨by rw[←hl,←Array.length_toList,hp];simp,D.snd,h.1.1,h.1.2,ar5 h.2⟩
 exact D'.region hm (by rw[D.st];exact hk)
theorem SX.op{Q:Exit→Act→World→Prop}{f:FX}{bl:List (Nat×Option Bk)}{nw:List Nat}(h:OpS P GB C n ops (aaw fr) (aaz own) o f bl nw)(hf:acH nw o.dst (aaw fr) (aaz own))(hk:SX GB C n (aaw (aDk fr o.dst f)) (aaz (al2 own bl)) (wpL P ops Q r)):SX GB C n (aaw fr) (aaz own) (wpL P ops Q (o::r)):=by
 rw[aiO,afu] at hk
 exact h Q _ _ _ (akG.refl _) (akG.refl _) hf hk
theorem SX.cond{lk:LK}{bk:BM}{Q:Exit→Act→World→Prop}{c:Operand}{x y:Code}{b:Bool}{f:FX}(hc:evX lk c=some f)(hb:toB f=some b)(h1:b=true→SX GB C n lk bk (x.wp P Q))(h2:b=false→SX GB C n lk bk (y.wp P Q)):SX GB C n lk bk ((Code.cond c x y).wp P Q):=by
 refine⟨fun ρ G ov a w r=>?_⟩
 obtain⟨v,hv,hv'⟩:=r.ev hc
 rw[ajh hv' hb] at hv
 exact wp_cond_split (aab (aaP a) hv) (fun e=>(h1 e).run ρ G ov a w r) (fun e=>(h2 e).run ρ G ov a w r)
theorem adI(hT:TOK P T)(hm:P.follows .mixedOrders=true): ∀(k:Nat) (l:List Prop) (fr:FrX) (own:OwX) (cf:Cf),aah (go T n k l fr own cf).vc→aah l∧(CfS P GB C n Q0 (go T n k l fr own cf).fr (go T n k l fr own cf).own (go T n k l fr own cf).cf→CfS P GB C n Q0 fr own cf)
 |0,l,fr,own,cf,h=>by simp only[go] at h⊢;exact⟨h,id⟩
 |k+1,l,fr,own, .code c K,h=>by
  cases c with
  |seq x y=>simp only[go] at h⊢;obtain⟨h1,h2⟩:=adI hT hm k _ _ _ _ h;exact⟨h1,fun hk=>(h2 hk).imp fun a w q=>wp_seq q⟩
  |region id ops d=>
   simp only[go] at h⊢
   cases d with
   |false=>simp only[cond_false] at h⊢;obtain⟨h1,h2⟩:=adI hT hm k _ _ _ _ h;exact⟨h1,fun hk=>(h2 hk).imp fun a w q=>aiM q⟩
   |true=>simp only[cond_true] at h⊢;obtain⟨h1,h2⟩:=adI hT hm k _ _ _ _ h;exact⟨h1,fun hk=>h2 hk ⟨⟨[],rfl,rfl⟩,rfl,fun i u o hu=>by simp at hu⟩⟩
  |skip=>simp only[go] at h⊢;obtain⟨h1,h2⟩:=adI hT hm k _ _ _ _ h;exact⟨h1,fun hk=>(h2 hk).imp fun a w q=>wp_skip q⟩
  |ret=>simp only[go] at h⊢;obtain⟨h1,h2⟩:=adI hT hm k _ _ _ _ h;exact⟨h1,fun hk=>(h2 hk).imp fun a w q=>wp_ret q⟩
  |exit id=>simp only[go] at h⊢;obtain⟨h1,h2⟩:=adI hT hm k _ _ _ _ h;exact⟨h1,fun hk=>(h2 hk).imp fun a w q=>wp_exit q⟩
  |block id c=>simp only[go] at h⊢;obtain⟨h1,h2⟩:=adI hT hm k _ _ _ _ h;exact⟨h1,fun hk=>(h2 hk).imp fun a w q=>wp_block q⟩
  |scope c=>simp only[go] at h⊢;obtain⟨h1,h2⟩:=adI hT hm k _ _ _ _ h;exact⟨h1,fun hk=>(h2 hk).imp fun a w q=>wp_scope_straight q⟩
  |label j=>simp only[go] at h⊢;obtain⟨h1,h2⟩:=adI hT hm k _ _ _ _ h;exact⟨h1,fun hk=>(h2 hk).imp fun a w q=>wp_label q⟩
  |cond c x y=>
   simp only[go] at h⊢
   cases hc:evX (aaw fr) c with
   |none=>simp only[hc] at h⊢;exact⟨h,id⟩
   |some f=>
    cases f with
    |tt=>simp only[hc] at h⊢;obtain⟨h1,h2⟩:=adI hT hm k _ _ _ _ h;exact⟨h1,fun hk=>SX.cond hc rfl (fun _=>h2 hk) (fun e=>by cases e)⟩
    |ff=>simp only[hc] at h⊢;obtain⟨h1,h2⟩:=adI hT hm k _ _ _ _ h;exact⟨h1,fun hk=>SX.cond hc rfl (fun e=>by cases e) (fun _=>h2 hk)⟩
    |_=>simp only[hc] at h⊢;exact⟨h,id⟩
  |_=>simp only[go] at h⊢;exact⟨h,id⟩
 |k+1,l,fr,own, .ex e K,h=>by
  cases K with
  |nil=>simp only[go] at h⊢;exact⟨h,id⟩
  |cons x K=>
   cases x with
   |sq y=>cases e<;>(simp only[go] at h⊢;obtain⟨h1,h2⟩:=adI hT hm k _ _ _ _ h;exact⟨h1,fun hk=>h2 hk⟩)
   |bl id=>
    cases e with
    |exit j=>
     simp only[go] at h⊢
     cases hb:Nat.beq j id with
     |true=>
      simp only[hb,cond_true] at h⊢;obtain⟨h1,h2⟩:=adI hT hm k _ _ _ _ h
      exact⟨h1,fun hk=>(h2 hk).imp fun a w q=>by simp only[cQ,Exit.inBlock,aT hb,if_true];exact q⟩
     |false=>
      have hne:j≠id:=fun e=>by subst e;simp at hb
      simp only[hb,cond_false] at h⊢;obtain⟨h1,h2⟩:=adI hT hm k _ _ _ _ h
      exact⟨h1,fun hk=>(h2 hk).imp fun a w q=>by simp only[cQ,Exit.inBlock,hne,if_false];exact q⟩
    |_=>simp only[go] at h⊢;obtain⟨h1,h2⟩:=adI hT hm k _ _ _ _ h;exact⟨h1,fun hk=>h2 hk⟩
   |sc=>
    simp only[go] at h⊢
    cases hb:aun e with
    |true=>
     simp only[hb,cond_true] at h⊢;obtain⟨h1,h2⟩:=adI hT hm k _ _ _ _ h
     refine⟨h1,fun hk=>(h2 hk).imp fun a w q=>?_⟩
     cases e<;>first|exact q|cases hb
    |false=>simp only[hb,cond_false] at h⊢;exact⟨h,id⟩
   |ag A=>
    cases e with
    |normal=>simp only[go] at h⊢;exact⟨h,id⟩
    |_=>simp only[go] at h⊢;obtain⟨h1,h2⟩:=adI hT hm k _ _ _ _ h;exact⟨h1,fun hk=>h2 hk⟩
 |k+1,l,fr,own, .ops ops r K,h=>by
  cases r with
  |nil=>simp only[go] at h⊢;obtain⟨h1,h2⟩:=adI hT hm k _ _ _ _ h;exact⟨h1,fun hk=>h2 hk⟩
  |cons o r=>
   simp only[go] at h⊢
   cases hs:aqD T n ops (aaw fr) (aaz own) o with
   |none=>simp only[hs] at h⊢;exact⟨h,id⟩
   |some x=>
    obtain⟨v,f,bl,nw⟩:=x
    simp only[hs] at h⊢
    cases hf:ahG nw o.dst fr own with
    |false=>simp only[hf,cond_false] at h⊢;exact⟨h,id⟩
    |true=>
     simp only[hf,cond_true] at h⊢
     simp only[aer,arS,aju] at h⊢
     obtain⟨h1,h2⟩:=adI hT hm k _ _ _ _ h
     obtain⟨h3,h4⟩:=apK h1
     exact⟨h3,fun hk=>SX.op (ao5 hT hs h4).1 (afe hf) (h2 hk)⟩
 |k+1,l,fr,own, .dr id ops fr0 own0 us r K,h=>by
  cases r with
  |nil=>
   simp only[go] at h⊢;obtain⟨h1,h2⟩:=adI hT hm k _ _ _ _ h
   obtain⟨h3,h4⟩:=ano.1 h1
   exact⟨h3,fun hk D=>D.done hm h4 (h2 hk)⟩
  |cons o r=>
   simp only[go,age] at h⊢
   generalize ain ops o=rs at h⊢
   generalize aoZ o fr rs=rn at h⊢
   cases hs:aqD T n ops (rsX rs (aaw fr)) (rsX rn (aaz own)) o with
   |none=>simp only[hs] at h⊢;exact⟨h,fun x=>x⟩
   |some x=>
    obtain⟨v,f,bl,nw⟩:=x
    simp only[hs] at h⊢
    simp only[aer,arS,aju] at h⊢
    obtain⟨h1,h2⟩:=adI hT hm k _ _ _ _ h
    obtain⟨h3,h4⟩:=apK h1
    exact⟨h3,fun hk D=>h2 hk (D.push (ao5 hT hs h4).1)⟩
end
def tt:TT:=[
 (2,⟨.int .i64,1,some [.d (.v (.int .i64 0))],false⟩),
 (3,⟨.int .i64,1,some [.d (.v (.int .i64 0))],false⟩),
 (4,⟨.bl,1,some [.ff],false⟩),
 (5,⟨.int .u8,1,some [.d (.v (.int .u8 0))],false⟩),
 (9,⟨.sc,1,some [.d (.v (.string ⟨#[]⟩))],false⟩),
 (20,⟨.fc,1,some [.d (.v (.nilIface))],false⟩),
 (22,⟨.sl 3 1 8,1,some [.nl],false⟩),
 (23,⟨.pt,1,some [.d (.v (.pointer none))],false⟩),
 (24,⟨.pt,1,some [.d (.v (.pointer none))],false⟩),
 (27,⟨.sl 120 1 24,1,some [.nl],false⟩),
 (29,⟨.fc,1,some [.d (.v (.nilIface))],false⟩),
 (32,⟨.sl 221 8 112,1,some [.nl],false⟩),
 (34,⟨.st [(0,3,1),(1,32,1)],2,some [.d (.v (.int .i64 0)), .nl],true⟩),
 (40,⟨.sl 46 1 24,1,some [.nl],false⟩),
 (43,⟨.sl 65 6 112,1,some [.nl],false⟩),
 (46,⟨.sl 54 6 112,1,some [.nl],false⟩),
 (47,⟨.sl 256 1 4,1,some [.nl],false⟩),
 (48,⟨.sl 256 1 4,1,some [.nl],false⟩),
 (50,⟨.st [(0,4,1),(1,48,1)],2,some [.ff, .nl],true⟩),
 (52,⟨.st [(0,50,2),(2,48,1)],3,some [.ff, .nl, .nl],true⟩),
 (54,⟨.st [(0,52,3),(3,52,3)],6,some [.ff, .nl, .nl, .ff, .nl, .nl],true⟩),
 (59,⟨.sl 256 1 4,1,some [.nl],false⟩),
 (61,⟨.st [(0,4,1),(1,59,1)],2,some [.ff, .nl],true⟩),
 (63,⟨.st [(0,61,2),(2,59,1)],3,some [.ff, .nl, .nl],true⟩),
 (65,⟨.st [(0,63,3),(3,63,3)],6,some [.ff, .nl, .nl, .ff, .nl, .nl],true⟩),
 (69,⟨.o,18,some [.ff, .nl, .nl, .ff, .nl, .nl, .ff, .nl, .nl, .ff, .nl, .nl, .ff, .nl, .nl, .ff, .nl, .nl],true⟩),
 (86,⟨.sl 91 1 24,1,some [.nl],false⟩),
 (89,⟨.sl 218 6 96,1,some [.nl],false⟩),
 (91,⟨.st [(0,89,1)],1,some [.nl],true⟩),
 (96,⟨.sl 34 2 32,1,some [.nl],false⟩),
 (104,⟨.st [(0,22,1),(1,3,1)],2,some [.nl, .d (.v (.int .i64 0))],true⟩),
 (109,⟨.st [(0,50,2),(2,50,2),(4,50,2)],6,some [.ff, .nl, .ff, .nl, .ff, .nl],true⟩),
 (113,⟨.st [(0,4,1),(1,4,1),(2,109,6),(8,23,1),(9,23,1)],10,some [.ff, .ff, .ff, .nl, .ff, .nl, .ff, .nl, .d (.v (.pointer none)), .d (.v (.pointer none))],true⟩),
 (115,⟨.sl 119 1 24,1,some [.nl],false⟩),
 (118,⟨.sl 145 6 48,1,some [.nl],false⟩),
 (119,⟨.sl 145 6 48,1,some [.nl],false⟩),
 (120,⟨.sl 65 6 112,1,some [.nl],false⟩),
 (124,⟨.sl 126 1 24,1,some [.nl],false⟩),
 (126,⟨.sl 109 6 96,1,some [.nl],false⟩),
 (132,⟨.st [(0,40,1),(1,3,1),(2,126,1)],3,some [.nl, .d (.v (.int .i64 0)), .nl],true⟩),
 (140,⟨.pt,1,some [.d (.v (.pointer none))],false⟩),
 (142,⟨.st [(0,2,1),(1,2,1),(2,140,1)],3,some [.d (.v (.int .i64 0)), .d (.v (.int .i64 0)), .d (.v (.pointer none))],true⟩),
 (145,⟨.st [(0,142,3),(3,142,3)],6,some [.d (.v (.int .i64 0)), .d (.v (.int .i64 0)), .d (.v (.pointer none)), .d (.v (.int .i64 0)), .d (.v (.int .i64 0)), .d (.v (.pointer none))],true⟩),
 (152,⟨.int .u64,1,some [.d (.v (.int .u64 0))],false⟩),
 (156,⟨.sl 52 3 56,1,some [.nl],false⟩),
 (157,⟨.sl 178 1 24,1,some [.nl],false⟩),
 (164,⟨.o,9,some [.d (.v (.int .i64 0)), .d (.v (.int .i64 0)), .d (.v (.pointer none)), .d (.v (.int .i64 0)), .d (.v (.int .i64 0)), .d (.v (.pointer none)), .d (.v (.int .i64 0)), .d (.v (.int .i64 0)), .d (.v (.pointer none))],true⟩),
 (168,⟨.o,12,some [.d (.v (.int .i64 0)), .d (.v (.int .i64 0)), .d (.v (.pointer none)), .d (.v (.int .i64 0)), .d (.v (.int .i64 0)), .d (.v (.pointer none)), .d (.v (.int .i64 0)), .d (.v (.int .i64 0)), .d (.v (.pointer none)), .d (.v (.int .i64 0)), .d (.v (.int .i64 0)), .d (.v (.pointer none))],true⟩),
 (177,⟨.sl 276 17 128,1,some [.nl],false⟩),
 (178,⟨.sl 276 17 128,1,some [.nl],false⟩),
 (181,⟨.sl 186 2 32,1,some [.nl],false⟩),
 (184,⟨.pt,1,some [.d (.v (.pointer none))],false⟩),
 (186,⟨.st [(0,178,1),(1,184,1)],2,some [.nl, .d (.v (.pointer none))],true⟩),
 (188,⟨.st [(0,142,3),(3,142,3),(6,142,3)],9,some [.d (.v (.int .i64 0)), .d (.v (.int .i64 0)), .d (.v (.pointer none)), .d (.v (.int .i64 0)), .d (.v (.int .i64 0)), .d (.v (.pointer none)), .d (.v (.int .i64 0)), .d (.v (.int .i64 0)), .d (.v (.pointer none))],true⟩),
 (190,⟨.st [(0,188,9),(9,184,1),(10,184,1),(11,4,1)],12,some [.d (.v (.int .i64 0)), .d (.v (.int .i64 0)), .d (.v (.pointer none)), .d (.v (.int .i64 0)), .d (.v (.int .i64 0)), .d (.v (.pointer none)), .d (.v (.int .i64 0)), .d (.v (.int .i64 0)), .d (.v (.pointer none)), .d (.v (.pointer none)), .d (.v (.pointer none)), .ff],true⟩),
 (218,⟨.st [(0,61,2),(2,61,2),(4,61,2)],6,some [.ff, .nl, .ff, .nl, .ff, .nl],true⟩),
 (221,⟨.st [(0,218,6),(6,3,1),(7,3,1)],8,some [.ff, .nl, .ff, .nl, .ff, .nl, .d (.v (.int .i64 0)), .d (.v (.int .i64 0))],true⟩),
 (222,⟨.sl 225 2 32,1,some [.nl],false⟩),
 (225,⟨.st [(0,126,1),(1,4,1)],2,some [.nl, .ff],true⟩),
 (228,⟨.sl 235 14 216,1,some [.nl],false⟩),
 (233,⟨.st [(0,52,3),(3,52,3),(6,4,1),(7,4,1)],8,some [.ff, .nl, .nl, .ff, .nl, .nl, .ff, .ff],true⟩),
 (235,⟨.st [(0,109,6),(6,233,8)],14,some [.ff, .nl, .ff, .nl, .ff, .nl, .ff, .nl, .nl, .ff, .nl, .nl, .ff, .ff],true⟩),
 (246,⟨.sl 29 1 16,1,some [.nl],false⟩),
 (256,⟨.int .u32,1,some [.d (.v (.int .u32 0))],false⟩),
 (257,⟨.int .u64,1,some [.d (.v (.int .u64 0))],false⟩),
 (266,⟨.st [(0,61,2),(2,59,1)],3,some [.ff, .nl, .nl],true⟩),
 (274,⟨.st [(0,142,3),(3,142,3),(6,4,1),(7,4,1)],8,some [.d (.v (.int .i64 0)), .d (.v (.int .i64 0)), .d (.v (.pointer none)), .d (.v (.int .i64 0)), .d (.v (.int .i64 0)), .d (.v (.pointer none)), .ff, .ff],true⟩),
 (276,⟨.st [(0,188,9),(9,274,8)],17,some [.d (.v (.int .i64 0)), .d (.v (.int .i64 0)), .d (.v (.pointer none)), .d (.v (.int .i64 0)), .d (.v (.int .i64 0)), .d (.v (.pointer none)), .d (.v (.int .i64 0)), .d (.v (.int .i64 0)), .d (.v (.pointer none)), .d (.v (.int .i64 0)), .d (.v (.int .i64 0)), .d (.v (.pointer none)), .d (.v (.int .i64 0)), .d (.v (.int .i64 0)), .d (.v (.pointer none)), .ff, .ff],true⟩),
 (283,⟨.sl 188 9 72,1,some [.nl],false⟩),
 (289,⟨.pt,1,some [.d (.v (.pointer none))],false⟩),
 (290,⟨.sl 4 1 1,1,some [.nl],false⟩),
 (292,⟨.st [(0,32,1),(1,290,1),(2,3,1),(3,4,1)],4,some [.nl, .nl, .d (.v (.int .i64 0)), .ff],true⟩),
 (361,⟨.o,2,some [.nl, .nl],true⟩),
 (362,⟨.sl 233 8 120,1,some [.nl],false⟩),
 (406,⟨.sl 184 1 8,1,some [.nl],false⟩),
 (408,⟨.int .i64,1,some [.d (.v (.int .i64 0))],false⟩),
 (416,⟨.int .u64,1,some [.d (.v (.int .u64 0))],false⟩),
 (420,⟨.pt,1,some [.d (.v (.pointer none))],false⟩),
 (427,⟨.pt,1,some [.d (.v (.pointer none))],false⟩),
 (452,⟨.st [(0,9,1)],1,some [.d (.v (.string ⟨#[]⟩))],true⟩)]
theorem ab2:TOK Go.Proofs.Tryz.prog tt:=TOK.of (by kernel_rfl)
end Go.Sx
end
section
namespace Go.Sx
open Go Go.Proofs Tryz
def ai7:Nat→List DV→FrX
 |_,[]=>[]
 |i,v::t=>(i, .d v)::ai7 (i+1) t
class Fu where n:Nat
instance fu0:Fu:=⟨400⟩
section
variable {GB:Gh} {C:Ctx} {n:Nat} {Q0:Exit→Act→World→Prop} {fr fr':FrX} {own own':OwX} {cf cf':Cf} {vc vc':List Prop} {ops:Array Oper} {r:List Oper} {o:Oper} {K:List Kt}
theorem gx'{q:Nat}(h:go tt n q [] fr own cf=⟨vc,fr',own',cf'⟩)(hv:aah vc)(k:CfS prog GB C n Q0 fr' own' cf'):CfS prog GB C n Q0 fr own cf:=by
 have:=(adI (GB:=GB) (C:=C) (Q0:=Q0) ab2 follows q [] fr own cf (by rw[h];exact hv)).2
 rw[h] at this
 exact this k
theorem gx[fu:Fu](h:go tt n fu.n [] fr own cf=⟨vc,fr',own',cf'⟩)(k:CfS prog GB C n Q0 fr' own' cf')(hv:aah vc:=by first|exact trivial|(simp only[aah];kernel_rfl)|(simp only[aah];omega)|(simp only[aah,aJ,bX,aU];omega)):CfS prog GB C n Q0 fr own cf:=gx' h hv k
/-! ### functions -/
theorem aiY: ∀{ds:List DV} {vs:List Value} {ρ:NE} {G:Gh} (i:Nat),IsLs G ds vs→ ∀k f,aaw (ai7 i ds) k=some f→ ∃y,(∃j,k=i+j∧vs[j]? =some y)∧IsX ρ G f y
 |[],vs,ρ,G,i,h,k,f,e=>by cases e
 |d::t,vs,ρ,G,i,h,k,f,e=>by
  obtain⟨y,m,rfl,h1,h2⟩:=aac.1 h
  simp only[ai7] at e
  rw[abb] at e
  split at e
  ·cases e;rename_i hk;exact⟨y,⟨0,hk,rfl⟩,h1⟩
  ·obtain⟨u,⟨j,hj,hu⟩,h3⟩:=aiY (i+1) h2 k f e
   exact⟨u,⟨j+1,by omega,by simpa using hu⟩,h3⟩
theorem aor{ds:List DV}{vs:List Value}{ρ:NE}{G:Gh}{a:Act}(h:IsLs G ds vs)(hf:aof (ajj 0 vs) a)(k:Nat)(f:FX)(e:aaw (ai7 0 ds) k=some f): ∃y,a.tmps[k]? =some y∧IsX ρ G f y:=by
 obtain⟨y,⟨j,hj,hy⟩,h1⟩:=aiY (ρ:=ρ) 0 h k f e
 refine⟨y,hf k y ?_,h1⟩
 rw[hj];exact acr vs 0 j y hy
theorem fn[fu:Fu]{f:FuncId}{fb:Func}{c:Code}{m:Nat}{ds:List DV}{rv:DV}(hf:prog.funcs[f]? =some fb)(hb:fb.body=some c)(hn:(fb.name== "runtime.NumGoroutine")=false)(hm:fb.ntmps=m)(hlen:Nat.ble ds.length m=true)
  (hgo:go tt m fu.n [] (ai7 0 ds) [] (.code c [])=⟨vc,fr,own,cf⟩)(k: ∀C:Ctx,CfS prog GB C m (bodyPost prog fb (ani C (fun v G'=>Is G' rv v))) fr own cf)
  (hv:aah vc:=by first|exact trivial|(simp only[aah];kernel_rfl)|(simp only[aah];omega)|(simp only[aah,aJ,bX,aU];omega)):PF GB prog f ds rv:=by
 intro G vs hg hvs
 refine Fn.intro hf hb hn hm (by rw[hvs.len];exact hlen) fun C _ _=>?_
 intro a w rl
 have h:=gx' (GB:=GB) (C:=C) (Q0:=bodyPost prog fb (ani C (fun v G'=>Is G' rv v))) hgo hv (k C)
 exact h.run (fun _=>⟨none,0,0⟩) G [] a w ⟨hg,rl.h,rl.sz,rl.df,(fun k f e=>aor hvs rl.fr k f e),(fun nm B e=>by cases e),(fun nm nm' B B' e=>by cases e)⟩
/-! ### branches -/
theorem CfS.cond{c:Operand}{x y:Code}{b:Bool}{f:FX}(hc:evX (aaw fr) c=some f)(hb:toB f=some b)(h1:b=true→CfS prog GB C n Q0 fr own (.code x K))(h2:b=false→CfS prog GB C n Q0 fr own (.code y K)):CfS prog GB C n Q0 fr own (.code (.cond c x y) K):=SX.cond hc hb h1 h2
variable {fr1 fr2:FrX} {own1 own2:OwX} {cf1 cf2:Cf} {vc1 vc2:List Prop}
theorem br[fu1:Fu][fu2:Fu]{p:Prop}{hp:Decidable p}{c:Operand}{x y:Code}(hc:evX (aaw fr) c=some (.pr p hp))(g1:go tt n fu1.n [] fr own (.code x K)=⟨vc1,fr1,own1,cf1⟩)(g2:go tt n fu2.n [] fr own (.code y K)=⟨vc2,fr2,own2,cf2⟩)
  (k1:p→CfS prog GB C n Q0 fr1 own1 cf1)(k2: ¬p→CfS prog GB C n Q0 fr2 own2 cf2)
  (v1:p→aah vc1:=by intro;first|exact trivial|(simp only[aah];omega)|(simp only[aah,aJ,bX,aU];omega))(v2: ¬p→aah vc2:=by intro;first|exact trivial|(simp only[aah];omega)|(simp only[aah,aJ,bX,aU];omega)):CfS prog GB C n Q0 fr own (.code (.cond c x y) K):=
 .cond hc rfl (fun h=>gx' g1 (v1 (of_decide_eq_true h)) (k1 (of_decide_eq_true h))) (fun h=>gx' g2 (v2 (of_decide_eq_false h)) (k2 (of_decide_eq_false h)))
theorem bd[fu1:Fu][fu2:Fu]{p:Prop}{hp:Decidable p}{c:Operand}{x y:Code}(hc:evX (aaw fr) c=some (.d (.v (.bool (@decide p hp)))))(g1:go tt n fu1.n [] fr own (.code x K)=⟨vc1,fr1,own1,cf1⟩)(g2:go tt n fu2.n [] fr own (.code y K)=⟨vc2,fr2,own2,cf2⟩)
  (k1:p→CfS prog GB C n Q0 fr1 own1 cf1)(k2: ¬p→CfS prog GB C n Q0 fr2 own2 cf2)
  (v1:p→aah vc1:=by intro;first|exact trivial|(simp only[aah];omega)|(simp only[aah,aJ,bX,aU];omega))(v2: ¬p→aah vc2:=by intro;first|exact trivial|(simp only[aah];omega)|(simp only[aah,aJ,bX,aU];omega)):CfS prog GB C n Q0 fr own (.code (.cond c x y) K):=
 .cond hc rfl (fun h=>gx' g1 (v1 (of_decide_eq_true h)) (k1 (of_decide_eq_true h))) (fun h=>gx' g2 (v2 (of_decide_eq_false h)) (k2 (of_decide_eq_false h)))
theorem bb[fu1:Fu][fu2:Fu]{b:Bool}{c:Operand}{x y:Code}(hc:evX (aaw fr) c=some (.d (.v (.bool b))))(g1:go tt n fu1.n [] fr own (.code x K)=⟨vc1,fr1,own1,cf1⟩)(g2:go tt n fu2.n [] fr own (.code y K)=⟨vc2,fr2,own2,cf2⟩)
  (k1:b=true→CfS prog GB C n Q0 fr1 own1 cf1)(k2:b=false→CfS prog GB C n Q0 fr2 own2 cf2)
  (v1:b=true→aah vc1:=by intro;first|exact trivial|(simp only[aah];omega)|(simp only[aah,aJ,bX,aU];omega))(v2:b=false→aah vc2:=by intro;first|exact trivial|(simp only[aah];omega)|(simp only[aah,aJ,bX,aU];omega)):CfS prog GB C n Q0 fr own (.code (.cond c x y) K):=
 .cond hc rfl (fun h=>gx' g1 (v1 h) (k1 h)) (fun h=>gx' g2 (v2 h) (k2 h))
theorem abB{d:Nat}{f g:FX}(hl:aaw fr d=some f)(hi: ∀ρ G y,IsX ρ G f y→IsX ρ G g y){Φ:Act→World→Prop}(h:SX GB C n (aaw ((d,g)::fr)) (aaz own) Φ):SX GB C n (aaw fr) (aaz own) Φ:=by
 refine⟨fun ρ G ov a w r=>h.run ρ G ov a w ⟨r.gb,r.h,r.sz,r.df,fun k f' e=>?_,r.bx,r.dj⟩⟩
 rw[abb] at e
 split at e
 ·cases e;rename_i hk;subst hk
  obtain⟨y,h1,h2⟩:=r.fx _ _ hl
  exact⟨y,h1,hi _ _ _ h2⟩
 ·exact r.fx k f' e
theorem eqF(d:Nat){f:FX}(g:FX)(hl:aaw fr d=some f)(e:f=g)(h:CfS prog GB C n Q0 ((d,g)::fr) own cf):CfS prog GB C n Q0 fr own cf:=by
 have hs:aaw ((d,g)::fr)=aaw fr:=by
  funext k
  rw[abb]
  split
  ·rename_i hk;rw[hk,hl,e]
  ·rfl
 cases cf with
 |dr id ops fr0 own0 us r K=>exact fun D=>h ⟨D.pre,by rw[hs];exact D.st,D.snd⟩
 |_=>unfold CfS at h⊢;rw[hs] at h;exact h
theorem kT(d:Nat){p:Prop}{hp:Decidable p}(hl:aaw fr d=some (.pr p hp))(h:p)(k:CfS prog GB C n Q0 ((d, .tt)::fr) own (.ops ops r K)):CfS prog GB C n Q0 fr own (.ops ops r K):=
 abB hl (fun _ _ _ e=>by rw[show _=_ from e,decide_eq_true h];exact rfl) k
theorem kF(d:Nat){p:Prop}{hp:Decidable p}(hl:aaw fr d=some (.pr p hp))(h: ¬p)(k:CfS prog GB C n Q0 ((d, .ff)::fr) own (.ops ops r K)):CfS prog GB C n Q0 fr own (.ops ops r K):=
 abB hl (fun _ _ _ e=>by rw[show _=_ from e,decide_eq_false h];exact rfl) k
theorem nlD(d:Nat)(hl:aaw fr d=some .nl){e:Exit}(h:CfS prog GB C n Q0 ((d, .d (.sl []))::fr) own (.ex e K)):CfS prog GB C n Q0 fr own (.ex e K):=
 abB (g:= .d (.sl [])) hl (fun ρ G y hy=>(show Is G (.sl []) y from aco (ρ:=ρ) (f:= .nl) hy rfl)) h
theorem PF.to{f:FuncId}{ds:List DV}{r1 r2:DV}{P:Program}(h:PF GB P f ds r1)(e:r1=r2):PF GB P f ds r2:=e▸h
theorem cs[fu1:Fu][fu2:Fu](d:Nat){p:Prop}{hp:Decidable p}(hl:aaw fr d=some (.pr p hp))(g1:go tt n fu1.n [] ((d, .tt)::fr) own (.ops ops r K)=⟨vc1,fr1,own1,cf1⟩)(g2:go tt n fu2.n [] ((d, .ff)::fr) own (.ops ops r K)=⟨vc2,fr2,own2,cf2⟩)
  (k1:p→CfS prog GB C n Q0 fr1 own1 cf1)(k2: ¬p→CfS prog GB C n Q0 fr2 own2 cf2)
  (v1:p→aah vc1:=by intro;first|exact trivial|(simp only[aah];omega)|(simp only[aah,aJ,bX,aU];omega))(v2: ¬p→aah vc2:=by intro;first|exact trivial|(simp only[aah];omega)|(simp only[aah,aJ,bX,aU];omega)):CfS prog GB C n Q0 fr own (.ops ops r K):=by
 by_cases h:p
 ·exact abB hl (fun _ _ _ e=>by rw[show _=_ from e,decide_eq_true h];exact rfl) (gx' g1 (v1 h) (k1 h))
 ·exact abB hl (fun _ _ _ e=>by rw[show _=_ from e,decide_eq_false h];exact rfl) (gx' g2 (v2 h) (k2 h))
theorem csb[fu1:Fu][fu2:Fu](d:Nat){b:Bool}(hl:aaw fr d=some (.d (.v (.bool b))))(g1:go tt n fu1.n [] ((d, .tt)::fr) own (.ops ops r K)=⟨vc1,fr1,own1,cf1⟩)(g2:go tt n fu2.n [] ((d, .ff)::fr) own (.ops ops r K)=⟨vc2,fr2,own2,cf2⟩)
  (k1:b=true→CfS prog GB C n Q0 fr1 own1 cf1)(k2:b=false→CfS prog GB C n Q0 fr2 own2 cf2)
  (v1:b=true→aah vc1:=by intro;first|exact trivial|(simp only[aah];omega)|(simp only[aah,aJ,bX,aU];omega))(v2:b=false→aah vc2:=by intro;first|exact trivial|(simp only[aah];omega)|(simp only[aah,aJ,bX,aU];omega)):CfS prog GB C n Q0 fr own (.ops ops r K):=by
 cases h:b with
 |true=>exact abB hl (fun _ G _ e=>by rw[(aa2 (G:=G)).1 e,h];exact rfl) (gx' g1 (v1 h) (k1 h))
 |false=>exact abB hl (fun _ G _ e=>by rw[(aa2 (G:=G)).1 e,h];exact rfl) (gx' g2 (v2 h) (k2 h))
/-! ### an operation that the run does not reckon -/
def hdC:Cf→Option (Array Oper×Oper)
 | .ops ops (o::_) _=>some (ops,o)
 | .dr _ ops _ _ _ (o::_) _=>some (ops,o)
 |_=>none
def lkC(fr:FrX):Cf→LK
 | .dr _ ops _ _ _ (o::_) _=>rsX (ain ops o) (aaw fr)
 |_=>aaw fr
def bkC(fr:FrX)(own:OwX):Cf→BM
 | .dr _ ops _ _ _ (o::_) _=>rsX (aoZ o fr (ain ops o)) (aaz own)
 |_=>aaz own
def bad:Res:=⟨[False],[],[], .ex .normal []⟩
def goA(T:TT)(n q:Nat)(fr:FrX)(own:OwX)(cf:Cf)(f:FX)(bl:List (Nat×Option Bk))(nw:List Nat):Res:=match cf with
 | .ops ops (o::r) K=>bif ahG nw o.dst fr own&&aaO n o.dst then ajJ own bl fun own'=>aAE fr o.dst f fun fr'=>go T n q [] fr' own' (.ops ops r K) else bad
 | .dr id ops fr0 own0 us (o::r) K=>bif aaO n o.dst then fcL (ain ops o) fun rs=>fcL (aoZ o fr rs) fun rn=>ajJ own bl fun own'=>fcL (us++[⟨rs,o.dst,f,rn,bl,nw⟩]) fun us'=>aAE fr o.dst f fun fr'=>go T n q [] fr' own' (.dr id ops fr0 own0 us' r K) else bad
 |_=>bad
def grd(ops:Array Oper)(lk:LK):Option (Nat×Bool)→Bool
 |none=>true
 |some (j,b)=>match ops[j]? with
  |some oj=>match oj.dst with
   |some d=>match lk d with
    |some .tt=>b
    |some .ff=>!b
    |_=>false
   |none=>false
  |none=>false
theorem auf{lk:LK}{bk:BM}{o:Oper}(h:grd ops lk o.guard=true): ∀ρ G ov a w,RlX GB C n lk bk ρ G ov a w→Region.wanted o (yielded ops a.tmps)=true:=fun ρ G ov a w r=>by
 unfold Region.wanted
 unfold grd at h
 split at h
 ·rename_i e;rw[e]
 ·rename_i j b e
  rw[e]
  split at h<;>try (cases h;done)
  rename_i oj hj
  split at h<;>try (cases h;done)
  rename_i d hd
  split at h<;>try (cases h;done)
  ·rename_i hl
   obtain⟨y,h1,h2⟩:=ae6 r hj hd hl
   cases h1;simp only[h2];subst h;rfl
  ·rename_i hl
   obtain⟨y,h1,h2⟩:=ae6 r hj hd hl
   cases h1;simp only[h2];cases b<;>first|rfl|(simp at h)
theorem uo{q:Nat}{f:FX}{bl:List (Nat×Option Bk)}{nw:List Nat}(hh:hdC cf=some (ops,o))(hg:grd ops (lkC fr cf) o.guard=true)(h:OpR prog GB C n (lkC fr cf) (bkC fr own cf) o f bl nw)
  (hgo:goA tt n q fr own cf f bl nw=⟨vc,fr',own',cf'⟩)(hv:aah vc)(k:CfS prog GB C n Q0 fr' own' cf'):CfS prog GB C n Q0 fr own cf:=by
 obtain⟨dst,op,ty,pos,af,gd⟩:=o
 cases cf with
 |ops ops' r K=>
  cases r with
  |nil=>cases hh
  |cons o' r=>
   cases hh
   unfold goA at hgo
   cases hc:(ahG nw dst fr own&&aaO n dst) with
   |false=>simp only[hc,cond_false,bad] at hgo;cases hgo;exact absurd hv (fun x=>x)
   |true=>
    simp only[hc,cond_true] at hgo
    simp only[aer,aju] at hgo
    simp only[bL] at hc
    exact SX.op (h.toS hc.2 (auf hg)) (afe hc.1) (gx' hgo hv k)
 |dr id ops' fr0 own0 us r K=>
  cases r with
  |nil=>cases hh
  |cons o' r=>
   cases hh
   unfold goA at hgo
   cases hc:aaO n dst with
   |false=>simp only[hc,cond_false,bad] at hgo;cases hgo;exact absurd hv (fun x=>x)
   |true=>
    simp only[hc,cond_true,age] at hgo
    simp only[aer,aju] at hgo
    intro D
    exact gx' hgo hv k (D.push (h.toS hc (auf hg)))
 |_=>cases hh
def ak3(lk:LK)(fo:Operand)(args:Array Operand):Option (FuncId×List DV):=match evX lk fo with
 |some (.d (.v (.func (.func f) ⟨[]⟩ ⟨[]⟩)))=>match evDs lk args.toList with
  |some ds=>some (f,ds)
  |none=>none
 |_=>none
theorem alu{lk:LK}{fo:Operand}{args:Array Operand}{f:FuncId}{ds:List DV}(h:ak3 lk fo args=some (f,ds)):evX lk fo=some (.d (.v (.func (.func f) #[] #[])))∧evDs lk args.toList=some ds:=by
 unfold ak3 at h
 split at h<;>try (cases h;done)
 rename_i h1
 split at h<;>cases h
 rename_i h2
 exact⟨h1,h2⟩
theorem ard{lk:LK}{bk:BM}{fo:Operand}{args:Array Operand}{tys:Array TypeId}{f:FuncId}{ds:List DV}{rv:DV}{dst:Option Nat}{ty:TypeId}{pos:String}{af:Array Edge}{gd:Option (Nat×Bool)}(ha:ak3 lk fo args=some (f,ds))(hF:PF GB prog f ds rv):
  OpR prog GB C n lk bk ⟨dst, .call ⟨.value fo,args,tys⟩,ty,pos,af,gd⟩ (.d rv) [] []:=by
 intro hd tl tb K' s1 s2 hf hk
 refine⟨fun ρ G ov a w r Q=>?_⟩
 obtain⟨h1,h2⟩:=alu ha
 obtain⟨y,hy,hy'⟩:=(r.mono s1 s2).ev h1
 rw[(aa2 (G:=G)).1 hy'] at hy
 obtain⟨vs,h3,h4⟩:=(r.mono s1 s2).evDs h2
 refine zC hy h3 (hF G vs r.gb h4) hd (fun v G' hG hK a' w' rl=>?_) a w Q ⟨r.h,r.sz,aaP a,r.df⟩
 exact hk.run ρ G' ov a' w' ⟨r.gb.trans hG.le,rl.h,rl.sz,rl.df,(abk rl).fx (fun k g _ e=>by obtain⟨u,h5,h6⟩:=r.fx k g e;exact⟨u,h5,h6.up hG.le⟩) hK,
  fun nm B e=>by obtain⟨os,h5,h6⟩:=r.bx nm B e;exact⟨os,h5.up hG.le,h6⟩,r.dj⟩
theorem ca[fu:Fu]{fo:Operand}{args:Array Operand}{tys:Array TypeId}{f:FuncId}{ds:List DV}{rv:DV}{dst:Option Nat}{ty:TypeId}{pos:String}{af:Array Edge}{gd:Option (Nat×Bool)}(hh:hdC cf=some (ops,⟨dst, .call ⟨.value fo,args,tys⟩,ty,pos,af,gd⟩))
  (hg:grd ops (lkC fr cf) gd=true)(ha:ak3 (lkC fr cf) fo args=some (f,ds))(hF:PF GB prog f ds rv)(hgo:goA tt n fu.n fr own cf (.d rv) [] []=⟨vc,fr',own',cf'⟩)(k:CfS prog GB C n Q0 fr' own' cf')(hv:aah vc:=by first|exact trivial|(simp only[aah];kernel_rfl)|(simp only[aah];omega)|(simp only[aah,aJ,bX,aU];omega)):CfS prog GB C n Q0 fr own cf:=
 uo hh hg (ard ha hF) hgo hv k
/-! ### results -/
def av3(T:TT)(fr:FrX)(own:OwX):List ResultVar→Option (List DV)
 |[]=>some []
 | .tmp t::rs=>match aaw fr t with
  |some f=>match aj8 f with
   |some d=>match av3 T fr own rs with
    |some l=>some (d::l)
    |none=>none
   |none=>none
  |none=>none
 | .cell a t::rs=>match aaw fr a with
  |some (.ov nm 0)=>match abD T t with
   |some i=>match aaz own nm with
    |some (.o _ cs _)=>match i.ag with
     |some (some k)=>match takeX cs 0 k with
      |some c=>match ad0 c with
       |some d=>match av3 T fr own rs with
        |some l=>some (.ag d::l)
        |none=>none
       |none=>none
      |none=>none
     |some none=>match cs[0]? with
      |some c=>match aj8 c with
       |some d=>match av3 T fr own rs with
        |some l=>some (d::l)
        |none=>none
       |none=>none
      |none=>none
     |none=>none
    |_=>none
   |none=>none
  |_=>none
theorem anQ{ρ:NE}{G:Gh}{ov:List Own}{a:Act}{w:World}(h:RlX GB C n (aaw fr) (aaz own) ρ G ov a w): ∀{rs:List ResultVar} {ds:List DV},av3 tt fr own rs=some ds→ ∃vs,RVs prog (frA a) ov rs vs∧IsLs G ds vs:=by
 intro rs
 induction rs with
 |nil=>intro ds e;cases e;exact⟨[], .nil, .nil⟩
 |cons x rs ih=>
  intro ds e
  cases x with
  |tmp t=>
   simp only[av3] at e
   split at e<;>try (cases e;done)
   rename_i f hf
   split at e<;>try (cases e;done)
   rename_i d hd
   split at e<;>cases e
   rename_i l hl
   obtain⟨vs,h1,h2⟩:=ih hl
   obtain⟨y,h3,h4⟩:=h.fx t f hf
   exact⟨y::vs, .tmp (ah5 h3) h1, .cons (aco h4 hd) h2⟩
  |cell t ty=>
   simp only[av3] at e
   split at e<;>try (cases e;done)
   rename_i nm hf
   split at e<;>try (cases e;done)
   rename_i i hi
   split at e<;>try (cases e;done)
   rename_i hb
   obtain⟨y,h3,h4⟩:=h.fx t _ hf
   obtain⟨b,m,rfl,h5,h6,h7⟩:=h.own h4 hb
   have oat:OAt ov b m _ _:=⟨h7⟩
   split at e<;>try (cases e;done)
   ·rename_i k ha
    split at e<;>try (cases e;done)
    rename_i c hc
    split at e<;>try (cases e;done)
    rename_i d hd
    split at e<;>cases e
    rename_i l hl
    obtain⟨vs,h1,h2⟩:=ih hl
    obtain⟨l',h8,h9⟩:=h6.takeX hc
    exact⟨.agg ⟨l'⟩::vs, .agg (ah5 h3) oat (akb (ab2 _ _ hi) ha) h8 h1, .cons (acn.2 ⟨l',rfl,acR h9 hd⟩) h2⟩
   ·rename_i ha
    split at e<;>try (cases e;done)
    rename_i c hc
    split at e<;>try (cases e;done)
    rename_i d hd
    split at e<;>cases e
    rename_i l hl
    obtain⟨vs,h1,h2⟩:=ih hl
    obtain⟨l',h8,h9⟩:=h6.get hc
    exact⟨l'::vs, .sc (ah5 h3) oat (aiQ (ab2 _ _ hi) ha) h8 h1, .cons (aco h9 hd) h2⟩
def aA7:Exit→Bool
 | .ret=>true
 | .normal=>true
 |_=>false
theorem rz{fb:Func}{e:Exit}{ds:List DV}{rv:DV}(hr:av3 tt fr own fb.results.toList=some ds)(hd:ajM ds=rv)(he:aA7 e=true:=by rfl):CfS prog GB C n (bodyPost prog fb (ani C (fun v G'=>Is G' rv v))) fr own (.ex e []):=by
 refine⟨fun ρ G ov a w r=>?_⟩
 obtain⟨vs,h1,h2⟩:=anQ r hr
 have hk:Is G rv (abP vs):=hd▸aoh h2
 cases e with
 |ret=>exact zD (C:=C) (n:=n) (fr:=frA a) (own:=ov) (G:=G) (K:=fun v G'=>Is G' rv v) h1 hk a w ⟨r.h,r.sz,aaP a,r.df⟩
 |normal=>exact aoG (C:=C) (n:=n) (fr:=frA a) (own:=ov) (G:=G) (K:=fun v G'=>Is G' rv v) h1 hk a w ⟨r.h,r.sz,aaP a,r.df⟩
 |_=>cases he
end
end Go.Sx
end
section
namespace Go.Sx
open Go
section
variable {P:Program} {GB:Gh} {C:Ctx} {n:Nat} {E:Ext} {fr fr':FrF} {own own':List adg} {bs bs' bs1:List adX} {ops:Array Oper} {Q:Exit→Act→World→Prop} {r:List Oper} {Φ:Act→World→Prop}
variable {dst:Option Nat} {t t' ty':TypeId} {pos:String} {af:Array Edge} {gd:Option (Nat×Bool)} {x y z:Operand} {e s by_:Nat}
/-! integers and bools -/
/-! calls -/
/-! variables -/
/-! rows -/
class aGq (P:Program) (t:TypeId) (d:outParam DV):Prop where
 z: ∃z,TyZ P t z∧Is (fun _=>none) d z∧d.okc=true
abbrev SV.f (w:SV):FV:= .d (.v (.slice w.a w.n w.c))
theorem ajd(z:Value)(k:Nat):aai (List.replicate k z)=abC z k:=by unfold aai abC;rw[List.map_replicate]
theorem agb{G:Gh}{d:DV}{y:Value}(h:Is G d y): ∀k:Nat,IsLs G (List.replicate k d) (List.replicate k y)
 |0=> .nil
 |k+1=> .cons h (agb h k)
def aGk(fr:FrF):Nat→List (Nat×Operand)→Option (List DV)
 |_,[]=>some []
 |j,(i,x)::r=>match opD fr x,aGk fr (j+1) r with
  |some d,some l=>bif Nat.beq i j then some (d::l) else none
  |_,_=>none
theorem atV(pre mid post vs:List Value)(h:vs.length=mid.length):ovw (pre++(mid++post)) pre.length vs=pre++(vs++post):=by
 rw[acA _ _ _ (by simp;omega)]
 simp[h]
theorem aqM(z:Value)(k:Nat):abC z (k+1)=aaf z++abC z k:=by simp[abC,lZ]
def auL(s:Nat)(ds:List DV):Bool:=ds.all fun d=>d.okc&&Nat.beq d.cells.length s
theorem ahp{ds:List DV}(h:auL s ds=true):acI s ds:=fun d hd=>by
 have:=eX.1 h d hd
 simp only[bL] at this
 exact⟨this.1,aT this.2⟩
/-! what is appended -/
theorem amu{cs:List Value}{off s:Nat}: ∀(es:List Value),(∀i (h:i<es.length),aaX cs (off+i*s) s=some (aaf es[i]))→off≤cs.length→aaX cs off (es.length*s)=some (aai es)
 |[],_,ho=>by
  rw[abG _ _ _ (by simpa using ho)];simp[aai]
 |v::t,h,ho=>by
  have h0:=h 0 (by simp)
  simp only[kS,dT,nR] at h0
  obtain⟨k1,k2⟩:=agR h0
  have ih:=amu (off:=off+s) t (fun i hi=>by
   have:=h (i+1) (by simpa using hi)
   rw[iJ,show off+(i*s+s)=off+s+i*s by omega] at this
   simpa using this) (by omega)
  obtain⟨k3,k4⟩:=agR ih
  rw[abG _ _ _ (by simp only[bU,iJ];omega)]
  congr 1
  have e1:aai (v::t)=aaf v++aai t:=by simp[aai]
  rw[e1,k2,k4,bU,iJ,jX (t.length*s) s,List.take_add,List.drop_drop]
theorem aA9{ov:List Own}{G:Gh}{w:SV}{es:List Value}(h:afb G s w es):Src P C ov G s w.n (.slice w.a w.n w.c) (aai es):=by
 rcases h.mem with he|⟨b,off,cs,ha,hg,hc⟩
 ·subst he
  rw[h.len]
  exact aeu
 ·rw[ha]
  by_cases he:es=[]
  ·subst he;rw[h.len];exact aeu
  ·have hp:0<es.length:=mS.2 he
   have h0:=hc 0 hp
   have:=(agR h0).1
   rw[h.len]
   exact axu hg (amu es hc (by omega))
def aGG(fr:FrF)(bs:List adX)(s:Nat)(y:Operand)(ds:List DV):Prop:=
 (∃l,opD fr y=some (.sl l)∧l=ds∧acI s l)∨ ∃w ty lo,opF fr y=some w.f∧(⟨w,s,ty,ds,lo⟩:adX)∈bs∧acI s ds
theorem ajK[hT:acN P t e s by_][hN:TyN P t']{w:World}{ad2:Option Addr}{cap2:Nat}:(Builtin.append_ #[t,t'] ty' #[.slice none 0 0, .slice ad2 0 cap2]).run P w= .ok (.slice none 0 0) w:=by
 obtain⟨d,hd1⟩:=hN.un
 obtain⟨i,hi,his,hib⟩:=hT.info
 have h0:(Builtin.firstCells i.size 0 (.slice ad2 0 cap2)).run P w= .ok #[] w:=by
  cases ad2 with
  |none=>rfl
  |some a=>unfold Builtin.firstCells loadCells;simp[loadCellsFrom,aap]
 simp[Builtin.append_,run_underlying hT.un,run_underlying hd1,sizeOf,typeInfo,hi,Builtin.lenOf,h0]
theorem agI[hT:acN P t e s by_][hN:TyN P t']{fr:Fr}{own:List Own}{G:Gh}{ad2:Option Addr}{cap2:Nat}(hx:opv fr x=some (.slice none 0 0))(hy:opv fr y=some (.slice ad2 0 cap2))(hd:aaO n dst=true)
  (h:St C n (put fr dst (.slice none 0 0)) own G Φ):Ch P C n fr own G ⟨dst, .call ⟨.builtin .append, #[x,y], #[t,t']⟩,ty',pos,af,gd⟩ Φ:=by
 intro a w Q rl
 refine abu (v:= .slice none 0 0) (w':=w) ?_ (h _ _ (rl.put _ hd))
 simp only[execOp,resolve,gW,cZ,iN,aab rl.fr hx,aab rl.fr hy]
 exact aam ajK
/-! stores to elements -/
theorem abx.upd{G:Gh}{w:SV}{s:Nat}{ty:TypeId}{ds:List DV}{lo:Bool}{B:List Own}(h:abx G ⟨w,s,ty,ds,lo⟩ B){i:Nat}{d:DV}(hi:ds[i]? =some d):
  ∃b vs rest lo',w.a=some ⟨b,0,none⟩∧B=[⟨b,aai vs++rest,ty,lo'⟩]∧IsLs G ds vs∧(∀v∈vs,(aaf v).length=s)∧i<vs.length∧
   ∀u d',Is G d' u→(aaf u).length=s→abx G ⟨w,s,ty,ds.set i d',lo⟩ [⟨b,aai (vs.set i u)++rest,ty,lo'⟩]:=by
 obtain⟨vs,hB,hv,hs,hlo⟩:=h
 obtain⟨v,h1,h2⟩:=hv.get hi
 obtain⟨hi',_⟩:=bJ.1 h1
 rcases hB with⟨e,_,_⟩|⟨b,rest,lo',h3,h4,h5,h6,h7⟩
 ·rw[e] at h1;simp at h1
 ·refine⟨b,vs,rest,lo',by simp only[] at h3;rw[h3],h4,hv,hs,hi',fun u d' hu hul=>?_⟩
  have hall: ∀x∈vs.set i u,(aaf x).length=s:=fun x hx=>by
   rcases List.mem_or_eq_of_mem_set hx with h'|rfl
   ·exact hs x h'
   ·exact hul
  refine⟨vs.set i u, .inr ⟨b,rest,lo',by simpa using h3,rfl,aav _ hall,?_,by simpa using h7⟩,hv.set i hu,hall,fun hl o ho=>?_⟩
  ·rw[aav _ hall,bX,←h5];exact h6
  ·have:=hlo hl
   rw[h4] at this
   rw[aY.1 ho]
   have h9:=this ⟨b,aai vs++rest,ty,lo'⟩ aZ
   exact h9
theorem asH{s:Nat}{rest:List Value}{u:Value}(vs:List Value)(i:Nat)(h:i<vs.length)(hs: ∀v∈vs,(aaf v).length=s)(hu:(aaf u).length=s):ovw (aai vs++rest) (i*s) (aaf u)=aai (vs.set i u)++rest:=by
 have hl:=aav vs hs
 have hle:i*s+s≤vs.length*s:=by rw[←iJ];exact bV _ h
 rw[acA _ _ _ (by rw[hu,aW];omega),hu,eM (by omega),jV (by omega),agV vs i hs (by omega),←iJ,afw vs (i+1) hs h,
  List.set_eq_take_append_cons_drop,if_pos h,show vs.take i++u::vs.drop (i+1)=vs.take i++([u]++vs.drop (i+1)) from rfl,ac1,ac1,aiu]
 simp
/-! ### what is written no more; what is forgotten; spelled otherwise -/
def reF(ks:List Nat)(f:FV)(fr:FrF):FrF:=ks.map (fun k=>(k,f))++fr
end
end Go.Sx
end
