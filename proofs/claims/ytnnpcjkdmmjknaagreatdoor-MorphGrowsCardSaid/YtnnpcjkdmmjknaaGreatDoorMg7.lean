import Derived.Test.YtnnpcjkdmmjknaaGreatDoorMg6
set_option linter.all false
set_option maxRecDepth 100000
section
namespace Go.Sx
open Go
variable {α:Type}{x n k nm j:Nat}{P:Program}{GB G:Gh}{C:aD}{Q Q0:Exit->Act->World->Prop}{o oj:Oper}{dst:Option Nat}{T:TT}{ty:TypeId}{pos:String}{af:Array Edge}{gd:Option (Nat×Bool)}{v:Option Prop}{l t:List Prop}
def vf:List Nat->Nat->Bool
 |[],_=>false
 |x::t,k=>Nat.beq x k||vf t k
structure Rc where
 rs:List Nat
 d:Option Nat
 f:FX
 rn:List Nat
 bl:List (Nat×Option Bk)
 nw:List Nat
abbrev ST:=LK×BM
def Rc.ap(r:Rc)(s:ST):ST:=(ef s.1 r.d r.f,upB s.2 r.bl)
def cp(p:Nat->Bool):Nat->ST->List Rc->ST
 |_,s,[]=>s
 |k,s,r::t=>cp p (k+1) (if p k then r.ap s else s) t
def mF(l:List Nat)(g:Nat->Option α):Nat->Option α:=fun k=>bif vf l k then g k else none
def Fe{nm:Nat}: ∀{bl:List (Nat×Option Bk)} {s s':BM},((∀e∈bl,e.1≠nm)->s nm=s' nm)->upB s bl nm=upB s' bl nm
 |[],s,s',h=>h (by simp)
 |(k,B)::t,s,s',h=>by
  simp only[upB];refine Fe fun ht=>?_;by_cases e:nm=k
  .simp[e]
  .simp only[e,if_false];exact h fun x hx=>(aW.1 hx).elim (fun c=>by rw[c];exact Ne.symm e) (ht x)
def Cw{nm:Nat}: ∀{bl:List (Nat×Option Bk)} {s:BM},(∀e∈bl,e.1≠nm)->upB s bl nm=s nm
 |[],s,h=>rfl
 |(k,B)::t,s,h=>by
  simp only[upB];rw[Cw fun e he=>h e (aJ _ he)];simp[Ne.symm (h _ aQ)]
def Id{d:Option Nat}{f:FX}{s:LK}(h:d≠some x):ef s d f x=s x:=by
 cases d with
 |none=>rfl
 |some d=>simp only[ef];rw[if_neg fun e=>h (by rw[e])]
def BG{x:Nat}{p q:Nat->Bool}: ∀{us:List Rc} {k:Nat} {s s':ST},s.1 x=s'.1 x->(∀j r,us[j]? =some r->r.d=some x->p (k+j)=q (k+j))->(cp p k s us).1 x=(cp q k s' us).1 x
 |[],k,s,s',h,_=>h
 |r::t,k,s,s',h,hp=>by
  simp only[cp];refine BG ?_ fun j u hj hd=>by have:=hp (j+1) u (by simpa using hj) hd;rwa [show k+(j+1)=k+1+j by omega] at this
  by_cases hd:r.d=some x
  .have:=hp 0 r J hd
   rw[fK] at this;rw[this];split
   .simp only[Rc.ap,ef,hd,if_true]
   .exact h
  .have: ∀(b:Bool) (s:ST),(if b then r.ap s else s).1 x=s.1 x:=fun b s=>by cases b<;>simp[Rc.ap,Id hd]
   rw[this,this,h]
def yr{nm:Nat}{p q:Nat->Bool}: ∀{us:List Rc} {k:Nat} {s s':ST},s.2 nm=s'.2 nm->(∀j r,us[j]? =some r->(∃e∈r.bl,e.1=nm)->p (k+j)=q (k+j))->(cp p k s us).2 nm=(cp q k s' us).2 nm
 |[],k,s,s',h,_=>h
 |r::t,k,s,s',h,hp=>by
  simp only[cp];refine yr ?_ fun j u hj hd=>by have:=hp (j+1) u (by simpa using hj) hd;rwa [show k+(j+1)=k+1+j by omega] at this
  by_cases hd: ∃e∈r.bl,e.1=nm
  .have:=hp 0 r J hd
   rw[fK] at this;rw[this];split
   .exact Fe fun _=>h
   .exact h
  .have: ∀(b:Bool) (s:ST),(if b then r.ap s else s).2 nm=s.2 nm:=fun b s=>by
    cases b
    .rfl
    .exact Cw fun e he hc=>hd ⟨e,he,hc⟩
   rw[this,this,h]
def R2{x:Nat}{f:FX}{p:Nat->Bool}: ∀{us:List Rc} {k:Nat} {s:ST},(cp p k s us).1 x=some f->s.1 x=some f\/ ∃j r,us[j]? =some r/\p (k+j)=true/\r.d=some x/\r.f=f
 |[],k,s,h=> .inl h
 |r::t,k,s,h=>by
  simp only[cp] at h;rcases R2 h with h|⟨j,u,h1,h2,h3⟩
  .cases hp:p k with
   |false=>rw[hp] at h;exact .inl h
   |true=>
    rw[hp] at h;simp only[if_true,Rc.ap] at h;by_cases hd:r.d=some x
    .rw[hd] at h;simp only[ef,if_true] at h;cases h;exact .inr ⟨0,r,J,by simpa using hp,hd,J⟩
    .rw[Id hd] at h;exact .inl h
  .exact .inr ⟨j+1,u,by simpa using h1,by rw[show k+(j+1)=k+1+j by omega];exact h2,h3⟩
def Pg{nm:Nat}{B:Bk}: ∀{bl:List (Nat×Option Bk)} {s:BM},upB s bl nm=some B->s nm=some B\/(nm,some B)∈bl
 |[],s,h=> .inl h
 |(k,B')::t,s,h=>by
  simp only[upB] at h;rcases Pg h with h|h
  .by_cases e:nm=k
   .subst e;simp only[if_true] at h;subst h;exact .inr aQ
   .simp only[e,if_false] at h;exact .inl h
  .exact .inr (aJ _ h)
def QO{nm:Nat}{B:Bk}{p:Nat->Bool}: ∀{us:List Rc} {k:Nat} {s:ST},(cp p k s us).2 nm=some B->s.2 nm=some B\/ ∃j r,us[j]? =some r/\p (k+j)=true/\(nm,some B)∈r.bl
 |[],k,s,h=> .inl h
 |r::t,k,s,h=>by
  simp only[cp] at h;rcases QO h with h|⟨j,u,h1,h2,h3⟩
  .cases hp:p k with
   |false=>rw[hp] at h;exact .inl h
   |true=>
    rw[hp] at h;rcases Pg h with h|h
    .exact .inl h
    .exact .inr ⟨0,r,J,by simpa using hp,h⟩
  .exact .inr ⟨j+1,u,by simpa using h1,by rw[show k+(j+1)=k+1+j by omega];exact h2,h3⟩
def aKb(acc:List Nat)(l:List Edge):Nat:=l.foldl (fun s e=>if Region.binds .any e then(s ||| 2^e.on) ||| acc.getD e.on 0 else s) 0
def qf:List Oper->List Nat->List Nat
 |[],acc=>acc
 |o::r,acc=>qf r (acc++[aKb acc o.after.toList])
inductive Bf (ops:List Oper):Nat->Nat->Prop
 |b {i:Nat} {o:Oper} {e:Edge} (ho:ops[i]? =some o) (he:e∈o.after) (hb:Region.binds .any e=true):Bf ops i e.on
 |s {i j:Nat} {o:Oper} {e:Edge} (ho:ops[i]? =some o) (he:e∈o.after) (hb:Region.binds .any e=true) (h:Bf ops e.on j):Bf ops i j
def Tk{acc:List Nat}{j:Nat}: ∀(l:List Edge) (s:Nat),(l.foldl (fun s e=>if Region.binds .any e then(s ||| 2^e.on) ||| acc.getD e.on 0 else s) s).testBit j=true->s.testBit j=true\/ ∃e∈l,Region.binds .any e=true/\(e.on=j\/(acc.getD e.on 0).testBit j=true)
 |[],s,h=> .inl h
 |e::t,s,h=>by
  rw[kK] at h;rcases Tk t _ h with h|⟨e',h1,h2⟩
  .split at h
   .rename_i hb
    simp only[Nat.testBit_or,iT,Nat.testBit_two_pow,decide_eq_true_eq] at h;rcases h with(h|h)|h
    .exact .inl h
    .exact .inr ⟨e,aQ,hb, .inl h⟩
    .exact .inr ⟨e,aQ,hb, .inr h⟩
   .exact .inl h
  .exact .inr ⟨e',aJ _ h1,h2⟩
def H0{all:List Oper}: ∀(r:List Oper) (acc:List Nat) (pre:List Oper),all=pre++r->acc.length=pre.length->(∀i j,(acc.getD i 0).testBit j=true->Bf all i j)-> ∀i j,((qf r acc).getD i 0).testBit j=true->Bf all i j
 |[],acc,pre,_,_,h=>h
 |o::r,acc,pre,he,hl,h=>by
  refine H0 r _ (pre++[o]) (by rw[he];simp) (by simp[hl]) fun i j hij=>?_;rw[aK,List.getElem?_append] at hij;split at hij
  .rename_i hi
   exact h i j (by rw[aK];exact hij)
  .rename_i hi
   by_cases e:i=acc.length
   .subst e
    simp only[sX,List.getElem?_cons_zero,kW] at hij;have ho:all[acc.length]? =some o:=by rw[he,hl];simp
    rcases Tk _ _ hij with h0|⟨e,h1,h2,h3⟩
    .simp at h0
    .rcases h3 with rfl|h3
     .exact .b ho (by simpa using h1) h2
     .exact .s ho (by simpa using h1) h2 (h _ _ h3)
   .rw[dY (by simp;omega)] at hij
    simp at hij
def zo:Option Nat->Nat->Bool
 |some x,y=>Nat.beq x y
 |none,_=>false
def ni(a b:Rc):Bool:=(match a.d with|some x=>vf b.rs x||zo b.d x|none=>false)||a.bl.any fun e=>vf b.rn e.1||b.bl.any fun e'=>Nat.beq e'.1 e.1
def xj(nm:Nat)(f:FX):Bool:=zo f.nm nm
def DZ(nm:Nat):Option Bk->Bool
 |some (.o _ cs _)=>cs.any (xj nm)
 |_=>false
def p6(r:Rc)(nm:Nat):Bool:=xj nm r.f||r.bl.any fun e=>DZ nm e.2
def EH(m:Nat)(r:Rc):Nat->List Rc->Bool
 |_,[]=>true
 |j,u::t=>(!(ni u r||ni r u||u.nw.any (p6 r))||m.testBit j)&&!(r.nw.any (p6 u))&&EH m r (j+1) t
def vU:List Nat->List Rc->List Rc->Bool
 |m::ms,pre,r::t=>EH m r 0 pre&&vU ms (pre++[r]) t
 |_,_,[]=>true
 |[],_,_::_=>false
def oo:Nat->List Oper->Bool
 |_,[]=>true
 |i,o::t=>o.after.all (fun e=>!Region.binds .any e||Nat.blt e.on i)&&oo (i+1) t
def En(us:List Rc)(fr:List (Nat×FX))(own:List (Nat×Option Bk)):Bool:=us.all fun r=>r.nw.all fun nm=>fr.all (fun e=>!xj nm e.2)&&own.all fun e=>!DZ nm e.2
def KS{m:Nat}{r:Rc}: ∀{l:List Rc} {k:Nat},EH m r k l=true-> ∀j u,l[j]? =some u->((ni u r=true\/ni r u=true\/ ∃nm∈u.nw,p6 r nm=true)->m.testBit (k+j)=true)/\ ∀nm∈r.nw,p6 u nm=false
 |[],k,_,j,u,h=>by simp at h
 |x::t,k,h,j,u,hj=>by
  simp only[EH,cZ,iT,iM] at h;obtain⟨⟨h1,h2⟩,h3⟩:=h
  cases j with
  |zero=>
   simp at hj;subst hj;refine⟨fun hh=>?_,fun nm hn=>by have:=List.any_eq_false.1 h2 nm hn;simpa using this⟩;rcases h1 with h1|h1
   .simp only[lY] at h1
    rcases hh with hh|hh|⟨nm,hn,hh⟩
    .rw[h1.1.1] at hh;cases hh
    .rw[h1.1.2] at hh;cases hh
    .have:=List.any_eq_false.1 h1.2 nm hn;exact absurd hh this
   .simpa using h1
  |succ j=>
   have:=KS h3 j u (by simpa using hj);rwa [show k+(j+1)=k+1+j by omega]
def NR: ∀{ms:List Nat} {pre t:List Rc},vU ms pre t=true-> ∀i r,t[i]? =some r-> ∀j u,(pre++t)[j]? =some u->j<pre.length+i->((ni u r=true\/ni r u=true\/ ∃nm∈u.nw,p6 r nm=true)->(ms.getD i 0).testBit j=true)/\ ∀nm∈r.nw,p6 u nm=false
 |[],pre,[],_,i,r,h=>by simp at h
 |_::_,pre,[],_,i,r,h=>by simp at h
 |[],pre,_::_,h,i,r,_=>by simp[vU] at h
 |m::ms,pre,x::t,h,i,r,hi=>by
  simp only[vU,cZ] at h;intro j u hj hlt
  cases i with
  |zero=>
   simp at hi;subst hi;rw[jX (by omega)] at hj;simpa using KS h.1 j u hj
  |succ i=>
   have:=NR h.2 i r (by simpa using hi) j u (by simpa using hj) (by simp;omega);simpa using this
def sr: ∀{l:List Oper} {k:Nat},oo k l=true-> ∀i o,l[i]? =some o-> ∀e∈o.after,Region.binds .any e=true->e.on<k+i
 |[],k,_,i,o,h=>by simp at h
 |x::t,k,h,i,o,hi=>by
  simp only[oo,cZ] at h;intro e he hb
  cases i with
  |zero=>
   simp at hi;subst hi;have:=Array.all_eq_true_iff_forall_mem.1 h.1 e he;simpa[hb] using this
  |succ i=>have:=sr h.2 i o (by simpa using hi) e he hb;omega
def wO(rd:Option Nat)(P:Program)(ops:Array Oper)(Q:Exit->Act->World->Prop)(o:Oper)(K:Act->World->Prop)(a:Act)(w:World):Prop:=
 if Region.wanted o (yielded ops a.tmps) then o.wpIn (FW rd) 0 P a w K Q else K (a.put o.dst undef) w
section
variable {ops:Array Oper}
def wg(P:Program)(GB:Gh)(C:aD)(n:Nat)(ops:Array Oper)(lk:LK)(bk:BM)(o:Oper)(f:FX)(bl:List (Nat×Option Bk))(nw:List Nat):Prop:=
 ∀(Q:Exit->Act->World->Prop) (tl:LK) (tb:BM) (K:Act->World->Prop),kD lk tl->kD bk tb->lv nw o.dst tl tb->SX GB C n (ef tl o.dst f) (upB tb bl) K->SX GB C n tl tb (wO C.rd P ops Q o K)
def SX.drew{lk:LK}{bk:BM}{Φ:Act->World->Prop}(h:SX GB C n lk bk Φ):SX GB C n lk bk (fun a w=>Φ a {w with drawn:=w.drawn+1}):=
 ⟨fun ρ G ov a w r=>h.run ρ G ov a _ ⟨r.gb,r.h.drew,r.sz,r.df,r.fx,r.bx,r.dj,r.fxd⟩⟩
structure j' (P:Program) (GB:Gh) (C:aD) (n:Nat) (ops:Array Oper) (us:List Rc) (s0:ST):Prop where
 len:us.length=ops.size
 snd: ∀i r o,us[i]? =some r->ops[i]? =some o->o.dst=r.d/\wg P GB C n ops (mF r.rs (cp (fun j=>decide (j<i)) 0 s0 us).1) (mF r.rn (cp (fun j=>decide (j<i)) 0 s0 us).2) o r.f r.bl r.nw
 all:vU (qf ops.toList []) [] us=true
 edge:oo 0 ops.toList=true
 fr0: ∀r∈us,∀nm∈r.nw,(∀k f,s0.1 k=some f->f.nm≠some nm)/\ ∀k B,s0.2 k=some B-> ¬B.men nm
def Bt{o:Option Nat}:zo o k=true↔o=some k:=by cases o<;>simp[zo]
def FH{B:Bk}(h:B.men nm):DZ nm (some B)=true:=by
 cases B with
 |o ty cs lo=>obtain⟨f,hf,e⟩:=h;exact jS.2 ⟨f,hf,Bt.2 e⟩
 |b=>cases h
 |c=>cases h
def dB(listed:Array Bool):Nat->Bool:=fun j=>listed.getD j false
def un(ops:Array Oper)(listed:Array Bool):Nat:=((List.range ops.size).filter fun j=>!listed.getD j true).length
def Mg{α:Type}{p q:α->Bool}{x:α}: ∀{l:List α},x∈l->(∀y,q y=true->p y=true)->p x=true->q x=false->(l.filter q).length<(l.filter p).length
 |[],h,_,_,_=>by cases h
 |y::t,h,hpq,h1,h2=>by
  have le: ∀l:List α,(l.filter q).length<=(l.filter p).length:=fun l=>by
   induction l with
   |nil=>exact bX _
   |cons z l ih=>
    simp only[qS]
    cases hq:q z with
    |true=>simp[hpq z hq];omega
    |false=>cases hp:p z<;>simp<;>omega
  rcases aW.1 h with rfl|h
  .simp only[qS,h1,h2,if_true];have:=le t;simp;omega
  .have ih:=Mg h hpq h1 h2
   simp only[qS]
   cases hq:q y with
   |true=>simp[hpq y hq];omega
   |false=>cases hp:p y<;>simp<;>omega
def j'.walk{us:List Rc}{s0:ST}(D:j' P GB C n ops us s0)(hk:SX GB C n (cp (fun _=>true) 0 s0 us).1 (cp (fun _=>true) 0 s0 us).2 (Q .normal)):
  ∀(fuel:Nat) (listed:Array Bool),listed.size=ops.size->(∀i o,ops[i]? =some o->dB listed i=true-> ∀e∈o.after,Region.binds .any e=true->dB listed e.on=true)->un ops listed<=fuel->
   SX GB C n (cp (dB listed) 0 s0 us).1 (cp (dB listed) 0 s0 us).2 (wpAnyIn (FW C.rd) 0 P .any ops Q fuel listed):=by
 -- what comes before something listed is listed
 have clo: ∀listed:Array Bool,(∀i o,ops[i]? =some o->dB listed i=true-> ∀e∈o.after,Region.binds .any e=true->dB listed e.on=true)-> ∀i j,Bf ops.toList i j->dB listed i=true->dB listed j=true:=by
  intro listed hc i j hb
  induction hb with
  |b ho he hb=>intro hi;exact hc _ _ (by simpa using ho) hi _ he hb
  |s ho he hb _ ih=>intro hi;exact ih (hc _ _ (by simpa using ho) hi _ he hb)
 have bf: ∀i j,((qf ops.toList []).getD i 0).testBit j=true->Bf ops.toList i j:=H0 ops.toList [] [] J J (fun i j h=>by simp at h);have spec: ∀i r,us[i]? =some r-> ∀j u,us[j]? =some u->j<i->((ni u r=true\/ni r u=true\/ ∃nm∈u.nw,p6 r nm=true)->Bf ops.toList i j)/\ ∀nm∈r.nw,p6 u nm=false:=fun i r hi j u hj hlt=>by
  have:=NR D.all i r hi j u (by simpa using hj) (by simpa using hlt);exact⟨fun h=>bf _ _ (this.1 h),this.2⟩
 have done: ∀listed:Array Bool,listed.size=ops.size->Region.ready .any ops listed=[]-> ∀i,i<ops.size->dB listed i=true:=by
  intro listed hsz hr i
  induction i using Nat.strongRecOn with
  |ind i ih=>
   intro hi
   cases hl:listed.getD i true with
   |true=>unfold dB;simp only[cY] at hl⊢;rw[iQ (by omega)] at hl⊢;simpa using hl
   |false=>
    have:i∈Region.ready .any ops listed:=mem_ready.2 ⟨hl,ops[i],iQ hi,fun e he hb=>by
     have hlt:=sr D.edge i ops[i] (by simp[hi]) e he hb;exact ih e.on (by omega) (by omega)⟩
    rw[hr] at this;cases this
 have same: ∀listed:Array Bool,listed.size=ops.size->(∀i,i<ops.size->dB listed i=true)->(cp (dB listed) 0 s0 us).1=(cp (fun _=>true) 0 s0 us).1/\(cp (dB listed) 0 s0 us).2=(cp (fun _=>true) 0 s0 us).2:=by
  intro listed hsz h;refine⟨funext fun x=>BG J fun j r hj _=>?_,funext fun x=>yr J fun j r hj _=>?_⟩<;>
  .rw[eJ];exact h j (by have:=(aY.1 hj).1;rw[D.len] at this;exact this)
 intro fuel
 induction fuel with
 |zero=>
  intro listed hsz hc hu;have all: ∀i,i<ops.size->dB listed i=true:=fun i hi=>by
   cases hl:listed.getD i true with
   |true=>unfold dB;simp only[cY] at hl⊢;rw[iQ (by omega)] at hl⊢;simpa using hl
   |false=>
    have h0:=List.length_eq_zero_iff.1 (Nat.le_zero.1 hu);have:=List.filter_eq_nil_iff.1 h0 i (kQ.2 hi);simp[hl] at this
  obtain⟨e1,e2⟩:=same listed hsz all;rw[e1,e2];refine hk.imp fun a w h=>⟨?_,h⟩;refine List.eq_nil_iff_forall_not_mem.2 fun i hi=>?_;obtain⟨h1,o,ho,_⟩:=mem_ready.1 hi;have hlt:=(fT.1 ho).1;have h2:=all i hlt;unfold dB at h2;simp only[cY] at h1 h2;rw[iQ (by omega)] at h1 h2;simp at h1 h2;rw[h1] at h2;cases h2
 |succ fuel ih=>
  intro listed hsz hc hu;refine⟨fun ρ G ov a w r=>⟨fun hr=>?_,fun i hi=>?_⟩⟩
  .obtain⟨e1,e2⟩:=same listed hsz (done listed hsz hr)
   rw[e1,e2] at r;exact hk.run ρ G ov a w r
  .obtain⟨h1,o,ho,hall⟩:=mem_ready.1 hi
   have hlt:=(fT.1 ho).1;have hli:dB listed i=false:=by
    unfold dB;simp only[cY] at h1⊢;rw[iQ (by omega)] at h1⊢;simpa using h1
   obtain⟨u,hui⟩: ∃u,us[i]? =some u:=⟨us[i]'(by rw[D.len];exact hlt),aZ _⟩;obtain⟨hd,hop⟩:=D.snd i u o hui ho;have bl: ∀j,Bf ops.toList i j->dB listed j=true:=fun j hb=>by
    cases hb with
    |b ho' he hb=>rw[qQ,ho] at ho';cases ho';exact hall _ he hb
    |s ho' he hb h=>rw[qQ,ho] at ho';cases ho';exact clo listed hc _ _ h (hall _ he hb)
   have nb: ∀j r,us[j]? =some r->(ni r u=true\/ni u r=true)->decide (j<i)=dB listed j:=fun j r hj hh=>by
    rcases sJ j i with h|h|h
    .rw[bl j ((spec i u hui j r hj h).1 (hh.imp id .inl))];simpa using h
    .subst h;rw[hli];simp
    .cases hl:dB listed j with
     |false=>simp;omega
     |true=>have:=clo listed hc j i ((spec j r hj i u hui h).1 (hh.symm.imp id .inl)) hl;rw[hli] at this;cases this
   have sz':(listed.setIfInBounds i true).size=ops.size:=by simpa using hsz
   have l': ∀j,j≠i->dB (listed.setIfInBounds i true) j=dB listed j:=fun j hj=>by unfold dB;rw[getD_set_ne false (Ne.symm hj)]
   have li':dB (listed.setIfInBounds i true) i=true:=by unfold dB;simp[hsz,hlt]
   have hc': ∀j o',ops[j]? =some o'->dB (listed.setIfInBounds i true) j=true-> ∀e∈o'.after,Region.binds .any e=true->dB (listed.setIfInBounds i true) e.on=true:=fun j o' hj hlj e he hb=>by
    by_cases hji:j=i
    .subst hji;rw[ho] at hj;cases hj
     exact getD_set_true (hall e he hb)
    .rw[l' j hji] at hlj
     exact getD_set_true (hc j o' hj hlj e he hb)
   have hu':un ops (listed.setIfInBounds i true)<=fuel:=by
    have:un ops (listed.setIfInBounds i true)<un ops listed:=by
     refine Mg (x:=i) (kQ.2 hlt) (fun y hy=>?_) (by simp[h1]) (by simp[hsz,hlt]);by_cases hyi:y=i
     .subst hyi;simp[hsz,hlt] at hy
     .rwa [getD_set_ne true (Ne.symm hyi)] at hy
    omega
   have next:=ih _ sz' hc' hu'
   have e1:(cp (dB (listed.setIfInBounds i true)) 0 s0 us).1=ef (cp (dB listed) 0 s0 us).1 o.dst u.f:=by
    funext x;rw[hd];by_cases hx:u.d=some x
    .-- i is the last to write x
     have key: ∀(us':List Rc) (k:Nat) (s:ST) (p:Nat->Bool) (m:Nat),us'[m]? =some u->p (k+m)=true->(∀j r,us'[j]? =some r->r.d=some x->j≠m->j<m\/p (k+j)=false)->(cp p k s us').1 x=some u.f:=by
      intro us'
      induction us' with
      |nil=>intro k s p m h;simp at h
      |cons r t iht=>
       intro k s p m h hp hj;simp only[cp]
       cases m with
       |zero=>
        simp at h;subst h;rw[fK] at hp;rw[hp];have:(cp p (k+1) (r.ap s) t).1 x=(cp (fun _=>false) (k+1) (r.ap s) t).1 x:=BG J fun j r' hj' hd'=>by
         have:=hj (j+1) r' (by simpa using hj') hd' (by omega);rw[show k+(j+1)=k+1+j by omega] at this;exact this.resolve_left (by omega)
        simp only[if_true,this];have nosel: ∀(l:List Rc) (k:Nat) (s:ST),cp (fun _=>false) k s l=s:=fun l=>by
         induction l with
         |nil=>intro k s;rfl
         |cons y l ih=>intro k s;exact ih _ _
        rw[nosel];simp[Rc.ap,ef,hx]
       |succ m=>
        refine iht _ _ p m (by simpa using h) (by rw[show k+1+m=k+(m+1) by omega];exact hp) fun j r' hj' hd' hne=>?_;have:=hj (j+1) r' (by simpa using hj') hd' (by omega);rw[show k+1+j=k+(j+1) by omega];exact this.imp (fun h=>by omega) id
     rw[key us 0 s0 _ i hui (by rw[eJ];exact li') fun j r hj hdr hne=>?_]
     .rw[hx];simp[ef]
     .rw[eJ,l' j hne]
      have:=nb j r hj (.inl (by simp[ni,hdr,hx,zo]));rw[<-this];by_cases hji:j<i
      .exact .inl hji
      .exact .inr (by simpa using hji)
    .rw[Id hx]
     refine BG J fun j r hj hdr=>?_;rw[eJ];exact l' j fun e=>by subst e;rw[hui] at hj;cases hj;exact hx hdr
   have e2:(cp (dB (listed.setIfInBounds i true)) 0 s0 us).2=upB (cp (dB listed) 0 s0 us).2 u.bl:=by
    funext x;by_cases hx: ∃e∈u.bl,e.1=x
    .have key: ∀(us':List Rc) (k:Nat) (s s':ST) (p q:Nat->Bool) (m:Nat),us'[m]? =some u->p (k+m)=true->(∀j r,us'[j]? =some r->(∃e∈r.bl,e.1=x)->j≠m->q (k+j)=p (k+j)/\(j<m\/p (k+j)=false))->q (k+m)=false->s.2 x=s'.2 x->(cp p k s us').2 x=upB (cp q k s' us').2 u.bl x:=by
      intro us'
      induction us' with
      |nil=>intro k s s' p q m h;simp at h
      |cons r t iht=>
       intro k s s' p q m h hp hj hq hs;simp only[cp]
       cases m with
       |zero=>
        simp at h;subst h;rw[fK] at hp hq;rw[hp,hq];have nosel: ∀(l:List Rc) (k:Nat) (s:ST),cp (fun _=>false) k s l=s:=fun l=>by
         induction l with
         |nil=>intro k s;rfl
         |cons y l ih=>intro k s;exact ih _ _
        have a1:(cp p (k+1) (r.ap s) t).2 x=(cp (fun _=>false) (k+1) (r.ap s) t).2 x:=yr J fun j r' hj' hd'=>by
         have:=(hj (j+1) r' (by simpa using hj') hd' (by omega)).2;rw[show k+(j+1)=k+1+j by omega] at this;exact this.resolve_left (by omega)
        have a2:(cp q (k+1) s' t).2 x=(cp (fun _=>false) (k+1) s' t).2 x:=yr J fun j r' hj' hd'=>by
         obtain⟨h3,h4⟩:=hj (j+1) r' (by simpa using hj') hd' (by omega);rw[show k+(j+1)=k+1+j by omega] at h3 h4;rw[h3];exact h4.resolve_left (by omega)
        simp only[if_true,kZ,if_false,a1,nosel];exact Fe fun _=>by rw[a2,nosel];exact hs
       |succ m=>
        refine iht _ _ _ p q m (by simpa using h) (by rw[show k+1+m=k+(m+1) by omega];exact hp) (fun j r' hj' hd' hne=>?_) (by rw[show k+1+m=k+(m+1) by omega];exact hq) ?_
        .obtain⟨h3,h4⟩:=hj (j+1) r' (by simpa using hj') hd' (by omega)
         rw[show k+1+j=k+(j+1) by omega];exact⟨h3,h4.imp (fun h=>by omega) id⟩
        .by_cases hr: ∃e∈r.bl,e.1=x
         .have:=(hj 0 r J hr (by omega)).1
          rw[fK] at this;rw[this]
          cases p k
          .exact hs
          .exact Fe fun _=>hs
         .have: ∀(b:Bool) (s:ST),(if b then r.ap s else s).2 x=s.2 x:=fun b s=>by
           cases b
           .rfl
           .exact Cw fun e he hc=>hr ⟨e,he,hc⟩
          rw[this,this];exact hs
     refine key us 0 s0 s0 _ _ i hui (by rw[eJ];exact li') (fun j r hj hdr hne=>?_) (by rw[eJ];exact hli) J;rw[eJ];refine⟨(l' j hne).symm,?_⟩;rw[l' j hne];obtain⟨e,he,rfl⟩:=hx;obtain⟨e',he',hee⟩:=hdr;have hh:ni u r=true:=by
      unfold ni;rw[iT];exact .inr (jS.2 ⟨e,he,by rw[iT];exact .inr (jS.2 ⟨e',he',by simpa using hee⟩)⟩)
     rw[<-nb j r hj (.inr hh)];by_cases hji:j<i
     .exact .inl hji
     .exact .inr (by simpa using hji)
    .rw[Cw fun e he hc=>hx ⟨e,he,hc⟩]
     refine yr J fun j r hj hdr=>?_;rw[eJ];exact l' j fun e=>by subst e;rw[hui] at hj;cases hj;exact hx hdr
   rw[e1,e2] at next
   have sub1:kD (mF u.rs (cp (fun j=>decide (j<i)) 0 s0 us).1) (cp (dB listed) 0 s0 us).1:=fun x f hx=>by
    unfold mF at hx
    cases hm:vf u.rs x with
    |false=>rw[hm] at hx;cases hx
    |true=>
     rw[hm,cond_true] at hx;rw[<-hx];refine(BG J fun j r hj hdr=>?_).symm;rw[eJ];exact nb j r hj (.inl (by simp[ni,hdr,hm]))
   have EQ:kD (mF u.rn (cp (fun j=>decide (j<i)) 0 s0 us).2) (cp (dB listed) 0 s0 us).2:=fun x B hx=>by
    unfold mF at hx
    cases hm:vf u.rn x with
    |false=>rw[hm] at hx;cases hx
    |true=>
     rw[hm,cond_true] at hx;rw[<-hx];refine(yr J fun j r hj hdr=>?_).symm;rw[eJ];obtain⟨e,he,rfl⟩:=hdr;refine nb j r hj (.inl ?_);unfold ni;rw[iT];exact .inr (jS.2 ⟨e,he,by rw[hm];rfl⟩)
   have fr:lv u.nw o.dst (cp (dB listed) 0 s0 us).1 (cp (dB listed) 0 s0 us).2:=fun nm hnm=>by
    obtain⟨g1,g2⟩:=D.fr0 u (aV hui) nm hnm;have men: ∀j r,us[j]? =some r->dB listed j=true->p6 r nm=false:=fun j r hj hlj=>by
     rcases sJ j i with h|h|h
     .exact(spec i u hui j r hj h).2 nm hnm
     .subst h;rw[hli] at hlj;cases hlj
     .cases hm:p6 r nm with
      |false=>rfl
      |true=>have:=clo listed hc j i ((spec j r hj i u hui h).1 (.inr (.inr ⟨nm,hnm,hm⟩))) hlj;rw[hli] at this;cases this
    refine⟨fun k f hk e=>?_,fun k B hk e hm=>?_⟩
    .intro hc'
     rcases R2 e with h|⟨j,r,h1,h2,h3,h4⟩
     .exact g1 k f h hc'
     .have:=men j r h1 (by simpa using h2)
      simp only[p6,lY,xj] at this;rw[h4,Bt.2 hc'] at this
      cases this.1
    .rcases QO e with h|⟨j,r,h1,h2,h3⟩
     .exact g2 k B h hm
     .have:=men j r h1 (by simpa using h2)
      simp only[p6,lY] at this;have:=List.any_eq_false.1 this.2 _ h3;exact this (FH hm)
   have fin:=hop Q _ _ _ sub1 EQ fr next
   have:=fin.run ρ G ov a w r;unfold wO at this;unfold wpOpIn;rw[ho];simp only;split
   .rename_i hw;rw[if_pos hw] at this;exact this
   .rename_i hw;rw[if_neg hw] at this;exact⟨fun _ _=>trivial,this⟩
def ER(m k:Nat):dB (Array.replicate m false) k=false:=by unfold dB;simp[rJ];split<;>rfl
def j'.region{us:List Rc}{s0:ST}{id:Nat}(D:j' P GB C n ops us s0)(hm:P.follows .mixedOrders=true)(hk:SX GB C n (cp (fun _=>true) 0 s0 us).1 (cp (fun _=>true) 0 s0 us).2 (Q .normal)):SX GB C n s0.1 s0.2 (ij C.rd P (.region id ops true) Q):=by
 have h:=D.walk hk ops.size (Array.replicate ops.size false) (by simp) (fun i o _ hi=>by rw[ER] at hi;cases hi) (by unfold un;exact cS (nL _ _) (by simp));have e:cp (dB (Array.replicate ops.size false)) 0 s0 us=s0:=by
  have: ∀(l:List Rc) (k:Nat) (s:ST),cp (dB (Array.replicate ops.size false)) k s l=s:=fun l=>by
   induction l with
   |nil=>intro k s;rfl
   |cons y l ih=>
    intro k s;simp only[cp];rw[ih];rw[ER];rfl
  exact this us 0 s0
 rw[e] at h;exact h.drew.imp fun a w k=>wpIn_region_any hm k
end
abbrev aC:=List (Nat×FX)
abbrev aH:=List (Nat×Option Bk)
def bh:aC->Nat->Option FX
 |[],_=>none
 |(k,v)::t,j=>bif Nat.beq k j then some v else bh t j
def bp:aH->Nat->Option Bk
 |[],_=>none
 |(k,v)::t,j=>bif Nat.beq k j then v else bp t j
def xl{α:Type}:aH->Nat->Option Bk->(aH->α)->α
 |[],nm,B,k=>k [(nm,B)]
 |(j,v)::t,nm,B,k=>bif Nat.beq j nm then k ((nm,B)::t) else xl t nm B fun t'=>k ((j,v)::t')
def so{α:Type}:aH->List (Nat×Option Bk)->(aH->α)->α
 |own,[],k=>k own
 |own,(nm,B)::t,k=>xl own nm B fun own'=>so own' t k
def pj(own:aH)(nm:Nat)(B:Option Bk):aH:=xl own nm B id
def vG(own:aH)(l:List (Nat×Option Bk)):aH:=so own l id
def x8{α:Type}{nm:Nat}{B:Option Bk}: ∀{own:aH} {k:aH->α},xl own nm B k=k (pj own nm B)
 |[],k=>rfl
 |(j,v)::t,k=>by
  unfold pj xl
  cases Nat.beq j nm with
  |true=>rfl
  |false=>rw[cond_false,cond_false,x8 (own:=t),x8 (own:=t)];rfl
def wn{α:Type}: ∀{l:List (Nat×Option Bk)} {own:aH} {k:aH->α},so own l k=k (vG own l)
 |[],own,k=>rfl
 |(nm,B)::t,own,k=>by
  unfold vG so;rw[x8,x8,wn (l:=t),wn (l:=t)];rfl
def kn(k:Nat)(v:FX)(t:aC)(j:Nat):bh ((k,v)::t) j=if j=k then some v else bh t j:=by
 simp only[bh];by_cases h:k=j
 .simp[h]
 .have:Nat.beq k j=false:=by
   cases hb:Nat.beq k j with
   |false=>rfl
   |true=>exact absurd (aN hb) h
  simp[this,Ne.symm h]
def jH(k:Nat)(v:Option Bk)(t:aH)(j:Nat):bp ((k,v)::t) j=if j=k then v else bp t j:=by
 simp only[bp];by_cases h:k=j
 .simp[h]
 .have:Nat.beq k j=false:=by
   cases hb:Nat.beq k j with
   |false=>rfl
   |true=>exact absurd (aN hb) h
  simp[this,Ne.symm h]
def B6{nm:Nat}{B:Option Bk}(j:Nat): ∀own:aH,bp (pj own nm B) j=if j=nm then B else bp own j
 |[]=>jH nm B [] j
 |(k,v)::t=>by
  have ih:=B6 (nm:=nm) (B:=B) j t;unfold pj xl
  cases hb:Nat.beq k nm with
  |true=>
   have e:=aN hb;subst e;rw[cond_true,id,jH,jH];by_cases h:j=k<;>simp[h]
  |false=>
   have hne:k≠nm:=fun e=>by subst e;simp at hb
   rw[cond_false,x8,id,jH,jH,ih];by_cases h:j=k
   .subst h;simp[hne]
   .simp[h]
def Fh: ∀(l:List (Nat×Option Bk)) (own:aH),bp (vG own l)=upB (bp own) l
 |[],own=>rfl
 |(nm,B)::t,own=>by
  have:vG own ((nm,B)::t)=vG (pj own nm B) t:=by rw[vG,so,x8];rfl
  rw[this,Fh t];simp only[upB];congr 1;funext j;exact B6 j own
def Ea(fr:aC)(dst:Option Nat)(f:FX):aC:=match dst with
 |some d=>(d,f)::fr
 |none=>fr
def HB{fr:aC}{f:FX}:bh (Ea fr dst f)=ef (bh fr) dst f:=by
 cases dst with
 |none=>rfl
 |some d=>funext j;exact kn d f fr j
def yc(T:TT)(n:Nat)(ops:Array Oper)(lk:LK)(bk:BM):Oper->Option CR
 |⟨dst,op,_,_,_,gd⟩=>bif b7 n dst then(match gd with
  |none=>zi T lk bk dst op
  |some (j,b)=>match ops[j]? with
   |some oj=>match oj.dst with
    |some d=>match lk d with
     |some .tt=>bif b then zi T lk bk dst op else some ⟨none, .un,[],[]⟩
     |some .ff=>bif b then some ⟨none, .un,[],[]⟩ else zi T lk bk dst op
     |some .un=>some ⟨none, .un,[],[]⟩
     |_=>none
    |none=>none
   |none=>none) else none
section
variable {lk:LK}{bk:BM}{ops:Array Oper}
def bP.toS{op:Op}{f:FX}{bl:List (Nat×Option Bk)}{nw:List Nat}(h:bP P GB C n lk bk ⟨dst,op,ty,pos,af,gd⟩ f bl nw)(hd:b7 n dst=true)
  (hw: ∀ρ G ov a w,bH GB C n lk bk ρ G ov a w->Region.wanted ⟨dst,op,ty,pos,af,gd⟩ (yielded ops a.tmps)=true):wg P GB C n ops lk bk ⟨dst,op,ty,pos,af,gd⟩ f bl nw:=by
 intro Q tl tb K s1 s2 hf hk;have:=h hd tl tb (fun a w=>a.defers=C.mks/\K a w) s1 s2 hf ⟨fun ρ G ov a w r=>⟨r.df,hk.run ρ G ov a w r⟩⟩;refine⟨fun ρ G ov a w r=>?_⟩;unfold wO;rw[if_pos (hw ρ G ov a w (r.mono s1 s2))];exact HY (this.run ρ G ov a w r) fun a' w' k=>⟨k.1.trans r.df.symm,k.2⟩
def wg.skip{op:Op}(hd:b7 n dst=true)
  (hw: ∀ρ G ov a w,bH GB C n lk bk ρ G ov a w->Region.wanted ⟨dst,op,ty,pos,af,gd⟩ (yielded ops a.tmps)=false):wg P GB C n ops lk bk ⟨dst,op,ty,pos,af,gd⟩ .un [] []:=by
 intro Q tl tb K s1 s2 hf hk;refine⟨fun ρ G ov a w r=>?_⟩;unfold wO;rw[hw ρ G ov a w (r.mono s1 s2)];exact hk.run ρ G ov _ w (r.put J (r.putA undef hd))
def Bo{ρ:NE}{ov:List av}{a:Act}{w:World}(r:bH GB C n lk bk ρ G ov a w){d:Nat}{f:FX}(hj:ops[j]? =some oj)(hd:oj.dst=some d)(hf:lk d=some f): ∃y,bO ρ G f y/\yielded ops a.tmps j=match y with| .bool b=>some b|_=>none:=by
 obtain⟨y,h1,h2⟩:=r.fx d f hf;refine⟨y,h2,?_⟩;unfold yielded;rw[hj];simp only[Option.bind_some,hd,h1]
 cases y<;>rfl
def P'{r:CR}(hT:m9 P T)(h:yc T n ops lk bk o=some r)(hv: ∀p,r.vc=some p->p):wg P GB C n ops lk bk o r.f r.bl r.nw/\b7 n o.dst=true:=by
 obtain⟨dst,op,ty,pos,af,gd⟩:=o;simp only[yc] at h
 cases hd:b7 n dst with
 |false=>rw[hd] at h;cases h
 |true=>
  rw[hd,cond_true] at h;refine⟨?_,J⟩;split at h
  .exact(Ai hT h hv).toS hd fun _ _ _ _ _ _=>J
  .rename_i j b
   split at h<;>try (cases h;done)
   rename_i oj hj;split at h<;>try (cases h;done)
   rename_i d hdj;split at h<;>try (cases h;done)
   .rename_i hl
    have wt: ∀ρ G ov (a:Act) w,bH GB C n lk bk ρ G ov a w->Region.wanted ⟨dst,op,ty,pos,af,some (j,b)⟩ (yielded ops a.tmps)=b:=fun ρ G ov a w r=>by
     obtain⟨y,h1,h2⟩:=Bo r hj hdj hl
     cases h1
     simp only[Region.wanted,h2];cases b<;>rfl
    cases b with
    |true=>exact(Ai hT h hv).toS hd wt
    |false=>cases h;exact .skip hd wt
   .rename_i hl
    have wt: ∀ρ G ov (a:Act) w,bH GB C n lk bk ρ G ov a w->Region.wanted ⟨dst,op,ty,pos,af,some (j,b)⟩ (yielded ops a.tmps)=!b:=fun ρ G ov a w r=>by
     obtain⟨y,h1,h2⟩:=Bo r hj hdj hl
     cases h1
     simp only[Region.wanted,h2];cases b<;>rfl
    cases b with
    |true=>cases h;exact .skip hd wt
    |false=>exact(Ai hT h hv).toS hd wt
   .rename_i hl
    cases h
    refine .skip hd fun ρ G ov a w r=>?_;obtain⟨y,h1,h2⟩:=Bo r hj hdj hl
    cases h1
    simp only[Region.wanted,h2];rfl
end
inductive Kt where
 |sq (c:Code)
 |bl (id:Nat)
 |sc
 |ag (A:Act->World->Prop)
def cQ(rd:Option Nat)(P:Program)(Q0:Exit->Act->World->Prop):List Kt->Exit->Act->World->Prop
 |[]=>Q0
 | .sq y::K=>Exit.then (ij rd P y (cQ rd P Q0 K)) (cQ rd P Q0 K)
 | .bl id::K=>Exit.inBlock id (cQ rd P Q0 K)
 | .sc::K=>Exit.noGoto (cQ rd P Q0 K)
 | .ag A::K=>Exit.then A (cQ rd P Q0 K)
inductive Cf where
 |code (c:Code) (K:List Kt)
 |ops (ops:Array Oper) (r:List Oper) (K:List Kt)
 |dr (id:Nat) (ops:Array Oper) (fr0:aC) (own0:aH) (us:List Rc) (r:List Oper) (K:List Kt)
 |ex (e:Exit) (K:List Kt)
structure zy (P:Program) (GB:Gh) (C:aD) (n:Nat) (ops:Array Oper) (fr0:aC) (own0:aH) (us:List Rc) (r:List Oper) (fr:aC) (own:aH):Prop where
 pre: ∃pre,ops.toList=pre++r/\pre.length=us.length
 st:cp (fun _=>true) 0 (bh fr0,bp own0) us=(bh fr,bp own)
 snd: ∀i u o,us[i]? =some u->ops[i]? =some o->o.dst=u.d/\wg P GB C n ops (mF u.rs (cp (fun j=>decide (j<i)) 0 (bh fr0,bp own0) us).1) (mF u.rn (cp (fun j=>decide (j<i)) 0 (bh fr0,bp own0) us).2) o u.f u.bl u.nw
def aw(P:Program)(GB:Gh)(C:aD)(n:Nat)(Q0:Exit->Act->World->Prop)(fr:aC)(own:aH):Cf->Prop
 | .code c K=>SX GB C n (bh fr) (bp own) (ij C.rd P c (cQ C.rd P Q0 K))
 | .ops ops r K=>SX GB C n (bh fr) (bp own) (wpListIn (FW C.rd) 0 P ops (cQ C.rd P Q0 K) r)
 | .dr id ops fr0 own0 us r K=>zy P GB C n ops fr0 own0 us r fr own->SX GB C n (bh fr0) (bp own0) (ij C.rd P (.region id ops true) (cQ C.rd P Q0 K))
 | .ex e K=>SX GB C n (bh fr) (bp own) (cQ C.rd P Q0 K e)
structure Aa where
 vc:List Prop
 fr:aC
 own:aH
 cf:Cf
def acc(v:Option Prop)(l:List Prop):List Prop:=match v with
 |some p=>p::l
 |none=>l
def He(v:Option Prop)(l:List Prop)(k:List Prop->α):α:=match v with
 |some p=>k (p::l)
 |none=>k l
def S6{k:List Prop->α}:He v l k=k (acc v l):=by cases v<;>rfl
def xu(fr:aC)(dst:Option Nat)(f:FX)(k:aC->α):α:=match dst with
 |some d=>k ((d,f)::fr)
 |none=>k fr
def BD{fr:aC}{f:FX}{k:aC->α}:xu fr dst f k=k (Ea fr dst f):=by cases dst<;>rfl
def uN(nw:List Nat)(dst:Option Nat)(fr:aC)(own:aH):Bool:=nw.all fun nm=>fr.all (fun e=>zo dst e.1||!xj nm e.2)&&own.all fun e=>Nat.beq e.1 nm||!DZ nm e.2
def Ah:List Operand->List Nat
 |[]=>[]
 | .tmp t::r=>t::Ah r
 |_::r=>Ah r
def ED(fr:aC):List Nat->List Nat
 |[]=>[]
 |t::r=>match bh fr t with
  |some f=>match f.nm with
   |some nm=>nm::ED fr r
   |none=>ED fr r
  |none=>ED fr r
def Fd(o:Oper)(fr:aC)(rs:List Nat):List Nat:=match o.op with
 | .move _=>[]
 |_=>ED fr rs
def AV(ops:Array Oper)(o:Oper):List Nat:=match o.guard with
 |some (j,_)=>match ops[j]? with
  |some oj=>match oj.dst with
   |some d=>d::Ah o.op.operands.toList
   |none=>Ah o.op.operands.toList
  |none=>Ah o.op.operands.toList
 |none=>Ah o.op.operands.toList
def go(T:TT)(n:Nat):Nat->List Prop->aC->aH->Cf->Aa
 |0,l,fr,own,cf=>⟨l,fr,own,cf⟩
 |k+1,l,fr,own, .code c K=>match c with
  | .seq x y=>go T n k l fr own (.code x (.sq y::K))
  | .region id ops d=>bif d then go T n k l fr own (.dr id ops fr own [] ops.toList K) else go T n k l fr own (.ops ops ops.toList K)
  | .skip=>go T n k l fr own (.ex .normal K)
  | .ret=>go T n k l fr own (.ex .ret K)
  | .exit id=>go T n k l fr own (.ex (.exit id) K)
  | .block id c=>go T n k l fr own (.code c (.bl id::K))
  | .scope c=>go T n k l fr own (.code c (.sc::K))
  | .label _=>go T n k l fr own (.ex .normal K)
  | .cond c x y=>match bj (bh fr) c with
   |some .tt=>go T n k l fr own (.code x K)
   |some .ff=>go T n k l fr own (.code y K)
   |_=>⟨l,fr,own, .code (.cond c x y) K⟩
  |c=>⟨l,fr,own, .code c K⟩
 |k+1,l,fr,own, .ex e K=>match K with
  | .sq y::K'=>match e with
   | .normal=>go T n k l fr own (.code y K')
   |e=>go T n k l fr own (.ex e K')
  | .bl id::K'=>match e with
   | .exit j=>bif Nat.beq j id then go T n k l fr own (.ex .normal K') else go T n k l fr own (.ex (.exit j) K')
   |e=>go T n k l fr own (.ex e K')
  | .sc::K'=>bif Qx e then go T n k l fr own (.ex e K') else⟨l,fr,own, .ex e (.sc::K')⟩
  | .ag A::K'=>match e with
   | .normal=>⟨l,fr,own, .ex .normal (.ag A::K')⟩
   |e=>go T n k l fr own (.ex e K')
  |[]=>⟨l,fr,own, .ex e []⟩
 |k+1,l,fr,own, .ops ops r K=>match r with
  |[]=>go T n k l fr own (.ex .normal K)
  |o::r'=>match yc T n ops (bh fr) (bp own) o with
   |some ⟨v,f,bl,nw⟩=>bif uN nw o.dst fr own then so own bl fun own'=>He v l fun l'=>xu fr o.dst f fun fr'=>go T n k l' fr' own' (.ops ops r' K) else⟨l,fr,own, .ops ops (o::r') K⟩
   |none=>⟨l,fr,own, .ops ops (o::r') K⟩
 |k+1,l,fr,own, .dr id ops fr0 own0 us r K=>match r with
  |[]=>go T n k (((vU (qf ops.toList []) [] us&&oo 0 ops.toList&&En us fr0 own0)=true)::l) fr own (.ex .normal K)
  |o::r'=>lH (AV ops o) fun rs=>lH (Fd o fr rs) fun rn=>match yc T n ops (mF rs (bh fr)) (mF rn (bp own)) o with
   |some ⟨v,f,bl,nw⟩=>so own bl fun own'=>lH (us++[⟨rs,o.dst,f,rn,bl,nw⟩]) fun us'=>He v l fun l'=>xu fr o.dst f fun fr'=>go T n k l' fr' own' (.dr id ops fr0 own0 us' r' K)
   |none=>⟨l,fr,own, .dr id ops fr0 own0 us (o::r') K⟩
def aj:List Prop->Prop
 |[]=>True
 |[p]=>p
 |p::t=>aj t/\p
def OC{p:Prop}:aj (p::t)↔aj t/\p:=by cases t<;>simp[aj]
def N3(h:aj (acc v l)):aj l/\ ∀p,v=some p->p:=by
 cases v with
 |none=>exact⟨h,fun p e=>by cases e⟩
 |some q=>obtain⟨h1,h2⟩:=OC.1 h;exact⟨h1,fun p e=>by cases e;exact h2⟩
def J9{f:FX}{k:Nat}: ∀{fr:aC},bh fr k=some f->(k,f)∈fr
 |[],h=>by cases h
 |(j,g)::t,h=>by
  rw[kn] at h;split at h
  .cases h;rename_i e;rw[e];exact aQ
  .exact aJ _ (J9 h)
def FJ{B:Bk}{k:Nat}: ∀{own:aH},bp own k=some B->(k,some B)∈own
 |[],h=>by cases h
 |(j,g)::t,h=>by
  rw[jH] at h;split at h
  .rename_i e;rw[e,h];exact aQ
  .exact aJ _ (FJ h)
def Bh{nw:List Nat}{fr:aC}{own:aH}(h:uN nw dst fr own=true):lv nw dst (bh fr) (bp own):=fun nm hnm=>by
 have:=dK.1 h nm hnm;simp only[cZ] at this;refine⟨fun k f hk e hc=>?_,fun k B hk e hm=>?_⟩
 .have:=dK.1 this.1 _ (J9 e)
  simp only[iT,iM,xj] at this;rcases this with h|h
  .exact hk (Bt.1 h).symm
  .rw[Bt.2 hc] at h;cases h
 .have:=dK.1 this.2 _ (FJ e)
  simp only[iT,iM] at this;rcases this with h|h
  .exact hk (aN h)
  .rw[FH hm] at h;cases h
def L8{us:List Rc}{fr:aC}{own:aH}(h:En us fr own=true): ∀r∈us,∀nm∈r.nw,(∀k f,bh fr k=some f->f.nm≠some nm)/\ ∀k B,bp own k=some B-> ¬B.men nm:=fun r hr nm hnm=>by
 have:=dK.1 (dK.1 h r hr) nm hnm;simp only[cZ] at this;refine⟨fun k f e hc=>?_,fun k B e hm=>?_⟩
 .have:=dK.1 this.1 _ (J9 e)
  simp only[iM,xj] at this;rw[Bt.2 hc] at this;cases this
 .have:=dK.1 this.2 _ (FJ e)
  simp only[iM] at this;rw[FH hm] at this;cases this
section
variable {fr fr0:aC}{own own0:aH}{ops:Array Oper}{us:List Rc}{r:List Oper}{K:List Kt}
def D0{p q:Nat->Bool}{u:Rc}: ∀{us:List Rc} {k:Nat} {s:ST},(∀j,j<us.length->p (k+j)=q (k+j))->cp p k s (us++[u])=if p (k+us.length) then u.ap (cp q k s us) else cp q k s us
 |[],k,s,h=>rfl
 |x::t,k,s,h=>by
  simp only[iJ,cp];rw[D0 (q:=q) fun j hj=>by have:=h (j+1) (by simp;omega);rwa [show k+(j+1)=k+1+j by omega] at this];have h0:=h 0 (by simp);rw[fK] at h0;rw[h0,bJ,show k+1+t.length=k+(t.length+1) by omega]
def zy.push(D:zy P GB C n ops fr0 own0 us (o::r) fr own){rs rn nw:List Nat}{f:FX}{bl:List (Nat×Option Bk)}(h:wg P GB C n ops (mF rs (bh fr)) (mF rn (bp own)) o f bl nw):zy P GB C n ops fr0 own0 (us++[⟨rs,o.dst,f,rn,bl,nw⟩]) r (Ea fr o.dst f) (vG own bl):=by
 obtain⟨pre,hp,hl⟩:=D.pre;refine⟨⟨pre++[o],by rw[hp];simp,by simp[hl]⟩,?_,fun i u o' hu ho=>?_⟩
 .rw[D0 (q:=fun _=>true) fun _ _=>J,if_pos J,D.st]
  simp only[Rc.ap];rw[HB,Fh]
 .rw[List.getElem?_append] at hu
  split at hu
  .rename_i hi
   obtain⟨h1,h2⟩:=D.snd i u o' hu ho;rw[D0 (q:=fun j=>decide (j<i)) fun _ _=>J,if_neg (by simp;omega)];exact⟨h1,h2⟩
  .rename_i hi
   by_cases e:i=us.length
   .subst e
    simp at hu;subst hu;have ho':ops[us.length]? =some o:=by
     have:ops.toList[us.length]? =some o:=by rw[hp,<-hl];simp
     simpa using this
    rw[ho'] at ho;cases ho;refine⟨J,?_⟩;rw[D0 (q:=fun _=>true) fun j hj=>by simpa using hj,if_neg (by simp),D.st];exact h
   .rw[dY (by simp;omega)] at hu;cases hu
def zy.done(D:zy P GB C n ops fr0 own0 us [] fr own){id:Nat}(hm:P.follows .mixedOrders=true)(h:(vU (qf ops.toList []) [] us&&oo 0 ops.toList&&En us fr0 own0)=true)(hk:SX GB C n (bh fr) (bp own) (cQ C.rd P Q0 K .normal)):
  SX GB C n (bh fr0) (bp own0) (ij C.rd P (.region id ops true) (cQ C.rd P Q0 K)):=by
 obtain⟨pre,hp,hl⟩:=D.pre;simp only[cZ] at h;have D':j' P GB C n ops us (bh fr0,bp own0):=⟨by rw[<-hl,<-kL,hp];simp,D.snd,h.1.1,h.1.2,L8 h.2⟩;exact D'.region hm (by rw[D.st];exact hk)
def SX.op{f:FX}{bl:List (Nat×Option Bk)}{nw:List Nat}(h:wg P GB C n ops (bh fr) (bp own) o f bl nw)(hf:lv nw o.dst (bh fr) (bp own))(hk:SX GB C n (bh (Ea fr o.dst f)) (bp (vG own bl)) (wpListIn (FW C.rd) 0 P ops Q r)):SX GB C n (bh fr) (bp own) (wpListIn (FW C.rd) 0 P ops Q (o::r)):=by
 rw[HB,Fh] at hk;refine(h Q _ _ _ (kD.refl _) (kD.refl _) hf hk).imp fun a w q=>?_;unfold wO at q;simp only[wpListIn];split
 .rename_i hw;rw[if_pos hw] at q;exact q
 .rename_i hw;rw[if_neg hw] at q;exact⟨fun _ _=>trivial,q⟩
def SX.cond{lk:LK}{bk:BM}{Q:Exit->Act->World->Prop}{c:Operand}{x y:Code}{b:Bool}{f:FX}(hc:bj lk c=some f)(hb:uj f=some b)(h1:b=true->SX GB C n lk bk (ij C.rd P x Q))(h2:b=false->SX GB C n lk bk (ij C.rd P y Q)):SX GB C n lk bk (ij C.rd P (.cond c x y) Q):=by
 refine⟨fun ρ G ov a w r=>?_⟩;obtain⟨v,hv,hv'⟩:=r.ev hc;rw[wX hv' hb] at hv;exact Wd (bw (cC a) hv) (fun e=>(h1 e).run ρ G ov a w r) (fun e=>(h2 e).run ρ G ov a w r)
def jh(hT:m9 P T)(hm:P.follows .mixedOrders=true): ∀(k:Nat) (l:List Prop) (fr:aC) (own:aH) (cf:Cf),aj (go T n k l fr own cf).vc->aj l/\(aw P GB C n Q0 (go T n k l fr own cf).fr (go T n k l fr own cf).own (go T n k l fr own cf).cf->aw P GB C n Q0 fr own cf)
 |0,l,fr,own,cf,h=>by simp only[go] at h⊢;exact⟨h,id⟩
 |k+1,l,fr,own, .code c K,h=>by
  cases c with
  |seq x y=>simp only[go] at h⊢;obtain⟨h1,h2⟩:=jh hT hm k _ _ _ _ h;exact⟨h1,fun hk=>(h2 hk).imp fun a w q=>Yj q⟩
  |region id ops d=>
   simp only[go] at h⊢
   cases d with
   |false=>simp only[cond_false] at h⊢;obtain⟨h1,h2⟩:=jh hT hm k _ _ _ _ h;exact⟨h1,fun hk=>(h2 hk).imp fun a w q=>XV q⟩
   |true=>simp only[cond_true] at h⊢;obtain⟨h1,h2⟩:=jh hT hm k _ _ _ _ h;exact⟨h1,fun hk=>h2 hk ⟨⟨[],rfl,rfl⟩,rfl,fun i u o hu=>by simp at hu⟩⟩
  |skip=>simp only[go] at h⊢;obtain⟨h1,h2⟩:=jh hT hm k _ _ _ _ h;exact⟨h1,fun hk=>(h2 hk).imp fun a w q=>Ur q⟩
  |ret=>simp only[go] at h⊢;obtain⟨h1,h2⟩:=jh hT hm k _ _ _ _ h;exact⟨h1,fun hk=>(h2 hk).imp fun a w q=>aCn q⟩
  |exit id=>simp only[go] at h⊢;obtain⟨h1,h2⟩:=jh hT hm k _ _ _ _ h;exact⟨h1,fun hk=>(h2 hk).imp fun a w q=>azX q⟩
  |block id c=>simp only[go] at h⊢;obtain⟨h1,h2⟩:=jh hT hm k _ _ _ _ h;exact⟨h1,fun hk=>(h2 hk).imp fun a w q=>Yc q⟩
  |scope c=>simp only[go] at h⊢;obtain⟨h1,h2⟩:=jh hT hm k _ _ _ _ h;exact⟨h1,fun hk=>(h2 hk).imp fun a w q=>Zj q⟩
  |label j=>simp only[go] at h⊢;obtain⟨h1,h2⟩:=jh hT hm k _ _ _ _ h;exact⟨h1,fun hk=>(h2 hk).imp fun a w q=>V9 q⟩
  |cond c x y=>
   simp only[go] at h⊢
   cases hc:bj (bh fr) c with
   |none=>simp only[hc] at h⊢;exact⟨h,id⟩
   |some f=>
    cases f with
    |tt=>simp only[hc] at h⊢;obtain⟨h1,h2⟩:=jh hT hm k _ _ _ _ h;exact⟨h1,fun hk=>SX.cond hc rfl (fun _=>h2 hk) (fun e=>by cases e)⟩
    |ff=>simp only[hc] at h⊢;obtain⟨h1,h2⟩:=jh hT hm k _ _ _ _ h;exact⟨h1,fun hk=>SX.cond hc rfl (fun e=>by cases e) (fun _=>h2 hk)⟩
    |_=>simp only[hc] at h⊢;exact⟨h,id⟩
  |_=>simp only[go] at h⊢;exact⟨h,id⟩
 |k+1,l,fr,own, .ex e K,h=>by
  cases K with
  |nil=>simp only[go] at h⊢;exact⟨h,id⟩
  |cons x K=>
   cases x with
   |sq y=>cases e<;>(simp only[go] at h⊢;obtain⟨h1,h2⟩:=jh hT hm k _ _ _ _ h;exact⟨h1,fun hk=>h2 hk⟩)
   |bl id=>
    cases e with
    |exit j=>
     simp only[go] at h⊢
     cases hb:Nat.beq j id with
     |true=>
      simp only[hb,cond_true] at h⊢;obtain⟨h1,h2⟩:=jh hT hm k _ _ _ _ h;exact⟨h1,fun hk=>(h2 hk).imp fun a w q=>by simp only[cQ,Exit.inBlock,aN hb,if_true];exact q⟩
     |false=>
      have hne:j≠id:=fun e=>by subst e;simp at hb
      simp only[hb,cond_false] at h⊢;obtain⟨h1,h2⟩:=jh hT hm k _ _ _ _ h;exact⟨h1,fun hk=>(h2 hk).imp fun a w q=>by simp only[cQ,Exit.inBlock,hne,if_false];exact q⟩
    |_=>simp only[go] at h⊢;obtain⟨h1,h2⟩:=jh hT hm k _ _ _ _ h;exact⟨h1,fun hk=>h2 hk⟩
   |sc=>
    simp only[go] at h⊢
    cases hb:Qx e with
    |true=>
     simp only[hb,cond_true] at h⊢;obtain⟨h1,h2⟩:=jh hT hm k _ _ _ _ h;refine⟨h1,fun hk=>(h2 hk).imp fun a w q=>?_⟩
     cases e<;>first|exact q|cases hb
    |false=>simp only[hb,cond_false] at h⊢;exact⟨h,id⟩
   |ag A=>
    cases e with
    |normal=>simp only[go] at h⊢;exact⟨h,id⟩
    |_=>simp only[go] at h⊢;obtain⟨h1,h2⟩:=jh hT hm k _ _ _ _ h;exact⟨h1,fun hk=>h2 hk⟩
 |k+1,l,fr,own, .ops ops r K,h=>by
  cases r with
  |nil=>simp only[go] at h⊢;obtain⟨h1,h2⟩:=jh hT hm k _ _ _ _ h;exact⟨h1,fun hk=>h2 hk⟩
  |cons o r=>
   simp only[go] at h⊢
   cases hs:yc T n ops (bh fr) (bp own) o with
   |none=>simp only[hs] at h⊢;exact⟨h,id⟩
   |some x=>
    obtain⟨v,f,bl,nw⟩:=x;simp only[hs] at h⊢
    cases hf:uN nw o.dst fr own with
    |false=>simp only[hf,cond_false] at h⊢;exact⟨h,id⟩
    |true=>
     simp only[hf,cond_true] at h⊢;simp only[wn,S6,BD] at h⊢;obtain⟨h1,h2⟩:=jh hT hm k _ _ _ _ h;obtain⟨h3,h4⟩:=N3 h1;exact⟨h3,fun hk=>SX.op (P' hT hs h4).1 (Bh hf) (h2 hk)⟩
 |k+1,l,fr,own, .dr id ops fr0 own0 us r K,h=>by
  cases r with
  |nil=>
   simp only[go] at h⊢;obtain⟨h1,h2⟩:=jh hT hm k _ _ _ _ h;obtain⟨h3,h4⟩:=OC.1 h1;exact⟨h3,fun hk D=>D.done hm h4 (h2 hk)⟩
  |cons o r=>
   simp only[go,uk] at h⊢;generalize AV ops o=rs at h⊢;generalize Fd o fr rs=rn at h⊢
   cases hs:yc T n ops (mF rs (bh fr)) (mF rn (bp own)) o with
   |none=>simp only[hs] at h⊢;exact⟨h,fun x=>x⟩
   |some x=>
    obtain⟨v,f,bl,nw⟩:=x;simp only[hs] at h⊢;simp only[wn,S6,BD] at h⊢;obtain⟨h1,h2⟩:=jh hT hm k _ _ _ _ h;obtain⟨h3,h4⟩:=N3 h1;exact⟨h3,fun hk D=>h2 hk (D.push (P' hT hs h4).1)⟩
end
def tt:TT:=[
 (2,⟨.int .i64,1,some [.d (.v (.int .i64 0))],false⟩),
 (3,⟨.int .i64,1,some [.d (.v (.int .i64 0))],false⟩),
 (4,⟨.bl,1,some [.ff],false⟩),
 (5,⟨.int .u8,1,some [.d (.v (.int .u8 0))],false⟩),
 (9,⟨.sc,1,some [.d (.v (.string ⟨#[]⟩))],false⟩),
 (20,⟨.fc,1,some [.d (.v (.nilIface))],false⟩),
 (22,⟨.sl 3 1 8,1,some [.nl],false⟩),
 (23,⟨.pt,1,some [.d (.v (.pointer none))],false⟩),
 (25,⟨.sl 44 1 24,1,some [.nl],false⟩),
 (27,⟨.pt,1,some [.d (.v (.pointer none))],false⟩),
 (29,⟨.sl 268 1 4,1,some [.nl],false⟩),
 (30,⟨.sl 268 1 4,1,some [.nl],false⟩),
 (32,⟨.st [(0,4,1),(1,30,1)],2,some [.ff, .nl],true⟩),
 (34,⟨.st [(0,32,2),(2,30,1)],3,some [.ff, .nl, .nl],true⟩),
 (36,⟨.st [(0,34,3),(3,34,3)],6,some [.ff, .nl, .nl, .ff, .nl, .nl],true⟩),
 (38,⟨.sl 45 1 24,1,some [.nl],false⟩),
 (41,⟨.fc,1,some [.d (.v (.nilIface))],false⟩),
 (42,⟨.sl 52 6 112,1,some [.nl],false⟩),
 (44,⟨.sl 36 6 112,1,some [.nl],false⟩),
 (45,⟨.sl 52 6 112,1,some [.nl],false⟩),
 (46,⟨.sl 268 1 4,1,some [.nl],false⟩),
 (48,⟨.st [(0,4,1),(1,46,1)],2,some [.ff, .nl],true⟩),
 (50,⟨.st [(0,48,2),(2,46,1)],3,some [.ff, .nl, .nl],true⟩),
 (52,⟨.st [(0,50,3),(3,50,3)],6,some [.ff, .nl, .nl, .ff, .nl, .nl],true⟩),
 (69,⟨.sl 167 8 112,1,some [.nl],false⟩),
 (71,⟨.st [(0,3,1),(1,69,1)],2,some [.d (.v (.int .i64 0)), .nl],true⟩),
 (81,⟨.sl 85 6 96,1,some [.nl],false⟩),
 (85,⟨.st [(0,32,2),(2,32,2),(4,32,2)],6,some [.ff, .nl, .ff, .nl, .ff, .nl],true⟩),
 (89,⟨.sl 165 6 96,1,some [.nl],false⟩),
 (91,⟨.st [(0,89,1)],1,some [.nl],true⟩),
 (107,⟨.st [(0,22,1),(1,3,1)],2,some [.nl, .d (.v (.int .i64 0))],true⟩),
 (108,⟨.sl 81 1 24,1,some [.nl],false⟩),
 (115,⟨.sl 125 1 24,1,some [.nl],false⟩),
 (118,⟨.pt,1,some [.d (.v (.pointer none))],false⟩),
 (120,⟨.st [(0,2,1),(1,2,1),(2,118,1)],3,some [.d (.v (.int .i64 0)), .d (.v (.int .i64 0)), .d (.v (.pointer none))],true⟩),
 (122,⟨.st [(0,120,3),(3,120,3)],6,some [.d (.v (.int .i64 0)), .d (.v (.int .i64 0)), .d (.v (.pointer none)), .d (.v (.int .i64 0)), .d (.v (.int .i64 0)), .d (.v (.pointer none))],true⟩),
 (124,⟨.sl 122 6 48,1,some [.nl],false⟩),
 (125,⟨.sl 122 6 48,1,some [.nl],false⟩),
 (134,⟨.st [(0,25,1),(1,3,1),(2,81,1)],3,some [.nl, .d (.v (.int .i64 0)), .nl],true⟩),
 (155,⟨.st [(0,4,1),(1,4,1),(2,85,6),(8,27,1),(9,27,1)],10,some [.ff, .ff, .ff, .nl, .ff, .nl, .ff, .nl, .d (.v (.pointer none)), .d (.v (.pointer none))],true⟩),
 (165,⟨.st [(0,48,2),(2,48,2),(4,48,2)],6,some [.ff, .nl, .ff, .nl, .ff, .nl],true⟩),
 (167,⟨.st [(0,165,6),(6,3,1),(7,3,1)],8,some [.ff, .nl, .ff, .nl, .ff, .nl, .d (.v (.int .i64 0)), .d (.v (.int .i64 0))],true⟩),
 (171,⟨.pt,1,some [.d (.v (.pointer none))],false⟩),
 (179,⟨.st [(0,171,1),(1,171,1)],2,some [.d (.v (.pointer none)), .d (.v (.pointer none))],true⟩),
 (185,⟨.int .u64,1,some [.d (.v (.int .u64 0))],false⟩),
 (188,⟨.sl 291 9 72,1,some [.nl],false⟩),
 (193,⟨.sl 303 17 128,1,some [.nl],false⟩),
 (194,⟨.sl 303 17 128,1,some [.nl],false⟩),
 (201,⟨.st [(0,34,3),(3,34,3),(6,4,1),(7,4,1)],8,some [.ff, .nl, .nl, .ff, .nl, .nl, .ff, .ff],true⟩),
 (218,⟨.sl 221 2 32,1,some [.nl],false⟩),
 (221,⟨.st [(0,81,1),(1,4,1)],2,some [.nl, .ff],true⟩),
 (232,⟨.o,12,some [.d (.v (.int .i64 0)), .d (.v (.int .i64 0)), .d (.v (.pointer none)), .d (.v (.int .i64 0)), .d (.v (.int .i64 0)), .d (.v (.pointer none)), .d (.v (.int .i64 0)), .d (.v (.int .i64 0)), .d (.v (.pointer none)), .d (.v (.int .i64 0)), .d (.v (.int .i64 0)), .d (.v (.pointer none))],true⟩),
 (247,⟨.sl 252 14 216,1,some [.nl],false⟩),
 (252,⟨.st [(0,85,6),(6,201,8)],14,some [.ff, .nl, .ff, .nl, .ff, .nl, .ff, .nl, .nl, .ff, .nl, .nl, .ff, .ff],true⟩),
 (262,⟨.sl 41 1 16,1,some [.nl],false⟩),
 (268,⟨.int .u32,1,some [.d (.v (.int .u32 0))],false⟩),
 (269,⟨.int .u64,1,some [.d (.v (.int .u64 0))],false⟩),
 (272,⟨.sl 158 1 8,1,some [.nl],false⟩),
 (274,⟨.sl 171 1 8,1,some [.nl],false⟩),
 (275,⟨.sl 194 1 24,1,some [.nl],false⟩),
 (283,⟨.sl 4 1 1,1,some [.nl],false⟩),
 (285,⟨.pt,1,some [.d (.v (.pointer none))],false⟩),
 (287,⟨.st [(0,69,1),(1,283,1),(2,3,1),(3,4,1)],4,some [.nl, .nl, .d (.v (.int .i64 0)), .ff],true⟩),
 (291,⟨.st [(0,120,3),(3,120,3),(6,120,3)],9,some [.d (.v (.int .i64 0)), .d (.v (.int .i64 0)), .d (.v (.pointer none)), .d (.v (.int .i64 0)), .d (.v (.int .i64 0)), .d (.v (.pointer none)), .d (.v (.int .i64 0)), .d (.v (.int .i64 0)), .d (.v (.pointer none))],true⟩),
 (293,⟨.st [(0,291,9),(9,171,1),(10,171,1),(11,4,1)],12,some [.d (.v (.int .i64 0)), .d (.v (.int .i64 0)), .d (.v (.pointer none)), .d (.v (.int .i64 0)), .d (.v (.int .i64 0)), .d (.v (.pointer none)), .d (.v (.int .i64 0)), .d (.v (.int .i64 0)), .d (.v (.pointer none)), .d (.v (.pointer none)), .d (.v (.pointer none)), .ff],true⟩),
 (301,⟨.st [(0,120,3),(3,120,3),(6,4,1),(7,4,1)],8,some [.d (.v (.int .i64 0)), .d (.v (.int .i64 0)), .d (.v (.pointer none)), .d (.v (.int .i64 0)), .d (.v (.int .i64 0)), .d (.v (.pointer none)), .ff, .ff],true⟩),
 (303,⟨.st [(0,291,9),(9,301,8)],17,some [.d (.v (.int .i64 0)), .d (.v (.int .i64 0)), .d (.v (.pointer none)), .d (.v (.int .i64 0)), .d (.v (.int .i64 0)), .d (.v (.pointer none)), .d (.v (.int .i64 0)), .d (.v (.int .i64 0)), .d (.v (.pointer none)), .d (.v (.int .i64 0)), .d (.v (.int .i64 0)), .d (.v (.pointer none)), .d (.v (.int .i64 0)), .d (.v (.int .i64 0)), .d (.v (.pointer none)), .ff, .ff],true⟩),
 (319,⟨.sl 34 3 56,1,some [.nl],false⟩),
 (325,⟨.pt,1,some [.d (.v (.pointer none))],false⟩),
 (327,⟨.st [(0,41,1),(1,3,1),(2,3,1),(3,9,1)],4,some [.d (.v (.nilIface)), .d (.v (.int .i64 0)), .d (.v (.int .i64 0)), .d (.v (.string ⟨#[]⟩))],true⟩),
 (343,⟨.st [(0,48,2),(2,46,1)],3,some [.ff, .nl, .nl],true⟩),
 (364,⟨.sl 367 2 32,1,some [.nl],false⟩),
 (367,⟨.st [(0,194,1),(1,171,1)],2,some [.nl, .d (.v (.pointer none))],true⟩),
 (384,⟨.sl 120 3 24,1,some [.nl],false⟩),
 (404,⟨.o,2,some [.nl, .nl],true⟩),
 (405,⟨.sl 201 8 120,1,some [.nl],false⟩),
 (435,⟨.int .i64,1,some [.d (.v (.int .i64 0))],false⟩),
 (450,⟨.int .u64,1,some [.d (.v (.int .u64 0))],false⟩),
 (454,⟨.pt,1,some [.d (.v (.pointer none))],false⟩),
 (462,⟨.o,32,some [.d (.v (.int .u8 0)), .d (.v (.int .u8 0)), .d (.v (.int .u8 0)), .d (.v (.int .u8 0)), .d (.v (.int .u8 0)), .d (.v (.int .u8 0)), .d (.v (.int .u8 0)), .d (.v (.int .u8 0)), .d (.v (.int .u8 0)), .d (.v (.int .u8 0)), .d (.v (.int .u8 0)), .d (.v (.int .u8 0)), .d (.v (.int .u8 0)), .d (.v (.int .u8 0)), .d (.v (.int .u8 0)), .d (.v (.int .u8 0)), .d (.v (.int .u8 0)), .d (.v (.int .u8 0)), .d (.v (.int .u8 0)), .d (.v (.int .u8 0)), .d (.v (.int .u8 0)), .d (.v (.int .u8 0)), .d (.v (.int .u8 0)), .d (.v (.int .u8 0)), .d (.v (.int .u8 0)), .d (.v (.int .u8 0)), .d (.v (.int .u8 0)), .d (.v (.int .u8 0)), .d (.v (.int .u8 0)), .d (.v (.int .u8 0)), .d (.v (.int .u8 0)), .d (.v (.int .u8 0))],true⟩),
 (463,⟨.o,64,some [.d (.v (.int .u8 0)), .d (.v (.int .u8 0)), .d (.v (.int .u8 0)), .d (.v (.int .u8 0)), .d (.v (.int .u8 0)), .d (.v (.int .u8 0)), .d (.v (.int .u8 0)), .d (.v (.int .u8 0)), .d (.v (.int .u8 0)), .d (.v (.int .u8 0)), .d (.v (.int .u8 0)), .d (.v (.int .u8 0)), .d (.v (.int .u8 0)), .d (.v (.int .u8 0)), .d (.v (.int .u8 0)), .d (.v (.int .u8 0)), .d (.v (.int .u8 0)), .d (.v (.int .u8 0)), .d (.v (.int .u8 0)), .d (.v (.int .u8 0)), .d (.v (.int .u8 0)), .d (.v (.int .u8 0)), .d (.v (.int .u8 0)), .d (.v (.int .u8 0)), .d (.v (.int .u8 0)), .d (.v (.int .u8 0)), .d (.v (.int .u8 0)), .d (.v (.int .u8 0)), .d (.v (.int .u8 0)), .d (.v (.int .u8 0)), .d (.v (.int .u8 0)), .d (.v (.int .u8 0)), .d (.v (.int .u8 0)), .d (.v (.int .u8 0)), .d (.v (.int .u8 0)), .d (.v (.int .u8 0)), .d (.v (.int .u8 0)), .d (.v (.int .u8 0)), .d (.v (.int .u8 0)), .d (.v (.int .u8 0)), .d (.v (.int .u8 0)), .d (.v (.int .u8 0)), .d (.v (.int .u8 0)), .d (.v (.int .u8 0)), .d (.v (.int .u8 0)), .d (.v (.int .u8 0)), .d (.v (.int .u8 0)), .d (.v (.int .u8 0)), .d (.v (.int .u8 0)), .d (.v (.int .u8 0)), .d (.v (.int .u8 0)), .d (.v (.int .u8 0)), .d (.v (.int .u8 0)), .d (.v (.int .u8 0)), .d (.v (.int .u8 0)), .d (.v (.int .u8 0)), .d (.v (.int .u8 0)), .d (.v (.int .u8 0)), .d (.v (.int .u8 0)), .d (.v (.int .u8 0)), .d (.v (.int .u8 0)), .d (.v (.int .u8 0)), .d (.v (.int .u8 0)), .d (.v (.int .u8 0))],true⟩),
 (464,⟨.pt,1,some [.d (.v (.pointer none))],false⟩),
 (489,⟨.st [(0,9,1)],1,some [.d (.v (.string ⟨#[]⟩))],true⟩)]
def eE:m9 Go.Proofs.Tryz.prog tt:=m9.of (by kernel_rfl)
end Go.Sx
end
section
namespace Go.Sx
open Go Go.Proofs Tryz
variable {GB G:Gh}{fr fr' fr1 fr2:aC}{cf cf' cf1 cf2:Cf}{vc vc' vc1 vc2:List Prop}{o:Oper}{q m d:Nat}{ds:List DV}{ρ:NE}{a:Act}{f:FuncId}{fb:Func}{c fo:Operand}{rv r1 r2:DV}{p:Prop}{x y:Code}{b:Bool}{e:Exit}{lk:LK}{bk:BM}{args:Array Operand}
def rP:Nat->List DV->aC
 |_,[]=>[]
 |i,v::t=>(i, .d v)::rP (i+1) t
class Fu where n:Nat
instance fu0:Fu:=⟨400⟩
section
variable {C:aD}{n:Nat}{Q0:Exit->Act->World->Prop}{own own':aH}{ops:Array Oper}{r:List Oper}{K:List Kt}
def f7(h:go tt n q [] fr own cf=⟨vc,fr',own',cf'⟩)(hv:aj vc)(k:aw prog GB C n Q0 fr' own' cf'):aw prog GB C n Q0 fr own cf:=by
 have:=(jh (GB:=GB) (C:=C) (Q0:=Q0) eE follows q [] fr own cf (by rw[h];exact hv)).2;rw[h] at this;exact this k
def gx[fu:Fu](h:go tt n fu.n [] fr own cf=⟨vc,fr',own',cf'⟩)(k:aw prog GB C n Q0 fr' own' cf')(hv:aj vc:=by first|exact trivial|(simp only[aj];kernel_rfl)|(simp only[aj];omega)|(simp only[aj,aX,bY,aL];omega)):aw prog GB C n Q0 fr own cf:=f7 h hv k
def SB: ∀{ds:List DV} {vs:List Value} {ρ:NE} {G:Gh} (i:Nat),IsLs G ds vs-> ∀k f,bh (rP i ds) k=some f-> ∃y,(∃j,k=i+j/\vs[j]? =some y)/\bO ρ G f y
 |[],vs,ρ,G,i,h,k,f,e=>by cases e
 |d::t,vs,ρ,G,i,h,k,f,e=>by
  obtain⟨y,m,rfl,h1,h2⟩:=aI.1 h;simp only[rP] at e;rw[kn] at e;split at e
  .cases e;rename_i hk;exact⟨y,⟨0,hk,rfl⟩,h1⟩
  .obtain⟨u,⟨j,hj,hu⟩,h3⟩:=SB (i+1) h2 k f e
   exact⟨u,⟨j+1,by omega,by simpa using hu⟩,h3⟩
def An{vs:List Value}(h:IsLs G ds vs)(hf:mf (n8 0 vs) a)(k:Nat)(f:FX)(e:bh (rP 0 ds) k=some f): ∃y,a.tmps[k]? =some y/\bO ρ G f y:=by
 obtain⟨y,⟨j,hj,hy⟩,h1⟩:=SB (ρ:=ρ) 0 h k f e;refine⟨y,hf k y ?_,h1⟩;rw[hj];exact wN vs 0 j y hy
def fn[fu:Fu]{c:Code}(hf:prog.funcs[f]? =some fb)(hb:fb.body=some c)(hn:(fb.name== "runtime.NumGoroutine")=false)(hm:fb.ntmps=m)(hlen:Nat.ble ds.length m=true)
  (hgo:go tt m fu.n [] (rP 0 ds) [] (.code c [])=⟨vc,fr,own,cf⟩)(k: ∀C:aD,aw prog GB C m (fg C prog fb (mv C (fun v G'=>Is G' rv v))) fr own cf)
  (hv:aj vc:=by first|exact trivial|(simp only[aj];kernel_rfl)|(simp only[aj];omega)|(simp only[aj,aX,bY,aL];omega)):PF GB prog f ds rv:=by
 intro G vs hg hvs;refine Fn.introR hf hb hn hm (by rw[hvs.len];exact hlen) fun C _ _ hrd hfx=>?_;intro a w rl;refine vo hrd ?_;have h:=f7 (GB:=GB) (C:=C) (Q0:=fg C prog fb (mv C (fun v G'=>Is G' rv v))) hgo hv (k C);exact h.run (fun _=>⟨none,0,0⟩) G [] a w ⟨hg,rl.h,rl.sz,rl.df,(fun k f e=>An hvs rl.fr k f e),(fun nm B e=>by cases e),(fun nm nm' B B' e=>by cases e),fun nm p _ _ e=>by rw[hfx] at e;cases e⟩
def aw.cond{c:Operand}{x y:Code}{b:Bool}{f:FX}(hc:bj (bh fr) c=some f)(hb:uj f=some b)(h1:b=true->aw prog GB C n Q0 fr own (.code x K))(h2:b=false->aw prog GB C n Q0 fr own (.code y K)):aw prog GB C n Q0 fr own (.code (.cond c x y) K):=SX.cond hc hb h1 h2
variable {own1 own2:aH}
def br[fu1:Fu][fu2:Fu]{hp:Decidable p}(hc:bj (bh fr) c=some (.pr p hp))(g1:go tt n fu1.n [] fr own (.code x K)=⟨vc1,fr1,own1,cf1⟩)(g2:go tt n fu2.n [] fr own (.code y K)=⟨vc2,fr2,own2,cf2⟩)
  (k1:p->aw prog GB C n Q0 fr1 own1 cf1)(k2: ¬p->aw prog GB C n Q0 fr2 own2 cf2)
  (v1:p->aj vc1:=by intro;first|exact trivial|(simp only[aj];omega)|(simp only[aj,aX,bY,aL];omega))(v2: ¬p->aj vc2:=by intro;first|exact trivial|(simp only[aj];omega)|(simp only[aj,aX,bY,aL];omega)):aw prog GB C n Q0 fr own (.code (.cond c x y) K):=
 .cond hc J (fun h=>f7 g1 (v1 (of_decide_eq_true h)) (k1 (of_decide_eq_true h))) (fun h=>f7 g2 (v2 (of_decide_eq_false h)) (k2 (of_decide_eq_false h)))
def bd[fu1:Fu][fu2:Fu]{hp:Decidable p}(hc:bj (bh fr) c=some (.d (.v (.bool (@decide p hp)))))(g1:go tt n fu1.n [] fr own (.code x K)=⟨vc1,fr1,own1,cf1⟩)(g2:go tt n fu2.n [] fr own (.code y K)=⟨vc2,fr2,own2,cf2⟩)
  (k1:p->aw prog GB C n Q0 fr1 own1 cf1)(k2: ¬p->aw prog GB C n Q0 fr2 own2 cf2)
  (v1:p->aj vc1:=by intro;first|exact trivial|(simp only[aj];omega)|(simp only[aj,aX,bY,aL];omega))(v2: ¬p->aj vc2:=by intro;first|exact trivial|(simp only[aj];omega)|(simp only[aj,aX,bY,aL];omega)):aw prog GB C n Q0 fr own (.code (.cond c x y) K):=
 .cond hc J (fun h=>f7 g1 (v1 (of_decide_eq_true h)) (k1 (of_decide_eq_true h))) (fun h=>f7 g2 (v2 (of_decide_eq_false h)) (k2 (of_decide_eq_false h)))
def bb[fu1:Fu][fu2:Fu](hc:bj (bh fr) c=some (.d (.v (.bool b))))(g1:go tt n fu1.n [] fr own (.code x K)=⟨vc1,fr1,own1,cf1⟩)(g2:go tt n fu2.n [] fr own (.code y K)=⟨vc2,fr2,own2,cf2⟩)
  (k1:b=true->aw prog GB C n Q0 fr1 own1 cf1)(k2:b=false->aw prog GB C n Q0 fr2 own2 cf2)
  (v1:b=true->aj vc1:=by intro;first|exact trivial|(simp only[aj];omega)|(simp only[aj,aX,bY,aL];omega))(v2:b=false->aj vc2:=by intro;first|exact trivial|(simp only[aj];omega)|(simp only[aj,aX,bY,aL];omega)):aw prog GB C n Q0 fr own (.code (.cond c x y) K):=
 .cond hc J (fun h=>f7 g1 (v1 h) (k1 h)) (fun h=>f7 g2 (v2 h) (k2 h))
def qj{f g:FX}(hl:bh fr d=some f)(hi: ∀ρ G y,bO ρ G f y->bO ρ G g y){Φ:Act->World->Prop}(h:SX GB C n (bh ((d,g)::fr)) (bp own) Φ):SX GB C n (bh fr) (bp own) Φ:=by
 refine⟨fun ρ G ov a w r=>h.run ρ G ov a w ⟨r.gb,r.h,r.sz,r.df,fun k f' e=>?_,r.bx,r.dj,r.fxd⟩⟩;rw[kn] at e;split at e
 .cases e;rename_i hk;subst hk
  obtain⟨y,h1,h2⟩:=r.fx _ _ hl;exact⟨y,h1,hi _ _ _ h2⟩
 .exact r.fx k f' e
def ak(d:Nat){f:FX}(g:FX)(hl:bh fr d=some f)(e:f=g)(h:aw prog GB C n Q0 ((d,g)::fr) own cf):aw prog GB C n Q0 fr own cf:=by
 have hs:bh ((d,g)::fr)=bh fr:=by
  funext k;rw[kn];split
  .rename_i hk;rw[hk,hl,e]
  .rfl
 cases cf with
 |dr id ops fr0 own0 us r K=>exact fun D=>h ⟨D.pre,by rw[hs];exact D.st,D.snd⟩
 |_=>unfold aw at h⊢;rw[hs] at h;exact h
def kT(d:Nat){hp:Decidable p}(hl:bh fr d=some (.pr p hp))(h:p)(k:aw prog GB C n Q0 ((d, .tt)::fr) own (.ops ops r K)):aw prog GB C n Q0 fr own (.ops ops r K):=
 qj hl (fun _ _ _ e=>by rw[show _=_ from e,decide_eq_true h];exact J) k
def kF(d:Nat){hp:Decidable p}(hl:bh fr d=some (.pr p hp))(h: ¬p)(k:aw prog GB C n Q0 ((d, .ff)::fr) own (.ops ops r K)):aw prog GB C n Q0 fr own (.ops ops r K):=
 qj hl (fun _ _ _ e=>by rw[show _=_ from e,decide_eq_false h];exact J) k
def nlD(d:Nat)(hl:bh fr d=some .nl)(h:aw prog GB C n Q0 ((d, .d (.sl []))::fr) own (.ex e K)):aw prog GB C n Q0 fr own (.ex e K):=
 qj (g:= .d (.sl [])) hl (fun ρ G y hy=>(show Is G (.sl []) y from nq (ρ:=ρ) (f:= .nl) hy J)) h
def PF.to{P:Program}(h:PF GB P f ds r1)(e:r1=r2):PF GB P f ds r2:=e▸h
def cs[fu1:Fu][fu2:Fu](d:Nat){hp:Decidable p}(hl:bh fr d=some (.pr p hp))(g1:go tt n fu1.n [] ((d, .tt)::fr) own (.ops ops r K)=⟨vc1,fr1,own1,cf1⟩)(g2:go tt n fu2.n [] ((d, .ff)::fr) own (.ops ops r K)=⟨vc2,fr2,own2,cf2⟩)
  (k1:p->aw prog GB C n Q0 fr1 own1 cf1)(k2: ¬p->aw prog GB C n Q0 fr2 own2 cf2)
  (v1:p->aj vc1:=by intro;first|exact trivial|(simp only[aj];omega)|(simp only[aj,aX,bY,aL];omega))(v2: ¬p->aj vc2:=by intro;first|exact trivial|(simp only[aj];omega)|(simp only[aj,aX,bY,aL];omega)):aw prog GB C n Q0 fr own (.ops ops r K):=by
 by_cases h:p
 .exact qj hl (fun _ _ _ e=>by rw[show _=_ from e,decide_eq_true h];exact J) (f7 g1 (v1 h) (k1 h))
 .exact qj hl (fun _ _ _ e=>by rw[show _=_ from e,decide_eq_false h];exact J) (f7 g2 (v2 h) (k2 h))
def ja[fu1:Fu][fu2:Fu](d:Nat)(hl:bh fr d=some (.d (.v (.bool b))))(g1:go tt n fu1.n [] ((d, .tt)::fr) own (.ops ops r K)=⟨vc1,fr1,own1,cf1⟩)(g2:go tt n fu2.n [] ((d, .ff)::fr) own (.ops ops r K)=⟨vc2,fr2,own2,cf2⟩)
  (k1:b=true->aw prog GB C n Q0 fr1 own1 cf1)(k2:b=false->aw prog GB C n Q0 fr2 own2 cf2)
  (v1:b=true->aj vc1:=by intro;first|exact trivial|(simp only[aj];omega)|(simp only[aj,aX,bY,aL];omega))(v2:b=false->aj vc2:=by intro;first|exact trivial|(simp only[aj];omega)|(simp only[aj,aX,bY,aL];omega)):aw prog GB C n Q0 fr own (.ops ops r K):=by
 cases h:b with
 |true=>exact qj hl (fun _ G _ e=>by rw[(aB (G:=G)).1 e,h];exact J) (f7 g1 (v1 h) (k1 h))
 |false=>exact qj hl (fun _ G _ e=>by rw[(aB (G:=G)).1 e,h];exact J) (f7 g2 (v2 h) (k2 h))
def F4:Cf->Option (Array Oper×Oper)
 | .ops ops (o::_) _=>some (ops,o)
 | .dr _ ops _ _ _ (o::_) _=>some (ops,o)
 |_=>none
def b9(fr:aC):Cf->LK
 | .dr _ ops _ _ _ (o::_) _=>mF (AV ops o) (bh fr)
 |_=>bh fr
def jv(fr:aC)(own:aH):Cf->BM
 | .dr _ ops _ _ _ (o::_) _=>mF (Fd o fr (AV ops o)) (bp own)
 |_=>bp own
def bad:Aa:=⟨[False],[],[], .ex .normal []⟩
def cI(T:TT)(n q:Nat)(fr:aC)(own:aH)(cf:Cf)(f:FX)(bl:List (Nat×Option Bk))(nw:List Nat):Aa:=match cf with
 | .ops ops (o::r) K=>bif uN nw o.dst fr own&&b7 n o.dst then so own bl fun own'=>xu fr o.dst f fun fr'=>go T n q [] fr' own' (.ops ops r K) else bad
 | .dr id ops fr0 own0 us (o::r) K=>bif b7 n o.dst then lH (AV ops o) fun rs=>lH (Fd o fr rs) fun rn=>so own bl fun own'=>lH (us++[⟨rs,o.dst,f,rn,bl,nw⟩]) fun us'=>xu fr o.dst f fun fr'=>go T n q [] fr' own' (.dr id ops fr0 own0 us' r K) else bad
 |_=>bad
def wW(ops:Array Oper)(lk:LK):Option (Nat×Bool)->Bool
 |none=>true
 |some (j,b)=>match ops[j]? with
  |some oj=>match oj.dst with
   |some d=>match lk d with
    |some .tt=>b
    |some .ff=>!b
    |_=>false
   |none=>false
  |none=>false
def Dh(h:wW ops lk o.guard=true): ∀ρ G ov a w,bH GB C n lk bk ρ G ov a w->Region.wanted o (yielded ops a.tmps)=true:=fun ρ G ov a w r=>by
 unfold Region.wanted;unfold wW at h;split at h
 .rename_i e;rw[e]
 .rename_i j b e
  rw[e];split at h<;>try (cases h;done)
  rename_i oj hj;split at h<;>try (cases h;done)
  rename_i d hd;split at h<;>try (cases h;done)
  .rename_i hl
   obtain⟨y,h1,h2⟩:=Bo r hj hd hl
   cases h1;simp only[h2];subst h;rfl
  .rename_i hl
   obtain⟨y,h1,h2⟩:=Bo r hj hd hl
   cases h1;simp only[h2];cases b<;>first|rfl|(simp at h)
def uo{f:FX}{bl:List (Nat×Option Bk)}{nw:List Nat}(hh:F4 cf=some (ops,o))(hg:wW ops (b9 fr cf) o.guard=true)(h:bP prog GB C n (b9 fr cf) (jv fr own cf) o f bl nw)
  (hgo:cI tt n q fr own cf f bl nw=⟨vc,fr',own',cf'⟩)(hv:aj vc)(k:aw prog GB C n Q0 fr' own' cf'):aw prog GB C n Q0 fr own cf:=by
 obtain⟨dst,op,ty,pos,af,gd⟩:=o
 cases cf with
 |ops ops' r K=>
  cases r with
  |nil=>cases hh
  |cons o' r=>
   cases hh
   unfold cI at hgo
   cases hc:(uN nw dst fr own&&b7 n dst) with
   |false=>simp only[hc,cond_false,bad] at hgo;cases hgo;exact absurd hv (fun x=>x)
   |true=>
    simp only[hc,cond_true] at hgo;simp only[wn,BD] at hgo;simp only[cZ] at hc;exact SX.op (h.toS hc.2 (Dh hg)) (Bh hc.1) (f7 hgo hv k)
 |dr id ops' fr0 own0 us r K=>
  cases r with
  |nil=>cases hh
  |cons o' r=>
   cases hh
   unfold cI at hgo
   cases hc:b7 n dst with
   |false=>simp only[hc,cond_false,bad] at hgo;cases hgo;exact absurd hv (fun x=>x)
   |true=>
    simp only[hc,cond_true,uk] at hgo;simp only[wn,BD] at hgo;intro D;exact f7 hgo hv k (D.push (h.toS hc (Dh hg)))
 |_=>cases hh
def vj(lk:LK)(fo:Operand)(args:Array Operand):Option (FuncId×List DV):=match bj lk fo with
 |some (.d (.v (.func (.func f) ⟨[]⟩ ⟨[]⟩)))=>match evDs lk args.toList with
  |some ds=>some (f,ds)
  |none=>none
 |_=>none
def E3(h:vj lk fo args=some (f,ds)):bj lk fo=some (.d (.v (.func (.func f) #[] #[])))/\evDs lk args.toList=some ds:=by
 unfold vj at h;split at h<;>try (cases h;done)
 rename_i h1;split at h<;>cases h;rename_i h2;exact⟨h1,h2⟩
def Ow{tys:Array TypeId}{dst:Option Nat}{ty:TypeId}{pos:String}{af:Array Edge}{gd:Option (Nat×Bool)}(ha:vj lk fo args=some (f,ds))(hF:PF GB prog f ds rv):
  bP prog GB C n lk bk ⟨dst, .call ⟨.value fo,args,tys⟩,ty,pos,af,gd⟩ (.d rv) [] []:=by
 intro hd tl tb K' s1 s2 hf hk;refine⟨fun ρ G ov a w r Q=>?_⟩;obtain⟨h1,h2⟩:=E3 ha;obtain⟨y,hy,hy'⟩:=(r.mono s1 s2).ev h1;rw[(aB (G:=G)).1 hy'] at hy;obtain⟨vs,h3,h4⟩:=(r.mono s1 s2).evDs h2;refine zC hy h3 (hF G vs r.gb h4) hd (fun v G' hG hK a' w' rl=>?_) a w Q ⟨r.h,r.sz,cC a,r.df⟩;exact hk.run ρ G' ov a' w' ⟨r.gb.trans hG.le,rl.h,rl.sz,rl.df,(jG rl).fx (fun k g _ e=>by obtain⟨u,h5,h6⟩:=r.fx k g e;exact⟨u,h5,h6.up hG.le⟩) hK,
  fun nm B e=>by obtain⟨os,h5,h6⟩:=r.bx nm B e;exact⟨os,h5.up hG.le,h6⟩,r.dj,r.fxd⟩
def rG(T:TT)(fr:aC)(own:aH):List ResultVar->Option (List DV)
 |[]=>some []
 | .tmp t::rs=>match bh fr t with
  |some f=>match jO f with
   |some d=>match rG T fr own rs with
    |some l=>some (d::l)
    |none=>none
   |none=>none
  |none=>none
 | .cell a t::rs=>match bh fr a with
  |some (.ov nm 0)=>match d8 T t with
   |some i=>match bp own nm with
    |some (.o _ cs _)=>match i.ag with
     |some (some k)=>match takeX cs 0 k with
      |some c=>match jq c with
       |some d=>match rG T fr own rs with
        |some l=>some (.ag d::l)
        |none=>none
       |none=>none
      |none=>none
     |some none=>match cs[0]? with
      |some c=>match jO c with
       |some d=>match rG T fr own rs with
        |some l=>some (d::l)
        |none=>none
       |none=>none
      |none=>none
     |none=>none
    |_=>none
   |none=>none
  |_=>none
def DM{ov:List av}{w:World}(h:bH GB C n (bh fr) (bp own) ρ G ov a w): ∀{rs:List ResultVar} {ds:List DV},rG tt fr own rs=some ds-> ∃vs,kz prog (cx a) ov rs vs/\IsLs G ds vs:=by
 intro rs
 induction rs with
 |nil=>intro ds e;cases e;exact⟨[], .nil, .nil⟩
 |cons x rs ih=>
  intro ds e
  cases x with
  |tmp t=>
   simp only[rG] at e;split at e<;>try (cases e;done)
   rename_i f hf;split at e<;>try (cases e;done)
   rename_i d hd;split at e<;>cases e;rename_i l hl;obtain⟨vs,h1,h2⟩:=ih hl;obtain⟨y,h3,h4⟩:=h.fx t f hf;exact⟨y::vs, .tmp (E2 h3) h1, .cons (nq h4 hd) h2⟩
  |cell t ty=>
   simp only[rG] at e;split at e<;>try (cases e;done)
   rename_i nm hf;split at e<;>try (cases e;done)
   rename_i i hi;split at e<;>try (cases e;done)
   rename_i hb;obtain⟨y,h3,h4⟩:=h.fx t _ hf;obtain⟨b,m,rfl,h5,h6,h7⟩:=h.own h4 hb;have oat:i6 ov b m _ _:=⟨h7⟩;split at e<;>try (cases e;done)
   .rename_i k ha
    split at e<;>try (cases e;done)
    rename_i c hc;split at e<;>try (cases e;done)
    rename_i d hd;split at e<;>cases e;rename_i l hl;obtain⟨vs,h1,h2⟩:=ih hl;obtain⟨l',h8,h9⟩:=h6.takeX hc;exact⟨.agg ⟨l'⟩::vs, .agg (E2 h3) oat (y6 (eE _ _ hi) ha) h8 h1, .cons (d9.2 ⟨l',J,tf h9 hd⟩) h2⟩
   .rename_i ha
    split at e<;>try (cases e;done)
    rename_i c hc;split at e<;>try (cases e;done)
    rename_i d hd;split at e<;>cases e;rename_i l hl;obtain⟨vs,h1,h2⟩:=ih hl;obtain⟨l',h8,h9⟩:=h6.get hc;exact⟨l'::vs, .sc (E2 h3) oat (wI (eE _ _ hi) ha) h8 h1, .cons (nq h9 hd) h2⟩
def DQ:Exit->Bool
 | .ret=>true
 | .normal=>true
 |_=>false
def rz(hr:rG tt fr own fb.results.toList=some ds)(hd:fh ds=rv)(he:DQ e=true:=by rfl):aw prog GB C n (fg C prog fb (mv C (fun v G'=>Is G' rv v))) fr own (.ex e []):=by
 refine⟨fun ρ G ov a w r=>?_⟩;obtain⟨vs,h1,h2⟩:=DM r hr;have hk:Is G rv (gI vs):=hd▸Cx h2
 cases e with
 |ret=>exact zD (C:=C) (n:=n) (fr:=cx a) (own:=ov) (G:=G) (K:=fun v G'=>Is G' rv v) h1 hk a w ⟨r.h,r.sz,cC a,r.df⟩
 |normal=>exact Ov (C:=C) (n:=n) (fr:=cx a) (own:=ov) (G:=G) (K:=fun v G'=>Is G' rv v) h1 hk a w ⟨r.h,r.sz,cC a,r.df⟩
 |_=>cases he
end
end Go.Sx
end
section
namespace Go.Sx
open Go
variable {GB G:Gh}{n e s by_ cap2 i:Nat}{t t' ty' ty:TypeId}{ds:List DV}{ov B:List av}{w:SV}{es rest:List Value}{ad2:Option Addr}
section
variable {P:Program}{C:aD}{E:uU}{fr fr':nk}{own own':List lw}{bs bs' bs1:List jt}{ops:Array Oper}{Q:Exit->Act->World->Prop}{r:List Oper}{Φ:Act->World->Prop}
variable {dst:Option Nat}{pos:String}{af:Array Edge}{gd:Option (Nat×Bool)}{x y z:Operand}
abbrev SV.f (w:SV):FV:= .d (.v (.slice w.a w.n w.c))
def akF(z:Value)(k:Nat):aF (List.replicate k z)=de z k:=by unfold aF de;rw[List.map_replicate]
def Rw{G:Gh}{d:DV}{y:Value}(h:Is G d y): ∀k:Nat,IsLs G (List.replicate k d) (List.replicate k y)
 |0=> .nil
 |k+1=> .cons h (Rw h k)
def Lk(pre mid post vs:List Value)(h:vs.length=mid.length):cA (pre++(mid++post)) pre.length vs=pre++(vs++post):=by
 rw[q9 _ _ _ (by simp;omega)];simp[h]
def as1(z:Value)(k:Nat):de z (k+1)=aE z++de z k:=by simp[de,mN]
def DY(s:Nat)(ds:List DV):Bool:=ds.all fun d=>d.okc&&Nat.beq d.cells.length s
def KH(h:DY s ds=true):cP s ds:=fun d hd=>by
 have:=dK.1 h d hd;simp only[cZ] at this;exact⟨this.1,aN this.2⟩
def QT{cs:List Value}{off s:Nat}: ∀(es:List Value),(∀i (h:i<es.length),cw cs (off+i*s) s=some (aE es[i]))->off<=cs.length->cw cs off (es.length*s)=some (aF es)
 |[],_,ho=>by
  rw[l8 _ _ _ (by simpa using ho)];simp[aF]
 |v::t,h,ho=>by
  have h0:=h 0 (by simp);simp only[lJ,fK,pY] at h0;obtain⟨k1,k2⟩:=Co h0;have ih:=QT (off:=off+s) t (fun i hi=>by
   have:=h (i+1) (by simpa using hi);rw[gJ,show off+(i*s+s)=off+s+i*s by omega] at this;simpa using this) (by omega)
  obtain⟨k3,k4⟩:=Co ih;rw[l8 _ _ _ (by simp only[bJ,gJ];omega)];congr 1;have e1:aF (v::t)=aE v++aF t:=by simp[aF]
  rw[e1,k2,k4,bJ,gJ,kR (t.length*s) s,List.take_add,List.drop_drop]
def aEY(h:fw G s w es):nv P C ov G s w.n (.slice w.a w.n w.c) (aF es):=by
 rcases h.mem with he|⟨b,off,cs,ha,hg,hc⟩
 .subst he
  rw[h.len];exact vt
 .rw[ha]
  by_cases he:es=[]
  .subst he;rw[h.len];exact vt
  .have hp:0<es.length:=oS.2 he
   have h0:=hc 0 hp;have:=(Co h0).1;rw[h.len];exact OR hg (QT es hc (by omega))
def akR[hT:cv P t e s by_][hN:ke P t']{w:World}:(Builtin.append_ #[t,t'] ty' #[.slice none 0 0, .slice ad2 0 cap2]).run P w= .ok (.slice none 0 0) w:=by
 obtain⟨d,hd1⟩:=hN.un;obtain⟨i,hi,his,hib⟩:=hT.info;have h0:(Builtin.firstCells i.size 0 (.slice ad2 0 cap2)).run P w= .ok #[] w:=by
  cases ad2 with
  |none=>rfl
  |some a=>unfold Builtin.firstCells loadCells;simp[loadCellsFrom,run_pure]
 simp[Builtin.append_,run_underlying hT.un,run_underlying hd1,sizeOf,typeInfo,hi,Builtin.lenOf,h0]
def Oh[hT:cv P t e s by_][hN:ke P t']{fr:Fr}{own:List av}(hx:aA fr x=some (.slice none 0 0))(hy:aA fr y=some (.slice ad2 0 cap2))(hd:b7 n dst=true)
  (h:St C n (put fr dst (.slice none 0 0)) own G Φ):Ch P C n fr own G ⟨dst, .call ⟨.builtin .append, #[x,y], #[t,t']⟩,ty',pos,af,gd⟩ Φ:=by
 intro a w Q rl;refine mi (v:= .slice none 0 0) (w':=w) ?_ (h _ _ (rl.put _ hd));simp only[execOp,resolve,iY,bT,iZ,bw rl.fr hx,bw rl.fr hy];exact cE akR
def eh.upd{lo:Bool}(h:eh G ⟨w,s,ty,ds,lo⟩ B){d:DV}(hi:ds[i]? =some d):
  ∃b vs rest lo',w.a=some ⟨b,0,none⟩/\B=[⟨b,aF vs++rest,ty,lo'⟩]/\IsLs G ds vs/\(∀v∈vs,(aE v).length=s)/\i<vs.length/\
   ∀u d',Is G d' u->(aE u).length=s->eh G ⟨w,s,ty,ds.set i d',lo⟩ [⟨b,aF (vs.set i u)++rest,ty,lo'⟩]:=by
 obtain⟨vs,hB,hv,hs,hlo⟩:=h;obtain⟨v,h1,h2⟩:=hv.get hi;obtain⟨hi',_⟩:=aY.1 h1;rcases hB with⟨e,_,_⟩|⟨b,rest,lo',h3,h4,h5,h6,h7⟩
 .rw[e] at h1;simp at h1
 .refine⟨b,vs,rest,lo',by simp only[] at h3;rw[h3],h4,hv,hs,hi',fun u d' hu hul=>?_⟩
  have hall: ∀x∈vs.set i u,(aE x).length=s:=fun x hx=>by
   rcases List.mem_or_eq_of_mem_set hx with h'|rfl
   .exact hs x h'
   .exact hul
  refine⟨vs.set i u, .inr ⟨b,rest,lo',by simpa using h3,J,eG _ hall,?_,by simpa using h7⟩,hv.set i hu,hall,fun hl o ho=>?_⟩
  .rw[eG _ hall,bY,<-h5];exact h6
  .have:=hlo hl
   rw[h4] at this;rw[aS.1 ho];have h9:=this ⟨b,aF vs++rest,ty,lo'⟩ aQ;exact h9
def WR{u:Value}(vs:List Value)(i:Nat)(h:i<vs.length)(hs: ∀v∈vs,(aE v).length=s)(hu:(aE u).length=s):cA (aF vs++rest) (i*s) (aE u)=aF (vs.set i u)++rest:=by
 have hl:=eG vs hs;have hle:i*s+s<=vs.length*s:=by rw[<-gJ];exact bL _ h
 rw[q9 _ _ _ (by rw[hu,aU];omega),hu,gW (by omega),kN (by omega),H8 vs i hs (by omega),<-gJ,Eh vs (i+1) hs h,
  List.set_eq_take_append_cons_drop,if_pos h,show vs.take i++u::vs.drop (i+1)=vs.take i++([u]++vs.drop (i+1)) from J,qp,qp,wT]
 simp
end
end Go.Sx
end
