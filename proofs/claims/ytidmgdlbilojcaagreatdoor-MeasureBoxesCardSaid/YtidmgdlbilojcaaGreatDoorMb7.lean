import Derived.Test.YtidmgdlbilojcaaGreatDoorMb6
set_option linter.all false
set_option maxRecDepth 100000
section
namespace Go.Sx
open Go
def vo:List Nat->Nat->Bool
 |[],_=>false
 |x::t,k=>Nat.beq x k||vo t k
structure Rc where
 rs:List Nat
 d:Option Nat
 f:FX
 rn:List Nat
 bl:List (Nat×Option Bk)
 nw:List Nat
abbrev ST:=LK×BM
def Rc.ap(r:Rc)(s:ST):ST:=(ek s.1 r.d r.f,upB s.2 r.bl)
def cA(p:Nat->Bool):Nat->ST->List Rc->ST
 |_,s,[]=>s
 |k,s,r::t=>cA p (k+1) (if p k then r.ap s else s) t
def lH{α:Type}(l:List Nat)(g:Nat->Option α):Nat->Option α:=fun k=>bif vo l k then g k else none
def F2{nm:Nat}: ∀{bl:List (Nat×Option Bk)} {s s':BM},((∀e∈bl,e.1≠nm)->s nm=s' nm)->upB s bl nm=upB s' bl nm
 |[],s,s',h=>h (by simp)
 |(k,B)::t,s,s',h=>by
  simp only[upB];refine F2 fun ht=>?_;by_cases e:nm=k
  ·simp[e]
  ·simp only[e,if_false];exact h fun x hx=>(aW.1 hx).elim (fun c=>by rw[c];exact Ne.symm e) (ht x)
def Ec{nm:Nat}: ∀{bl:List (Nat×Option Bk)} {s:BM},(∀e∈bl,e.1≠nm)->upB s bl nm=s nm
 |[],s,h=>rfl
 |(k,B)::t,s,h=>by
  simp only[upB];rw[Ec fun e he=>h e (aJ _ he)];simp[Ne.symm (h _ aQ)]
def JJ{x:Nat}{d:Option Nat}{f:FX}{s:LK}(h:d≠some x):ek s d f x=s x:=by
 cases d with
 |none=>rfl
 |some d=>simp only[ek];rw[if_neg fun e=>h (by rw[e])]
def BY{x:Nat}{p q:Nat->Bool}: ∀{us:List Rc} {k:Nat} {s s':ST},s.1 x=s'.1 x->(∀j r,us[j]? =some r->r.d=some x->p (k+j)=q (k+j))->(cA p k s us).1 x=(cA q k s' us).1 x
 |[],k,s,s',h,_=>h
 |r::t,k,s,s',h,hp=>by
  simp only[cA];refine BY ?_ fun j u hj hd=>by have:=hp (j+1) u (by simpa using hj) hd;rwa [show k+(j+1)=k+1+j by omega] at this
  by_cases hd:r.d=some x
  ·have:=hp 0 r J hd
   rw[fQ] at this;rw[this];split
   ·simp only[Rc.ap,ek,hd,if_true]
   ·exact h
  ·have: ∀(b:Bool) (s:ST),(if b then r.ap s else s).1 x=s.1 x:=fun b s=>by cases b<;>simp[Rc.ap,JJ hd]
   rw[this,this,h]
def zj{nm:Nat}{p q:Nat->Bool}: ∀{us:List Rc} {k:Nat} {s s':ST},s.2 nm=s'.2 nm->(∀j r,us[j]? =some r->(∃e∈r.bl,e.1=nm)->p (k+j)=q (k+j))->(cA p k s us).2 nm=(cA q k s' us).2 nm
 |[],k,s,s',h,_=>h
 |r::t,k,s,s',h,hp=>by
  simp only[cA];refine zj ?_ fun j u hj hd=>by have:=hp (j+1) u (by simpa using hj) hd;rwa [show k+(j+1)=k+1+j by omega] at this
  by_cases hd: ∃e∈r.bl,e.1=nm
  ·have:=hp 0 r J hd
   rw[fQ] at this;rw[this];split
   ·exact F2 fun _=>h
   ·exact h
  ·have: ∀(b:Bool) (s:ST),(if b then r.ap s else s).2 nm=s.2 nm:=fun b s=>by
    cases b
    ·rfl
    ·exact Ec fun e he hc=>hd ⟨e,he,hc⟩
   rw[this,this,h]
def OO{x:Nat}{f:FX}{p:Nat->Bool}: ∀{us:List Rc} {k:Nat} {s:ST},(cA p k s us).1 x=some f->s.1 x=some f\/ ∃j r,us[j]? =some r/\p (k+j)=true/\r.d=some x/\r.f=f
 |[],k,s,h=> .inl h
 |r::t,k,s,h=>by
  simp only[cA] at h;rcases OO h with h|⟨j,u,h1,h2,h3⟩
  ·cases hp:p k with
   |false=>rw[hp] at h;exact .inl h
   |true=>
    rw[hp] at h;simp only[if_true,Rc.ap] at h;by_cases hd:r.d=some x
    ·rw[hd] at h;simp only[ek,if_true] at h;cases h;exact .inr ⟨0,r,J,by simpa using hp,hd,J⟩
    ·rw[JJ hd] at h;exact .inl h
  ·exact .inr ⟨j+1,u,by simpa using h1,by rw[show k+(j+1)=k+1+j by omega];exact h2,h3⟩
def Rh{nm:Nat}{B:Bk}: ∀{bl:List (Nat×Option Bk)} {s:BM},upB s bl nm=some B->s nm=some B\/(nm,some B)∈bl
 |[],s,h=> .inl h
 |(k,B')::t,s,h=>by
  simp only[upB] at h;rcases Rh h with h|h
  ·by_cases e:nm=k
   ·subst e;simp only[if_true] at h;subst h;exact .inr aQ
   ·simp only[e,if_false] at h;exact .inl h
  ·exact .inr (aJ _ h)
def OA{nm:Nat}{B:Bk}{p:Nat->Bool}: ∀{us:List Rc} {k:Nat} {s:ST},(cA p k s us).2 nm=some B->s.2 nm=some B\/ ∃j r,us[j]? =some r/\p (k+j)=true/\(nm,some B)∈r.bl
 |[],k,s,h=> .inl h
 |r::t,k,s,h=>by
  simp only[cA] at h;rcases OA h with h|⟨j,u,h1,h2,h3⟩
  ·cases hp:p k with
   |false=>rw[hp] at h;exact .inl h
   |true=>
    rw[hp] at h;rcases Rh h with h|h
    ·exact .inl h
    ·exact .inr ⟨0,r,J,by simpa using hp,h⟩
  ·exact .inr ⟨j+1,u,by simpa using h1,by rw[show k+(j+1)=k+1+j by omega];exact h2,h3⟩
def aJh(acc:List Nat)(l:List Edge):Nat:=l.foldl (fun s e=>if Region.binds .any e then(s ||| 2^e.on) ||| acc.getD e.on 0 else s) 0
def qb:List Oper->List Nat->List Nat
 |[],acc=>acc
 |o::r,acc=>qb r (acc++[aJh acc o.after.toList])
inductive Bf (ops:List Oper):Nat->Nat->Prop
 |b {i:Nat} {o:Oper} {e:Edge} (ho:ops[i]? =some o) (he:e∈o.after) (hb:Region.binds .any e=true):Bf ops i e.on
 |s {i j:Nat} {o:Oper} {e:Edge} (ho:ops[i]? =some o) (he:e∈o.after) (hb:Region.binds .any e=true) (h:Bf ops e.on j):Bf ops i j
def Td{acc:List Nat}{j:Nat}: ∀(l:List Edge) (s:Nat),(l.foldl (fun s e=>if Region.binds .any e then(s ||| 2^e.on) ||| acc.getD e.on 0 else s) s).testBit j=true->s.testBit j=true\/ ∃e∈l,Region.binds .any e=true/\(e.on=j\/(acc.getD e.on 0).testBit j=true)
 |[],s,h=> .inl h
 |e::t,s,h=>by
  rw[jZ] at h;rcases Td t _ h with h|⟨e',h1,h2⟩
  ·split at h
   ·rename_i hb
    simp only[Nat.testBit_or,iV,Nat.testBit_two_pow,decide_eq_true_eq] at h;rcases h with(h|h)|h
    ·exact .inl h
    ·exact .inr ⟨e,aQ,hb, .inl h⟩
    ·exact .inr ⟨e,aQ,hb, .inr h⟩
   ·exact .inl h
  ·exact .inr ⟨e',aJ _ h1,h2⟩
def JT{all:List Oper}: ∀(r:List Oper) (acc:List Nat) (pre:List Oper),all=pre++r->acc.length=pre.length->(∀i j,(acc.getD i 0).testBit j=true->Bf all i j)-> ∀i j,((qb r acc).getD i 0).testBit j=true->Bf all i j
 |[],acc,pre,_,_,h=>h
 |o::r,acc,pre,he,hl,h=>by
  refine JT r _ (pre++[o]) (by rw[he];simp) (by simp[hl]) fun i j hij=>?_;rw[aX,List.getElem?_append] at hij;split at hij
  ·rename_i hi
   exact h i j (by rw[aX];exact hij)
  ·rename_i hi
   by_cases e:i=acc.length
   ·subst e
    simp only[Nat.sub_self,List.getElem?_cons_zero,lX] at hij;have ho:all[acc.length]? =some o:=by rw[he,hl];simp
    rcases Td _ _ hij with h0|⟨e,h1,h2,h3⟩
    ·simp at h0
    ·rcases h3 with rfl|h3
     ·exact .b ho (by simpa using h1) h2
     ·exact .s ho (by simpa using h1) h2 (h _ _ h3)
   ·rw[cM (by simp;omega)] at hij
    simp at hij
def zo:Option Nat->Nat->Bool
 |some x,y=>Nat.beq x y
 |none,_=>false
def mE(a b:Rc):Bool:=(match a.d with|some x=>vo b.rs x||zo b.d x|none=>false)||a.bl.any fun e=>vo b.rn e.1||b.bl.any fun e'=>Nat.beq e'.1 e.1
def vP(nm:Nat)(f:FX):Bool:=zo f.nm nm
def Dt(nm:Nat):Option Bk->Bool
 |some (.o _ cs _)=>cs.any (vP nm)
 |_=>false
def pg(r:Rc)(nm:Nat):Bool:=vP nm r.f||r.bl.any fun e=>Dt nm e.2
def Dh(m:Nat)(r:Rc):Nat->List Rc->Bool
 |_,[]=>true
 |j,u::t=>(!(mE u r||mE r u||u.nw.any (pg r))||m.testBit j)&&!(r.nw.any (pg u))&&Dh m r (j+1) t
def vl:List Nat->List Rc->List Rc->Bool
 |m::ms,pre,r::t=>Dh m r 0 pre&&vl ms (pre++[r]) t
 |_,_,[]=>true
 |[],_,_::_=>false
def nC:Nat->List Oper->Bool
 |_,[]=>true
 |i,o::t=>o.after.all (fun e=>!Region.binds .any e||Nat.blt e.on i)&&nC (i+1) t
def FG(us:List Rc)(fr:List (Nat×FX))(own:List (Nat×Option Bk)):Bool:=us.all fun r=>r.nw.all fun nm=>fr.all (fun e=>!vP nm e.2)&&own.all fun e=>!Dt nm e.2
def Ld{m:Nat}{r:Rc}: ∀{l:List Rc} {k:Nat},Dh m r k l=true-> ∀j u,l[j]? =some u->((mE u r=true\/mE r u=true\/ ∃nm∈u.nw,pg r nm=true)->m.testBit (k+j)=true)/\ ∀nm∈r.nw,pg u nm=false
 |[],k,_,j,u,h=>by simp at h
 |x::t,k,h,j,u,hj=>by
  simp only[Dh,bL,iV,gV] at h;obtain⟨⟨h1,h2⟩,h3⟩:=h
  cases j with
  |zero=>
   simp at hj;subst hj;refine⟨fun hh=>?_,fun nm hn=>by have:=List.any_eq_false.1 h2 nm hn;simpa using this⟩;rcases h1 with h1|h1
   ·simp only[sT] at h1
    rcases hh with hh|hh|⟨nm,hn,hh⟩
    ·rw[h1.1.1] at hh;cases hh
    ·rw[h1.1.2] at hh;cases hh
    ·have:=List.any_eq_false.1 h1.2 nm hn;exact absurd hh this
   ·simpa using h1
  |succ j=>
   have:=Ld h3 j u (by simpa using hj);rwa [show k+(j+1)=k+1+j by omega]
def SM: ∀{ms:List Nat} {pre t:List Rc},vl ms pre t=true-> ∀i r,t[i]? =some r-> ∀j u,(pre++t)[j]? =some u->j<pre.length+i->((mE u r=true\/mE r u=true\/ ∃nm∈u.nw,pg r nm=true)->(ms.getD i 0).testBit j=true)/\ ∀nm∈r.nw,pg u nm=false
 |[],pre,[],_,i,r,h=>by simp at h
 |_::_,pre,[],_,i,r,h=>by simp at h
 |[],pre,_::_,h,i,r,_=>by simp[vl] at h
 |m::ms,pre,x::t,h,i,r,hi=>by
  simp only[vl,bL] at h;intro j u hj hlt
  cases i with
  |zero=>
   simp at hi;subst hi;rw[cN (by omega)] at hj;simpa using Ld h.1 j u hj
  |succ i=>
   have:=SM h.2 i r (by simpa using hi) j u (by simpa using hj) (by simp;omega);simpa using this
def sA: ∀{l:List Oper} {k:Nat},nC k l=true-> ∀i o,l[i]? =some o-> ∀e∈o.after,Region.binds .any e=true->e.on<k+i
 |[],k,_,i,o,h=>by simp at h
 |x::t,k,h,i,o,hi=>by
  simp only[nC,bL] at h;intro e he hb
  cases i with
  |zero=>
   simp at hi;subst hi;have:=Array.all_eq_true_iff_forall_mem.1 h.1 e he;simpa[hb] using this
  |succ i=>have:=sA h.2 i o (by simpa using hi) e he hb;omega
def wO(rd:Option Nat)(P:Program)(ops:Array Oper)(Q:Exit->Act->World->Prop)(o:Oper)(K:Act->World->Prop)(a:Act)(w:World):Prop:=
 if Region.wanted o (yielded ops a.tmps) then o.wpIn (FW rd) 0 P a w K Q else K (a.put o.dst undef) w
section
variable {P:Program} {GB:Gh} {C:aB} {n:Nat} {ops:Array Oper} {Q:Exit->Act->World->Prop}
def vb(P:Program)(GB:Gh)(C:aB)(n:Nat)(ops:Array Oper)(lk:LK)(bk:BM)(o:Oper)(f:FX)(bl:List (Nat×Option Bk))(nw:List Nat):Prop:=
 ∀(Q:Exit->Act->World->Prop) (tl:LK) (tb:BM) (K:Act->World->Prop),j0 lk tl->j0 bk tb->kr nw o.dst tl tb->SX GB C n (ek tl o.dst f) (upB tb bl) K->SX GB C n tl tb (wO C.rd P ops Q o K)
def SX.drew{lk:LK}{bk:BM}{Φ:Act->World->Prop}(h:SX GB C n lk bk Φ):SX GB C n lk bk (fun a w=>Φ a {w with drawn:=w.drawn+1}):=
 ⟨fun ρ G ov a w r=>h.run ρ G ov a _ ⟨r.gb,r.h.drew,r.sz,r.df,r.fx,r.bx,r.dj,r.fxd⟩⟩
structure jz (P:Program) (GB:Gh) (C:aB) (n:Nat) (ops:Array Oper) (us:List Rc) (s0:ST):Prop where
 len:us.length=ops.size
 snd: ∀i r o,us[i]? =some r->ops[i]? =some o->o.dst=r.d/\vb P GB C n ops (lH r.rs (cA (fun j=>decide (j<i)) 0 s0 us).1) (lH r.rn (cA (fun j=>decide (j<i)) 0 s0 us).2) o r.f r.bl r.nw
 all:vl (qb ops.toList []) [] us=true
 edge:nC 0 ops.toList=true
 fr0: ∀r∈us,∀nm∈r.nw,(∀k f,s0.1 k=some f->f.nm≠some nm)/\ ∀k B,s0.2 k=some B-> ¬B.men nm
def AZ{o:Option Nat}{k:Nat}:zo o k=true↔o=some k:=by cases o<;>simp[zo]
def Jk{B:Bk}{nm:Nat}(h:B.men nm):Dt nm (some B)=true:=by
 cases B with
 |o ty cs lo=>obtain⟨f,hf,e⟩:=h;exact jV.2 ⟨f,hf,AZ.2 e⟩
 |b=>cases h
 |c=>cases h
def dC(listed:Array Bool):Nat->Bool:=fun j=>listed.getD j false
def un(ops:Array Oper)(listed:Array Bool):Nat:=((List.range ops.size).filter fun j=>!listed.getD j true).length
def Q4{α:Type}{p q:α->Bool}{x:α}: ∀{l:List α},x∈l->(∀y,q y=true->p y=true)->p x=true->q x=false->(l.filter q).length<(l.filter p).length
 |[],h,_,_,_=>by cases h
 |y::t,h,hpq,h1,h2=>by
  have le: ∀l:List α,(l.filter q).length<=(l.filter p).length:=fun l=>by
   induction l with
   |nil=>exact aN _
   |cons z l ih=>
    simp only[qW]
    cases hq:q z with
    |true=>simp[hpq z hq];omega
    |false=>cases hp:p z<;>simp<;>omega
  rcases aW.1 h with rfl|h
  ·simp only[qW,h1,h2,if_true];have:=le t;simp;omega
  ·have ih:=Q4 h hpq h1 h2
   simp only[qW]
   cases hq:q y with
   |true=>simp[hpq y hq];omega
   |false=>cases hp:p y<;>simp<;>omega
def jz.walk{us:List Rc}{s0:ST}(D:jz P GB C n ops us s0)(hk:SX GB C n (cA (fun _=>true) 0 s0 us).1 (cA (fun _=>true) 0 s0 us).2 (Q .normal)):
  ∀(fuel:Nat) (listed:Array Bool),listed.size=ops.size->(∀i o,ops[i]? =some o->dC listed i=true-> ∀e∈o.after,Region.binds .any e=true->dC listed e.on=true)->un ops listed<=fuel->
   SX GB C n (cA (dC listed) 0 s0 us).1 (cA (dC listed) 0 s0 us).2 (wpAnyIn (FW C.rd) 0 P .any ops Q fuel listed):=by
 -- what comes before something listed is listed
 have clo: ∀listed:Array Bool,(∀i o,ops[i]? =some o->dC listed i=true-> ∀e∈o.after,Region.binds .any e=true->dC listed e.on=true)-> ∀i j,Bf ops.toList i j->dC listed i=true->dC listed j=true:=by
  intro listed hc i j hb
  induction hb with
  |b ho he hb=>intro hi;exact hc _ _ (by simpa using ho) hi _ he hb
  |s ho he hb _ ih=>intro hi;exact ih (hc _ _ (by simpa using ho) hi _ he hb)
 have bf: ∀i j,((qb ops.toList []).getD i 0).testBit j=true->Bf ops.toList i j:=JT ops.toList [] [] J J (fun i j h=>by simp at h);have spec: ∀i r,us[i]? =some r-> ∀j u,us[j]? =some u->j<i->((mE u r=true\/mE r u=true\/ ∃nm∈u.nw,pg r nm=true)->Bf ops.toList i j)/\ ∀nm∈r.nw,pg u nm=false:=fun i r hi j u hj hlt=>by
  have:=SM D.all i r hi j u (by simpa using hj) (by simpa using hlt);exact⟨fun h=>bf _ _ (this.1 h),this.2⟩
 have done: ∀listed:Array Bool,listed.size=ops.size->Region.ready .any ops listed=[]-> ∀i,i<ops.size->dC listed i=true:=by
  intro listed hsz hr i
  induction i using Nat.strongRecOn with
  |ind i ih=>
   intro hi
   cases hl:listed.getD i true with
   |true=>unfold dC;simp only[cZ] at hl⊢;rw[gK (by omega)] at hl⊢;simpa using hl
   |false=>
    have:i∈Region.ready .any ops listed:=mem_ready.2 ⟨hl,ops[i],gK hi,fun e he hb=>by
     have hlt:=sA D.edge i ops[i] (by simp[hi]) e he hb;exact ih e.on (by omega) (by omega)⟩
    rw[hr] at this;cases this
 have same: ∀listed:Array Bool,listed.size=ops.size->(∀i,i<ops.size->dC listed i=true)->(cA (dC listed) 0 s0 us).1=(cA (fun _=>true) 0 s0 us).1/\(cA (dC listed) 0 s0 us).2=(cA (fun _=>true) 0 s0 us).2:=by
  intro listed hsz h;refine⟨funext fun x=>BY J fun j r hj _=>?_,funext fun x=>zj J fun j r hj _=>?_⟩<;>
  ·rw[eK];exact h j (by have:=(aS.1 hj).1;rw[D.len] at this;exact this)
 intro fuel
 induction fuel with
 |zero=>
  intro listed hsz hc hu;have all: ∀i,i<ops.size->dC listed i=true:=fun i hi=>by
   cases hl:listed.getD i true with
   |true=>unfold dC;simp only[cZ] at hl⊢;rw[gK (by omega)] at hl⊢;simpa using hl
   |false=>
    have h0:=List.length_eq_zero_iff.1 (Nat.le_zero.1 hu);have:=List.filter_eq_nil_iff.1 h0 i (kJ.2 hi);simp[hl] at this
  obtain⟨e1,e2⟩:=same listed hsz all;rw[e1,e2];refine hk.imp fun a w h=>⟨?_,h⟩;refine List.eq_nil_iff_forall_not_mem.2 fun i hi=>?_;obtain⟨h1,o,ho,_⟩:=mem_ready.1 hi;have hlt:=(fS.1 ho).1;have h2:=all i hlt;unfold dC at h2;simp only[cZ] at h1 h2;rw[gK (by omega)] at h1 h2;simp at h1 h2;rw[h1] at h2;cases h2
 |succ fuel ih=>
  intro listed hsz hc hu;refine⟨fun ρ G ov a w r=>⟨fun hr=>?_,fun i hi=>?_⟩⟩
  ·obtain⟨e1,e2⟩:=same listed hsz (done listed hsz hr)
   rw[e1,e2] at r;exact hk.run ρ G ov a w r
  ·obtain⟨h1,o,ho,hall⟩:=mem_ready.1 hi
   have hlt:=(fS.1 ho).1;have hli:dC listed i=false:=by
    unfold dC;simp only[cZ] at h1⊢;rw[gK (by omega)] at h1⊢;simpa using h1
   obtain⟨u,hui⟩: ∃u,us[i]? =some u:=⟨us[i]'(by rw[D.len];exact hlt),aZ _⟩;obtain⟨hd,hop⟩:=D.snd i u o hui ho;have bl: ∀j,Bf ops.toList i j->dC listed j=true:=fun j hb=>by
    cases hb with
    |b ho' he hb=>rw[pR,ho] at ho';cases ho';exact hall _ he hb
    |s ho' he hb h=>rw[pR,ho] at ho';cases ho';exact clo listed hc _ _ h (hall _ he hb)
   have nb: ∀j r,us[j]? =some r->(mE r u=true\/mE u r=true)->decide (j<i)=dC listed j:=fun j r hj hh=>by
    rcases pS j i with h|h|h
    ·rw[bl j ((spec i u hui j r hj h).1 (hh.imp id .inl))];simpa using h
    ·subst h;rw[hli];simp
    ·cases hl:dC listed j with
     |false=>simp;omega
     |true=>have:=clo listed hc j i ((spec j r hj i u hui h).1 (hh.symm.imp id .inl)) hl;rw[hli] at this;cases this
   have sz':(listed.setIfInBounds i true).size=ops.size:=by simpa using hsz
   have l': ∀j,j≠i->dC (listed.setIfInBounds i true) j=dC listed j:=fun j hj=>by unfold dC;rw[getD_set_ne false (Ne.symm hj)]
   have li':dC (listed.setIfInBounds i true) i=true:=by unfold dC;simp[hsz,hlt]
   have hc': ∀j o',ops[j]? =some o'->dC (listed.setIfInBounds i true) j=true-> ∀e∈o'.after,Region.binds .any e=true->dC (listed.setIfInBounds i true) e.on=true:=fun j o' hj hlj e he hb=>by
    by_cases hji:j=i
    ·subst hji;rw[ho] at hj;cases hj
     exact getD_set_true (hall e he hb)
    ·rw[l' j hji] at hlj
     exact getD_set_true (hc j o' hj hlj e he hb)
   have hu':un ops (listed.setIfInBounds i true)<=fuel:=by
    have:un ops (listed.setIfInBounds i true)<un ops listed:=by
     refine Q4 (x:=i) (kJ.2 hlt) (fun y hy=>?_) (by simp[h1]) (by simp[hsz,hlt]);by_cases hyi:y=i
     ·subst hyi;simp[hsz,hlt] at hy
     ·rwa [getD_set_ne true (Ne.symm hyi)] at hy
    omega
   have next:=ih _ sz' hc' hu'
   have e1:(cA (dC (listed.setIfInBounds i true)) 0 s0 us).1=ek (cA (dC listed) 0 s0 us).1 o.dst u.f:=by
    funext x;rw[hd];by_cases hx:u.d=some x
    ·-- i is the last to write x
     have key: ∀(us':List Rc) (k:Nat) (s:ST) (p:Nat->Bool) (m:Nat),us'[m]? =some u->p (k+m)=true->(∀j r,us'[j]? =some r->r.d=some x->j≠m->j<m\/p (k+j)=false)->(cA p k s us').1 x=some u.f:=by
      intro us'
      induction us' with
      |nil=>intro k s p m h;simp at h
      |cons r t iht=>
       intro k s p m h hp hj;simp only[cA]
       cases m with
       |zero=>
        simp at h;subst h;rw[fQ] at hp;rw[hp];have:(cA p (k+1) (r.ap s) t).1 x=(cA (fun _=>false) (k+1) (r.ap s) t).1 x:=BY J fun j r' hj' hd'=>by
         have:=hj (j+1) r' (by simpa using hj') hd' (by omega);rw[show k+(j+1)=k+1+j by omega] at this;exact this.resolve_left (by omega)
        simp only[if_true,this];have nosel: ∀(l:List Rc) (k:Nat) (s:ST),cA (fun _=>false) k s l=s:=fun l=>by
         induction l with
         |nil=>intro k s;rfl
         |cons y l ih=>intro k s;exact ih _ _
        rw[nosel];simp[Rc.ap,ek,hx]
       |succ m=>
        refine iht _ _ p m (by simpa using h) (by rw[show k+1+m=k+(m+1) by omega];exact hp) fun j r' hj' hd' hne=>?_;have:=hj (j+1) r' (by simpa using hj') hd' (by omega);rw[show k+1+j=k+(j+1) by omega];exact this.imp (fun h=>by omega) id
     rw[key us 0 s0 _ i hui (by rw[eK];exact li') fun j r hj hdr hne=>?_]
     ·rw[hx];simp[ek]
     ·rw[eK,l' j hne]
      have:=nb j r hj (.inl (by simp[mE,hdr,hx,zo]));rw[<-this];by_cases hji:j<i
      ·exact .inl hji
      ·exact .inr (by simpa using hji)
    ·rw[JJ hx]
     refine BY J fun j r hj hdr=>?_;rw[eK];exact l' j fun e=>by subst e;rw[hui] at hj;cases hj;exact hx hdr
   have e2:(cA (dC (listed.setIfInBounds i true)) 0 s0 us).2=upB (cA (dC listed) 0 s0 us).2 u.bl:=by
    funext x;by_cases hx: ∃e∈u.bl,e.1=x
    ·have key: ∀(us':List Rc) (k:Nat) (s s':ST) (p q:Nat->Bool) (m:Nat),us'[m]? =some u->p (k+m)=true->(∀j r,us'[j]? =some r->(∃e∈r.bl,e.1=x)->j≠m->q (k+j)=p (k+j)/\(j<m\/p (k+j)=false))->q (k+m)=false->s.2 x=s'.2 x->(cA p k s us').2 x=upB (cA q k s' us').2 u.bl x:=by
      intro us'
      induction us' with
      |nil=>intro k s s' p q m h;simp at h
      |cons r t iht=>
       intro k s s' p q m h hp hj hq hs;simp only[cA]
       cases m with
       |zero=>
        simp at h;subst h;rw[fQ] at hp hq;rw[hp,hq];have nosel: ∀(l:List Rc) (k:Nat) (s:ST),cA (fun _=>false) k s l=s:=fun l=>by
         induction l with
         |nil=>intro k s;rfl
         |cons y l ih=>intro k s;exact ih _ _
        have a1:(cA p (k+1) (r.ap s) t).2 x=(cA (fun _=>false) (k+1) (r.ap s) t).2 x:=zj J fun j r' hj' hd'=>by
         have:=(hj (j+1) r' (by simpa using hj') hd' (by omega)).2;rw[show k+(j+1)=k+1+j by omega] at this;exact this.resolve_left (by omega)
        have a2:(cA q (k+1) s' t).2 x=(cA (fun _=>false) (k+1) s' t).2 x:=zj J fun j r' hj' hd'=>by
         obtain⟨h3,h4⟩:=hj (j+1) r' (by simpa using hj') hd' (by omega);rw[show k+(j+1)=k+1+j by omega] at h3 h4;rw[h3];exact h4.resolve_left (by omega)
        simp only[if_true,jT,if_false,a1,nosel];exact F2 fun _=>by rw[a2,nosel];exact hs
       |succ m=>
        refine iht _ _ _ p q m (by simpa using h) (by rw[show k+1+m=k+(m+1) by omega];exact hp) (fun j r' hj' hd' hne=>?_) (by rw[show k+1+m=k+(m+1) by omega];exact hq) ?_
        ·obtain⟨h3,h4⟩:=hj (j+1) r' (by simpa using hj') hd' (by omega)
         rw[show k+1+j=k+(j+1) by omega];exact⟨h3,h4.imp (fun h=>by omega) id⟩
        ·by_cases hr: ∃e∈r.bl,e.1=x
         ·have:=(hj 0 r J hr (by omega)).1
          rw[fQ] at this;rw[this]
          cases p k
          ·exact hs
          ·exact F2 fun _=>hs
         ·have: ∀(b:Bool) (s:ST),(if b then r.ap s else s).2 x=s.2 x:=fun b s=>by
           cases b
           ·rfl
           ·exact Ec fun e he hc=>hr ⟨e,he,hc⟩
          rw[this,this];exact hs
     refine key us 0 s0 s0 _ _ i hui (by rw[eK];exact li') (fun j r hj hdr hne=>?_) (by rw[eK];exact hli) J;rw[eK];refine⟨(l' j hne).symm,?_⟩;rw[l' j hne];obtain⟨e,he,rfl⟩:=hx;obtain⟨e',he',hee⟩:=hdr;have hh:mE u r=true:=by
      unfold mE;rw[iV];exact .inr (jV.2 ⟨e,he,by rw[iV];exact .inr (jV.2 ⟨e',he',by simpa using hee⟩)⟩)
     rw[<-nb j r hj (.inr hh)];by_cases hji:j<i
     ·exact .inl hji
     ·exact .inr (by simpa using hji)
    ·rw[Ec fun e he hc=>hx ⟨e,he,hc⟩]
     refine zj J fun j r hj hdr=>?_;rw[eK];exact l' j fun e=>by subst e;rw[hui] at hj;cases hj;exact hx hdr
   rw[e1,e2] at next
   have sub1:j0 (lH u.rs (cA (fun j=>decide (j<i)) 0 s0 us).1) (cA (dC listed) 0 s0 us).1:=fun x f hx=>by
    unfold lH at hx
    cases hm:vo u.rs x with
    |false=>rw[hm] at hx;cases hx
    |true=>
     rw[hm,cond_true] at hx;rw[<-hx];refine(BY J fun j r hj hdr=>?_).symm;rw[eK];exact nb j r hj (.inl (by simp[mE,hdr,hm]))
   have DL:j0 (lH u.rn (cA (fun j=>decide (j<i)) 0 s0 us).2) (cA (dC listed) 0 s0 us).2:=fun x B hx=>by
    unfold lH at hx
    cases hm:vo u.rn x with
    |false=>rw[hm] at hx;cases hx
    |true=>
     rw[hm,cond_true] at hx;rw[<-hx];refine(zj J fun j r hj hdr=>?_).symm;rw[eK];obtain⟨e,he,rfl⟩:=hdr;refine nb j r hj (.inl ?_);unfold mE;rw[iV];exact .inr (jV.2 ⟨e,he,by rw[hm];rfl⟩)
   have fr:kr u.nw o.dst (cA (dC listed) 0 s0 us).1 (cA (dC listed) 0 s0 us).2:=fun nm hnm=>by
    obtain⟨g1,g2⟩:=D.fr0 u (aT hui) nm hnm;have men: ∀j r,us[j]? =some r->dC listed j=true->pg r nm=false:=fun j r hj hlj=>by
     rcases pS j i with h|h|h
     ·exact(spec i u hui j r hj h).2 nm hnm
     ·subst h;rw[hli] at hlj;cases hlj
     ·cases hm:pg r nm with
      |false=>rfl
      |true=>have:=clo listed hc j i ((spec j r hj i u hui h).1 (.inr (.inr ⟨nm,hnm,hm⟩))) hlj;rw[hli] at this;cases this
    refine⟨fun k f hk e=>?_,fun k B hk e hm=>?_⟩
    ·intro hc'
     rcases OO e with h|⟨j,r,h1,h2,h3,h4⟩
     ·exact g1 k f h hc'
     ·have:=men j r h1 (by simpa using h2)
      simp only[pg,sT,vP] at this;rw[h4,AZ.2 hc'] at this
      cases this.1
    ·rcases OA e with h|⟨j,r,h1,h2,h3⟩
     ·exact g2 k B h hm
     ·have:=men j r h1 (by simpa using h2)
      simp only[pg,sT] at this;have:=List.any_eq_false.1 this.2 _ h3;exact this (Jk hm)
   have fin:=hop Q _ _ _ sub1 DL fr next
   have:=fin.run ρ G ov a w r;unfold wO at this;unfold wpOpIn;rw[ho];simp only;split
   ·rename_i hw;rw[if_pos hw] at this;exact this
   ·rename_i hw;rw[if_neg hw] at this;exact⟨fun _ _=>trivial,this⟩
def Ek(m k:Nat):dC (Array.replicate m false) k=false:=by unfold dC;simp[qR];split<;>rfl
def jz.region{us:List Rc}{s0:ST}{id:Nat}(D:jz P GB C n ops us s0)(hm:P.follows .mixedOrders=true)(hk:SX GB C n (cA (fun _=>true) 0 s0 us).1 (cA (fun _=>true) 0 s0 us).2 (Q .normal)):SX GB C n s0.1 s0.2 (gF C.rd P (.region id ops true) Q):=by
 have h:=D.walk hk ops.size (Array.replicate ops.size false) (by simp) (fun i o _ hi=>by rw[Ek] at hi;cases hi) (by unfold un;exact cR (lL _ _) (by simp));have e:cA (dC (Array.replicate ops.size false)) 0 s0 us=s0:=by
  have: ∀(l:List Rc) (k:Nat) (s:ST),cA (dC (Array.replicate ops.size false)) k s l=s:=fun l=>by
   induction l with
   |nil=>intro k s;rfl
   |cons y l ih=>
    intro k s;simp only[cA];rw[ih];rw[Ek];rfl
  exact this us 0 s0
 rw[e] at h;exact h.drew.imp fun a w k=>wpIn_region_any hm k
end
abbrev az:=List (Nat×FX)
abbrev aC:=List (Nat×Option Bk)
def aH:az->Nat->Option FX
 |[],_=>none
 |(k,v)::t,j=>bif Nat.beq k j then some v else aH t j
def aP:aC->Nat->Option Bk
 |[],_=>none
 |(k,v)::t,j=>bif Nat.beq k j then v else aP t j
def ux{α:Type}:aC->Nat->Option Bk->(aC->α)->α
 |[],nm,B,k=>k [(nm,B)]
 |(j,v)::t,nm,B,k=>bif Nat.beq j nm then k ((nm,B)::t) else ux t nm B fun t'=>k ((j,v)::t')
def rj{α:Type}:aC->List (Nat×Option Bk)->(aC->α)->α
 |own,[],k=>k own
 |own,(nm,B)::t,k=>ux own nm B fun own'=>rj own' t k
def mh(own:aC)(nm:Nat)(B:Option Bk):aC:=ux own nm B id
def uK(own:aC)(l:List (Nat×Option Bk)):aC:=rj own l id
def xo{α:Type}{nm:Nat}{B:Option Bk}: ∀{own:aC} {k:aC->α},ux own nm B k=k (mh own nm B)
 |[],k=>rfl
 |(j,v)::t,k=>by
  unfold mh ux
  cases Nat.beq j nm with
  |true=>rfl
  |false=>rw[cond_false,cond_false,xo (own:=t),xo (own:=t)];rfl
def wh{α:Type}: ∀{l:List (Nat×Option Bk)} {own:aC} {k:aC->α},rj own l k=k (uK own l)
 |[],own,k=>rfl
 |(nm,B)::t,own,k=>by
  unfold uK rj;rw[xo,xo,wh (l:=t),wh (l:=t)];rfl
def kl(k:Nat)(v:FX)(t:az)(j:Nat):aH ((k,v)::t) j=if j=k then some v else aH t j:=by
 simp only[aH];by_cases h:k=j
 ·simp[h]
 ·have:Nat.beq k j=false:=by
   cases hb:Nat.beq k j with
   |false=>rfl
   |true=>exact absurd (aR hb) h
  simp[this,Ne.symm h]
def jA(k:Nat)(v:Option Bk)(t:aC)(j:Nat):aP ((k,v)::t) j=if j=k then v else aP t j:=by
 simp only[aP];by_cases h:k=j
 ·simp[h]
 ·have:Nat.beq k j=false:=by
   cases hb:Nat.beq k j with
   |false=>rfl
   |true=>exact absurd (aR hb) h
  simp[this,Ne.symm h]
def vX{nm:Nat}{B:Option Bk}(j:Nat): ∀own:aC,aP (mh own nm B) j=if j=nm then B else aP own j
 |[]=>jA nm B [] j
 |(k,v)::t=>by
  have ih:=vX (nm:=nm) (B:=B) j t;unfold mh ux
  cases hb:Nat.beq k nm with
  |true=>
   have e:=aR hb;subst e;rw[cond_true,id,jA,jA];by_cases h:j=k<;>simp[h]
  |false=>
   have hne:k≠nm:=fun e=>by subst e;simp at hb
   rw[cond_false,xo,id,jA,jA,ih];by_cases h:j=k
   ·subst h;simp[hne]
   ·simp[h]
def DC: ∀(l:List (Nat×Option Bk)) (own:aC),aP (uK own l)=upB (aP own) l
 |[],own=>rfl
 |(nm,B)::t,own=>by
  have:uK own ((nm,B)::t)=uK (mh own nm B) t:=by rw[uK,rj,xo];rfl
  rw[this,DC t];simp only[upB];congr 1;funext j;exact vX j own
def D6(fr:az)(dst:Option Nat)(f:FX):az:=match dst with
 |some d=>(d,f)::fr
 |none=>fr
def Ix{fr:az}{dst:Option Nat}{f:FX}:aH (D6 fr dst f)=ek (aH fr) dst f:=by
 cases dst with
 |none=>rfl
 |some d=>funext j;exact kl d f fr j
def Ag(T:TT)(n:Nat)(ops:Array Oper)(lk:LK)(bk:BM):Oper->Option CR
 |⟨dst,op,_,_,_,gd⟩=>bif b8 n dst then(match gd with
  |none=>AA T lk bk dst op
  |some (j,b)=>match ops[j]? with
   |some oj=>match oj.dst with
    |some d=>match lk d with
     |some .tt=>bif b then AA T lk bk dst op else some ⟨none, .un,[],[]⟩
     |some .ff=>bif b then some ⟨none, .un,[],[]⟩ else AA T lk bk dst op
     |some .un=>some ⟨none, .un,[],[]⟩
     |_=>none
    |none=>none
   |none=>none) else none
section
variable {P:Program} {T:TT} {GB:Gh} {C:aB} {n:Nat} {lk:LK} {bk:BM} {ops:Array Oper}
def bD.toS{dst:Option Nat}{op:Op}{ty:TypeId}{pos:String}{af:Array Edge}{gd:Option (Nat×Bool)}{f:FX}{bl:List (Nat×Option Bk)}{nw:List Nat}(h:bD P GB C n lk bk ⟨dst,op,ty,pos,af,gd⟩ f bl nw)(hd:b8 n dst=true)
  (hw: ∀ρ G ov a w,bw GB C n lk bk ρ G ov a w->Region.wanted ⟨dst,op,ty,pos,af,gd⟩ (yielded ops a.tmps)=true):vb P GB C n ops lk bk ⟨dst,op,ty,pos,af,gd⟩ f bl nw:=by
 intro Q tl tb K s1 s2 hf hk;have:=h hd tl tb (fun a w=>a.defers=C.mks/\K a w) s1 s2 hf ⟨fun ρ G ov a w r=>⟨r.df,hk.run ρ G ov a w r⟩⟩;refine⟨fun ρ G ov a w r=>?_⟩;unfold wO;rw[if_pos (hw ρ G ov a w (r.mono s1 s2))];exact JM (this.run ρ G ov a w r) fun a' w' k=>⟨k.1.trans r.df.symm,k.2⟩
def vb.skip{dst:Option Nat}{op:Op}{ty:TypeId}{pos:String}{af:Array Edge}{gd:Option (Nat×Bool)}(hd:b8 n dst=true)
  (hw: ∀ρ G ov a w,bw GB C n lk bk ρ G ov a w->Region.wanted ⟨dst,op,ty,pos,af,gd⟩ (yielded ops a.tmps)=false):vb P GB C n ops lk bk ⟨dst,op,ty,pos,af,gd⟩ .un [] []:=by
 intro Q tl tb K s1 s2 hf hk;refine⟨fun ρ G ov a w r=>?_⟩;unfold wO;rw[hw ρ G ov a w (r.mono s1 s2)];exact hk.run ρ G ov _ w (r.put J (r.putA undef hd))
def CB{ρ:NE}{G:Gh}{ov:List av}{a:Act}{w:World}(r:bw GB C n lk bk ρ G ov a w){j d:Nat}{oj:Oper}{f:FX}(hj:ops[j]? =some oj)(hd:oj.dst=some d)(hf:lk d=some f): ∃y,bE ρ G f y/\yielded ops a.tmps j=match y with| .bool b=>some b|_=>none:=by
 obtain⟨y,h1,h2⟩:=r.fx d f hf;refine⟨y,h2,?_⟩;unfold yielded;rw[hj];simp only[Option.bind_some,hd,h1]
 cases y<;>rfl
def Q5{o:Oper}{r:CR}(hT:nn P T)(h:Ag T n ops lk bk o=some r)(hv: ∀p,r.vc=some p->p):vb P GB C n ops lk bk o r.f r.bl r.nw/\b8 n o.dst=true:=by
 obtain⟨dst,op,ty,pos,af,gd⟩:=o;simp only[Ag] at h
 cases hd:b8 n dst with
 |false=>rw[hd] at h;cases h
 |true=>
  rw[hd,cond_true] at h;refine⟨?_,J⟩;split at h
  ·exact(yo hT h hv).toS hd fun _ _ _ _ _ _=>J
  ·rename_i j b
   split at h<;>try (cases h;done)
   rename_i oj hj;split at h<;>try (cases h;done)
   rename_i d hdj;split at h<;>try (cases h;done)
   ·rename_i hl
    have wt: ∀ρ G ov (a:Act) w,bw GB C n lk bk ρ G ov a w->Region.wanted ⟨dst,op,ty,pos,af,some (j,b)⟩ (yielded ops a.tmps)=b:=fun ρ G ov a w r=>by
     obtain⟨y,h1,h2⟩:=CB r hj hdj hl
     cases h1
     simp only[Region.wanted,h2];cases b<;>rfl
    cases b with
    |true=>exact(yo hT h hv).toS hd wt
    |false=>cases h;exact .skip hd wt
   ·rename_i hl
    have wt: ∀ρ G ov (a:Act) w,bw GB C n lk bk ρ G ov a w->Region.wanted ⟨dst,op,ty,pos,af,some (j,b)⟩ (yielded ops a.tmps)=!b:=fun ρ G ov a w r=>by
     obtain⟨y,h1,h2⟩:=CB r hj hdj hl
     cases h1
     simp only[Region.wanted,h2];cases b<;>rfl
    cases b with
    |true=>cases h;exact .skip hd wt
    |false=>exact(yo hT h hv).toS hd wt
   ·rename_i hl
    cases h
    refine .skip hd fun ρ G ov a w r=>?_;obtain⟨y,h1,h2⟩:=CB r hj hdj hl
    cases h1
    simp only[Region.wanted,h2];rfl
end
inductive Kt where
 |sq (c:Code)
 |bl (id:Nat)
 |sc
 |ag (A:Act->World->Prop)
def cQ(rd:Option Nat)(P:Program)(Q0:Exit->Act->World->Prop):List Kt->Exit->Act->World->Prop
 |[]=>Q0
 | .sq y::K=>Exit.then (gF rd P y (cQ rd P Q0 K)) (cQ rd P Q0 K)
 | .bl id::K=>Exit.inBlock id (cQ rd P Q0 K)
 | .sc::K=>Exit.noGoto (cQ rd P Q0 K)
 | .ag A::K=>Exit.then A (cQ rd P Q0 K)
inductive Cf where
 |code (c:Code) (K:List Kt)
 |ops (ops:Array Oper) (r:List Oper) (K:List Kt)
 |dr (id:Nat) (ops:Array Oper) (fr0:az) (own0:aC) (us:List Rc) (r:List Oper) (K:List Kt)
 |ex (e:Exit) (K:List Kt)
structure yw (P:Program) (GB:Gh) (C:aB) (n:Nat) (ops:Array Oper) (fr0:az) (own0:aC) (us:List Rc) (r:List Oper) (fr:az) (own:aC):Prop where
 pre: ∃pre,ops.toList=pre++r/\pre.length=us.length
 st:cA (fun _=>true) 0 (aH fr0,aP own0) us=(aH fr,aP own)
 snd: ∀i u o,us[i]? =some u->ops[i]? =some o->o.dst=u.d/\vb P GB C n ops (lH u.rs (cA (fun j=>decide (j<i)) 0 (aH fr0,aP own0) us).1) (lH u.rn (cA (fun j=>decide (j<i)) 0 (aH fr0,aP own0) us).2) o u.f u.bl u.nw
def ak(P:Program)(GB:Gh)(C:aB)(n:Nat)(Q0:Exit->Act->World->Prop)(fr:az)(own:aC):Cf->Prop
 | .code c K=>SX GB C n (aH fr) (aP own) (gF C.rd P c (cQ C.rd P Q0 K))
 | .ops ops r K=>SX GB C n (aH fr) (aP own) (wpListIn (FW C.rd) 0 P ops (cQ C.rd P Q0 K) r)
 | .dr id ops fr0 own0 us r K=>yw P GB C n ops fr0 own0 us r fr own->SX GB C n (aH fr0) (aP own0) (gF C.rd P (.region id ops true) (cQ C.rd P Q0 K))
 | .ex e K=>SX GB C n (aH fr) (aP own) (cQ C.rd P Q0 K e)
structure Aj where
 vc:List Prop
 fr:az
 own:aC
 cf:Cf
def acc(v:Option Prop)(l:List Prop):List Prop:=match v with
 |some p=>p::l
 |none=>l
def Ja{α:Type}(v:Option Prop)(l:List Prop)(k:List Prop->α):α:=match v with
 |some p=>k (p::l)
 |none=>k l
def Lu{α:Type}{v:Option Prop}{l:List Prop}{k:List Prop->α}:Ja v l k=k (acc v l):=by cases v<;>rfl
def Az{α:Type}(fr:az)(dst:Option Nat)(f:FX)(k:az->α):α:=match dst with
 |some d=>k ((d,f)::fr)
 |none=>k fr
def AK{α:Type}{fr:az}{dst:Option Nat}{f:FX}{k:az->α}:Az fr dst f k=k (D6 fr dst f):=by cases dst<;>rfl
def uL(nw:List Nat)(dst:Option Nat)(fr:az)(own:aC):Bool:=nw.all fun nm=>fr.all (fun e=>zo dst e.1||!vP nm e.2)&&own.all fun e=>Nat.beq e.1 nm||!Dt nm e.2
def Av:List Operand->List Nat
 |[]=>[]
 | .tmp t::r=>t::Av r
 |_::r=>Av r
def Ey(fr:az):List Nat->List Nat
 |[]=>[]
 |t::r=>match aH fr t with
  |some f=>match f.nm with
   |some nm=>nm::Ey fr r
   |none=>Ey fr r
  |none=>Ey fr r
def Er(o:Oper)(fr:az)(rs:List Nat):List Nat:=match o.op with
 | .move _=>[]
 |_=>Ey fr rs
def Cc(ops:Array Oper)(o:Oper):List Nat:=match o.guard with
 |some (j,_)=>match ops[j]? with
  |some oj=>match oj.dst with
   |some d=>d::Av o.op.operands.toList
   |none=>Av o.op.operands.toList
  |none=>Av o.op.operands.toList
 |none=>Av o.op.operands.toList
def go(T:TT)(n:Nat):Nat->List Prop->az->aC->Cf->Aj
 |0,l,fr,own,cf=>⟨l,fr,own,cf⟩
 |k+1,l,fr,own, .code c K=>match c with
  | .seq x y=>go T n k l fr own (.code x (.sq y::K))
  | .region id ops d=>bif d then go T n k l fr own (.dr id ops fr own [] ops.toList K) else go T n k l fr own (.ops ops ops.toList K)
  | .skip=>go T n k l fr own (.ex .normal K)
  | .ret=>go T n k l fr own (.ex .ret K)
  | .exit id=>go T n k l fr own (.ex (.exit id) K)
  | .block id c=>go T n k l fr own (.code c (.bl id::K))
  | .scope c=>go T n k l fr own (.code c (.sc::K))
  | .label _=>go T n k l fr own (.ex .normal K)
  | .cond c x y=>match aF (aH fr) c with
   |some .tt=>go T n k l fr own (.code x K)
   |some .ff=>go T n k l fr own (.code y K)
   |_=>⟨l,fr,own, .code (.cond c x y) K⟩
  |c=>⟨l,fr,own, .code c K⟩
 |k+1,l,fr,own, .ex e K=>match K with
  | .sq y::K'=>match e with
   | .normal=>go T n k l fr own (.code y K')
   |e=>go T n k l fr own (.ex e K')
  | .bl id::K'=>match e with
   | .exit j=>bif Nat.beq j id then go T n k l fr own (.ex .normal K') else go T n k l fr own (.ex (.exit j) K')
   |e=>go T n k l fr own (.ex e K')
  | .sc::K'=>bif Ta e then go T n k l fr own (.ex e K') else⟨l,fr,own, .ex e (.sc::K')⟩
  | .ag A::K'=>match e with
   | .normal=>⟨l,fr,own, .ex .normal (.ag A::K')⟩
   |e=>go T n k l fr own (.ex e K')
  |[]=>⟨l,fr,own, .ex e []⟩
 |k+1,l,fr,own, .ops ops r K=>match r with
  |[]=>go T n k l fr own (.ex .normal K)
  |o::r'=>match Ag T n ops (aH fr) (aP own) o with
   |some ⟨v,f,bl,nw⟩=>bif uL nw o.dst fr own then rj own bl fun own'=>Ja v l fun l'=>Az fr o.dst f fun fr'=>go T n k l' fr' own' (.ops ops r' K) else⟨l,fr,own, .ops ops (o::r') K⟩
   |none=>⟨l,fr,own, .ops ops (o::r') K⟩
 |k+1,l,fr,own, .dr id ops fr0 own0 us r K=>match r with
  |[]=>go T n k (((vl (qb ops.toList []) [] us&&nC 0 ops.toList&&FG us fr0 own0)=true)::l) fr own (.ex .normal K)
  |o::r'=>lE (Cc ops o) fun rs=>lE (Er o fr rs) fun rn=>match Ag T n ops (lH rs (aH fr)) (lH rn (aP own)) o with
   |some ⟨v,f,bl,nw⟩=>rj own bl fun own'=>lE (us++[⟨rs,o.dst,f,rn,bl,nw⟩]) fun us'=>Ja v l fun l'=>Az fr o.dst f fun fr'=>go T n k l' fr' own' (.dr id ops fr0 own0 us' r' K)
   |none=>⟨l,fr,own, .dr id ops fr0 own0 us (o::r') K⟩
def ac:List Prop->Prop
 |[]=>True
 |[p]=>p
 |p::t=>ac t/\p
def SS{p:Prop}{t:List Prop}:ac (p::t)↔ac t/\p:=by cases t<;>simp[ac]
def Tu{v:Option Prop}{l:List Prop}(h:ac (acc v l)):ac l/\ ∀p,v=some p->p:=by
 cases v with
 |none=>exact⟨h,fun p e=>by cases e⟩
 |some q=>obtain⟨h1,h2⟩:=SS.1 h;exact⟨h1,fun p e=>by cases e;exact h2⟩
def HP{f:FX}{k:Nat}: ∀{fr:az},aH fr k=some f->(k,f)∈fr
 |[],h=>by cases h
 |(j,g)::t,h=>by
  rw[kl] at h;split at h
  ·cases h;rename_i e;rw[e];exact aQ
  ·exact aJ _ (HP h)
def Gk{B:Bk}{k:Nat}: ∀{own:aC},aP own k=some B->(k,some B)∈own
 |[],h=>by cases h
 |(j,g)::t,h=>by
  rw[jA] at h;split at h
  ·rename_i e;rw[e,h];exact aQ
  ·exact aJ _ (Gk h)
def BW{nw:List Nat}{dst:Option Nat}{fr:az}{own:aC}(h:uL nw dst fr own=true):kr nw dst (aH fr) (aP own):=fun nm hnm=>by
 have:=dK.1 h nm hnm;simp only[bL] at this;refine⟨fun k f hk e hc=>?_,fun k B hk e hm=>?_⟩
 ·have:=dK.1 this.1 _ (HP e)
  simp only[iV,gV,vP] at this;rcases this with h|h
  ·exact hk (AZ.1 h).symm
  ·rw[AZ.2 hc] at h;cases h
 ·have:=dK.1 this.2 _ (Gk e)
  simp only[iV,gV] at this;rcases this with h|h
  ·exact hk (aR h)
  ·rw[Jk hm] at h;cases h
def Lp{us:List Rc}{fr:az}{own:aC}(h:FG us fr own=true): ∀r∈us,∀nm∈r.nw,(∀k f,aH fr k=some f->f.nm≠some nm)/\ ∀k B,aP own k=some B-> ¬B.men nm:=fun r hr nm hnm=>by
 have:=dK.1 (dK.1 h r hr) nm hnm;simp only[bL] at this;refine⟨fun k f e hc=>?_,fun k B e hm=>?_⟩
 ·have:=dK.1 this.1 _ (HP e)
  simp only[gV,vP] at this;rw[AZ.2 hc] at this;cases this
 ·have:=dK.1 this.2 _ (Gk e)
  simp only[gV] at this;rw[Jk hm] at this;cases this
section
variable {P:Program} {T:TT} {GB:Gh} {C:aB} {n:Nat} {Q0:Exit->Act->World->Prop} {fr fr0:az} {own own0:aC} {ops:Array Oper} {us:List Rc} {r:List Oper} {o:Oper} {K:List Kt}
def D7{p q:Nat->Bool}{u:Rc}: ∀{us:List Rc} {k:Nat} {s:ST},(∀j,j<us.length->p (k+j)=q (k+j))->cA p k s (us++[u])=if p (k+us.length) then u.ap (cA q k s us) else cA q k s us
 |[],k,s,h=>rfl
 |x::t,k,s,h=>by
  simp only[jJ,cA];rw[D7 (q:=q) fun j hj=>by have:=h (j+1) (by simp;omega);rwa [show k+(j+1)=k+1+j by omega] at this];have h0:=h 0 (by simp);rw[fQ] at h0;rw[h0,bX,show k+1+t.length=k+(t.length+1) by omega]
def yw.push(D:yw P GB C n ops fr0 own0 us (o::r) fr own){rs rn nw:List Nat}{f:FX}{bl:List (Nat×Option Bk)}(h:vb P GB C n ops (lH rs (aH fr)) (lH rn (aP own)) o f bl nw):yw P GB C n ops fr0 own0 (us++[⟨rs,o.dst,f,rn,bl,nw⟩]) r (D6 fr o.dst f) (uK own bl):=by
 obtain⟨pre,hp,hl⟩:=D.pre;refine⟨⟨pre++[o],by rw[hp];simp,by simp[hl]⟩,?_,fun i u o' hu ho=>?_⟩
 ·rw[D7 (q:=fun _=>true) fun _ _=>J,if_pos J,D.st]
  simp only[Rc.ap];rw[Ix,DC]
 ·rw[List.getElem?_append] at hu
  split at hu
  ·rename_i hi
   obtain⟨h1,h2⟩:=D.snd i u o' hu ho;rw[D7 (q:=fun j=>decide (j<i)) fun _ _=>J,if_neg (by simp;omega)];exact⟨h1,h2⟩
  ·rename_i hi
   by_cases e:i=us.length
   ·subst e
    simp at hu;subst hu;have ho':ops[us.length]? =some o:=by
     have:ops.toList[us.length]? =some o:=by rw[hp,<-hl];simp
     simpa using this
    rw[ho'] at ho;cases ho;refine⟨J,?_⟩;rw[D7 (q:=fun _=>true) fun j hj=>by simpa using hj,if_neg (by simp),D.st];exact h
   ·rw[cM (by simp;omega)] at hu;cases hu
def yw.done(D:yw P GB C n ops fr0 own0 us [] fr own){id:Nat}(hm:P.follows .mixedOrders=true)(h:(vl (qb ops.toList []) [] us&&nC 0 ops.toList&&FG us fr0 own0)=true)(hk:SX GB C n (aH fr) (aP own) (cQ C.rd P Q0 K .normal)):
  SX GB C n (aH fr0) (aP own0) (gF C.rd P (.region id ops true) (cQ C.rd P Q0 K)):=by
 obtain⟨pre,hp,hl⟩:=D.pre;simp only[bL] at h;have D':jz P GB C n ops us (aH fr0,aP own0):=⟨by rw[<-hl,<-iU,hp];simp,D.snd,h.1.1,h.1.2,Lp h.2⟩;exact D'.region hm (by rw[D.st];exact hk)
def SX.op{Q:Exit->Act->World->Prop}{f:FX}{bl:List (Nat×Option Bk)}{nw:List Nat}(h:vb P GB C n ops (aH fr) (aP own) o f bl nw)(hf:kr nw o.dst (aH fr) (aP own))(hk:SX GB C n (aH (D6 fr o.dst f)) (aP (uK own bl)) (wpListIn (FW C.rd) 0 P ops Q r)):SX GB C n (aH fr) (aP own) (wpListIn (FW C.rd) 0 P ops Q (o::r)):=by
 rw[Ix,DC] at hk;refine(h Q _ _ _ (j0.refl _) (j0.refl _) hf hk).imp fun a w q=>?_;unfold wO at q;simp only[wpListIn];split
 ·rename_i hw;rw[if_pos hw] at q;exact q
 ·rename_i hw;rw[if_neg hw] at q;exact⟨fun _ _=>trivial,q⟩
def SX.cond{lk:LK}{bk:BM}{Q:Exit->Act->World->Prop}{c:Operand}{x y:Code}{b:Bool}{f:FX}(hc:aF lk c=some f)(hb:tU f=some b)(h1:b=true->SX GB C n lk bk (gF C.rd P x Q))(h2:b=false->SX GB C n lk bk (gF C.rd P y Q)):SX GB C n lk bk (gF C.rd P (.cond c x y) Q):=by
 refine⟨fun ρ G ov a w r=>?_⟩;obtain⟨v,hv,hv'⟩:=r.ev hc;rw[wR hv' hb] at hv;exact VK (bc (c6 a) hv) (fun e=>(h1 e).run ρ G ov a w r) (fun e=>(h2 e).run ρ G ov a w r)
def i7(hT:nn P T)(hm:P.follows .mixedOrders=true): ∀(k:Nat) (l:List Prop) (fr:az) (own:aC) (cf:Cf),ac (go T n k l fr own cf).vc->ac l/\(ak P GB C n Q0 (go T n k l fr own cf).fr (go T n k l fr own cf).own (go T n k l fr own cf).cf->ak P GB C n Q0 fr own cf)
 |0,l,fr,own,cf,h=>by simp only[go] at h⊢;exact⟨h,id⟩
 |k+1,l,fr,own, .code c K,h=>by
  cases c with
  |seq x y=>simp only[go] at h⊢;obtain⟨h1,h2⟩:=i7 hT hm k _ _ _ _ h;exact⟨h1,fun hk=>(h2 hk).imp fun a w q=>Y4 q⟩
  |region id ops d=>
   simp only[go] at h⊢
   cases d with
   |false=>simp only[cond_false] at h⊢;obtain⟨h1,h2⟩:=i7 hT hm k _ _ _ _ h;exact⟨h1,fun hk=>(h2 hk).imp fun a w q=>Vd q⟩
   |true=>simp only[cond_true] at h⊢;obtain⟨h1,h2⟩:=i7 hT hm k _ _ _ _ h;exact⟨h1,fun hk=>h2 hk ⟨⟨[],rfl,rfl⟩,rfl,fun i u o hu=>by simp at hu⟩⟩
  |skip=>simp only[go] at h⊢;obtain⟨h1,h2⟩:=i7 hT hm k _ _ _ _ h;exact⟨h1,fun hk=>(h2 hk).imp fun a w q=>awM q⟩
  |ret=>simp only[go] at h⊢;obtain⟨h1,h2⟩:=i7 hT hm k _ _ _ _ h;exact⟨h1,fun hk=>(h2 hk).imp fun a w q=>Yh q⟩
  |exit id=>simp only[go] at h⊢;obtain⟨h1,h2⟩:=i7 hT hm k _ _ _ _ h;exact⟨h1,fun hk=>(h2 hk).imp fun a w q=>ayY q⟩
  |block id c=>simp only[go] at h⊢;obtain⟨h1,h2⟩:=i7 hT hm k _ _ _ _ h;exact⟨h1,fun hk=>(h2 hk).imp fun a w q=>au1 q⟩
  |scope c=>simp only[go] at h⊢;obtain⟨h1,h2⟩:=i7 hT hm k _ _ _ _ h;exact⟨h1,fun hk=>(h2 hk).imp fun a w q=>atd q⟩
  |label j=>simp only[go] at h⊢;obtain⟨h1,h2⟩:=i7 hT hm k _ _ _ _ h;exact⟨h1,fun hk=>(h2 hk).imp fun a w q=>VN q⟩
  |cond c x y=>
   simp only[go] at h⊢
   cases hc:aF (aH fr) c with
   |none=>simp only[hc] at h⊢;exact⟨h,id⟩
   |some f=>
    cases f with
    |tt=>simp only[hc] at h⊢;obtain⟨h1,h2⟩:=i7 hT hm k _ _ _ _ h;exact⟨h1,fun hk=>SX.cond hc rfl (fun _=>h2 hk) (fun e=>by cases e)⟩
    |ff=>simp only[hc] at h⊢;obtain⟨h1,h2⟩:=i7 hT hm k _ _ _ _ h;exact⟨h1,fun hk=>SX.cond hc rfl (fun e=>by cases e) (fun _=>h2 hk)⟩
    |_=>simp only[hc] at h⊢;exact⟨h,id⟩
  |_=>simp only[go] at h⊢;exact⟨h,id⟩
 |k+1,l,fr,own, .ex e K,h=>by
  cases K with
  |nil=>simp only[go] at h⊢;exact⟨h,id⟩
  |cons x K=>
   cases x with
   |sq y=>cases e<;>(simp only[go] at h⊢;obtain⟨h1,h2⟩:=i7 hT hm k _ _ _ _ h;exact⟨h1,fun hk=>h2 hk⟩)
   |bl id=>
    cases e with
    |exit j=>
     simp only[go] at h⊢
     cases hb:Nat.beq j id with
     |true=>
      simp only[hb,cond_true] at h⊢;obtain⟨h1,h2⟩:=i7 hT hm k _ _ _ _ h;exact⟨h1,fun hk=>(h2 hk).imp fun a w q=>by simp only[cQ,Exit.inBlock,aR hb,if_true];exact q⟩
     |false=>
      have hne:j≠id:=fun e=>by subst e;simp at hb
      simp only[hb,cond_false] at h⊢;obtain⟨h1,h2⟩:=i7 hT hm k _ _ _ _ h;exact⟨h1,fun hk=>(h2 hk).imp fun a w q=>by simp only[cQ,Exit.inBlock,hne,if_false];exact q⟩
    |_=>simp only[go] at h⊢;obtain⟨h1,h2⟩:=i7 hT hm k _ _ _ _ h;exact⟨h1,fun hk=>h2 hk⟩
   |sc=>
    simp only[go] at h⊢
    cases hb:Ta e with
    |true=>
     simp only[hb,cond_true] at h⊢;obtain⟨h1,h2⟩:=i7 hT hm k _ _ _ _ h;refine⟨h1,fun hk=>(h2 hk).imp fun a w q=>?_⟩
     cases e<;>first|exact q|cases hb
    |false=>simp only[hb,cond_false] at h⊢;exact⟨h,id⟩
   |ag A=>
    cases e with
    |normal=>simp only[go] at h⊢;exact⟨h,id⟩
    |_=>simp only[go] at h⊢;obtain⟨h1,h2⟩:=i7 hT hm k _ _ _ _ h;exact⟨h1,fun hk=>h2 hk⟩
 |k+1,l,fr,own, .ops ops r K,h=>by
  cases r with
  |nil=>simp only[go] at h⊢;obtain⟨h1,h2⟩:=i7 hT hm k _ _ _ _ h;exact⟨h1,fun hk=>h2 hk⟩
  |cons o r=>
   simp only[go] at h⊢
   cases hs:Ag T n ops (aH fr) (aP own) o with
   |none=>simp only[hs] at h⊢;exact⟨h,id⟩
   |some x=>
    obtain⟨v,f,bl,nw⟩:=x;simp only[hs] at h⊢
    cases hf:uL nw o.dst fr own with
    |false=>simp only[hf,cond_false] at h⊢;exact⟨h,id⟩
    |true=>
     simp only[hf,cond_true] at h⊢;simp only[wh,Lu,AK] at h⊢;obtain⟨h1,h2⟩:=i7 hT hm k _ _ _ _ h;obtain⟨h3,h4⟩:=Tu h1;exact⟨h3,fun hk=>SX.op (Q5 hT hs h4).1 (BW hf) (h2 hk)⟩
 |k+1,l,fr,own, .dr id ops fr0 own0 us r K,h=>by
  cases r with
  |nil=>
   simp only[go] at h⊢;obtain⟨h1,h2⟩:=i7 hT hm k _ _ _ _ h;obtain⟨h3,h4⟩:=SS.1 h1;exact⟨h3,fun hk D=>D.done hm h4 (h2 hk)⟩
  |cons o r=>
   simp only[go,tn] at h⊢;generalize Cc ops o=rs at h⊢;generalize Er o fr rs=rn at h⊢
   cases hs:Ag T n ops (lH rs (aH fr)) (lH rn (aP own)) o with
   |none=>simp only[hs] at h⊢;exact⟨h,fun x=>x⟩
   |some x=>
    obtain⟨v,f,bl,nw⟩:=x;simp only[hs] at h⊢;simp only[wh,Lu,AK] at h⊢;obtain⟨h1,h2⟩:=i7 hT hm k _ _ _ _ h;obtain⟨h3,h4⟩:=Tu h1;exact⟨h3,fun hk D=>h2 hk (D.push (Q5 hT hs h4).1)⟩
end
def tt:TT:=[
 (2,⟨.int .i64,1,some [.d (.v (.int .i64 0))],false⟩),
 (3,⟨.int .i64,1,some [.d (.v (.int .i64 0))],false⟩),
 (4,⟨.bl,1,some [.ff],false⟩),
 (5,⟨.int .u8,1,some [.d (.v (.int .u8 0))],false⟩),
 (9,⟨.sc,1,some [.d (.v (.string ⟨#[]⟩))],false⟩),
 (20,⟨.fc,1,some [.d (.v (.nilIface))],false⟩),
 (22,⟨.sl 3 1 8,1,some [.nl],false⟩),
 (23,⟨.sl 182 8 112,1,some [.nl],false⟩),
 (25,⟨.st [(0,3,1),(1,23,1)],2,some [.d (.v (.int .i64 0)), .nl],true⟩),
 (27,⟨.pt,1,some [.d (.v (.pointer none))],false⟩),
 (28,⟨.pt,1,some [.d (.v (.pointer none))],false⟩),
 (31,⟨.sl 215 1 4,1,some [.nl],false⟩),
 (32,⟨.sl 215 1 4,1,some [.nl],false⟩),
 (34,⟨.st [(0,4,1),(1,32,1)],2,some [.ff, .nl],true⟩),
 (36,⟨.st [(0,34,2),(2,32,1)],3,some [.ff, .nl, .nl],true⟩),
 (38,⟨.fc,1,some [.d (.v (.nilIface))],false⟩),
 (41,⟨.sl 51 1 24,1,some [.nl],false⟩),
 (44,⟨.sl 215 1 4,1,some [.nl],false⟩),
 (46,⟨.st [(0,4,1),(1,44,1)],2,some [.ff, .nl],true⟩),
 (48,⟨.st [(0,46,2),(2,44,1)],3,some [.ff, .nl, .nl],true⟩),
 (49,⟨.sl 179 6 96,1,some [.nl],false⟩),
 (51,⟨.st [(0,49,1)],1,some [.nl],true⟩),
 (62,⟨.st [(0,48,3),(3,48,3)],6,some [.ff, .nl, .nl, .ff, .nl, .nl],true⟩),
 (63,⟨.sl 25 2 32,1,some [.nl],false⟩),
 (65,⟨.st [(0,36,3),(3,36,3)],6,some [.ff, .nl, .nl, .ff, .nl, .nl],true⟩),
 (72,⟨.sl 65 6 112,1,some [.nl],false⟩),
 (87,⟨.st [(0,22,1),(1,3,1)],2,some [.nl, .d (.v (.int .i64 0))],true⟩),
 (91,⟨.sl 103 1 24,1,some [.nl],false⟩),
 (94,⟨.pt,1,some [.d (.v (.pointer none))],false⟩),
 (96,⟨.st [(0,2,1),(1,2,1),(2,94,1)],3,some [.d (.v (.int .i64 0)), .d (.v (.int .i64 0)), .d (.v (.pointer none))],true⟩),
 (99,⟨.sl 106 2 32,1,some [.nl],false⟩),
 (102,⟨.sl 201 17 128,1,some [.nl],false⟩),
 (103,⟨.sl 201 17 128,1,some [.nl],false⟩),
 (104,⟨.pt,1,some [.d (.v (.pointer none))],false⟩),
 (106,⟨.st [(0,103,1),(1,104,1)],2,some [.nl, .d (.v (.pointer none))],true⟩),
 (108,⟨.st [(0,96,3),(3,96,3),(6,96,3)],9,some [.d (.v (.int .i64 0)), .d (.v (.int .i64 0)), .d (.v (.pointer none)), .d (.v (.int .i64 0)), .d (.v (.int .i64 0)), .d (.v (.pointer none)), .d (.v (.int .i64 0)), .d (.v (.int .i64 0)), .d (.v (.pointer none))],true⟩),
 (110,⟨.st [(0,108,9),(9,104,1),(10,104,1),(11,4,1)],12,some [.d (.v (.int .i64 0)), .d (.v (.int .i64 0)), .d (.v (.pointer none)), .d (.v (.int .i64 0)), .d (.v (.int .i64 0)), .d (.v (.pointer none)), .d (.v (.int .i64 0)), .d (.v (.int .i64 0)), .d (.v (.pointer none)), .d (.v (.pointer none)), .d (.v (.pointer none)), .ff],true⟩),
 (123,⟨.sl 130 1 24,1,some [.nl],false⟩),
 (124,⟨.sl 175 6 96,1,some [.nl],false⟩),
 (126,⟨.st [(0,123,1),(1,3,1),(2,124,1)],3,some [.nl, .d (.v (.int .i64 0)), .nl],true⟩),
 (130,⟨.sl 62 6 112,1,some [.nl],false⟩),
 (131,⟨.sl 160 1 24,1,some [.nl],false⟩),
 (146,⟨.st [(0,96,3),(3,96,3)],6,some [.d (.v (.int .i64 0)), .d (.v (.int .i64 0)), .d (.v (.pointer none)), .d (.v (.int .i64 0)), .d (.v (.int .i64 0)), .d (.v (.pointer none))],true⟩),
 (150,⟨.sl 155 1 24,1,some [.nl],false⟩),
 (154,⟨.sl 146 6 48,1,some [.nl],false⟩),
 (155,⟨.sl 146 6 48,1,some [.nl],false⟩),
 (160,⟨.sl 65 6 112,1,some [.nl],false⟩),
 (171,⟨.o,12,some [.d (.v (.int .i64 0)), .d (.v (.int .i64 0)), .d (.v (.pointer none)), .d (.v (.int .i64 0)), .d (.v (.int .i64 0)), .d (.v (.pointer none)), .d (.v (.int .i64 0)), .d (.v (.int .i64 0)), .d (.v (.pointer none)), .d (.v (.int .i64 0)), .d (.v (.int .i64 0)), .d (.v (.pointer none))],true⟩),
 (175,⟨.st [(0,46,2),(2,46,2),(4,46,2)],6,some [.ff, .nl, .ff, .nl, .ff, .nl],true⟩),
 (177,⟨.st [(0,4,1),(1,4,1),(2,175,6),(8,27,1),(9,27,1)],10,some [.ff, .ff, .ff, .nl, .ff, .nl, .ff, .nl, .d (.v (.pointer none)), .d (.v (.pointer none))],true⟩),
 (179,⟨.st [(0,34,2),(2,34,2),(4,34,2)],6,some [.ff, .nl, .ff, .nl, .ff, .nl],true⟩),
 (182,⟨.st [(0,179,6),(6,3,1),(7,3,1)],8,some [.ff, .nl, .ff, .nl, .ff, .nl, .d (.v (.int .i64 0)), .d (.v (.int .i64 0))],true⟩),
 (199,⟨.st [(0,96,3),(3,96,3),(6,4,1),(7,4,1)],8,some [.d (.v (.int .i64 0)), .d (.v (.int .i64 0)), .d (.v (.pointer none)), .d (.v (.int .i64 0)), .d (.v (.int .i64 0)), .d (.v (.pointer none)), .ff, .ff],true⟩),
 (201,⟨.st [(0,108,9),(9,199,8)],17,some [.d (.v (.int .i64 0)), .d (.v (.int .i64 0)), .d (.v (.pointer none)), .d (.v (.int .i64 0)), .d (.v (.int .i64 0)), .d (.v (.pointer none)), .d (.v (.int .i64 0)), .d (.v (.int .i64 0)), .d (.v (.pointer none)), .d (.v (.int .i64 0)), .d (.v (.int .i64 0)), .d (.v (.pointer none)), .d (.v (.int .i64 0)), .d (.v (.int .i64 0)), .d (.v (.pointer none)), .ff, .ff],true⟩),
 (203,⟨.sl 108 9 72,1,some [.nl],false⟩),
 (214,⟨.int .u64,1,some [.d (.v (.int .u64 0))],false⟩),
 (215,⟨.int .u32,1,some [.d (.v (.int .u32 0))],false⟩),
 (216,⟨.int .u64,1,some [.d (.v (.int .u64 0))],false⟩),
 (218,⟨.sl 225 14 216,1,some [.nl],false⟩),
 (223,⟨.st [(0,48,3),(3,48,3),(6,4,1),(7,4,1)],8,some [.ff, .nl, .nl, .ff, .nl, .nl, .ff, .ff],true⟩),
 (225,⟨.st [(0,175,6),(6,223,8)],14,some [.ff, .nl, .ff, .nl, .ff, .nl, .ff, .nl, .nl, .ff, .nl, .nl, .ff, .ff],true⟩),
 (227,⟨.o,9,some [.d (.v (.int .i64 0)), .d (.v (.int .i64 0)), .d (.v (.pointer none)), .d (.v (.int .i64 0)), .d (.v (.int .i64 0)), .d (.v (.pointer none)), .d (.v (.int .i64 0)), .d (.v (.int .i64 0)), .d (.v (.pointer none))],true⟩),
 (232,⟨.pt,1,some [.d (.v (.pointer none))],false⟩),
 (233,⟨.sl 4 1 1,1,some [.nl],false⟩),
 (235,⟨.st [(0,23,1),(1,233,1),(2,3,1),(3,4,1)],4,some [.nl, .nl, .d (.v (.int .i64 0)), .ff],true⟩),
 (251,⟨.sl 38 1 16,1,some [.nl],false⟩),
 (267,⟨.st [(0,34,2),(2,32,1)],3,some [.ff, .nl, .nl],true⟩),
 (347,⟨.o,2,some [.nl, .nl],true⟩),
 (348,⟨.sl 223 8 120,1,some [.nl],false⟩),
 (378,⟨.sl 48 3 56,1,some [.nl],false⟩),
 (383,⟨.sl 104 1 8,1,some [.nl],false⟩),
 (385,⟨.int .i64,1,some [.d (.v (.int .i64 0))],false⟩),
 (394,⟨.int .u64,1,some [.d (.v (.int .u64 0))],false⟩),
 (398,⟨.pt,1,some [.d (.v (.pointer none))],false⟩),
 (405,⟨.pt,1,some [.d (.v (.pointer none))],false⟩),
 (430,⟨.st [(0,9,1)],1,some [.d (.v (.string ⟨#[]⟩))],true⟩)]
def dP:nn Go.Proofs.Tryz.prog tt:=nn.of (by kernel_rfl)
end Go.Sx
end
section
namespace Go.Sx
open Go Go.Proofs Tryz
def tf:Nat->List DV->az
 |_,[]=>[]
 |i,v::t=>(i, .d v)::tf (i+1) t
class Fu where n:Nat
instance fu0:Fu:=⟨400⟩
section
variable {GB:Gh} {C:aB} {n:Nat} {Q0:Exit->Act->World->Prop} {fr fr':az} {own own':aC} {cf cf':Cf} {vc vc':List Prop} {ops:Array Oper} {r:List Oper} {o:Oper} {K:List Kt}
def f7{q:Nat}(h:go tt n q [] fr own cf=⟨vc,fr',own',cf'⟩)(hv:ac vc)(k:ak prog GB C n Q0 fr' own' cf'):ak prog GB C n Q0 fr own cf:=by
 have:=(i7 (GB:=GB) (C:=C) (Q0:=Q0) dP follows q [] fr own cf (by rw[h];exact hv)).2;rw[h] at this;exact this k
def gx[fu:Fu](h:go tt n fu.n [] fr own cf=⟨vc,fr',own',cf'⟩)(k:ak prog GB C n Q0 fr' own' cf')(hv:ac vc:=by first|exact trivial|(simp only[ac];kernel_rfl)|(simp only[ac];omega)|(simp only[ac,aK,aM,aY];omega)):ak prog GB C n Q0 fr own cf:=f7 h hv k
def Nb: ∀{ds:List DV} {vs:List Value} {ρ:NE} {G:Gh} (i:Nat),IsLs G ds vs-> ∀k f,aH (tf i ds) k=some f-> ∃y,(∃j,k=i+j/\vs[j]? =some y)/\bE ρ G f y
 |[],vs,ρ,G,i,h,k,f,e=>by cases e
 |d::t,vs,ρ,G,i,h,k,f,e=>by
  obtain⟨y,m,rfl,h1,h2⟩:=bh.1 h;simp only[tf] at e;rw[kl] at e;split at e
  ·cases e;rename_i hk;exact⟨y,⟨0,hk,rfl⟩,h1⟩
  ·obtain⟨u,⟨j,hj,hu⟩,h3⟩:=Nb (i+1) h2 k f e
   exact⟨u,⟨j+1,by omega,by simpa using hu⟩,h3⟩
def Cl{ds:List DV}{vs:List Value}{ρ:NE}{G:Gh}{a:Act}(h:IsLs G ds vs)(hf:l7 (oH 0 vs) a)(k:Nat)(f:FX)(e:aH (tf 0 ds) k=some f): ∃y,a.tmps[k]? =some y/\bE ρ G f y:=by
 obtain⟨y,⟨j,hj,hy⟩,h1⟩:=Nb (ρ:=ρ) 0 h k f e;refine⟨y,hf k y ?_,h1⟩;rw[hj];exact xi vs 0 j y hy
def fn[fu:Fu]{f:FuncId}{fb:Func}{c:Code}{m:Nat}{ds:List DV}{rv:DV}(hf:prog.funcs[f]? =some fb)(hb:fb.body=some c)(hn:(fb.name== "runtime.NumGoroutine")=false)(hm:fb.ntmps=m)(hlen:Nat.ble ds.length m=true)
  (hgo:go tt m fu.n [] (tf 0 ds) [] (.code c [])=⟨vc,fr,own,cf⟩)(k: ∀C:aB,ak prog GB C m (ge C prog fb (ma C (fun v G'=>Is G' rv v))) fr own cf)
  (hv:ac vc:=by first|exact trivial|(simp only[ac];kernel_rfl)|(simp only[ac];omega)|(simp only[ac,aK,aM,aY];omega)):PF GB prog f ds rv:=by
 intro G vs hg hvs;refine Fn.introR hf hb hn hm (by rw[hvs.len];exact hlen) fun C _ _ hrd hfx=>?_;intro a w rl;refine xy hrd ?_;have h:=f7 (GB:=GB) (C:=C) (Q0:=ge C prog fb (ma C (fun v G'=>Is G' rv v))) hgo hv (k C);exact h.run (fun _=>⟨none,0,0⟩) G [] a w ⟨hg,rl.h,rl.sz,rl.df,(fun k f e=>Cl hvs rl.fr k f e),(fun nm B e=>by cases e),(fun nm nm' B B' e=>by cases e),fun nm p _ _ e=>by rw[hfx] at e;cases e⟩
def ak.cond{c:Operand}{x y:Code}{b:Bool}{f:FX}(hc:aF (aH fr) c=some f)(hb:tU f=some b)(h1:b=true->ak prog GB C n Q0 fr own (.code x K))(h2:b=false->ak prog GB C n Q0 fr own (.code y K)):ak prog GB C n Q0 fr own (.code (.cond c x y) K):=SX.cond hc hb h1 h2
variable {fr1 fr2:az} {own1 own2:aC} {cf1 cf2:Cf} {vc1 vc2:List Prop}
def br[fu1:Fu][fu2:Fu]{p:Prop}{hp:Decidable p}{c:Operand}{x y:Code}(hc:aF (aH fr) c=some (.pr p hp))(g1:go tt n fu1.n [] fr own (.code x K)=⟨vc1,fr1,own1,cf1⟩)(g2:go tt n fu2.n [] fr own (.code y K)=⟨vc2,fr2,own2,cf2⟩)
  (k1:p->ak prog GB C n Q0 fr1 own1 cf1)(k2: ¬p->ak prog GB C n Q0 fr2 own2 cf2)
  (v1:p->ac vc1:=by intro;first|exact trivial|(simp only[ac];omega)|(simp only[ac,aK,aM,aY];omega))(v2: ¬p->ac vc2:=by intro;first|exact trivial|(simp only[ac];omega)|(simp only[ac,aK,aM,aY];omega)):ak prog GB C n Q0 fr own (.code (.cond c x y) K):=
 .cond hc J (fun h=>f7 g1 (v1 (of_decide_eq_true h)) (k1 (of_decide_eq_true h))) (fun h=>f7 g2 (v2 (of_decide_eq_false h)) (k2 (of_decide_eq_false h)))
def bd[fu1:Fu][fu2:Fu]{p:Prop}{hp:Decidable p}{c:Operand}{x y:Code}(hc:aF (aH fr) c=some (.d (.v (.bool (@decide p hp)))))(g1:go tt n fu1.n [] fr own (.code x K)=⟨vc1,fr1,own1,cf1⟩)(g2:go tt n fu2.n [] fr own (.code y K)=⟨vc2,fr2,own2,cf2⟩)
  (k1:p->ak prog GB C n Q0 fr1 own1 cf1)(k2: ¬p->ak prog GB C n Q0 fr2 own2 cf2)
  (v1:p->ac vc1:=by intro;first|exact trivial|(simp only[ac];omega)|(simp only[ac,aK,aM,aY];omega))(v2: ¬p->ac vc2:=by intro;first|exact trivial|(simp only[ac];omega)|(simp only[ac,aK,aM,aY];omega)):ak prog GB C n Q0 fr own (.code (.cond c x y) K):=
 .cond hc J (fun h=>f7 g1 (v1 (of_decide_eq_true h)) (k1 (of_decide_eq_true h))) (fun h=>f7 g2 (v2 (of_decide_eq_false h)) (k2 (of_decide_eq_false h)))
def bb[fu1:Fu][fu2:Fu]{b:Bool}{c:Operand}{x y:Code}(hc:aF (aH fr) c=some (.d (.v (.bool b))))(g1:go tt n fu1.n [] fr own (.code x K)=⟨vc1,fr1,own1,cf1⟩)(g2:go tt n fu2.n [] fr own (.code y K)=⟨vc2,fr2,own2,cf2⟩)
  (k1:b=true->ak prog GB C n Q0 fr1 own1 cf1)(k2:b=false->ak prog GB C n Q0 fr2 own2 cf2)
  (v1:b=true->ac vc1:=by intro;first|exact trivial|(simp only[ac];omega)|(simp only[ac,aK,aM,aY];omega))(v2:b=false->ac vc2:=by intro;first|exact trivial|(simp only[ac];omega)|(simp only[ac,aK,aM,aY];omega)):ak prog GB C n Q0 fr own (.code (.cond c x y) K):=
 .cond hc J (fun h=>f7 g1 (v1 h) (k1 h)) (fun h=>f7 g2 (v2 h) (k2 h))
def qc{d:Nat}{f g:FX}(hl:aH fr d=some f)(hi: ∀ρ G y,bE ρ G f y->bE ρ G g y){Φ:Act->World->Prop}(h:SX GB C n (aH ((d,g)::fr)) (aP own) Φ):SX GB C n (aH fr) (aP own) Φ:=by
 refine⟨fun ρ G ov a w r=>h.run ρ G ov a w ⟨r.gb,r.h,r.sz,r.df,fun k f' e=>?_,r.bx,r.dj,r.fxd⟩⟩;rw[kl] at e;split at e
 ·cases e;rename_i hk;subst hk
  obtain⟨y,h1,h2⟩:=r.fx _ _ hl;exact⟨y,h1,hi _ _ _ h2⟩
 ·exact r.fx k f' e
def aj(d:Nat){f:FX}(g:FX)(hl:aH fr d=some f)(e:f=g)(h:ak prog GB C n Q0 ((d,g)::fr) own cf):ak prog GB C n Q0 fr own cf:=by
 have hs:aH ((d,g)::fr)=aH fr:=by
  funext k;rw[kl];split
  ·rename_i hk;rw[hk,hl,e]
  ·rfl
 cases cf with
 |dr id ops fr0 own0 us r K=>exact fun D=>h ⟨D.pre,by rw[hs];exact D.st,D.snd⟩
 |_=>unfold ak at h⊢;rw[hs] at h;exact h
def kT(d:Nat){p:Prop}{hp:Decidable p}(hl:aH fr d=some (.pr p hp))(h:p)(k:ak prog GB C n Q0 ((d, .tt)::fr) own (.ops ops r K)):ak prog GB C n Q0 fr own (.ops ops r K):=
 qc hl (fun _ _ _ e=>by rw[show _=_ from e,decide_eq_true h];exact J) k
def kF(d:Nat){p:Prop}{hp:Decidable p}(hl:aH fr d=some (.pr p hp))(h: ¬p)(k:ak prog GB C n Q0 ((d, .ff)::fr) own (.ops ops r K)):ak prog GB C n Q0 fr own (.ops ops r K):=
 qc hl (fun _ _ _ e=>by rw[show _=_ from e,decide_eq_false h];exact J) k
def U9(d:Nat)(hl:aH fr d=some .nl){e:Exit}(h:ak prog GB C n Q0 ((d, .d (.sl []))::fr) own (.ex e K)):ak prog GB C n Q0 fr own (.ex e K):=
 qc (g:= .d (.sl [])) hl (fun ρ G y hy=>(show Is G (.sl []) y from mF (ρ:=ρ) (f:= .nl) hy J)) h
def PF.to{f:FuncId}{ds:List DV}{r1 r2:DV}{P:Program}(h:PF GB P f ds r1)(e:r1=r2):PF GB P f ds r2:=e▸h
def cs[fu1:Fu][fu2:Fu](d:Nat){p:Prop}{hp:Decidable p}(hl:aH fr d=some (.pr p hp))(g1:go tt n fu1.n [] ((d, .tt)::fr) own (.ops ops r K)=⟨vc1,fr1,own1,cf1⟩)(g2:go tt n fu2.n [] ((d, .ff)::fr) own (.ops ops r K)=⟨vc2,fr2,own2,cf2⟩)
  (k1:p->ak prog GB C n Q0 fr1 own1 cf1)(k2: ¬p->ak prog GB C n Q0 fr2 own2 cf2)
  (v1:p->ac vc1:=by intro;first|exact trivial|(simp only[ac];omega)|(simp only[ac,aK,aM,aY];omega))(v2: ¬p->ac vc2:=by intro;first|exact trivial|(simp only[ac];omega)|(simp only[ac,aK,aM,aY];omega)):ak prog GB C n Q0 fr own (.ops ops r K):=by
 by_cases h:p
 ·exact qc hl (fun _ _ _ e=>by rw[show _=_ from e,decide_eq_true h];exact J) (f7 g1 (v1 h) (k1 h))
 ·exact qc hl (fun _ _ _ e=>by rw[show _=_ from e,decide_eq_false h];exact J) (f7 g2 (v2 h) (k2 h))
def jd[fu1:Fu][fu2:Fu](d:Nat){b:Bool}(hl:aH fr d=some (.d (.v (.bool b))))(g1:go tt n fu1.n [] ((d, .tt)::fr) own (.ops ops r K)=⟨vc1,fr1,own1,cf1⟩)(g2:go tt n fu2.n [] ((d, .ff)::fr) own (.ops ops r K)=⟨vc2,fr2,own2,cf2⟩)
  (k1:b=true->ak prog GB C n Q0 fr1 own1 cf1)(k2:b=false->ak prog GB C n Q0 fr2 own2 cf2)
  (v1:b=true->ac vc1:=by intro;first|exact trivial|(simp only[ac];omega)|(simp only[ac,aK,aM,aY];omega))(v2:b=false->ac vc2:=by intro;first|exact trivial|(simp only[ac];omega)|(simp only[ac,aK,aM,aY];omega)):ak prog GB C n Q0 fr own (.ops ops r K):=by
 cases h:b with
 |true=>exact qc hl (fun _ G _ e=>by rw[(aI (G:=G)).1 e,h];exact J) (f7 g1 (v1 h) (k1 h))
 |false=>exact qc hl (fun _ G _ e=>by rw[(aI (G:=G)).1 e,h];exact J) (f7 g2 (v2 h) (k2 h))
def Dy:Cf->Option (Array Oper×Oper)
 | .ops ops (o::_) _=>some (ops,o)
 | .dr _ ops _ _ _ (o::_) _=>some (ops,o)
 |_=>none
def bC(fr:az):Cf->LK
 | .dr _ ops _ _ _ (o::_) _=>lH (Cc ops o) (aH fr)
 |_=>aH fr
def ij(fr:az)(own:aC):Cf->BM
 | .dr _ ops _ _ _ (o::_) _=>lH (Er o fr (Cc ops o)) (aP own)
 |_=>aP own
def bad:Aj:=⟨[False],[],[], .ex .normal []⟩
def cF(T:TT)(n q:Nat)(fr:az)(own:aC)(cf:Cf)(f:FX)(bl:List (Nat×Option Bk))(nw:List Nat):Aj:=match cf with
 | .ops ops (o::r) K=>bif uL nw o.dst fr own&&b8 n o.dst then rj own bl fun own'=>Az fr o.dst f fun fr'=>go T n q [] fr' own' (.ops ops r K) else bad
 | .dr id ops fr0 own0 us (o::r) K=>bif b8 n o.dst then lE (Cc ops o) fun rs=>lE (Er o fr rs) fun rn=>rj own bl fun own'=>lE (us++[⟨rs,o.dst,f,rn,bl,nw⟩]) fun us'=>Az fr o.dst f fun fr'=>go T n q [] fr' own' (.dr id ops fr0 own0 us' r K) else bad
 |_=>bad
def vh(ops:Array Oper)(lk:LK):Option (Nat×Bool)->Bool
 |none=>true
 |some (j,b)=>match ops[j]? with
  |some oj=>match oj.dst with
   |some d=>match lk d with
    |some .tt=>b
    |some .ff=>!b
    |_=>false
   |none=>false
  |none=>false
def Fd{lk:LK}{bk:BM}{o:Oper}(h:vh ops lk o.guard=true): ∀ρ G ov a w,bw GB C n lk bk ρ G ov a w->Region.wanted o (yielded ops a.tmps)=true:=fun ρ G ov a w r=>by
 unfold Region.wanted;unfold vh at h;split at h
 ·rename_i e;rw[e]
 ·rename_i j b e
  rw[e];split at h<;>try (cases h;done)
  rename_i oj hj;split at h<;>try (cases h;done)
  rename_i d hd;split at h<;>try (cases h;done)
  ·rename_i hl
   obtain⟨y,h1,h2⟩:=CB r hj hd hl
   cases h1;simp only[h2];subst h;rfl
  ·rename_i hl
   obtain⟨y,h1,h2⟩:=CB r hj hd hl
   cases h1;simp only[h2];cases b<;>first|rfl|(simp at h)
def uo{q:Nat}{f:FX}{bl:List (Nat×Option Bk)}{nw:List Nat}(hh:Dy cf=some (ops,o))(hg:vh ops (bC fr cf) o.guard=true)(h:bD prog GB C n (bC fr cf) (ij fr own cf) o f bl nw)
  (hgo:cF tt n q fr own cf f bl nw=⟨vc,fr',own',cf'⟩)(hv:ac vc)(k:ak prog GB C n Q0 fr' own' cf'):ak prog GB C n Q0 fr own cf:=by
 obtain⟨dst,op,ty,pos,af,gd⟩:=o
 cases cf with
 |ops ops' r K=>
  cases r with
  |nil=>cases hh
  |cons o' r=>
   cases hh
   unfold cF at hgo
   cases hc:(uL nw dst fr own&&b8 n dst) with
   |false=>simp only[hc,cond_false,bad] at hgo;cases hgo;exact absurd hv (fun x=>x)
   |true=>
    simp only[hc,cond_true] at hgo;simp only[wh,AK] at hgo;simp only[bL] at hc;exact SX.op (h.toS hc.2 (Fd hg)) (BW hc.1) (f7 hgo hv k)
 |dr id ops' fr0 own0 us r K=>
  cases r with
  |nil=>cases hh
  |cons o' r=>
   cases hh
   unfold cF at hgo
   cases hc:b8 n dst with
   |false=>simp only[hc,cond_false,bad] at hgo;cases hgo;exact absurd hv (fun x=>x)
   |true=>
    simp only[hc,cond_true,tn] at hgo;simp only[wh,AK] at hgo;intro D;exact f7 hgo hv k (D.push (h.toS hc (Fd hg)))
 |_=>cases hh
def uj(lk:LK)(fo:Operand)(args:Array Operand):Option (FuncId×List DV):=match aF lk fo with
 |some (.d (.v (.func (.func f) ⟨[]⟩ ⟨[]⟩)))=>match evDs lk args.toList with
  |some ds=>some (f,ds)
  |none=>none
 |_=>none
def EA{lk:LK}{fo:Operand}{args:Array Operand}{f:FuncId}{ds:List DV}(h:uj lk fo args=some (f,ds)):aF lk fo=some (.d (.v (.func (.func f) #[] #[])))/\evDs lk args.toList=some ds:=by
 unfold uj at h;split at h<;>try (cases h;done)
 rename_i h1;split at h<;>cases h;rename_i h2;exact⟨h1,h2⟩
def H2{lk:LK}{bk:BM}{fo:Operand}{args:Array Operand}{tys:Array TypeId}{f:FuncId}{ds:List DV}{rv:DV}{dst:Option Nat}{ty:TypeId}{pos:String}{af:Array Edge}{gd:Option (Nat×Bool)}(ha:uj lk fo args=some (f,ds))(hF:PF GB prog f ds rv):
  bD prog GB C n lk bk ⟨dst, .call ⟨.value fo,args,tys⟩,ty,pos,af,gd⟩ (.d rv) [] []:=by
 intro hd tl tb K' s1 s2 hf hk;refine⟨fun ρ G ov a w r Q=>?_⟩;obtain⟨h1,h2⟩:=EA ha;obtain⟨y,hy,hy'⟩:=(r.mono s1 s2).ev h1;rw[(aI (G:=G)).1 hy'] at hy;obtain⟨vs,h3,h4⟩:=(r.mono s1 s2).evDs h2;refine zC hy h3 (hF G vs r.gb h4) hd (fun v G' hG hK a' w' rl=>?_) a w Q ⟨r.h,r.sz,c6 a,r.df⟩;exact hk.run ρ G' ov a' w' ⟨r.gb.trans hG.le,rl.h,rl.sz,rl.df,(jI rl).fx (fun k g _ e=>by obtain⟨u,h5,h6⟩:=r.fx k g e;exact⟨u,h5,h6.up hG.le⟩) hK,
  fun nm B e=>by obtain⟨os,h5,h6⟩:=r.bx nm B e;exact⟨os,h5.up hG.le,h6⟩,r.dj,r.fxd⟩
def ca[fu:Fu]{fo:Operand}{args:Array Operand}{tys:Array TypeId}{f:FuncId}{ds:List DV}{rv:DV}{dst:Option Nat}{ty:TypeId}{pos:String}{af:Array Edge}{gd:Option (Nat×Bool)}(hh:Dy cf=some (ops,⟨dst, .call ⟨.value fo,args,tys⟩,ty,pos,af,gd⟩))
  (hg:vh ops (bC fr cf) gd=true)(ha:uj (bC fr cf) fo args=some (f,ds))(hF:PF GB prog f ds rv)(hgo:cF tt n fu.n fr own cf (.d rv) [] []=⟨vc,fr',own',cf'⟩)(k:ak prog GB C n Q0 fr' own' cf')(hv:ac vc:=by first|exact trivial|(simp only[ac];kernel_rfl)|(simp only[ac];omega)|(simp only[ac,aK,aM,aY];omega)):ak prog GB C n Q0 fr own cf:=
 uo hh hg (H2 ha hF) hgo hv k
def sE(T:TT)(fr:az)(own:aC):List ResultVar->Option (List DV)
 |[]=>some []
 | .tmp t::rs=>match aH fr t with
  |some f=>match jD f with
   |some d=>match sE T fr own rs with
    |some l=>some (d::l)
    |none=>none
   |none=>none
  |none=>none
 | .cell a t::rs=>match aH fr a with
  |some (.ov nm 0)=>match dl T t with
   |some i=>match aP own nm with
    |some (.o _ cs _)=>match i.ag with
     |some (some k)=>match takeX cs 0 k with
      |some c=>match ji c with
       |some d=>match sE T fr own rs with
        |some l=>some (.ag d::l)
        |none=>none
       |none=>none
      |none=>none
     |some none=>match cs[0]? with
      |some c=>match jD c with
       |some d=>match sE T fr own rs with
        |some l=>some (d::l)
        |none=>none
       |none=>none
      |none=>none
     |none=>none
    |_=>none
   |none=>none
  |_=>none
def DG{ρ:NE}{G:Gh}{ov:List av}{a:Act}{w:World}(h:bw GB C n (aH fr) (aP own) ρ G ov a w): ∀{rs:List ResultVar} {ds:List DV},sE tt fr own rs=some ds-> ∃vs,kt prog (cH a) ov rs vs/\IsLs G ds vs:=by
 intro rs
 induction rs with
 |nil=>intro ds e;cases e;exact⟨[], .nil, .nil⟩
 |cons x rs ih=>
  intro ds e
  cases x with
  |tmp t=>
   simp only[sE] at e;split at e<;>try (cases e;done)
   rename_i f hf;split at e<;>try (cases e;done)
   rename_i d hd;split at e<;>cases e;rename_i l hl;obtain⟨vs,h1,h2⟩:=ih hl;obtain⟨y,h3,h4⟩:=h.fx t f hf;exact⟨y::vs, .tmp (E5 h3) h1, .cons (mF h4 hd) h2⟩
  |cell t ty=>
   simp only[sE] at e;split at e<;>try (cases e;done)
   rename_i nm hf;split at e<;>try (cases e;done)
   rename_i i hi;split at e<;>try (cases e;done)
   rename_i hb;obtain⟨y,h3,h4⟩:=h.fx t _ hf;obtain⟨b,m,rfl,h5,h6,h7⟩:=h.own h4 hb;have oat:io ov b m _ _:=⟨h7⟩;split at e<;>try (cases e;done)
   ·rename_i k ha
    split at e<;>try (cases e;done)
    rename_i c hc;split at e<;>try (cases e;done)
    rename_i d hd;split at e<;>cases e;rename_i l hl;obtain⟨vs,h1,h2⟩:=ih hl;obtain⟨l',h8,h9⟩:=h6.takeX hc;exact⟨.agg ⟨l'⟩::vs, .agg (E5 h3) oat (wZ (dP _ _ hi) ha) h8 h1, .cons (d6.2 ⟨l',J,rO h9 hd⟩) h2⟩
   ·rename_i ha
    split at e<;>try (cases e;done)
    rename_i c hc;split at e<;>try (cases e;done)
    rename_i d hd;split at e<;>cases e;rename_i l hl;obtain⟨vs,h1,h2⟩:=ih hl;obtain⟨l',h8,h9⟩:=h6.get hc;exact⟨l'::vs, .sc (E5 h3) oat (yb (dP _ _ hi) ha) h8 h1, .cons (mF h9 hd) h2⟩
def Fv:Exit->Bool
 | .ret=>true
 | .normal=>true
 |_=>false
def rz{fb:Func}{e:Exit}{ds:List DV}{rv:DV}(hr:sE tt fr own fb.results.toList=some ds)(hd:jj ds=rv)(he:Fv e=true:=by rfl):ak prog GB C n (ge C prog fb (ma C (fun v G'=>Is G' rv v))) fr own (.ex e []):=by
 refine⟨fun ρ G ov a w r=>?_⟩;obtain⟨vs,h1,h2⟩:=DG r hr;have hk:Is G rv (ip vs):=hd▸EQ h2
 cases e with
 |ret=>exact zD (C:=C) (n:=n) (fr:=cH a) (own:=ov) (G:=G) (K:=fun v G'=>Is G' rv v) h1 hk a w ⟨r.h,r.sz,c6 a,r.df⟩
 |normal=>exact Na (C:=C) (n:=n) (fr:=cH a) (own:=ov) (G:=G) (K:=fun v G'=>Is G' rv v) h1 hk a w ⟨r.h,r.sz,c6 a,r.df⟩
 |_=>cases he
end
end Go.Sx
end
section
namespace Go.Sx
open Go
section
variable {P:Program} {GB:Gh} {C:aB} {n:Nat} {E:pn} {fr fr':eo} {own own':List c9} {bs bs' bs1:List dB} {ops:Array Oper} {Q:Exit->Act->World->Prop} {r:List Oper} {Φ:Act->World->Prop}
variable {dst:Option Nat} {t t' ty':TypeId} {pos:String} {af:Array Edge} {gd:Option (Nat×Bool)} {x y z:Operand} {e s by_:Nat}
class aJY (P:Program) (t:TypeId) (d:outParam DV):Prop where
 z: ∃z,iu P t z/\Is (fun _=>none) d z/\d.okc=true
abbrev SV.f (w:SV):FV:= .d (.v (.slice w.a w.n w.c))
def ajJ(z:Value)(k:Nat):aA (List.replicate k z)=dm z k:=by unfold aA dm;rw[List.map_replicate]
def Qg{G:Gh}{d:DV}{y:Value}(h:Is G d y): ∀k:Nat,IsLs G (List.replicate k d) (List.replicate k y)
 |0=> .nil
 |k+1=> .cons h (Qg h k)
def aJi(fr:eo):Nat->List (Nat×Operand)->Option (List DV)
 |_,[]=>some []
 |j,(i,x)::r=>match D0 fr x,aJi fr (j+1) r with
  |some d,some l=>bif Nat.beq i j then some (d::l) else none
  |_,_=>none
def Qr(pre mid post vs:List Value)(h:vs.length=mid.length):cC (pre++(mid++post)) pre.length vs=pre++(vs++post):=by
 rw[py _ _ _ (by simp;omega)];simp[h]
def asu(z:Value)(k:Nat):dm z (k+1)=aD z++dm z k:=by simp[dm,iN]
def C4(s:Nat)(ds:List DV):Bool:=ds.all fun d=>d.okc&&Nat.beq d.cells.length s
def Ii{ds:List DV}(h:C4 s ds=true):cP s ds:=fun d hd=>by
 have:=dK.1 h d hd;simp only[bL] at this;exact⟨this.1,aR this.2⟩
def Re{cs:List Value}{off s:Nat}: ∀(es:List Value),(∀i (h:i<es.length),cE cs (off+i*s) s=some (aD es[i]))->off<=cs.length->cE cs off (es.length*s)=some (aA es)
 |[],_,ho=>by
  rw[mj _ _ _ (by simpa using ho)];simp[aA]
 |v::t,h,ho=>by
  have h0:=h 0 (by simp);simp only[mQ,fQ,pY] at h0;obtain⟨k1,k2⟩:=AM h0;have ih:=Re (off:=off+s) t (fun i hi=>by
   have:=h (i+1) (by simpa using hi);rw[iR,show off+(i*s+s)=off+s+i*s by omega] at this;simpa using this) (by omega)
  obtain⟨k3,k4⟩:=AM ih;rw[mj _ _ _ (by simp only[bX,iR];omega)];congr 1;have e1:aA (v::t)=aD v++aA t:=by simp[aA]
  rw[e1,k2,k4,bX,iR,kZ (t.length*s) s,List.take_add,tK]
def WI{ov:List av}{G:Gh}{w:SV}{es:List Value}(h:eH G s w es):om P C ov G s w.n (.slice w.a w.n w.c) (aA es):=by
 rcases h.mem with he|⟨b,off,cs,ha,hg,hc⟩
 ·subst he
  rw[h.len];exact xe
 ·rw[ha]
  by_cases he:es=[]
  ·subst he;rw[h.len];exact xe
  ·have hp:0<es.length:=mM.2 he
   have h0:=hc 0 hp;have:=(AM h0).1;rw[h.len];exact Ts hg (Re es hc (by omega))
def aJZ(fr:eo)(bs:List dB)(s:Nat)(y:Operand)(ds:List DV):Prop:=
 (∃l,D0 fr y=some (.sl l)/\l=ds/\cP s l)\/ ∃w ty lo,GM fr y=some w.f/\(⟨w,s,ty,ds,lo⟩:dB)∈bs/\cP s ds
def Y5[hT:cv P t e s by_][hN:lj P t']{w:World}{ad2:Option Addr}{cap2:Nat}:(Builtin.append_ #[t,t'] ty' #[.slice none 0 0, .slice ad2 0 cap2]).run P w= .ok (.slice none 0 0) w:=by
 obtain⟨d,hd1⟩:=hN.un;obtain⟨i,hi,his,hib⟩:=hT.info;have h0:(Builtin.firstCells i.size 0 (.slice ad2 0 cap2)).run P w= .ok #[] w:=by
  cases ad2 with
  |none=>rfl
  |some a=>unfold Builtin.firstCells loadCells;simp[loadCellsFrom,run_pure]
 simp[Builtin.append_,run_underlying hT.un,run_underlying hd1,sizeOf,typeInfo,hi,Builtin.lenOf,h0]
def Ro[hT:cv P t e s by_][hN:lj P t']{fr:Fr}{own:List av}{G:Gh}{ad2:Option Addr}{cap2:Nat}(hx:ax fr x=some (.slice none 0 0))(hy:ax fr y=some (.slice ad2 0 cap2))(hd:b8 n dst=true)
  (h:St C n (put fr dst (.slice none 0 0)) own G Φ):Ch P C n fr own G ⟨dst, .call ⟨.builtin .append, #[x,y], #[t,t']⟩,ty',pos,af,gd⟩ Φ:=by
 intro a w Q rl;refine kA (v:= .slice none 0 0) (w':=w) ?_ (h _ _ (rl.put _ hd));simp only[execOp,resolve,gM,cK,kQ,bc rl.fr hx,bc rl.fr hy];exact cO Y5
def di.upd{G:Gh}{w:SV}{s:Nat}{ty:TypeId}{ds:List DV}{lo:Bool}{B:List av}(h:di G ⟨w,s,ty,ds,lo⟩ B){i:Nat}{d:DV}(hi:ds[i]? =some d):
  ∃b vs rest lo',w.a=some ⟨b,0,none⟩/\B=[⟨b,aA vs++rest,ty,lo'⟩]/\IsLs G ds vs/\(∀v∈vs,(aD v).length=s)/\i<vs.length/\
   ∀u d',Is G d' u->(aD u).length=s->di G ⟨w,s,ty,ds.set i d',lo⟩ [⟨b,aA (vs.set i u)++rest,ty,lo'⟩]:=by
 obtain⟨vs,hB,hv,hs,hlo⟩:=h;obtain⟨v,h1,h2⟩:=hv.get hi;obtain⟨hi',_⟩:=aS.1 h1;rcases hB with⟨e,_,_⟩|⟨b,rest,lo',h3,h4,h5,h6,h7⟩
 ·rw[e] at h1;simp at h1
 ·refine⟨b,vs,rest,lo',by simp only[] at h3;rw[h3],h4,hv,hs,hi',fun u d' hu hul=>?_⟩
  have hall: ∀x∈vs.set i u,(aD x).length=s:=fun x hx=>by
   rcases List.mem_or_eq_of_mem_set hx with h'|rfl
   ·exact hs x h'
   ·exact hul
  refine⟨vs.set i u, .inr ⟨b,rest,lo',by simpa using h3,J,eB _ hall,?_,by simpa using h7⟩,hv.set i hu,hall,fun hl o ho=>?_⟩
  ·rw[eB _ hall,aM,<-h5];exact h6
  ·have:=hlo hl
   rw[h4] at this;rw[aU.1 ho];have h9:=this ⟨b,aA vs++rest,ty,lo'⟩ aQ;exact h9
def UI{s:Nat}{rest:List Value}{u:Value}(vs:List Value)(i:Nat)(h:i<vs.length)(hs: ∀v∈vs,(aD v).length=s)(hu:(aD u).length=s):cC (aA vs++rest) (i*s) (aD u)=aA (vs.set i u)++rest:=by
 have hl:=eB vs hs;have hle:i*s+s<=vs.length*s:=by rw[<-iR];exact bW _ h
 rw[py _ _ _ (by rw[hu,aV];omega),hu,eY (by omega),jY (by omega),E' vs i hs (by omega),<-iR,DN vs (i+1) hs h,
  List.set_eq_take_append_cons_drop,if_pos h,show vs.take i++u::vs.drop (i+1)=vs.take i++([u]++vs.drop (i+1)) from J,qC,qC,JC]
 simp
def reF(ks:List Nat)(f:FV)(fr:eo):eo:=ks.map (fun k=>(k,f))++fr
end
end Go.Sx
end
