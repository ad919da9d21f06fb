import Derived.Test.YthhjilnhmkheeaaGreatDoorMr4
set_option linter.all false
set_option maxRecDepth 100000
section
namespace Go.Sx
open Go
theorem omi{k:IntKind}{a b:Int}(h:a=b):FX.d (.v (.int k a))=FX.d (.v (.int k b)):=by rw[h]
def wc:List Nat->Nat->Bool
 |[],_=>false
 |x::t,k=>Nat.beq x k||wc t k
structure Rc where
 rs:List Nat
 d:Option Nat
 f:FX
 rn:List Nat
 bl:List (Nat×Option Bk)
 nw:List Nat
abbrev ST:=LK×BM
def Rc.ap(r:Rc)(s:ST):ST:=(fB s.1 r.d r.f,upB s.2 r.bl)
def cI(p:Nat->Bool):Nat->ST->List Rc->ST
 |_,s,[]=>s
 |k,s,r::t=>cI p (k+1) (if p k then r.ap s else s) t
def m7{α:Type}(l:List Nat)(g:Nat->Option α):Nat->Option α:=fun k=>bif wc l k then g k else none
def Fi{nm:Nat}: ∀{bl:List (Nat×Option Bk)} {s s':BM},((∀e∈bl,e.1≠nm)->s nm=s' nm)->upB s bl nm=upB s' bl nm
 |[],s,s',h=>h omc
 |(k,B)::t,s,s',h=>by
  simp only[upB];refine Fi fun ht=>?_;by_cases e:nm=k
  .simp[e]
  .simp only[e,if_false];exact h fun x hx=>(aW.1 hx).elim (fun c=>by rw[c];exact Ne.symm e) (ht x)
def Ex{nm:Nat}: ∀{bl:List (Nat×Option Bk)} {s:BM},(∀e∈bl,e.1≠nm)->upB s bl nm=s nm
 |[],s,h=>rfl
 |(k,B)::t,s,h=>by
  simp only[upB];rw[Ex fun e he=>h e (aX _ he)];simp[Ne.symm (h _ aQ)]
def Ic{x:Nat}{d:Option Nat}{f:FX}{s:LK}(h:d≠some x):fB s d f x=s x:=by
 cases d with
 |none=>rfl
 |some d=>simp only[fB];rw[if_neg fun e=>h okC]
def B5{x:Nat}{p q:Nat->Bool}: ∀{us:List Rc} {k:Nat} {s s':ST},s.1 x=s'.1 x->(∀j r,us[j]? =some r->r.d=some x->p (k+j)=q (k+j))->(cI p k s us).1 x=(cI q k s' us).1 x
 |[],k,s,s',h,_=>h
 |r::t,k,s,s',h,hp=>by
  simp only[cI];refine B5 ?_ fun j u hj hd=>by have:=hp (j+1) u omQ hd;rwa [show k+(j+1)=k+1+j by omega] at this
  by_cases hd:r.d=some x
  .have:=hp 0 r J hd
   rw[gW] at this;rw[this];split
   .simp only[Rc.ap,fB,hd,if_true]
   .exact h
  .have: ∀(b:Bool) (s:ST),(if b then r.ap s else s).1 x=s.1 x:=fun b s=>by cases b<;>simp[Rc.ap,Ic hd]
   rw[this,this,h]
def zj{nm:Nat}{p q:Nat->Bool}: ∀{us:List Rc} {k:Nat} {s s':ST},s.2 nm=s'.2 nm->(∀j r,us[j]? =some r->(∃e∈r.bl,e.1=nm)->p (k+j)=q (k+j))->(cI p k s us).2 nm=(cI q k s' us).2 nm
 |[],k,s,s',h,_=>h
 |r::t,k,s,s',h,hp=>by
  simp only[cI];refine zj ?_ fun j u hj hd=>by have:=hp (j+1) u omQ hd;rwa [show k+(j+1)=k+1+j by omega] at this
  by_cases hd: ∃e∈r.bl,e.1=nm
  .have:=hp 0 r J hd
   rw[gW] at this;rw[this];split
   .exact Fi fun _=>h
   .exact h
  .have: ∀(b:Bool) (s:ST),(if b then r.ap s else s).2 nm=s.2 nm:=fun b s=>by
    cases b
    .rfl
    .exact Ex fun e he hc=>hd ⟨e,he,hc⟩
   rw[this,this,h]
def Q5{x:Nat}{f:FX}{p:Nat->Bool}: ∀{us:List Rc} {k:Nat} {s:ST},(cI p k s us).1 x=some f->s.1 x=some f\/ ∃j r,us[j]? =some r/\p (k+j)=true/\r.d=some x/\r.f=f
 |[],k,s,h=> .inl h
 |r::t,k,s,h=>by
  simp only[cI] at h;rcases Q5 h with h|⟨j,u,h1,h2,h3⟩
  .cases hp:p k with
   |false=>rw[hp] at h;exact .inl h
   |true=>
    rw[hp] at h;simp only[if_true,Rc.ap] at h;by_cases hd:r.d=some x
    .rw[hd] at h;simp only[fB,if_true] at h;cases h;exact .inr ⟨0,r,J,by simpa using hp,hd,J⟩
    .rw[Ic hd] at h;exact .inl h
  .exact .inr ⟨j+1,u,by simpa using h1,by rw[show k+(j+1)=k+1+j by omega];exact h2,h3⟩
def Tl{nm:Nat}{B:Bk}: ∀{bl:List (Nat×Option Bk)} {s:BM},upB s bl nm=some B->s nm=some B\/(nm,some B)∈bl
 |[],s,h=> .inl h
 |(k,B')::t,s,h=>by
  simp only[upB] at h;rcases Tl h with h|h
  .by_cases e:nm=k
   .subst e;simp only[if_true] at h;subst h;exact .inr aQ
   .simp only[e,if_false] at h;exact .inl h
  .exact .inr (aX _ h)
def Nf{nm:Nat}{B:Bk}{p:Nat->Bool}: ∀{us:List Rc} {k:Nat} {s:ST},(cI p k s us).2 nm=some B->s.2 nm=some B\/ ∃j r,us[j]? =some r/\p (k+j)=true/\(nm,some B)∈r.bl
 |[],k,s,h=> .inl h
 |r::t,k,s,h=>by
  simp only[cI] at h;rcases Nf h with h|⟨j,u,h1,h2,h3⟩
  .cases hp:p k with
   |false=>rw[hp] at h;exact .inl h
   |true=>
    rw[hp] at h;rcases Tl h with h|h
    .exact .inl h
    .exact .inr ⟨0,r,J,by simpa using hp,h⟩
  .exact .inr ⟨j+1,u,by simpa using h1,by rw[show k+(j+1)=k+1+j by omega];exact h2,h3⟩
def Xq(acc:List Nat)(l:List Edge):Nat:=l.foldl (fun s e=>if Region.binds .any e then(s ||| 2^e.on) ||| acc.getD e.on 0 else s) 0
def qj:List Oper->List Nat->List Nat
 |[],acc=>acc
 |o::r,acc=>qj r (acc++[Xq acc o.after.toList])
inductive Bf (ops:List Oper):Nat->Nat->Prop
 |b {i:Nat} {o:Oper} {e:Edge} (ho:ops[i]? =some o) (he:e∈o.after) (hb:Region.binds .any e=true):Bf ops i e.on
 |s {i j:Nat} {o:Oper} {e:Edge} (ho:ops[i]? =some o) (he:e∈o.after) (hb:Region.binds .any e=true) (h:Bf ops e.on j):Bf ops i j
def PQ{acc:List Nat}{j:Nat}: ∀(l:List Edge) (s:Nat),(l.foldl (fun s e=>if Region.binds .any e then(s ||| 2^e.on) ||| acc.getD e.on 0 else s) s).testBit j=true->s.testBit j=true\/ ∃e∈l,Region.binds .any e=true/\(e.on=j\/(acc.getD e.on 0).testBit j=true)
 |[],s,h=> .inl h
 |e::t,s,h=>by
  rw[jV] at h;rcases PQ t _ h with h|⟨e',h1,h2⟩
  .split at h
   .rename_i hb
    simp only[Nat.testBit_or,fU,Nat.testBit_two_pow,decide_eq_true_eq] at h;rcases h with(h|h)|h
    .exact .inl h
    .exact .inr ⟨e,aQ,hb, .inl h⟩
    .exact .inr ⟨e,aQ,hb, .inr h⟩
   .exact .inl h
  .exact .inr ⟨e',aX _ h1,h2⟩
def Jw{all:List Oper}: ∀(r:List Oper) (acc:List Nat) (pre:List Oper),all=pre++r->acc.length=pre.length->(∀i j,(acc.getD i 0).testBit j=true->Bf all i j)-> ∀i j,((qj r acc).getD i 0).testBit j=true->Bf all i j
 |[],acc,pre,_,_,h=>h
 |o::r,acc,pre,he,hl,h=>by
  refine Jw r _ (pre++[o]) (by rw[he];simp) (by simp[hl]) fun i j hij=>?_;rw[aJ,List.getElem?_append] at hij;split at hij
  .rename_i hi
   exact h i j (by rw[aJ];exact hij)
  .rename_i hi
   by_cases e:i=acc.length
   .subst e
    simp only[tJ,List.getElem?_cons_zero,lW] at hij;have ho:all[acc.length]? =some o:=by rw[he,hl];simp
    rcases PQ _ _ hij with h0|⟨e,h1,h2,h3⟩
    .simp at h0
    .rcases h3 with rfl|h3
     .exact .b ho (by simpa using h1) h2
     .exact .s ho (by simpa using h1) h2 (h _ _ h3)
   .rw[eJ omo] at hij
    simp at hij
def yI:Option Nat->Nat->Bool
 |some x,y=>Nat.beq x y
 |none,_=>false
def nA(a b:Rc):Bool:=(match a.d with|some x=>wc b.rs x||yI b.d x|none=>false)||a.bl.any fun e=>wc b.rn e.1||b.bl.any fun e'=>Nat.beq e'.1 e.1
def xC(nm:Nat)(f:FX):Bool:=yI f.nm nm
def Dw(nm:Nat):Option Bk->Bool
 |some (.o _ cs _)=>cs.any (xC nm)
 |_=>false
def qq(r:Rc)(nm:Nat):Bool:=xC nm r.f||r.bl.any fun e=>Dw nm e.2
def EF(m:Nat)(r:Rc):Nat->List Rc->Bool
 |_,[]=>true
 |j,u::t=>(!(nA u r||nA r u||u.nw.any (qq r))||m.testBit j)&&!(r.nw.any (qq u))&&EF m r (j+1) t
def vb:List Nat->List Rc->List Rc->Bool
 |m::ms,pre,r::t=>EF m r 0 pre&&vb ms (pre++[r]) t
 |_,_,[]=>true
 |[],_,_::_=>false
def o8:Nat->List Oper->Bool
 |_,[]=>true
 |i,o::t=>o.after.all (fun e=>!Region.binds .any e||Nat.blt e.on i)&&o8 (i+1) t
def Ev(us:List Rc)(fr:List (Nat×FX))(own:List (Nat×Option Bk)):Bool:=us.all fun r=>r.nw.all fun nm=>fr.all (fun e=>!xC nm e.2)&&own.all fun e=>!Dw nm e.2
def M1{m:Nat}{r:Rc}: ∀{l:List Rc} {k:Nat},EF m r k l=true-> ∀j u,l[j]? =some u->((nA u r=true\/nA r u=true\/ ∃nm∈u.nw,qq r nm=true)->m.testBit (k+j)=true)/\ ∀nm∈r.nw,qq u nm=false
 |[],k,_,j,u,h=>by simp at h
 |x::t,k,h,j,u,hj=>by
  simp only[EF,bT,fU,fM] at h;obtain⟨⟨h1,h2⟩,h3⟩:=h
  cases j with
  |zero=>
   simp at hj;subst hj;refine⟨fun hh=>?_,fun nm hn=>by have:=List.any_eq_false.1 h2 nm hn;simpa using this⟩;rcases h1 with h1|h1
   .simp only[qQ] at h1
    rcases hh with hh|hh|⟨nm,hn,hh⟩
    .rw[h1.1.1] at hh;cases hh
    .rw[h1.1.2] at hh;cases hh
    .have:=List.any_eq_false.1 h1.2 nm hn;exact absurd hh this
   .simpa using h1
  |succ j=>
   have:=M1 h3 j u omQ;rwa [show k+(j+1)=k+1+j by omega]
def OY: ∀{ms:List Nat} {pre t:List Rc},vb ms pre t=true-> ∀i r,t[i]? =some r-> ∀j u,(pre++t)[j]? =some u->j<pre.length+i->((nA u r=true\/nA r u=true\/ ∃nm∈u.nw,qq r nm=true)->(ms.getD i 0).testBit j=true)/\ ∀nm∈r.nw,qq u nm=false
 |[],pre,[],_,i,r,h=>by simp at h
 |_::_,pre,[],_,i,r,h=>by simp at h
 |[],pre,_::_,h,i,r,_=>by simp[vb] at h
 |m::ms,pre,x::t,h,i,r,hi=>by
  simp only[vb,bT] at h;intro j u hj hlt
  cases i with
  |zero=>
   simp at hi;subst hi;rw[dY we] at hj;simpa using M1 h.1 j u hj
  |succ i=>
   have:=OY h.2 i r omR j u omQ omo;simpa using this
def tL: ∀{l:List Oper} {k:Nat},o8 k l=true-> ∀i o,l[i]? =some o-> ∀e∈o.after,Region.binds .any e=true->e.on<k+i
 |[],k,_,i,o,h=>by simp at h
 |x::t,k,h,i,o,hi=>by
  simp only[o8,bT] at h;intro e he hb
  cases i with
  |zero=>
   simp at hi;subst hi;have:=Array.all_eq_true_iff_forall_mem.1 h.1 e he;simpa[hb] using this
  |succ i=>have:=tL h.2 i o omR e he hb;omega
def wO(rd:Option Nat)(P:Program)(ops:Array Oper)(Q:Exit->Act->World->Prop)(o:Oper)(K:Act->World->Prop)(a:Act)(w:World):Prop:=
 if Region.wanted o (yielded ops a.tmps) then o.wpIn (FW rd) 0 P a w K Q else K (a.put o.dst undef) w
section
variable {P:Program} {GB:Gh} {C:aH} {n:Nat} {ops:Array Oper} {Q:Exit->Act->World->Prop}
def va(P:Program)(GB:Gh)(C:aH)(n:Nat)(ops:Array Oper)(lk:LK)(bk:BM)(o:Oper)(f:FX)(bl:List (Nat×Option Bk))(nw:List Nat):Prop:=
 ∀(Q:Exit->Act->World->Prop) (tl:LK) (tb:BM) (K:Act->World->Prop),lc lk tl->lc bk tb->kO nw o.dst tl tb->SX GB C n (fB tl o.dst f) (upB tb bl) K->SX GB C n tl tb (wO C.rd P ops Q o K)
def SX.drew{lk:LK}{bk:BM}{Φ:Act->World->Prop}(h:SX GB C n lk bk Φ):SX GB C n lk bk (fun a w=>Φ a {w with drawn:=w.drawn+1}):=
 ⟨fun ρ G ov a w r=>h.run ρ G ov a _ ⟨r.gb,r.h.drew,r.sz,r.df,r.fx,r.bx,r.dj,r.fxd⟩⟩
structure kt (P:Program) (GB:Gh) (C:aH) (n:Nat) (ops:Array Oper) (us:List Rc) (s0:ST):Prop where
 len:us.length=ops.size
 snd: ∀i r o,us[i]? =some r->ops[i]? =some o->o.dst=r.d/\va P GB C n ops (m7 r.rs (cI (fun j=>decide (j<i)) 0 s0 us).1) (m7 r.rn (cI (fun j=>decide (j<i)) 0 s0 us).2) o r.f r.bl r.nw
 all:vb (qj ops.toList []) [] us=true
 edge:o8 0 ops.toList=true
 fr0: ∀r∈us,∀nm∈r.nw,(∀k f,s0.1 k=some f->f.nm≠some nm)/\ ∀k B,s0.2 k=some B-> ¬B.men nm
def AH{o:Option Nat}{k:Nat}:yI o k=true↔o=some k:=by cases o<;>simp[yI]
def JV{B:Bk}{nm:Nat}(h:B.men nm):Dw nm (some B)=true:=by
 cases B with
 |o ty cs lo=>obtain⟨f,hf,e⟩:=h;exact jY.2 ⟨f,hf,AH.2 e⟩
 |b=>cases h
 |c=>cases h
 |p=>cases h
def fh(listed:Array Bool):Nat->Bool:=fun j=>listed.getD j false
def un(ops:Array Oper)(listed:Array Bool):Nat:=((List.range ops.size).filter fun j=>!listed.getD j true).length
def Pp{α:Type}{p q:α->Bool}{x:α}: ∀{l:List α},x∈l->(∀y,q y=true->p y=true)->p x=true->q x=false->(l.filter q).length<(l.filter p).length
 |[],h,_,_,_=>by cases h
 |y::t,h,hpq,h1,h2=>by
  have le: ∀l:List α,(l.filter q).length<=(l.filter p).length:=fun l=>by
   induction l with
   |nil=>exact bV _
   |cons z l ih=>
    simp only[List.filter_cons]
    cases hq:q z with
    |true=>simp[hpq z hq];omega
    |false=>cases hp:p z<;>simp<;>omega
  rcases aW.1 h with rfl|h
  .simp only[List.filter_cons,h1,h2,if_true];have:=le t;simp;omega
  .have ih:=Pp h hpq h1 h2
   simp only[List.filter_cons]
   cases hq:q y with
   |true=>simp[hpq y hq];omega
   |false=>cases hp:p y<;>simp<;>omega
theorem okv{p:Prop}(h:p:=by simpa using ho):p:=h
theorem ozq{p:Prop}(h:p:=by simpa using h2):p:=h
def kt.walk{us:List Rc}{s0:ST}(D:kt P GB C n ops us s0)(hk:SX GB C n (cI (fun _=>true) 0 s0 us).1 (cI (fun _=>true) 0 s0 us).2 (Q .normal)):
  ∀(fuel:Nat) (listed:Array Bool),listed.size=ops.size->(∀i o,ops[i]? =some o->fh listed i=true-> ∀e∈o.after,Region.binds .any e=true->fh listed e.on=true)->un ops listed<=fuel->
   SX GB C n (cI (fh listed) 0 s0 us).1 (cI (fh listed) 0 s0 us).2 (wpAnyIn (FW C.rd) 0 P .any ops Q fuel listed):=by
 -- what comes before something listed is listed
 have clo: ∀listed:Array Bool,(∀i o,ops[i]? =some o->fh listed i=true-> ∀e∈o.after,Region.binds .any e=true->fh listed e.on=true)-> ∀i j,Bf ops.toList i j->fh listed i=true->fh listed j=true:=by
  intro listed hc i j hb
  induction hb with
  |b ho he hb=>intro hi;exact hc _ _ okv hi _ he hb
  |s ho he hb _ ih=>intro hi;exact ih (hc _ _ okv hi _ he hb)
 have bf: ∀i j,((qj ops.toList []).getD i 0).testBit j=true->Bf ops.toList i j:=Jw ops.toList [] [] J J (fun i j h=>by simp at h);have spec: ∀i r,us[i]? =some r-> ∀j u,us[j]? =some u->j<i->((nA u r=true\/nA r u=true\/ ∃nm∈u.nw,qq r nm=true)->Bf ops.toList i j)/\ ∀nm∈r.nw,qq u nm=false:=fun i r hi j u hj hlt=>by
  have:=OY D.all i r hi j u omQ (by simpa using hlt);exact⟨fun h=>bf _ _ (this.1 h),this.2⟩
 have done: ∀listed:Array Bool,listed.size=ops.size->Region.ready .any ops listed=[]-> ∀i,i<ops.size->fh listed i=true:=by
  intro listed hsz hr i
  induction i using Nat.strongRecOn with
  |ind i ih=>
   intro hi
   cases hl:listed.getD i true with
   |true=>unfold fh;simp only[cX] at hl⊢;rw[gV we] at hl⊢;simpa using hl
   |false=>
    have:i∈Region.ready .any ops listed:=mem_ready.2 ⟨hl,ops[i],gV hi,fun e he hb=>by
     have hlt:=tL D.edge i ops[i] (by simp[hi]) e he hb;exact ih e.on we we⟩
    rw[hr] at this;cases this
 have same: ∀listed:Array Bool,listed.size=ops.size->(∀i,i<ops.size->fh listed i=true)->(cI (fh listed) 0 s0 us).1=(cI (fun _=>true) 0 s0 us).1/\(cI (fh listed) 0 s0 us).2=(cI (fun _=>true) 0 s0 us).2:=by
  intro listed hsz h;refine⟨funext fun x=>B5 J fun j r hj _=>?_,funext fun x=>zj J fun j r hj _=>?_⟩<;>
  .rw[fX];exact h j (by have:=(bQ.1 hj).1;rw[D.len] at this;exact this)
 intro fuel
 induction fuel with
 |zero=>
  intro listed hsz hc hu;have all: ∀i,i<ops.size->fh listed i=true:=fun i hi=>by
   cases hl:listed.getD i true with
   |true=>unfold fh;simp only[cX] at hl⊢;rw[gV we] at hl⊢;simpa using hl
   |false=>
    have h0:=List.length_eq_zero_iff.1 (Nat.le_zero.1 hu);have:=List.filter_eq_nil_iff.1 h0 i (dS.2 hi);simp[hl] at this
  obtain⟨e1,e2⟩:=same listed hsz all;rw[e1,e2];refine hk.imp fun a w h=>⟨?_,h⟩;refine List.eq_nil_iff_forall_not_mem.2 fun i hi=>?_;obtain⟨h1,o,ho,_⟩:=mem_ready.1 hi;have hlt:=(fS.1 ho).1;have h2:=all i hlt;unfold fh at h2;simp only[cX] at h1 h2;rw[gV we] at h1 h2;simp at h1 h2;rw[h1] at h2;cases h2
 |succ fuel ih=>
  intro listed hsz hc hu;refine⟨fun ρ G ov a w r=>⟨fun hr=>?_,fun i hi=>?_⟩⟩
  .obtain⟨e1,e2⟩:=same listed hsz (done listed hsz hr)
   rw[e1,e2] at r;exact hk.run ρ G ov a w r
  .obtain⟨h1,o,ho,hall⟩:=mem_ready.1 hi
   have hlt:=(fS.1 ho).1;have hli:fh listed i=false:=by
    unfold fh;simp only[cX] at h1⊢;rw[gV we] at h1⊢;simpa using h1
   obtain⟨u,hui⟩: ∃u,us[i]? =some u:=⟨us[i]'(by rw[D.len];exact hlt),aZ _⟩;obtain⟨hd,hop⟩:=D.snd i u o hui ho;have bl: ∀j,Bf ops.toList i j->fh listed j=true:=fun j hb=>by
    cases hb with
    |b ho' he hb=>rw[pS,ho] at ho';cases ho';exact hall _ he hb
    |s ho' he hb h=>rw[pS,ho] at ho';cases ho';exact clo listed hc _ _ h (hall _ he hb)
   have nb: ∀j r,us[j]? =some r->(nA r u=true\/nA u r=true)->decide (j<i)=fh listed j:=fun j r hj hh=>by
    rcases pL j i with h|h|h
    .rw[bl j ((spec i u hui j r hj h).1 (hh.imp id .inl))];simpa using h
    .subst h;rw[hli];simp
    .cases hl:fh listed j with
     |false=>simp;omega
     |true=>have:=clo listed hc j i ((spec j r hj i u hui h).1 (hh.symm.imp id .inl)) hl;rw[hli] at this;cases this
   have sz':(listed.setIfInBounds i true).size=ops.size:=by simpa using hsz
   have l': ∀j,j≠i->fh (listed.setIfInBounds i true) j=fh listed j:=fun j hj=>by unfold fh;rw[getD_set_ne false (Ne.symm hj)]
   have li':fh (listed.setIfInBounds i true) i=true:=by unfold fh;simp[hsz,hlt]
   have hc': ∀j o',ops[j]? =some o'->fh (listed.setIfInBounds i true) j=true-> ∀e∈o'.after,Region.binds .any e=true->fh (listed.setIfInBounds i true) e.on=true:=fun j o' hj hlj e he hb=>by
    by_cases hji:j=i
    .subst hji;rw[ho] at hj;cases hj
     exact getD_set_true (hall e he hb)
    .rw[l' j hji] at hlj
     exact getD_set_true (hc j o' hj hlj e he hb)
   have hu':un ops (listed.setIfInBounds i true)<=fuel:=by
    have:un ops (listed.setIfInBounds i true)<un ops listed:=by
     refine Pp (x:=i) (dS.2 hlt) (fun y hy=>?_) (by simp[h1]) (by simp[hsz,hlt]);by_cases hyi:y=i
     .subst hyi;simp[hsz,hlt] at hy
     .rwa [getD_set_ne true (Ne.symm hyi)] at hy
    omega
   have next:=ih _ sz' hc' hu'
   have e1:(cI (fh (listed.setIfInBounds i true)) 0 s0 us).1=fB (cI (fh listed) 0 s0 us).1 o.dst u.f:=by
    funext x;rw[hd];by_cases hx:u.d=some x
    .-- i is the last to write x
     have key: ∀(us':List Rc) (k:Nat) (s:ST) (p:Nat->Bool) (m:Nat),us'[m]? =some u->p (k+m)=true->(∀j r,us'[j]? =some r->r.d=some x->j≠m->j<m\/p (k+j)=false)->(cI p k s us').1 x=some u.f:=by
      intro us'
      induction us' with
      |nil=>intro k s p m h;simp at h
      |cons r t iht=>
       intro k s p m h hp hj;simp only[cI]
       cases m with
       |zero=>
        simp at h;subst h;rw[gW] at hp;rw[hp];have:(cI p (k+1) (r.ap s) t).1 x=(cI (fun _=>false) (k+1) (r.ap s) t).1 x:=B5 J fun j r' hj' hd'=>by
         have:=hj (j+1) r' omJ hd' we;rw[show k+(j+1)=k+1+j by omega] at this;exact this.resolve_left we
        simp only[if_true,this];have nosel: ∀(l:List Rc) (k:Nat) (s:ST),cI (fun _=>false) k s l=s:=fun l=>by
         induction l with
         |nil=>intro k s;rfl
         |cons y l ih=>intro k s;exact ih _ _
        rw[nosel];simp[Rc.ap,fB,hx]
       |succ m=>
        refine iht _ _ p m omy (by rw[show k+1+m=k+(m+1) by omega];exact hp) fun j r' hj' hd' hne=>?_;have:=hj (j+1) r' omJ hd' we;rw[show k+1+j=k+(j+1) by omega];exact this.imp (fun h=>by omega) id
     rw[key us 0 s0 _ i hui (by rw[fX];exact li') fun j r hj hdr hne=>?_]
     .rw[hx];simp[fB]
     .rw[fX,l' j hne]
      have:=nb j r hj (.inl (by simp[nA,hdr,hx,yI]));rw[<-this];by_cases hji:j<i
      .exact .inl hji
      .exact .inr (by simpa using hji)
    .rw[Ic hx]
     refine B5 J fun j r hj hdr=>?_;rw[fX];exact l' j fun e=>by subst e;rw[hui] at hj;cases hj;exact hx hdr
   have e2:(cI (fh (listed.setIfInBounds i true)) 0 s0 us).2=upB (cI (fh listed) 0 s0 us).2 u.bl:=by
    funext x;by_cases hx: ∃e∈u.bl,e.1=x
    .have key: ∀(us':List Rc) (k:Nat) (s s':ST) (p q:Nat->Bool) (m:Nat),us'[m]? =some u->p (k+m)=true->(∀j r,us'[j]? =some r->(∃e∈r.bl,e.1=x)->j≠m->q (k+j)=p (k+j)/\(j<m\/p (k+j)=false))->q (k+m)=false->s.2 x=s'.2 x->(cI p k s us').2 x=upB (cI q k s' us').2 u.bl x:=by
      intro us'
      induction us' with
      |nil=>intro k s s' p q m h;simp at h
      |cons r t iht=>
       intro k s s' p q m h hp hj hq hs;simp only[cI]
       cases m with
       |zero=>
        simp at h;subst h;rw[gW] at hp hq;rw[hp,hq];have nosel: ∀(l:List Rc) (k:Nat) (s:ST),cI (fun _=>false) k s l=s:=fun l=>by
         induction l with
         |nil=>intro k s;rfl
         |cons y l ih=>intro k s;exact ih _ _
        have a1:(cI p (k+1) (r.ap s) t).2 x=(cI (fun _=>false) (k+1) (r.ap s) t).2 x:=zj J fun j r' hj' hd'=>by
         have:=(hj (j+1) r' omJ hd' we).2;rw[show k+(j+1)=k+1+j by omega] at this;exact this.resolve_left we
        have a2:(cI q (k+1) s' t).2 x=(cI (fun _=>false) (k+1) s' t).2 x:=zj J fun j r' hj' hd'=>by
         obtain⟨h3,h4⟩:=hj (j+1) r' omJ hd' we;rw[show k+(j+1)=k+1+j by omega] at h3 h4;rw[h3];exact h4.resolve_left we
        simp only[if_true,fT,if_false,a1,nosel];exact Fi fun _=>by rw[a2,nosel];exact hs
       |succ m=>
        refine iht _ _ _ p q m omy (by rw[show k+1+m=k+(m+1) by omega];exact hp) (fun j r' hj' hd' hne=>?_) (by rw[show k+1+m=k+(m+1) by omega];exact hq) ?_
        .obtain⟨h3,h4⟩:=hj (j+1) r' omJ hd' we
         rw[show k+1+j=k+(j+1) by omega];exact⟨h3,h4.imp (fun h=>by omega) id⟩
        .by_cases hr: ∃e∈r.bl,e.1=x
         .have:=(hj 0 r J hr we).1
          rw[gW] at this;rw[this]
          cases p k
          .exact hs
          .exact Fi fun _=>hs
         .have: ∀(b:Bool) (s:ST),(if b then r.ap s else s).2 x=s.2 x:=fun b s=>by
           cases b
           .rfl
           .exact Ex fun e he hc=>hr ⟨e,he,hc⟩
          rw[this,this];exact hs
     refine key us 0 s0 s0 _ _ i hui (by rw[fX];exact li') (fun j r hj hdr hne=>?_) (by rw[fX];exact hli) J;rw[fX];refine⟨(l' j hne).symm,?_⟩;rw[l' j hne];obtain⟨e,he,rfl⟩:=hx;obtain⟨e',he',hee⟩:=hdr;have hh:nA u r=true:=by
      unfold nA;rw[fU];exact .inr (jY.2 ⟨e,he,by rw[fU];exact .inr (jY.2 ⟨e',he',by simpa using hee⟩)⟩)
     rw[<-nb j r hj (.inr hh)];by_cases hji:j<i
     .exact .inl hji
     .exact .inr (by simpa using hji)
    .rw[Ex fun e he hc=>hx ⟨e,he,hc⟩]
     refine zj J fun j r hj hdr=>?_;rw[fX];exact l' j fun e=>by subst e;rw[hui] at hj;cases hj;exact hx hdr
   rw[e1,e2] at next
   have sub1:lc (m7 u.rs (cI (fun j=>decide (j<i)) 0 s0 us).1) (cI (fh listed) 0 s0 us).1:=fun x f hx=>by
    unfold m7 at hx
    cases hm:wc u.rs x with
    |false=>rw[hm] at hx;cases hx
    |true=>
     rw[hm,cond_true] at hx;rw[<-hx];refine(B5 J fun j r hj hdr=>?_).symm;rw[fX];exact nb j r hj (.inl (by simp[nA,hdr,hm]))
   have EN:lc (m7 u.rn (cI (fun j=>decide (j<i)) 0 s0 us).2) (cI (fh listed) 0 s0 us).2:=fun x B hx=>by
    unfold m7 at hx
    cases hm:wc u.rn x with
    |false=>rw[hm] at hx;cases hx
    |true=>
     rw[hm,cond_true] at hx;rw[<-hx];refine(zj J fun j r hj hdr=>?_).symm;rw[fX];obtain⟨e,he,rfl⟩:=hdr;refine nb j r hj (.inl ?_);unfold nA;rw[fU];exact .inr (jY.2 ⟨e,he,by rw[hm];rfl⟩)
   have fr:kO u.nw o.dst (cI (fh listed) 0 s0 us).1 (cI (fh listed) 0 s0 us).2:=fun nm hnm=>by
    obtain⟨g1,g2⟩:=D.fr0 u (aT hui) nm hnm;have men: ∀j r,us[j]? =some r->fh listed j=true->qq r nm=false:=fun j r hj hlj=>by
     rcases pL j i with h|h|h
     .exact(spec i u hui j r hj h).2 nm hnm
     .subst h;rw[hli] at hlj;cases hlj
     .cases hm:qq r nm with
      |false=>rfl
      |true=>have:=clo listed hc j i ((spec j r hj i u hui h).1 (.inr (.inr ⟨nm,hnm,hm⟩))) hlj;rw[hli] at this;cases this
    refine⟨fun k f hk e=>?_,fun k B hk e hm=>?_⟩
    .intro hc'
     rcases Q5 e with h|⟨j,r,h1,h2,h3,h4⟩
     .exact g1 k f h hc'
     .have:=men j r h1 ozq
      simp only[qq,qQ,xC] at this;rw[h4,AH.2 hc'] at this
      cases this.1
    .rcases Nf e with h|⟨j,r,h1,h2,h3⟩
     .exact g2 k B h hm
     .have:=men j r h1 ozq
      simp only[qq,qQ] at this;have:=List.any_eq_false.1 this.2 _ h3;exact this (JV hm)
   have fin:=hop Q _ _ _ sub1 EN fr next
   have:=fin.run ρ G ov a w r;unfold wO at this;unfold wpOpIn;rw[ho];simp only;split
   .rename_i hw;rw[if_pos hw] at this;exact this
   .rename_i hw;rw[if_neg hw] at this;exact⟨fun _ _=>trivial,this⟩
def CI(m k:Nat):fh (Array.replicate m false) k=false:=by unfold fh;simp[qS];split<;>rfl
def kt.region{us:List Rc}{s0:ST}{id:Nat}(D:kt P GB C n ops us s0)(hm:P.follows .mixedOrders=true)(hk:SX GB C n (cI (fun _=>true) 0 s0 us).1 (cI (fun _=>true) 0 s0 us).2 (Q .normal)):SX GB C n s0.1 s0.2 (iO C.rd P (.region id ops true) Q):=by
 have h:=D.walk hk ops.size (Array.replicate ops.size false) omc (fun i o _ hi=>by rw[CI] at hi;cases hi) (by unfold un;exact dJ (nU _ _) omc);have e:cI (fh (Array.replicate ops.size false)) 0 s0 us=s0:=by
  have: ∀(l:List Rc) (k:Nat) (s:ST),cI (fh (Array.replicate ops.size false)) k s l=s:=fun l=>by
   induction l with
   |nil=>intro k s;rfl
   |cons y l ih=>
    intro k s;simp only[cI];rw[ih];rw[CI];rfl
  exact this us 0 s0
 rw[e] at h;exact h.drew.imp fun a w k=>wpIn_region_any hm k
end
abbrev aD:=List (Nat×FX)
abbrev aO:=List (Nat×Option Bk)
def bh:aD->Nat->Option FX
 |[],_=>none
 |(k,v)::t,j=>bif Nat.beq k j then some v else bh t j
def bj:aO->Nat->Option Bk
 |[],_=>none
 |(k,v)::t,j=>bif Nat.beq k j then v else bj t j
def uS{α:Type}:aO->Nat->Option Bk->(aO->α)->α
 |[],nm,B,k=>k [(nm,B)]
 |(j,v)::t,nm,B,k=>bif Nat.beq j nm then k ((nm,B)::t) else uS t nm B fun t'=>k ((j,v)::t')
def s6{α:Type}:aO->List (Nat×Option Bk)->(aO->α)->α
 |own,[],k=>k own
 |own,(nm,B)::t,k=>uS own nm B fun own'=>s6 own' t k
def kP(own:aO)(nm:Nat)(B:Option Bk):aO:=uS own nm B id
def wh(own:aO)(l:List (Nat×Option Bk)):aO:=s6 own l id
def vJ{α:Type}{nm:Nat}{B:Option Bk}: ∀{own:aO} {k:aO->α},uS own nm B k=k (kP own nm B)
 |[],k=>rfl
 |(j,v)::t,k=>by
  unfold kP uS
  cases Nat.beq j nm with
  |true=>rfl
  |false=>rw[cond_false,cond_false,vJ (own:=t),vJ (own:=t)];rfl
def wZ{α:Type}: ∀{l:List (Nat×Option Bk)} {own:aO} {k:aO->α},s6 own l k=k (wh own l)
 |[],own,k=>rfl
 |(nm,B)::t,own,k=>by
  unfold wh s6;rw[vJ,vJ,wZ (l:=t),wZ (l:=t)];rfl
def kH(k:Nat)(v:FX)(t:aD)(j:Nat):bh ((k,v)::t) j=if j=k then some v else bh t j:=by
 simp only[bh];by_cases h:k=j
 .simp[h]
 .have:Nat.beq k j=false:=by
   cases hb:Nat.beq k j with
   |false=>rfl
   |true=>exact absurd (aL hb) h
  simp[this,Ne.symm h]
def ks(k:Nat)(v:Option Bk)(t:aO)(j:Nat):bj ((k,v)::t) j=if j=k then v else bj t j:=by
 simp only[bj];by_cases h:k=j
 .simp[h]
 .have:Nat.beq k j=false:=by
   cases hb:Nat.beq k j with
   |false=>rfl
   |true=>exact absurd (aL hb) h
  simp[this,Ne.symm h]
def uU{nm:Nat}{B:Option Bk}(j:Nat): ∀own:aO,bj (kP own nm B) j=if j=nm then B else bj own j
 |[]=>ks nm B [] j
 |(k,v)::t=>by
  have ih:=uU (nm:=nm) (B:=B) j t;unfold kP uS
  cases hb:Nat.beq k nm with
  |true=>
   have e:=aL hb;subst e;rw[cond_true,id,ks,ks];by_cases h:j=k<;>simp[h]
  |false=>
   have hne:k≠nm:=fun e=>by subst e;simp at hb
   rw[cond_false,vJ,id,ks,ks,ih];by_cases h:j=k
   .subst h;simp[hne]
   .simp[h]
def DZ: ∀(l:List (Nat×Option Bk)) (own:aO),bj (wh own l)=upB (bj own) l
 |[],own=>rfl
 |(nm,B)::t,own=>by
  have:wh own ((nm,B)::t)=wh (kP own nm B) t:=by rw[wh,s6,vJ];rfl
  rw[this,DZ t];simp only[upB];congr 1;funext j;exact uU j own
def Dg(fr:aD)(dst:Option Nat)(f:FX):aD:=match dst with
 |some d=>(d,f)::fr
 |none=>fr
def Kx{fr:aD}{dst:Option Nat}{f:FX}:bh (Dg fr dst f)=fB (bh fr) dst f:=by
 cases dst with
 |none=>rfl
 |some d=>funext j;exact kH d f fr j
def yJ(T:TT)(n:Nat)(ops:Array Oper)(lk:LK)(bk:BM):Oper->Option CR
 |⟨dst,op,_,_,_,gd⟩=>bif cA n dst then(match gd with
  |none=>yK T lk bk dst op
  |some (j,b)=>match ops[j]? with
   |some oj=>match oj.dst with
    |some d=>match lk d with
     |some .tt=>bif b then yK T lk bk dst op else some ⟨none, .un,[],[]⟩
     |some .ff=>bif b then some ⟨none, .un,[],[]⟩ else yK T lk bk dst op
     |some .un=>some ⟨none, .un,[],[]⟩
     |_=>none
    |none=>none
   |none=>none) else none
section
variable {P:Program} {T:TT} {GB:Gh} {C:aH} {n:Nat} {lk:LK} {bk:BM} {ops:Array Oper}
def cg.toS{dst:Option Nat}{op:Op}{ty:TypeId}{pos:String}{af:Array Edge}{gd:Option (Nat×Bool)}{f:FX}{bl:List (Nat×Option Bk)}{nw:List Nat}(h:cg P GB C n lk bk ⟨dst,op,ty,pos,af,gd⟩ f bl nw)(hd:cA n dst=true)
  (hw: ∀ρ G ov a w,bH GB C n lk bk ρ G ov a w->Region.wanted ⟨dst,op,ty,pos,af,gd⟩ (yielded ops a.tmps)=true):va P GB C n ops lk bk ⟨dst,op,ty,pos,af,gd⟩ f bl nw:=by
 intro Q tl tb K s1 s2 hf hk;have:=h hd tl tb (fun a w=>a.defers=C.mks/\K a w) s1 s2 hf ⟨fun ρ G ov a w r=>⟨r.df,hk.run ρ G ov a w r⟩⟩;refine⟨fun ρ G ov a w r=>?_⟩;unfold wO;rw[if_pos (hw ρ G ov a w (r.mono s1 s2))];exact JF (this.run ρ G ov a w r) fun a' w' k=>⟨k.1.trans r.df.symm,k.2⟩
def va.skip{dst:Option Nat}{op:Op}{ty:TypeId}{pos:String}{af:Array Edge}{gd:Option (Nat×Bool)}(hd:cA n dst=true)
  (hw: ∀ρ G ov a w,bH GB C n lk bk ρ G ov a w->Region.wanted ⟨dst,op,ty,pos,af,gd⟩ (yielded ops a.tmps)=false):va P GB C n ops lk bk ⟨dst,op,ty,pos,af,gd⟩ .un [] []:=by
 intro Q tl tb K s1 s2 hf hk;refine⟨fun ρ G ov a w r=>?_⟩;unfold wO;rw[hw ρ G ov a w (r.mono s1 s2)];exact hk.run ρ G ov _ w (r.put J (r.putA undef hd))
def A2{ρ:NE}{G:Gh}{ov:List az}{a:Act}{w:World}(r:bH GB C n lk bk ρ G ov a w){j d:Nat}{oj:Oper}{f:FX}(hj:ops[j]? =some oj)(hd:oj.dst=some d)(hf:lk d=some f): ∃y,ce ρ G f y/\yielded ops a.tmps j=match y with| .bool b=>some b|_=>none:=by
 obtain⟨y,h1,h2⟩:=r.fx d f hf;refine⟨y,h2,?_⟩;unfold yielded;rw[hj];simp only[Option.bind_some,hd,h1]
 cases y<;>rfl
def Qg{o:Oper}{r:CR}(hT:ol P T)(h:yJ T n ops lk bk o=some r)(hv: ∀p,r.vc=some p->p):va P GB C n ops lk bk o r.f r.bl r.nw/\cA n o.dst=true:=by
 obtain⟨dst,op,ty,pos,af,gd⟩:=o;simp only[yJ] at h
 cases hd:cA n dst with
 |false=>rw[hd] at h;cases h
 |true=>
  rw[hd,cond_true] at h;refine⟨?_,J⟩;split at h
  .exact(z7 hT h hv).toS hd fun _ _ _ _ _ _=>J
  .rename_i j b
   split at h<;>try (cases h;done)
   rename_i oj hj;split at h<;>try (cases h;done)
   rename_i d hdj;split at h<;>try (cases h;done)
   .rename_i hl
    have wt: ∀ρ G ov (a:Act) w,bH GB C n lk bk ρ G ov a w->Region.wanted ⟨dst,op,ty,pos,af,some (j,b)⟩ (yielded ops a.tmps)=b:=fun ρ G ov a w r=>by
     obtain⟨y,h1,h2⟩:=A2 r hj hdj hl
     cases h1
     simp only[Region.wanted,h2];cases b<;>rfl
    cases b with
    |true=>exact(z7 hT h hv).toS hd wt
    |false=>cases h;exact .skip hd wt
   .rename_i hl
    have wt: ∀ρ G ov (a:Act) w,bH GB C n lk bk ρ G ov a w->Region.wanted ⟨dst,op,ty,pos,af,some (j,b)⟩ (yielded ops a.tmps)=!b:=fun ρ G ov a w r=>by
     obtain⟨y,h1,h2⟩:=A2 r hj hdj hl
     cases h1
     simp only[Region.wanted,h2];cases b<;>rfl
    cases b with
    |true=>cases h;exact .skip hd wt
    |false=>exact(z7 hT h hv).toS hd wt
   .rename_i hl
    cases h
    refine .skip hd fun ρ G ov a w r=>?_;obtain⟨y,h1,h2⟩:=A2 r hj hdj hl
    cases h1
    simp only[Region.wanted,h2];rfl
end
inductive Kt where
 |sq (c:Code)
 |bl (id:Nat)
 |sc
 |ag (A:Act->World->Prop)
def cQ(rd:Option Nat)(P:Program)(Q0:Exit->Act->World->Prop):List Kt->Exit->Act->World->Prop
 |[]=>Q0
 | .sq y::K=>Exit.then (iO rd P y (cQ rd P Q0 K)) (cQ rd P Q0 K)
 | .bl id::K=>Exit.inBlock id (cQ rd P Q0 K)
 | .sc::K=>Exit.noGoto (cQ rd P Q0 K)
 | .ag A::K=>Exit.then A (cQ rd P Q0 K)
inductive Cf where
 |code (c:Code) (K:List Kt)
 |ops (ops:Array Oper) (r:List Oper) (K:List Kt)
 |dr (id:Nat) (ops:Array Oper) (fr0:aD) (own0:aO) (us:List Rc) (r:List Oper) (K:List Kt)
 |ex (e:Exit) (K:List Kt)
structure yU (P:Program) (GB:Gh) (C:aH) (n:Nat) (ops:Array Oper) (fr0:aD) (own0:aO) (us:List Rc) (r:List Oper) (fr:aD) (own:aO):Prop where
 pre: ∃pre,ops.toList=pre++r/\pre.length=us.length
 st:cI (fun _=>true) 0 (bh fr0,bj own0) us=(bh fr,bj own)
 snd: ∀i u o,us[i]? =some u->ops[i]? =some o->o.dst=u.d/\va P GB C n ops (m7 u.rs (cI (fun j=>decide (j<i)) 0 (bh fr0,bj own0) us).1) (m7 u.rn (cI (fun j=>decide (j<i)) 0 (bh fr0,bj own0) us).2) o u.f u.bl u.nw
def ao(P:Program)(GB:Gh)(C:aH)(n:Nat)(Q0:Exit->Act->World->Prop)(fr:aD)(own:aO):Cf->Prop
 | .code c K=>SX GB C n (bh fr) (bj own) (iO C.rd P c (cQ C.rd P Q0 K))
 | .ops ops r K=>SX GB C n (bh fr) (bj own) (wpListIn (FW C.rd) 0 P ops (cQ C.rd P Q0 K) r)
 | .dr id ops fr0 own0 us r K=>yU P GB C n ops fr0 own0 us r fr own->SX GB C n (bh fr0) (bj own0) (iO C.rd P (.region id ops true) (cQ C.rd P Q0 K))
 | .ex e K=>SX GB C n (bh fr) (bj own) (cQ C.rd P Q0 K e)
structure x7 where
 vc:List Prop
 fr:aD
 own:aO
 cf:Cf
def acc(v:Option Prop)(l:List Prop):List Prop:=match v with
 |some p=>p::l
 |none=>l
def FN{α:Type}(v:Option Prop)(l:List Prop)(k:List Prop->α):α:=match v with
 |some p=>k (p::l)
 |none=>k l
def S'{α:Type}{v:Option Prop}{l:List Prop}{k:List Prop->α}:FN v l k=k (acc v l):=by cases v<;>rfl
def yn{α:Type}(fr:aD)(dst:Option Nat)(f:FX)(k:aD->α):α:=match dst with
 |some d=>k ((d,f)::fr)
 |none=>k fr
def AZ{α:Type}{fr:aD}{dst:Option Nat}{f:FX}{k:aD->α}:yn fr dst f k=k (Dg fr dst f):=by cases dst<;>rfl
def wi(nw:List Nat)(dst:Option Nat)(fr:aD)(own:aO):Bool:=nw.all fun nm=>fr.all (fun e=>yI dst e.1||!xC nm e.2)&&own.all fun e=>Nat.beq e.1 nm||!Dw nm e.2
def yR:List Operand->List Nat
 |[]=>[]
 | .tmp t::r=>t::yR r
 |_::r=>yR r
def C5(fr:aD):List Nat->List Nat
 |[]=>[]
 |t::r=>match bh fr t with
  |some f=>match f.nm with
   |some nm=>nm::C5 fr r
   |none=>C5 fr r
  |none=>C5 fr r
def Fw(o:Oper)(fr:aD)(rs:List Nat):List Nat:=match o.op with
 | .move _=>[]
 |_=>C5 fr rs
def Cn(ops:Array Oper)(o:Oper):List Nat:=match o.guard with
 |some (j,_)=>match ops[j]? with
  |some oj=>match oj.dst with
   |some d=>d::yR o.op.operands.toList
   |none=>yR o.op.operands.toList
  |none=>yR o.op.operands.toList
 |none=>yR o.op.operands.toList
def go(T:TT)(n:Nat):Nat->List Prop->aD->aO->Cf->x7
 |0,l,fr,own,cf=>⟨l,fr,own,cf⟩
 |k+1,l,fr,own, .code c K=>match c with
  | .seq x y=>go T n k l fr own (.code x (.sq y::K))
  | .region id ops d=>bif d then go T n k l fr own (.dr id ops fr own [] ops.toList K) else go T n k l fr own (.ops ops ops.toList K)
  | .skip=>go T n k l fr own (.ex .normal K)
  | .ret=>go T n k l fr own (.ex .ret K)
  | .exit id=>go T n k l fr own (.ex (.exit id) K)
  | .block id c=>go T n k l fr own (.code c (.bl id::K))
  | .scope c=>go T n k l fr own (.code c (.sc::K))
  | .label _=>go T n k l fr own (.ex .normal K)
  | .cond c x y=>match ba (bh fr) c with
   |some .tt=>go T n k l fr own (.code x K)
   |some .ff=>go T n k l fr own (.code y K)
   |_=>⟨l,fr,own, .code (.cond c x y) K⟩
  |c=>⟨l,fr,own, .code c K⟩
 |k+1,l,fr,own, .ex e K=>match K with
  | .sq y::K'=>match e with
   | .normal=>go T n k l fr own (.code y K')
   |e=>go T n k l fr own (.ex e K')
  | .bl id::K'=>match e with
   | .exit j=>bif Nat.beq j id then go T n k l fr own (.ex .normal K') else go T n k l fr own (.ex (.exit j) K')
   |e=>go T n k l fr own (.ex e K')
  | .sc::K'=>bif Mp e then go T n k l fr own (.ex e K') else⟨l,fr,own, .ex e (.sc::K')⟩
  | .ag A::K'=>match e with
   | .normal=>⟨l,fr,own, .ex .normal (.ag A::K')⟩
   |e=>go T n k l fr own (.ex e K')
  |[]=>⟨l,fr,own, .ex e []⟩
 |k+1,l,fr,own, .ops ops r K=>match r with
  |[]=>go T n k l fr own (.ex .normal K)
  |o::r'=>match yJ T n ops (bh fr) (bj own) o with
   |some ⟨v,f,bl,nw⟩=>bif wi nw o.dst fr own then s6 own bl fun own'=>FN v l fun l'=>yn fr o.dst f fun fr'=>go T n k l' fr' own' (.ops ops r' K) else⟨l,fr,own, .ops ops (o::r') K⟩
   |none=>⟨l,fr,own, .ops ops (o::r') K⟩
 |k+1,l,fr,own, .dr id ops fr0 own0 us r K=>match r with
  |[]=>go T n k (((vb (qj ops.toList []) [] us&&o8 0 ops.toList&&Ev us fr0 own0)=true)::l) fr own (.ex .normal K)
  |o::r'=>ma (Cn ops o) fun rs=>ma (Fw o fr rs) fun rn=>match yJ T n ops (m7 rs (bh fr)) (m7 rn (bj own)) o with
   |some ⟨v,f,bl,nw⟩=>s6 own bl fun own'=>ma (us++[⟨rs,o.dst,f,rn,bl,nw⟩]) fun us'=>FN v l fun l'=>yn fr o.dst f fun fr'=>go T n k l' fr' own' (.dr id ops fr0 own0 us' r' K)
   |none=>⟨l,fr,own, .dr id ops fr0 own0 us (o::r') K⟩
def ae:List Prop->Prop
 |[]=>True
 |[p]=>p
 |p::t=>ae t/\p
def Ou{p:Prop}{t:List Prop}:ae (p::t)↔ae t/\p:=by cases t<;>simp[ae]
def Pk{v:Option Prop}{l:List Prop}(h:ae (acc v l)):ae l/\ ∀p,v=some p->p:=by
 cases v with
 |none=>exact⟨h,fun p e=>by cases e⟩
 |some q=>obtain⟨h1,h2⟩:=Ou.1 h;exact⟨h1,fun p e=>by cases e;exact h2⟩
def Ii{f:FX}{k:Nat}: ∀{fr:aD},bh fr k=some f->(k,f)∈fr
 |[],h=>by cases h
 |(j,g)::t,h=>by
  rw[kH] at h;split at h
  .cases h;rename_i e;rw[e];exact aQ
  .exact aX _ (Ii h)
def KN{B:Bk}{k:Nat}: ∀{own:aO},bj own k=some B->(k,some B)∈own
 |[],h=>by cases h
 |(j,g)::t,h=>by
  rw[ks] at h;split at h
  .rename_i e;rw[e,h];exact aQ
  .exact aX _ (KN h)
def Ao{nw:List Nat}{dst:Option Nat}{fr:aD}{own:aO}(h:wi nw dst fr own=true):kO nw dst (bh fr) (bj own):=fun nm hnm=>by
 have:=cN.1 h nm hnm;simp only[bT] at this;refine⟨fun k f hk e hc=>?_,fun k B hk e hm=>?_⟩
 .have:=cN.1 this.1 _ (Ii e)
  simp only[fU,fM,xC] at this;rcases this with h|h
  .exact hk (AH.1 h).symm
  .rw[AH.2 hc] at h;cases h
 .have:=cN.1 this.2 _ (KN e)
  simp only[fU,fM] at this;rcases this with h|h
  .exact hk (aL h)
  .rw[JV hm] at h;cases h
def Lb{us:List Rc}{fr:aD}{own:aO}(h:Ev us fr own=true): ∀r∈us,∀nm∈r.nw,(∀k f,bh fr k=some f->f.nm≠some nm)/\ ∀k B,bj own k=some B-> ¬B.men nm:=fun r hr nm hnm=>by
 have:=cN.1 (cN.1 h r hr) nm hnm;simp only[bT] at this;refine⟨fun k f e hc=>?_,fun k B e hm=>?_⟩
 .have:=cN.1 this.1 _ (Ii e)
  simp only[fM,xC] at this;rw[AH.2 hc] at this;cases this
 .have:=cN.1 this.2 _ (KN e)
  simp only[fM] at this;rw[JV hm] at this;cases this
section
variable {P:Program} {T:TT} {GB:Gh} {C:aH} {n:Nat} {Q0:Exit->Act->World->Prop} {fr fr0:aD} {own own0:aO} {ops:Array Oper} {us:List Rc} {r:List Oper} {o:Oper} {K:List Kt}
def Dy{p q:Nat->Bool}{u:Rc}: ∀{us:List Rc} {k:Nat} {s:ST},(∀j,j<us.length->p (k+j)=q (k+j))->cI p k s (us++[u])=if p (k+us.length) then u.ap (cI q k s us) else cI q k s us
 |[],k,s,h=>rfl
 |x::t,k,s,h=>by
  simp only[jW,cI];rw[Dy (q:=q) fun j hj=>by have:=h (j+1) omo;rwa [show k+(j+1)=k+1+j by omega] at this];have h0:=h 0 omc;rw[gW] at h0;rw[h0,bZ,show k+1+t.length=k+(t.length+1) by omega]
def yU.push(D:yU P GB C n ops fr0 own0 us (o::r) fr own){rs rn nw:List Nat}{f:FX}{bl:List (Nat×Option Bk)}(h:va P GB C n ops (m7 rs (bh fr)) (m7 rn (bj own)) o f bl nw):yU P GB C n ops fr0 own0 (us++[⟨rs,o.dst,f,rn,bl,nw⟩]) r (Dg fr o.dst f) (wh own bl):=by
 obtain⟨pre,hp,hl⟩:=D.pre;refine⟨⟨pre++[o],by rw[hp];simp,by simp[hl]⟩,?_,fun i u o' hu ho=>?_⟩
 .rw[Dy (q:=fun _=>true) fun _ _=>J,if_pos J,D.st]
  simp only[Rc.ap];rw[Kx,DZ]
 .rw[List.getElem?_append] at hu
  split at hu
  .rename_i hi
   obtain⟨h1,h2⟩:=D.snd i u o' hu ho;rw[Dy (q:=fun j=>decide (j<i)) fun _ _=>J,if_neg omo];exact⟨h1,h2⟩
  .rename_i hi
   by_cases e:i=us.length
   .subst e
    simp at hu;subst hu;have ho':ops[us.length]? =some o:=by
     have:ops.toList[us.length]? =some o:=by rw[hp,<-hl];simp
     simpa using this
    rw[ho'] at ho;cases ho;refine⟨J,?_⟩;rw[Dy (q:=fun _=>true) fun j hj=>by simpa using hj,if_neg omc,D.st];exact h
   .rw[eJ omo] at hu;cases hu
def yU.done(D:yU P GB C n ops fr0 own0 us [] fr own){id:Nat}(hm:P.follows .mixedOrders=true)(h:(vb (qj ops.toList []) [] us&&o8 0 ops.toList&&Ev us fr0 own0)=true)(hk:SX GB C n (bh fr) (bj own) (cQ C.rd P Q0 K .normal)):
  SX GB C n (bh fr0) (bj own0) (iO C.rd P (.region id ops true) (cQ C.rd P Q0 K)):=by
 obtain⟨pre,hp,hl⟩:=D.pre;simp only[bT] at h;have D':kt P GB C n ops us (bh fr0,bj own0):=⟨by rw[<-hl,<-iL,hp];simp,D.snd,h.1.1,h.1.2,Lb h.2⟩;exact D'.region hm (by rw[D.st];exact hk)
def SX.op{Q:Exit->Act->World->Prop}{f:FX}{bl:List (Nat×Option Bk)}{nw:List Nat}(h:va P GB C n ops (bh fr) (bj own) o f bl nw)(hf:kO nw o.dst (bh fr) (bj own))(hk:SX GB C n (bh (Dg fr o.dst f)) (bj (wh own bl)) (wpListIn (FW C.rd) 0 P ops Q r)):SX GB C n (bh fr) (bj own) (wpListIn (FW C.rd) 0 P ops Q (o::r)):=by
 rw[Kx,DZ] at hk;refine(h Q _ _ _ (lc.refl _) (lc.refl _) hf hk).imp fun a w q=>?_;unfold wO at q;simp only[wpListIn];split
 .rename_i hw;rw[if_pos hw] at q;exact q
 .rename_i hw;rw[if_neg hw] at q;exact⟨fun _ _=>trivial,q⟩
def SX.cond{lk:LK}{bk:BM}{Q:Exit->Act->World->Prop}{c:Operand}{x y:Code}{b:Bool}{f:FX}(hc:ba lk c=some f)(hb:ug f=some b)(h1:b=true->SX GB C n lk bk (iO C.rd P x Q))(h2:b=false->SX GB C n lk bk (iO C.rd P y Q)):SX GB C n lk bk (iO C.rd P (.cond c x y) Q):=by
 refine⟨fun ρ G ov a w r=>?_⟩;obtain⟨v,hv,hv'⟩:=r.ev hc;rw[xB hv' hb] at hv;exact Wy (bu (dt a) hv) (fun e=>(h1 e).run ρ G ov a w r) (fun e=>(h2 e).run ρ G ov a w r)
def js(hT:ol P T)(hm:P.follows .mixedOrders=true): ∀(k:Nat) (l:List Prop) (fr:aD) (own:aO) (cf:Cf),ae (go T n k l fr own cf).vc->ae l/\(ao P GB C n Q0 (go T n k l fr own cf).fr (go T n k l fr own cf).own (go T n k l fr own cf).cf->ao P GB C n Q0 fr own cf)
 |0,l,fr,own,cf,h=>by simp only[go] at h⊢;exact⟨h,id⟩
 |k+1,l,fr,own, .code c K,h=>by
  cases c with
  |seq x y=>simp only[go] at h⊢;obtain⟨h1,h2⟩:=js hT hm k _ _ _ _ h;exact⟨h1,fun hk=>(h2 hk).imp fun a w q=>YH q⟩
  |region id ops d=>
   simp only[go] at h⊢
   cases d with
   |false=>simp only[cond_false] at h⊢;obtain⟨h1,h2⟩:=js hT hm k _ _ _ _ h;exact⟨h1,fun hk=>(h2 hk).imp fun a w q=>Uv q⟩
   |true=>simp only[cond_true] at h⊢;obtain⟨h1,h2⟩:=js hT hm k _ _ _ _ h;exact⟨h1,fun hk=>h2 hk ⟨⟨[],rfl,rfl⟩,rfl,fun i u o hu=>by simp at hu⟩⟩
  |skip=>simp only[go] at h⊢;obtain⟨h1,h2⟩:=js hT hm k _ _ _ _ h;exact⟨h1,fun hk=>(h2 hk).imp fun a w q=>aAy q⟩
  |ret=>simp only[go] at h⊢;obtain⟨h1,h2⟩:=js hT hm k _ _ _ _ h;exact⟨h1,fun hk=>(h2 hk).imp fun a w q=>Ws q⟩
  |exit id=>simp only[go] at h⊢;obtain⟨h1,h2⟩:=js hT hm k _ _ _ _ h;exact⟨h1,fun hk=>(h2 hk).imp fun a w q=>VV q⟩
  |block id c=>simp only[go] at h⊢;obtain⟨h1,h2⟩:=js hT hm k _ _ _ _ h;exact⟨h1,fun hk=>(h2 hk).imp fun a w q=>U9 q⟩
  |scope c=>simp only[go] at h⊢;obtain⟨h1,h2⟩:=js hT hm k _ _ _ _ h;exact⟨h1,fun hk=>(h2 hk).imp fun a w q=>auU q⟩
  |label j=>simp only[go] at h⊢;obtain⟨h1,h2⟩:=js hT hm k _ _ _ _ h;exact⟨h1,fun hk=>(h2 hk).imp fun a w q=>awG q⟩
  |cond c x y=>
   simp only[go] at h⊢
   cases hc:ba (bh fr) c with
   |none=>simp only[hc] at h⊢;exact⟨h,id⟩
   |some f=>
    cases f with
    |tt=>simp only[hc] at h⊢;obtain⟨h1,h2⟩:=js hT hm k _ _ _ _ h;exact⟨h1,fun hk=>SX.cond hc rfl (fun _=>h2 hk) (fun e=>by cases e)⟩
    |ff=>simp only[hc] at h⊢;obtain⟨h1,h2⟩:=js hT hm k _ _ _ _ h;exact⟨h1,fun hk=>SX.cond hc rfl (fun e=>by cases e) (fun _=>h2 hk)⟩
    |_=>simp only[hc] at h⊢;exact⟨h,id⟩
  |_=>simp only[go] at h⊢;exact⟨h,id⟩
 |k+1,l,fr,own, .ex e K,h=>by
  cases K with
  |nil=>simp only[go] at h⊢;exact⟨h,id⟩
  |cons x K=>
   cases x with
   |sq y=>cases e<;>(simp only[go] at h⊢;obtain⟨h1,h2⟩:=js hT hm k _ _ _ _ h;exact⟨h1,fun hk=>h2 hk⟩)
   |bl id=>
    cases e with
    |exit j=>
     simp only[go] at h⊢
     cases hb:Nat.beq j id with
     |true=>
      simp only[hb,cond_true] at h⊢;obtain⟨h1,h2⟩:=js hT hm k _ _ _ _ h;exact⟨h1,fun hk=>(h2 hk).imp fun a w q=>by simp only[cQ,Exit.inBlock,aL hb,if_true];exact q⟩
     |false=>
      have hne:j≠id:=fun e=>by subst e;simp at hb
      simp only[hb,cond_false] at h⊢;obtain⟨h1,h2⟩:=js hT hm k _ _ _ _ h;exact⟨h1,fun hk=>(h2 hk).imp fun a w q=>by simp only[cQ,Exit.inBlock,hne,if_false];exact q⟩
    |_=>simp only[go] at h⊢;obtain⟨h1,h2⟩:=js hT hm k _ _ _ _ h;exact⟨h1,fun hk=>h2 hk⟩
   |sc=>
    simp only[go] at h⊢
    cases hb:Mp e with
    |true=>
     simp only[hb,cond_true] at h⊢;obtain⟨h1,h2⟩:=js hT hm k _ _ _ _ h;refine⟨h1,fun hk=>(h2 hk).imp fun a w q=>?_⟩
     cases e<;>first|exact q|cases hb
    |false=>simp only[hb,cond_false] at h⊢;exact⟨h,id⟩
   |ag A=>
    cases e with
    |normal=>simp only[go] at h⊢;exact⟨h,id⟩
    |_=>simp only[go] at h⊢;obtain⟨h1,h2⟩:=js hT hm k _ _ _ _ h;exact⟨h1,fun hk=>h2 hk⟩
 |k+1,l,fr,own, .ops ops r K,h=>by
  cases r with
  |nil=>simp only[go] at h⊢;obtain⟨h1,h2⟩:=js hT hm k _ _ _ _ h;exact⟨h1,fun hk=>h2 hk⟩
  |cons o r=>
   simp only[go] at h⊢
   cases hs:yJ T n ops (bh fr) (bj own) o with
   |none=>simp only[hs] at h⊢;exact⟨h,id⟩
   |some x=>
    obtain⟨v,f,bl,nw⟩:=x;simp only[hs] at h⊢
    cases hf:wi nw o.dst fr own with
    |false=>simp only[hf,cond_false] at h⊢;exact⟨h,id⟩
    |true=>
     simp only[hf,cond_true] at h⊢;simp only[wZ,S',AZ] at h⊢;obtain⟨h1,h2⟩:=js hT hm k _ _ _ _ h;obtain⟨h3,h4⟩:=Pk h1;exact⟨h3,fun hk=>SX.op (Qg hT hs h4).1 (Ao hf) (h2 hk)⟩
 |k+1,l,fr,own, .dr id ops fr0 own0 us r K,h=>by
  cases r with
  |nil=>
   simp only[go] at h⊢;obtain⟨h1,h2⟩:=js hT hm k _ _ _ _ h;obtain⟨h3,h4⟩:=Ou.1 h1;exact⟨h3,fun hk D=>D.done hm h4 (h2 hk)⟩
  |cons o r=>
   simp only[go,uk] at h⊢;generalize Cn ops o=rs at h⊢;generalize Fw o fr rs=rn at h⊢
   cases hs:yJ T n ops (m7 rs (bh fr)) (m7 rn (bj own)) o with
   |none=>simp only[hs] at h⊢;exact⟨h,fun x=>x⟩
   |some x=>
    obtain⟨v,f,bl,nw⟩:=x;simp only[hs] at h⊢;simp only[wZ,S',AZ] at h⊢;obtain⟨h1,h2⟩:=js hT hm k _ _ _ _ h;obtain⟨h3,h4⟩:=Pk h1;exact⟨h3,fun hk D=>h2 hk (D.push (Qg hT hs h4).1)⟩
end
def tt:TT:=[
 (2,⟨.int .i64,1,some [.d (.v (.int .i64 0))],false⟩),
 (3,⟨.int .i64,1,some [.d (.v (.int .i64 0))],false⟩),
 (4,⟨.bl,1,some [.ff],false⟩),
 (5,⟨.int .u8,1,some [.d (.v (.int .u8 0))],false⟩),
 (9,⟨.sc,1,some [.d (.v (.string ⟨#[]⟩))],false⟩),
 (22,⟨.sl 3 1 8,1,some [.nl],false⟩),
 (23,⟨.pt,1,some [.d (.v (.pointer none))],false⟩),
 (25,⟨.sl 72 6 112,1,some [.nl],false⟩),
 (30,⟨.sl 166 8 112,1,some [.nl],false⟩),
 (32,⟨.st [(0,3,1),(1,30,1)],2,some [.d (.v (.int .i64 0)), .nl],true⟩),
 (34,⟨.pt,1,some [.d (.v (.pointer none))],false⟩),
 (36,⟨.sl 25 1 24,1,some [.nl],false⟩),
 (37,⟨.sl 83 6 96,1,some [.nl],false⟩),
 (39,⟨.st [(0,36,1),(1,3,1),(2,37,1)],3,some [.nl, .d (.v (.int .i64 0)), .nl],true⟩),
 (41,⟨.sl 105 1 24,1,some [.nl],false⟩),
 (43,⟨.sl 227 1 4,1,some [.nl],false⟩),
 (44,⟨.sl 227 1 4,1,some [.nl],false⟩),
 (46,⟨.st [(0,4,1),(1,44,1)],2,some [.ff, .nl],true⟩),
 (48,⟨.st [(0,46,2),(2,44,1)],3,some [.ff, .nl, .nl],true⟩),
 (50,⟨.fc,1,some [.d (.v (.nilIface))],false⟩),
 (53,⟨.sl 227 1 4,1,some [.nl],false⟩),
 (55,⟨.st [(0,4,1),(1,53,1)],2,some [.ff, .nl],true⟩),
 (57,⟨.st [(0,55,2),(2,53,1)],3,some [.ff, .nl, .nl],true⟩),
 (63,⟨.st [(0,48,3),(3,48,3)],6,some [.ff, .nl, .nl, .ff, .nl, .nl],true⟩),
 (70,⟨.st [(0,22,1),(1,3,1)],2,some [.nl, .d (.v (.int .i64 0))],true⟩),
 (72,⟨.st [(0,57,3),(3,57,3)],6,some [.ff, .nl, .nl, .ff, .nl, .nl],true⟩),
 (80,⟨.sl 87 14 216,1,some [.nl],false⟩),
 (83,⟨.st [(0,55,2),(2,55,2),(4,55,2)],6,some [.ff, .nl, .ff, .nl, .ff, .nl],true⟩),
 (85,⟨.st [(0,57,3),(3,57,3),(6,4,1),(7,4,1)],8,some [.ff, .nl, .nl, .ff, .nl, .nl, .ff, .ff],true⟩),
 (87,⟨.st [(0,83,6),(6,85,8)],14,some [.ff, .nl, .ff, .nl, .ff, .nl, .ff, .nl, .nl, .ff, .nl, .nl, .ff, .ff],true⟩),
 (92,⟨.sl 63 6 112,1,some [.nl],false⟩),
 (105,⟨.sl 63 6 112,1,some [.nl],false⟩),
 (108,⟨.sl 214 1 24,1,some [.nl],false⟩),
 (111,⟨.pt,1,some [.d (.v (.pointer none))],false⟩),
 (113,⟨.st [(0,2,1),(1,2,1),(2,111,1)],3,some [.d (.v (.int .i64 0)), .d (.v (.int .i64 0)), .d (.v (.pointer none))],true⟩),
 (119,⟨.st [(0,113,3),(3,113,3)],6,some [.d (.v (.int .i64 0)), .d (.v (.int .i64 0)), .d (.v (.pointer none)), .d (.v (.int .i64 0)), .d (.v (.int .i64 0)), .d (.v (.pointer none))],true⟩),
 (124,⟨.pt,1,some [.d (.v (.pointer none))],false⟩),
 (135,⟨.sl 85 8 120,1,some [.nl],false⟩),
 (142,⟨.o,9,some [.d (.v (.int .i64 0)), .d (.v (.int .i64 0)), .d (.v (.pointer none)), .d (.v (.int .i64 0)), .d (.v (.int .i64 0)), .d (.v (.pointer none)), .d (.v (.int .i64 0)), .d (.v (.int .i64 0)), .d (.v (.pointer none))],true⟩),
 (146,⟨.o,12,some [.d (.v (.int .i64 0)), .d (.v (.int .i64 0)), .d (.v (.pointer none)), .d (.v (.int .i64 0)), .d (.v (.int .i64 0)), .d (.v (.pointer none)), .d (.v (.int .i64 0)), .d (.v (.int .i64 0)), .d (.v (.pointer none)), .d (.v (.int .i64 0)), .d (.v (.int .i64 0)), .d (.v (.pointer none))],true⟩),
 (159,⟨.int .u64,1,some [.d (.v (.int .u64 0))],false⟩),
 (161,⟨.st [(0,4,1),(1,4,1),(2,83,6),(8,34,1),(9,34,1)],10,some [.ff, .ff, .ff, .nl, .ff, .nl, .ff, .nl, .d (.v (.pointer none)), .d (.v (.pointer none))],true⟩),
 (163,⟨.st [(0,46,2),(2,46,2),(4,46,2)],6,some [.ff, .nl, .ff, .nl, .ff, .nl],true⟩),
 (166,⟨.st [(0,163,6),(6,3,1),(7,3,1)],8,some [.ff, .nl, .ff, .nl, .ff, .nl, .d (.v (.int .i64 0)), .d (.v (.int .i64 0))],true⟩),
 (184,⟨.st [(0,46,2),(2,44,1)],3,some [.ff, .nl, .nl],true⟩),
 (185,⟨.pt,1,some [.d (.v (.pointer none))],false⟩),
 (186,⟨.sl 4 1 1,1,some [.nl],false⟩),
 (188,⟨.st [(0,30,1),(1,186,1),(2,3,1),(3,4,1)],4,some [.nl, .nl, .d (.v (.int .i64 0)), .ff],true⟩),
 (190,⟨.sl 119 6 48,1,some [.nl],false⟩),
 (202,⟨.sl 57 3 56,1,some [.nl],false⟩),
 (213,⟨.sl 273 17 128,1,some [.nl],false⟩),
 (214,⟨.sl 273 17 128,1,some [.nl],false⟩),
 (227,⟨.int .u32,1,some [.d (.v (.int .u32 0))],false⟩),
 (228,⟨.int .u64,1,some [.d (.v (.int .u64 0))],false⟩),
 (239,⟨.o,2,some [.nl, .nl],true⟩),
 (258,⟨.st [(0,113,3),(3,113,3),(6,113,3)],9,some [.d (.v (.int .i64 0)), .d (.v (.int .i64 0)), .d (.v (.pointer none)), .d (.v (.int .i64 0)), .d (.v (.int .i64 0)), .d (.v (.pointer none)), .d (.v (.int .i64 0)), .d (.v (.int .i64 0)), .d (.v (.pointer none))],true⟩),
 (268,⟨.st [(0,258,9),(9,124,1),(10,124,1),(11,4,1)],12,some [.d (.v (.int .i64 0)), .d (.v (.int .i64 0)), .d (.v (.pointer none)), .d (.v (.int .i64 0)), .d (.v (.int .i64 0)), .d (.v (.pointer none)), .d (.v (.int .i64 0)), .d (.v (.int .i64 0)), .d (.v (.pointer none)), .d (.v (.pointer none)), .d (.v (.pointer none)), .ff],true⟩),
 (271,⟨.st [(0,113,3),(3,113,3),(6,4,1),(7,4,1)],8,some [.d (.v (.int .i64 0)), .d (.v (.int .i64 0)), .d (.v (.pointer none)), .d (.v (.int .i64 0)), .d (.v (.int .i64 0)), .d (.v (.pointer none)), .ff, .ff],true⟩),
 (273,⟨.st [(0,258,9),(9,271,8)],17,some [.d (.v (.int .i64 0)), .d (.v (.int .i64 0)), .d (.v (.pointer none)), .d (.v (.int .i64 0)), .d (.v (.int .i64 0)), .d (.v (.pointer none)), .d (.v (.int .i64 0)), .d (.v (.int .i64 0)), .d (.v (.pointer none)), .d (.v (.int .i64 0)), .d (.v (.int .i64 0)), .d (.v (.pointer none)), .d (.v (.int .i64 0)), .d (.v (.int .i64 0)), .d (.v (.pointer none)), .ff, .ff],true⟩),
 (289,⟨.sl 292 2 32,1,some [.nl],false⟩),
 (292,⟨.st [(0,214,1),(1,124,1)],2,some [.nl, .d (.v (.pointer none))],true⟩),
 (311,⟨.int .i64,1,some [.d (.v (.int .i64 0))],false⟩),
 (322,⟨.int .u64,1,some [.d (.v (.int .u64 0))],false⟩),
 (326,⟨.pt,1,some [.d (.v (.pointer none))],false⟩),
 (348,⟨.pt,1,some [.d (.v (.pointer none))],false⟩),
 (366,⟨.st [(0,9,1)],1,some [.d (.v (.string ⟨#[]⟩))],true⟩)]
def fp:ol Go.Proofs.Tryz.prog tt:=ol.of omd
end Go.Sx
end
section
namespace Go.Sx
open Go Go.Proofs Tryz
def th:Nat->List DV->aD
 |_,[]=>[]
 |i,v::t=>(i, .d v)::th (i+1) t
class Fu where n:Nat
instance fu0:Fu:=⟨400⟩
section
variable {GB:Gh} {C:aH} {n:Nat} {Q0:Exit->Act->World->Prop} {fr fr':aD} {own own':aO} {cf cf':Cf} {vc vc':List Prop} {ops:Array Oper} {r:List Oper} {o:Oper} {K:List Kt}
def gD{q:Nat}(h:go tt n q [] fr own cf=⟨vc,fr',own',cf'⟩)(hv:ae vc)(k:ao prog GB C n Q0 fr' own' cf'):ao prog GB C n Q0 fr own cf:=by
 have:=(js (GB:=GB) (C:=C) (Q0:=Q0) fp follows q [] fr own cf (by rw[h];exact hv)).2;rw[h] at this;exact this k
def gx[fu:Fu](h:go tt n fu.n [] fr own cf=⟨vc,fr',own',cf'⟩)(k:ao prog GB C n Q0 fr' own' cf')(hv:ae vc:=by first|exact trivial|(simp only[ae];kernel_rfl)|(simp only[ae];omega)|(simp only[ae,aK,aM,aU];omega)):ao prog GB C n Q0 fr own cf:=gD h hv k
def OI: ∀{ds:List DV} {vs:List Value} {ρ:NE} {G:Gh} (i:Nat),IsLs G ds vs-> ∀k f,bh (th i ds) k=some f-> ∃y,(∃j,k=i+j/\vs[j]? =some y)/\ce ρ G f y
 |[],vs,ρ,G,i,h,k,f,e=>by cases e
 |d::t,vs,ρ,G,i,h,k,f,e=>by
  obtain⟨y,m,rfl,h1,h2⟩:=bO.1 h;simp only[th] at e;rw[kH] at e;split at e
  .cases e;rename_i hk;exact⟨y,⟨0,hk,rfl⟩,h1⟩
  .obtain⟨u,⟨j,hj,hu⟩,h3⟩:=OI (i+1) h2 k f e
   exact⟨u,⟨j+1,we,by simpa using hu⟩,h3⟩
def yG{ds:List DV}{vs:List Value}{ρ:NE}{G:Gh}{a:Act}(h:IsLs G ds vs)(hf:ng (pn 0 vs) a)(k:Nat)(f:FX)(e:bh (th 0 ds) k=some f): ∃y,a.tmps[k]? =some y/\ce ρ G f y:=by
 obtain⟨y,⟨j,hj,hy⟩,h1⟩:=OI (ρ:=ρ) 0 h k f e;refine⟨y,hf k y ?_,h1⟩;rw[hj];exact wV vs 0 j y hy
theorem okD{p:Prop}(h:p:=by rw[hvs.len];exact hlen):p:=h
def fn[fu:Fu]{f:FuncId}{fb:Func}{c:Code}{m:Nat}{ds:List DV}{rv:DV}(hf:prog.funcs[f]? =some fb)(hb:fb.body=some c)(hn:(fb.name== "runtime.NumGoroutine")=false)(hm:fb.ntmps=m)(hlen:Nat.ble ds.length m=true)
  (hgo:go tt m fu.n [] (th 0 ds) [] (.code c [])=⟨vc,fr,own,cf⟩)(k: ∀C:aH,ao prog GB C m (gu C prog fb (mE C (fun v G'=>Is G' rv v))) fr own cf)
  (hv:ae vc:=by first|exact trivial|(simp only[ae];kernel_rfl)|(simp only[ae];omega)|(simp only[ae,aK,aM,aU];omega)):PF GB prog f ds rv:=by
 intro G vs hg hvs;refine Fn.introR hf hb hn hm okD fun C _ _ hrd hfx=>?_;intro a w rl;refine vR hrd ?_;have h:=gD (GB:=GB) (C:=C) (Q0:=gu C prog fb (mE C (fun v G'=>Is G' rv v))) hgo hv (k C);exact h.run (fun _=>⟨none,0,0⟩) G [] a w ⟨hg,rl.h,rl.sz,rl.df,(fun k f e=>yG hvs rl.fr k f e),(fun nm B e=>by cases e),(fun nm nm' B B' e=>by cases e),fun nm p _ _ e=>by rw[hfx] at e;cases e⟩
def ao.cond{c:Operand}{x y:Code}{b:Bool}{f:FX}(hc:ba (bh fr) c=some f)(hb:ug f=some b)(h1:b=true->ao prog GB C n Q0 fr own (.code x K))(h2:b=false->ao prog GB C n Q0 fr own (.code y K)):ao prog GB C n Q0 fr own (.code (.cond c x y) K):=SX.cond hc hb h1 h2
variable {fr1 fr2:aD} {own1 own2:aO} {cf1 cf2:Cf} {vc1 vc2:List Prop}
def br[fu1:Fu][fu2:Fu]{p:Prop}{hp:Decidable p}{c:Operand}{x y:Code}(hc:ba (bh fr) c=some (.pr p hp))(g1:go tt n fu1.n [] fr own (.code x K)=⟨vc1,fr1,own1,cf1⟩)(g2:go tt n fu2.n [] fr own (.code y K)=⟨vc2,fr2,own2,cf2⟩)
  (k1:p->ao prog GB C n Q0 fr1 own1 cf1)(k2: ¬p->ao prog GB C n Q0 fr2 own2 cf2)
  (v1:p->ae vc1:=by intro;first|exact trivial|(simp only[ae];omega)|(simp only[ae,aK,aM,aU];omega))(v2: ¬p->ae vc2:=by intro;first|exact trivial|(simp only[ae];omega)|(simp only[ae,aK,aM,aU];omega)):ao prog GB C n Q0 fr own (.code (.cond c x y) K):=
 .cond hc J (fun h=>gD g1 (v1 (of_decide_eq_true h)) (k1 (of_decide_eq_true h))) (fun h=>gD g2 (v2 (of_decide_eq_false h)) (k2 (of_decide_eq_false h)))
def bd[fu1:Fu][fu2:Fu]{p:Prop}{hp:Decidable p}{c:Operand}{x y:Code}(hc:ba (bh fr) c=some (.d (.v (.bool (@decide p hp)))))(g1:go tt n fu1.n [] fr own (.code x K)=⟨vc1,fr1,own1,cf1⟩)(g2:go tt n fu2.n [] fr own (.code y K)=⟨vc2,fr2,own2,cf2⟩)
  (k1:p->ao prog GB C n Q0 fr1 own1 cf1)(k2: ¬p->ao prog GB C n Q0 fr2 own2 cf2)
  (v1:p->ae vc1:=by intro;first|exact trivial|(simp only[ae];omega)|(simp only[ae,aK,aM,aU];omega))(v2: ¬p->ae vc2:=by intro;first|exact trivial|(simp only[ae];omega)|(simp only[ae,aK,aM,aU];omega)):ao prog GB C n Q0 fr own (.code (.cond c x y) K):=
 .cond hc J (fun h=>gD g1 (v1 (of_decide_eq_true h)) (k1 (of_decide_eq_true h))) (fun h=>gD g2 (v2 (of_decide_eq_false h)) (k2 (of_decide_eq_false h)))
def bb[fu1:Fu][fu2:Fu]{b:Bool}{c:Operand}{x y:Code}(hc:ba (bh fr) c=some (.d (.v (.bool b))))(g1:go tt n fu1.n [] fr own (.code x K)=⟨vc1,fr1,own1,cf1⟩)(g2:go tt n fu2.n [] fr own (.code y K)=⟨vc2,fr2,own2,cf2⟩)
  (k1:b=true->ao prog GB C n Q0 fr1 own1 cf1)(k2:b=false->ao prog GB C n Q0 fr2 own2 cf2)
  (v1:b=true->ae vc1:=by intro;first|exact trivial|(simp only[ae];omega)|(simp only[ae,aK,aM,aU];omega))(v2:b=false->ae vc2:=by intro;first|exact trivial|(simp only[ae];omega)|(simp only[ae,aK,aM,aU];omega)):ao prog GB C n Q0 fr own (.code (.cond c x y) K):=
 .cond hc J (fun h=>gD g1 (v1 h) (k1 h)) (fun h=>gD g2 (v2 h) (k2 h))
def qO{d:Nat}{f g:FX}(hl:bh fr d=some f)(hi: ∀ρ G y,ce ρ G f y->ce ρ G g y){Φ:Act->World->Prop}(h:SX GB C n (bh ((d,g)::fr)) (bj own) Φ):SX GB C n (bh fr) (bj own) Φ:=by
 refine⟨fun ρ G ov a w r=>h.run ρ G ov a w ⟨r.gb,r.h,r.sz,r.df,fun k f' e=>?_,r.bx,r.dj,r.fxd⟩⟩;rw[kH] at e;split at e
 .cases e;rename_i hk;subst hk
  obtain⟨y,h1,h2⟩:=r.fx _ _ hl;exact⟨y,h1,hi _ _ _ h2⟩
 .exact r.fx k f' e
def ah(d:Nat){f:FX}(g:FX)(hl:bh fr d=some f)(e:f=g)(h:ao prog GB C n Q0 ((d,g)::fr) own cf):ao prog GB C n Q0 fr own cf:=by
 have hs:bh ((d,g)::fr)=bh fr:=by
  funext k;rw[kH];split
  .rename_i hk;rw[hk,hl,e]
  .rfl
 cases cf with
 |dr id ops fr0 own0 us r K=>exact fun D=>h ⟨D.pre,by rw[hs];exact D.st,D.snd⟩
 |_=>unfold ao at h⊢;rw[hs] at h;exact h
def kT(d:Nat){p:Prop}{hp:Decidable p}(hl:bh fr d=some (.pr p hp))(h:p)(k:ao prog GB C n Q0 ((d, .tt)::fr) own (.ops ops r K)):ao prog GB C n Q0 fr own (.ops ops r K):=
 qO hl (fun _ _ _ e=>by rw[show _=_ from e,decide_eq_true h];exact J) k
def kF(d:Nat){p:Prop}{hp:Decidable p}(hl:bh fr d=some (.pr p hp))(h: ¬p)(k:ao prog GB C n Q0 ((d, .ff)::fr) own (.ops ops r K)):ao prog GB C n Q0 fr own (.ops ops r K):=
 qO hl (fun _ _ _ e=>by rw[show _=_ from e,decide_eq_false h];exact J) k
def WA(d:Nat)(hl:bh fr d=some .nl){e:Exit}(h:ao prog GB C n Q0 ((d, .d (.sl []))::fr) own (.ex e K)):ao prog GB C n Q0 fr own (.ex e K):=
 qO (g:= .d (.sl [])) hl (fun ρ G y hy=>(show Is G (.sl []) y from og (ρ:=ρ) (f:= .nl) hy J)) h
def PF.to{f:FuncId}{ds:List DV}{r1 r2:DV}{P:Program}(h:PF GB P f ds r1)(e:r1=r2):PF GB P f ds r2:=e▸h
def cs[fu1:Fu][fu2:Fu](d:Nat){p:Prop}{hp:Decidable p}(hl:bh fr d=some (.pr p hp))(g1:go tt n fu1.n [] ((d, .tt)::fr) own (.ops ops r K)=⟨vc1,fr1,own1,cf1⟩)(g2:go tt n fu2.n [] ((d, .ff)::fr) own (.ops ops r K)=⟨vc2,fr2,own2,cf2⟩)
  (k1:p->ao prog GB C n Q0 fr1 own1 cf1)(k2: ¬p->ao prog GB C n Q0 fr2 own2 cf2)
  (v1:p->ae vc1:=by intro;first|exact trivial|(simp only[ae];omega)|(simp only[ae,aK,aM,aU];omega))(v2: ¬p->ae vc2:=by intro;first|exact trivial|(simp only[ae];omega)|(simp only[ae,aK,aM,aU];omega)):ao prog GB C n Q0 fr own (.ops ops r K):=by
 by_cases h:p
 .exact qO hl (fun _ _ _ e=>by rw[show _=_ from e,decide_eq_true h];exact J) (gD g1 (v1 h) (k1 h))
 .exact qO hl (fun _ _ _ e=>by rw[show _=_ from e,decide_eq_false h];exact J) (gD g2 (v2 h) (k2 h))
def j'[fu1:Fu][fu2:Fu](d:Nat){b:Bool}(hl:bh fr d=some (.d (.v (.bool b))))(g1:go tt n fu1.n [] ((d, .tt)::fr) own (.ops ops r K)=⟨vc1,fr1,own1,cf1⟩)(g2:go tt n fu2.n [] ((d, .ff)::fr) own (.ops ops r K)=⟨vc2,fr2,own2,cf2⟩)
  (k1:b=true->ao prog GB C n Q0 fr1 own1 cf1)(k2:b=false->ao prog GB C n Q0 fr2 own2 cf2)
  (v1:b=true->ae vc1:=by intro;first|exact trivial|(simp only[ae];omega)|(simp only[ae,aK,aM,aU];omega))(v2:b=false->ae vc2:=by intro;first|exact trivial|(simp only[ae];omega)|(simp only[ae,aK,aM,aU];omega)):ao prog GB C n Q0 fr own (.ops ops r K):=by
 cases h:b with
 |true=>exact qO hl (fun _ G _ e=>by rw[(bE (G:=G)).1 e,h];exact J) (gD g1 (v1 h) (k1 h))
 |false=>exact qO hl (fun _ G _ e=>by rw[(bE (G:=G)).1 e,h];exact J) (gD g2 (v2 h) (k2 h))
def F6:Cf->Option (Array Oper×Oper)
 | .ops ops (o::_) _=>some (ops,o)
 | .dr _ ops _ _ _ (o::_) _=>some (ops,o)
 |_=>none
def co(fr:aD):Cf->LK
 | .dr _ ops _ _ _ (o::_) _=>m7 (Cn ops o) (bh fr)
 |_=>bh fr
def i6(fr:aD)(own:aO):Cf->BM
 | .dr _ ops _ _ _ (o::_) _=>m7 (Fw o fr (Cn ops o)) (bj own)
 |_=>bj own
def qi:x7:=⟨[False],[],[], .ex .normal []⟩
def dl(T:TT)(n q:Nat)(fr:aD)(own:aO)(cf:Cf)(f:FX)(bl:List (Nat×Option Bk))(nw:List Nat):x7:=match cf with
 | .ops ops (o::r) K=>bif wi nw o.dst fr own&&cA n o.dst then s6 own bl fun own'=>yn fr o.dst f fun fr'=>go T n q [] fr' own' (.ops ops r K) else qi
 | .dr id ops fr0 own0 us (o::r) K=>bif cA n o.dst then ma (Cn ops o) fun rs=>ma (Fw o fr rs) fun rn=>s6 own bl fun own'=>ma (us++[⟨rs,o.dst,f,rn,bl,nw⟩]) fun us'=>yn fr o.dst f fun fr'=>go T n q [] fr' own' (.dr id ops fr0 own0 us' r K) else qi
 |_=>qi
def xW(ops:Array Oper)(lk:LK):Option (Nat×Bool)->Bool
 |none=>true
 |some (j,b)=>match ops[j]? with
  |some oj=>match oj.dst with
   |some d=>match lk d with
    |some .tt=>b
    |some .ff=>!b
    |_=>false
   |none=>false
  |none=>false
def CY{lk:LK}{bk:BM}{o:Oper}(h:xW ops lk o.guard=true): ∀ρ G ov a w,bH GB C n lk bk ρ G ov a w->Region.wanted o (yielded ops a.tmps)=true:=fun ρ G ov a w r=>by
 unfold Region.wanted;unfold xW at h;split at h
 .rename_i e;rw[e]
 .rename_i j b e
  rw[e];split at h<;>try (cases h;done)
  rename_i oj hj;split at h<;>try (cases h;done)
  rename_i d hd;split at h<;>try (cases h;done)
  .rename_i hl
   obtain⟨y,h1,h2⟩:=A2 r hj hd hl
   cases h1;simp only[h2];subst h;rfl
  .rename_i hl
   obtain⟨y,h1,h2⟩:=A2 r hj hd hl
   cases h1;simp only[h2];cases b<;>first|rfl|(simp at h)
def uo{q:Nat}{f:FX}{bl:List (Nat×Option Bk)}{nw:List Nat}(hh:F6 cf=some (ops,o))(hg:xW ops (co fr cf) o.guard=true)(h:cg prog GB C n (co fr cf) (i6 fr own cf) o f bl nw)
  (hgo:dl tt n q fr own cf f bl nw=⟨vc,fr',own',cf'⟩)(hv:ae vc)(k:ao prog GB C n Q0 fr' own' cf'):ao prog GB C n Q0 fr own cf:=by
 obtain⟨dst,op,ty,pos,af,gd⟩:=o
 cases cf with
 |ops ops' r K=>
  cases r with
  |nil=>cases hh
  |cons o' r=>
   cases hh
   unfold dl at hgo
   cases hc:(wi nw dst fr own&&cA n dst) with
   |false=>simp only[hc,cond_false,qi] at hgo;cases hgo;exact absurd hv (fun x=>x)
   |true=>
    simp only[hc,cond_true] at hgo;simp only[wZ,AZ] at hgo;simp only[bT] at hc;exact SX.op (h.toS hc.2 (CY hg)) (Ao hc.1) (gD hgo hv k)
 |dr id ops' fr0 own0 us r K=>
  cases r with
  |nil=>cases hh
  |cons o' r=>
   cases hh
   unfold dl at hgo
   cases hc:cA n dst with
   |false=>simp only[hc,cond_false,qi] at hgo;cases hgo;exact absurd hv (fun x=>x)
   |true=>
    simp only[hc,cond_true,uk] at hgo;simp only[wZ,AZ] at hgo;intro D;exact gD hgo hv k (D.push (h.toS hc (CY hg)))
 |_=>cases hh
def ve(lk:LK)(fo:Operand)(args:Array Operand):Option (FuncId×List DV):=match ba lk fo with
 |some (.d (.v (.func (.func f) ⟨[]⟩ ⟨[]⟩)))=>match evDs lk args.toList with
  |some ds=>some (f,ds)
  |none=>none
 |_=>none
def Dr{lk:LK}{fo:Operand}{args:Array Operand}{f:FuncId}{ds:List DV}(h:ve lk fo args=some (f,ds)):ba lk fo=some (.d (.v (.func (.func f) #[] #[])))/\evDs lk args.toList=some ds:=by
 unfold ve at h;split at h<;>try (cases h;done)
 rename_i h1;split at h<;>cases h;rename_i h2;exact⟨h1,h2⟩
def Pg{lk:LK}{bk:BM}{fo:Operand}{args:Array Operand}{tys:Array TypeId}{f:FuncId}{ds:List DV}{rv:DV}{dst:Option Nat}{ty:TypeId}{pos:String}{af:Array Edge}{gd:Option (Nat×Bool)}(ha:ve lk fo args=some (f,ds))(hF:PF GB prog f ds rv):
  cg prog GB C n lk bk ⟨dst, .call ⟨.value fo,args,tys⟩,ty,pos,af,gd⟩ (.d rv) [] []:=by
 intro hd tl tb K' s1 s2 hf hk;refine⟨fun ρ G ov a w r Q=>?_⟩;obtain⟨h1,h2⟩:=Dr ha;obtain⟨y,hy,hy'⟩:=(r.mono s1 s2).ev h1;rw[(bE (G:=G)).1 hy'] at hy;obtain⟨vs,h3,h4⟩:=(r.mono s1 s2).evDs h2;refine zC hy h3 (hF G vs r.gb h4) hd (fun v G' hG hK a' w' rl=>?_) a w Q ⟨r.h,r.sz,dt a,r.df⟩;exact hk.run ρ G' ov a' w' ⟨r.gb.trans hG.le,rl.h,rl.sz,rl.df,(ld rl).fx (fun k g _ e=>by obtain⟨u,h5,h6⟩:=r.fx k g e;exact⟨u,h5,h6.up hG.le⟩) hK,
  fun nm B e=>by obtain⟨os,h5,h6⟩:=r.bx nm B e;exact⟨os,h5.up hG.le,h6⟩,r.dj,r.fxd⟩
def sO(T:TT)(fr:aD)(own:aO):List ResultVar->Option (List DV)
 |[]=>some []
 | .tmp t::rs=>match bh fr t with
  |some f=>match ki f with
   |some d=>match sO T fr own rs with
    |some l=>some (d::l)
    |none=>none
   |none=>none
  |none=>none
 | .cell a t::rs=>match bh fr a with
  |some (.ov nm 0)=>match eH T t with
   |some i=>match bj own nm with
    |some (.o _ cs _)=>match i.ag with
     |some (some k)=>match takeX cs 0 k with
      |some c=>match jy c with
       |some d=>match sO T fr own rs with
        |some l=>some (.ag d::l)
        |none=>none
       |none=>none
      |none=>none
     |some none=>match cs[0]? with
      |some c=>match ki c with
       |some d=>match sO T fr own rs with
        |some l=>some (d::l)
        |none=>none
       |none=>none
      |none=>none
     |none=>none
    |_=>none
   |none=>none
  |_=>none
def DT{ρ:NE}{G:Gh}{ov:List az}{a:Act}{w:World}(h:bH GB C n (bh fr) (bj own) ρ G ov a w): ∀{rs:List ResultVar} {ds:List DV},sO tt fr own rs=some ds-> ∃vs,lD prog (de a) ov rs vs/\IsLs G ds vs:=by
 intro rs
 induction rs with
 |nil=>intro ds e;cases e;exact⟨[], .nil, .nil⟩
 |cons x rs ih=>
  intro ds e
  cases x with
  |tmp t=>
   simp only[sO] at e;split at e<;>try (cases e;done)
   rename_i f hf;split at e<;>try (cases e;done)
   rename_i d hd;split at e<;>cases e;rename_i l hl;obtain⟨vs,h1,h2⟩:=ih hl;obtain⟨y,h3,h4⟩:=h.fx t f hf;exact⟨y::vs, .tmp (Dm h3) h1, .cons (og h4 hd) h2⟩
  |cell t ty=>
   simp only[sO] at e;split at e<;>try (cases e;done)
   rename_i nm hf;split at e<;>try (cases e;done)
   rename_i i hi;split at e<;>try (cases e;done)
   rename_i hb;obtain⟨y,h3,h4⟩:=h.fx t _ hf;obtain⟨b,m,rfl,h5,h6,h7⟩:=h.own h4 hb;have oat:jf ov b m _ _:=⟨h7⟩;split at e<;>try (cases e;done)
   .rename_i k ha
    split at e<;>try (cases e;done)
    rename_i c hc;split at e<;>try (cases e;done)
    rename_i d hd;split at e<;>cases e;rename_i l hl;obtain⟨vs,h1,h2⟩:=ih hl;obtain⟨l',h8,h9⟩:=h6.takeX hc;exact⟨.agg ⟨l'⟩::vs, .agg (Dm h3) oat (xq (fp _ _ hi) ha) h8 h1, .cons (fC.2 ⟨l',J,rF h9 hd⟩) h2⟩
   .rename_i ha
    split at e<;>try (cases e;done)
    rename_i c hc;split at e<;>try (cases e;done)
    rename_i d hd;split at e<;>cases e;rename_i l hl;obtain⟨vs,h1,h2⟩:=ih hl;obtain⟨l',h8,h9⟩:=h6.get hc;exact⟨l'::vs, .sc (Dm h3) oat (y6 (fp _ _ hi) ha) h8 h1, .cons (og h9 hd) h2⟩
def CO:Exit->Bool
 | .ret=>true
 | .normal=>true
 |_=>false
def rz{fb:Func}{e:Exit}{ds:List DV}{rv:DV}(hr:sO tt fr own fb.results.toList=some ds)(hd:jH ds=rv)(he:CO e=true:=by rfl):ao prog GB C n (gu C prog fb (mE C (fun v G'=>Is G' rv v))) fr own (.ex e []):=by
 refine⟨fun ρ G ov a w r=>?_⟩;obtain⟨vs,h1,h2⟩:=DT r hr;have hk:Is G rv (qo vs):=hd▸Fq h2
 cases e with
 |ret=>exact zD (C:=C) (n:=n) (fr:=de a) (own:=ov) (G:=G) (K:=fun v G'=>Is G' rv v) h1 hk a w ⟨r.h,r.sz,dt a,r.df⟩
 |normal=>exact Pr (C:=C) (n:=n) (fr:=de a) (own:=ov) (G:=G) (K:=fun v G'=>Is G' rv v) h1 hk a w ⟨r.h,r.sz,dt a,r.df⟩
 |_=>cases he
end
end Go.Sx
end
section
namespace Go.Sx
open Go
section
variable {P:Program} {GB:Gh} {C:aH} {n:Nat} {E:wq} {fr fr':nI} {own own':List lz} {bs bs' bs1:List jF} {ops:Array Oper} {Q:Exit->Act->World->Prop} {r:List Oper} {Φ:Act->World->Prop}
variable {dst:Option Nat} {t t' ty':TypeId} {pos:String} {af:Array Edge} {gd:Option (Nat×Bool)} {x y z:Operand} {e s by_:Nat}
abbrev SV.f (w:SV):FV:= .d (.v (.slice w.a w.n w.c))
def ajY(z:Value)(k:Nat):aG (List.replicate k z)=fe z k:=by unfold aG fe;rw[List.map_replicate]
def P5{G:Gh}{d:DV}{y:Value}(h:Is G d y): ∀k:Nat,IsLs G (List.replicate k d) (List.replicate k y)
 |0=> .nil
 |k+1=> .cons h (P5 h k)
def Mg(pre mid post vs:List Value)(h:vs.length=mid.length):dd (pre++(mid++post)) pre.length vs=pre++(vs++post):=by
 rw[qg _ _ _ omo];simp[h]
def Y9(z:Value)(k:Nat):fe z (k+1)=aP z++fe z k:=by simp[fe,lL]
def II(s:Nat)(ds:List DV):Bool:=ds.all fun d=>d.okc&&Nat.beq d.cells.length s
def yo{ds:List DV}(h:II s ds=true):dH s ds:=fun d hd=>by
 have:=cN.1 h d hd;simp only[bT] at this;exact⟨this.1,aL this.2⟩
def QY{cs:List Value}{off s:Nat}: ∀(es:List Value),(∀i (h:i<es.length),dh cs (off+i*s) s=some (aP es[i]))->off<=cs.length->dh cs off (es.length*s)=some (aG es)
 |[],_,ho=>by
  rw[m9 _ _ _ okv];simp[aG]
 |v::t,h,ho=>by
  have h0:=h 0 omc;simp only[kN,gW,pW] at h0;obtain⟨k1,k2⟩:=Bq h0;have ih:=QY (off:=off+s) t (fun i hi=>by
   have:=h (i+1) omR;rw[iN,show off+(i*s+s)=off+s+i*s by omega] at this;simpa using this) we
  obtain⟨k3,k4⟩:=Bq ih;rw[m9 _ _ _ (by simp only[bZ,iN];omega)];congr 1;have e1:aG (v::t)=aP v++aG t:=by simp[aG]
  rw[e1,k2,k4,bZ,iN,kX (t.length*s) s,List.take_add,tW]
def WB{ov:List az}{G:Gh}{w:SV}{es:List Value}(h:jl G s w es):ow P C ov G s w.n (.slice w.a w.n w.c) (aG es):=by
 rcases h.mem with he|⟨b,off,cs,ha,hg,hc⟩
 .subst he
  rw[h.len];exact xo
 .rw[ha]
  by_cases he:es=[]
  .subst he;rw[h.len];exact xo
  .have hp:0<es.length:=mR.2 he
   have h0:=hc 0 hp;have:=(Bq h0).1;rw[h.len];exact QN hg (QY es hc we)
def ak1[hT:cO P t e s by_][hN:mA P t']{w:World}{ad2:Option Addr}{cap2:Nat}:(Builtin.append_ #[t,t'] ty' #[.slice none 0 0, .slice ad2 0 cap2]).run P w= .ok (.slice none 0 0) w:=by
 obtain⟨d,hd1⟩:=hN.un;obtain⟨i,hi,his,hib⟩:=hT.info;have h0:(Builtin.firstCells i.size 0 (.slice ad2 0 cap2)).run P w= .ok #[] w:=by
  cases ad2 with
  |none=>rfl
  |some a=>unfold Builtin.firstCells loadCells;simp[loadCellsFrom,run_pure]
 simp[Builtin.append_,run_underlying hT.un,run_underlying hd1,sizeOf,typeInfo,hi,Builtin.lenOf,h0]
def PH[hT:cO P t e s by_][hN:mA P t']{fr:Fr}{own:List az}{G:Gh}{ad2:Option Addr}{cap2:Nat}(hx:aF fr x=some (.slice none 0 0))(hy:aF fr y=some (.slice ad2 0 cap2))(hd:cA n dst=true)
  (h:St C n (put fr dst (.slice none 0 0)) own G Φ):Ch P C n fr own G ⟨dst, .call ⟨.builtin .append, #[x,y], #[t,t']⟩,ty',pos,af,gd⟩ Φ:=by
 intro a w Q rl;refine ly (v:= .slice none 0 0) (w':=w) ?_ (h _ _ (rl.put _ hd));simp only[execOp,resolve,iW,cJ,kR,bu rl.fr hx,bu rl.fr hy];exact dC ak1
def eB.upd{G:Gh}{w:SV}{s:Nat}{ty:TypeId}{ds:List DV}{lo:Bool}{B:List az}(h:eB G ⟨w,s,ty,ds,lo⟩ B){i:Nat}{d:DV}(hi:ds[i]? =some d):
  ∃b vs rest lo',w.a=some ⟨b,0,none⟩/\B=[⟨b,aG vs++rest,ty,lo'⟩]/\IsLs G ds vs/\(∀v∈vs,(aP v).length=s)/\i<vs.length/\
   ∀u d',Is G d' u->(aP u).length=s->eB G ⟨w,s,ty,ds.set i d',lo⟩ [⟨b,aG (vs.set i u)++rest,ty,lo'⟩]:=by
 obtain⟨vs,hB,hv,hs,hlo⟩:=h;obtain⟨v,h1,h2⟩:=hv.get hi;obtain⟨hi',_⟩:=bQ.1 h1;rcases hB with⟨e,_,_⟩|⟨b,rest,lo',h3,h4,h5,h6,h7⟩
 .rw[e] at h1;simp at h1
 .refine⟨b,vs,rest,lo',by simp only[] at h3;rw[h3],h4,hv,hs,hi',fun u d' hu hul=>?_⟩
  have hall: ∀x∈vs.set i u,(aP x).length=s:=fun x hx=>by
   rcases List.mem_or_eq_of_mem_set hx with h'|rfl
   .exact hs x h'
   .exact hul
  refine⟨vs.set i u, .inr ⟨b,rest,lo',by simpa using h3,J,f7 _ hall,?_,by simpa using h7⟩,hv.set i hu,hall,fun hl o ho=>?_⟩
  .rw[f7 _ hall,aM,<-h5];exact h6
  .have:=hlo hl
   rw[h4] at this;rw[aV.1 ho];have h9:=this ⟨b,aG vs++rest,ty,lo'⟩ aQ;exact h9
def awy{s:Nat}{rest:List Value}{u:Value}(vs:List Value)(i:Nat)(h:i<vs.length)(hs: ∀v∈vs,(aP v).length=s)(hu:(aP u).length=s):dd (aG vs++rest) (i*s) (aP u)=aG (vs.set i u)++rest:=by
 have hl:=f7 vs hs;have hle:i*s+s<=vs.length*s:=by rw[<-iN];exact bR _ h
 rw[qg _ _ _ (by rw[hu,aR];omega),hu,fK we,jT we,EJ vs i hs we,<-iN,Cy vs (i+1) hs h,
  List.set_eq_take_append_cons_drop,if_pos h,show vs.take i++u::vs.drop (i+1)=vs.take i++([u]++vs.drop (i+1)) from J,rB,rB,Jh]
 simp
end
end Go.Sx
end
