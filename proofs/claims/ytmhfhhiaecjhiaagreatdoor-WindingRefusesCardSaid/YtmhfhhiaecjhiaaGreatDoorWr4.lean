import Derived.Test.YtmhfhhiaecjhiaaGreatDoorWr3
import Derived.Test.YtmhfhhiaecjhiaaGreatDoorProg
set_option linter.all false
set_option maxRecDepth 100000
section
namespace Go.Sx
open Go
def py:List Nat->Nat->Bool
 |[],_=>false
 |x::t,k=>Nat.beq x k||py t k
structure Rc where
 rs:List Nat
 d:Option Nat
 f:FX
 rn:List Nat
 bl:List (Nat×Option Bk)
 nw:List Nat
abbrev ST:=LK×BM
def Rc.ap(r:Rc)(s:ST):ST:=(c7 s.1 r.d r.f,upB s.2 r.bl)
def b5(p:Nat->Bool):Nat->ST->List Rc->ST
 |_,s,[]=>s
 |k,s,r::t=>b5 p (k+1) (if p k then r.ap s else s) t
def io{α:Type}(l:List Nat)(g:Nat->Option α):Nat->Option α:=fun k=>bif py l k then g k else none
def xX{nm:Nat}: ∀{bl:List (Nat×Option Bk)} {s s':BM},((∀e∈bl,e.1≠nm)->s nm=s' nm)->upB s bl nm=upB s' bl nm
 |[],s,s',h=>h (by simp)
 |(k,B)::t,s,s',h=>by
  simp only[upB];refine xX fun ht=>?_;by_cases e:nm=k
  .simp[e]
  .simp only[e,if_false];exact h fun x hx=>(aR.1 hx).elim (fun c=>by rw[c];exact Ne.symm e) (ht x)
def yi{nm:Nat}: ∀{bl:List (Nat×Option Bk)} {s:BM},(∀e∈bl,e.1≠nm)->upB s bl nm=s nm
 |[],s,h=>rfl
 |(k,B)::t,s,h=>by
  simp only[upB];rw[yi fun e he=>h e (aK _ he)];simp[Ne.symm (h _ aX)]
def zt{x:Nat}{d:Option Nat}{f:FX}{s:LK}(h:d≠some x):c7 s d f x=s x:=by
 cases d with
 |none=>rfl
 |some d=>simp only[c7];rw[if_neg fun e=>h (by rw[e])]
def ui{x:Nat}{p q:Nat->Bool}: ∀{us:List Rc} {k:Nat} {s s':ST},s.1 x=s'.1 x->(∀j r,us[j]? =some r->r.d=some x->p (k+j)=q (k+j))->(b5 p k s us).1 x=(b5 q k s' us).1 x
 |[],k,s,s',h,_=>h
 |r::t,k,s,s',h,hp=>by
  simp only[b5];refine ui ?_ fun j u hj hd=>by have:=hp (j+1) u (by simpa using hj) hd;rwa [show k+(j+1)=k+1+j by omega] at this
  by_cases hd:r.d=some x
  .have:=hp 0 r J hd
   rw[eK] at this;rw[this];split
   .simp only[Rc.ap,c7,hd,if_true]
   .exact h
  .have: ∀(b:Bool) (s:ST),(if b then r.ap s else s).1 x=s.1 x:=fun b s=>by cases b<;>simp[Rc.ap,zt hd]
   rw[this,this,h]
def sT{nm:Nat}{p q:Nat->Bool}: ∀{us:List Rc} {k:Nat} {s s':ST},s.2 nm=s'.2 nm->(∀j r,us[j]? =some r->(∃e∈r.bl,e.1=nm)->p (k+j)=q (k+j))->(b5 p k s us).2 nm=(b5 q k s' us).2 nm
 |[],k,s,s',h,_=>h
 |r::t,k,s,s',h,hp=>by
  simp only[b5];refine sT ?_ fun j u hj hd=>by have:=hp (j+1) u (by simpa using hj) hd;rwa [show k+(j+1)=k+1+j by omega] at this
  by_cases hd: ∃e∈r.bl,e.1=nm
  .have:=hp 0 r J hd
   rw[eK] at this;rw[this];split
   .exact xX fun _=>h
   .exact h
  .have: ∀(b:Bool) (s:ST),(if b then r.ap s else s).2 nm=s.2 nm:=fun b s=>by
    cases b
    .rfl
    .exact yi fun e he hc=>hd ⟨e,he,hc⟩
   rw[this,this,h]
def EJ{x:Nat}{f:FX}{p:Nat->Bool}: ∀{us:List Rc} {k:Nat} {s:ST},(b5 p k s us).1 x=some f->s.1 x=some f\/ ∃j r,us[j]? =some r/\p (k+j)=true/\r.d=some x/\r.f=f
 |[],k,s,h=> .inl h
 |r::t,k,s,h=>by
  simp only[b5] at h;rcases EJ h with h|⟨j,u,h1,h2,h3⟩
  .cases hp:p k with
   |false=>rw[hp] at h;exact .inl h
   |true=>
    rw[hp] at h;simp only[if_true,Rc.ap] at h;by_cases hd:r.d=some x
    .rw[hd] at h;simp only[c7,if_true] at h;cases h;exact .inr ⟨0,r,J,by simpa using hp,hd,J⟩
    .rw[zt hd] at h;exact .inl h
  .exact .inr ⟨j+1,u,by simpa using h1,by rw[show k+(j+1)=k+1+j by omega];exact h2,h3⟩
def E1{nm:Nat}{B:Bk}: ∀{bl:List (Nat×Option Bk)} {s:BM},upB s bl nm=some B->s nm=some B\/(nm,some B)∈bl
 |[],s,h=> .inl h
 |(k,B')::t,s,h=>by
  simp only[upB] at h;rcases E1 h with h|h
  .by_cases e:nm=k
   .subst e;simp only[if_true] at h;subst h;exact .inr aX
   .simp only[e,if_false] at h;exact .inl h
  .exact .inr (aK _ h)
def KE{nm:Nat}{B:Bk}{p:Nat->Bool}: ∀{us:List Rc} {k:Nat} {s:ST},(b5 p k s us).2 nm=some B->s.2 nm=some B\/ ∃j r,us[j]? =some r/\p (k+j)=true/\(nm,some B)∈r.bl
 |[],k,s,h=> .inl h
 |r::t,k,s,h=>by
  simp only[b5] at h;rcases KE h with h|⟨j,u,h1,h2,h3⟩
  .cases hp:p k with
   |false=>rw[hp] at h;exact .inl h
   |true=>
    rw[hp] at h;rcases E1 h with h|h
    .exact .inl h
    .exact .inr ⟨0,r,J,by simpa using hp,h⟩
  .exact .inr ⟨j+1,u,by simpa using h1,by rw[show k+(j+1)=k+1+j by omega];exact h2,h3⟩
def VX(acc:List Nat)(l:List Edge):Nat:=l.foldl (fun s e=>if Region.binds .any e then(s ||| 2^e.on) ||| acc.getD e.on 0 else s) 0
def kh:List Oper->List Nat->List Nat
 |[],acc=>acc
 |o::r,acc=>kh r (acc++[VX acc o.after.toList])
inductive Bf (ops:List Oper):Nat->Nat->Prop
 |b {i:Nat} {o:Oper} {e:Edge} (ho:ops[i]? =some o) (he:e∈o.after) (hb:Region.binds .any e=true):Bf ops i e.on
 |s {i j:Nat} {o:Oper} {e:Edge} (ho:ops[i]? =some o) (he:e∈o.after) (hb:Region.binds .any e=true) (h:Bf ops e.on j):Bf ops i j
def IB{acc:List Nat}{j:Nat}: ∀(l:List Edge) (s:Nat),(l.foldl (fun s e=>if Region.binds .any e then(s ||| 2^e.on) ||| acc.getD e.on 0 else s) s).testBit j=true->s.testBit j=true\/ ∃e∈l,Region.binds .any e=true/\(e.on=j\/(acc.getD e.on 0).testBit j=true)
 |[],s,h=> .inl h
 |e::t,s,h=>by
  rw[gM] at h;rcases IB t _ h with h|⟨e',h1,h2⟩
  .split at h
   .rename_i hb
    simp only[Nat.testBit_or,gK,Nat.testBit_two_pow,decide_eq_true_eq] at h;rcases h with(h|h)|h
    .exact .inl h
    .exact .inr ⟨e,aX,hb, .inl h⟩
    .exact .inr ⟨e,aX,hb, .inr h⟩
   .exact .inl h
  .exact .inr ⟨e',aK _ h1,h2⟩
def BY{all:List Oper}: ∀(r:List Oper) (acc:List Nat) (pre:List Oper),all=pre++r->acc.length=pre.length->(∀i j,(acc.getD i 0).testBit j=true->Bf all i j)-> ∀i j,((kh r acc).getD i 0).testBit j=true->Bf all i j
 |[],acc,pre,_,_,h=>h
 |o::r,acc,pre,he,hl,h=>by
  refine BY r _ (pre++[o]) (by rw[he];simp) (by simp[hl]) fun i j hij=>?_;rw[aJ,List.getElem?_append] at hij;split at hij
  .rename_i hi
   exact h i j (by rw[aJ];exact hij)
  .rename_i hi
   by_cases e:i=acc.length
   .subst e
    simp only[rZ,List.getElem?_cons_zero,gN] at hij;have ho:all[acc.length]? =some o:=by rw[he,hl];simp
    rcases IB _ _ hij with h0|⟨e,h1,h2,h3⟩
    .simp at h0
    .rcases h3 with rfl|h3
     .exact .b ho (by simpa using h1) h2
     .exact .s ho (by simpa using h1) h2 (h _ _ h3)
   .rw[dY (by simp;omega)] at hij
    simp at hij
def ss:Option Nat->Nat->Bool
 |some x,y=>Nat.beq x y
 |none,_=>false
def iG(a b:Rc):Bool:=(match a.d with|some x=>py b.rs x||ss b.d x|none=>false)||a.bl.any fun e=>py b.rn e.1||b.bl.any fun e'=>Nat.beq e'.1 e.1
def ra(nm:Nat)(f:FX):Bool:=ss f.nm nm
def v8(nm:Nat):Option Bk->Bool
 |some (.o _ cs _)=>cs.any (ra nm)
 |_=>false
def kH(r:Rc)(nm:Nat):Bool:=ra nm r.f||r.bl.any fun e=>v8 nm e.2
def xA(m:Nat)(r:Rc):Nat->List Rc->Bool
 |_,[]=>true
 |j,u::t=>(!(iG u r||iG r u||u.nw.any (kH r))||m.testBit j)&&!(r.nw.any (kH u))&&xA m r (j+1) t
def oB:List Nat->List Rc->List Rc->Bool
 |m::ms,pre,r::t=>xA m r 0 pre&&oB ms (pre++[r]) t
 |_,_,[]=>true
 |[],_,_::_=>false
def jl:Nat->List Oper->Bool
 |_,[]=>true
 |i,o::t=>o.after.all (fun e=>!Region.binds .any e||Nat.blt e.on i)&&jl (i+1) t
def yn(us:List Rc)(fr:List (Nat×FX))(own:List (Nat×Option Bk)):Bool:=us.all fun r=>r.nw.all fun nm=>fr.all (fun e=>!ra nm e.2)&&own.all fun e=>!v8 nm e.2
def Dn{m:Nat}{r:Rc}: ∀{l:List Rc} {k:Nat},xA m r k l=true-> ∀j u,l[j]? =some u->((iG u r=true\/iG r u=true\/ ∃nm∈u.nw,kH r nm=true)->m.testBit (k+j)=true)/\ ∀nm∈r.nw,kH u nm=false
 |[],k,_,j,u,h=>by simp at h
 |x::t,k,h,j,u,hj=>by
  simp only[xA,bQ,gK,gU] at h;obtain⟨⟨h1,h2⟩,h3⟩:=h
  cases j with
  |zero=>
   simp at hj;subst hj;refine⟨fun hh=>?_,fun nm hn=>by have:=List.any_eq_false.1 h2 nm hn;simpa using this⟩;rcases h1 with h1|h1
   .simp only[qZ] at h1
    rcases hh with hh|hh|⟨nm,hn,hh⟩
    .rw[h1.1.1] at hh;cases hh
    .rw[h1.1.2] at hh;cases hh
    .have:=List.any_eq_false.1 h1.2 nm hn;exact absurd hh this
   .simpa using h1
  |succ j=>
   have:=Dn h3 j u (by simpa using hj);rwa [show k+(j+1)=k+1+j by omega]
def HA: ∀{ms:List Nat} {pre t:List Rc},oB ms pre t=true-> ∀i r,t[i]? =some r-> ∀j u,(pre++t)[j]? =some u->j<pre.length+i->((iG u r=true\/iG r u=true\/ ∃nm∈u.nw,kH r nm=true)->(ms.getD i 0).testBit j=true)/\ ∀nm∈r.nw,kH u nm=false
 |[],pre,[],_,i,r,h=>by simp at h
 |_::_,pre,[],_,i,r,h=>by simp at h
 |[],pre,_::_,h,i,r,_=>by simp[oB] at h
 |m::ms,pre,x::t,h,i,r,hi=>by
  simp only[oB,bQ] at h;intro j u hj hlt
  cases i with
  |zero=>
   simp at hi;subst hi;rw[cZ (by omega)] at hj;simpa using Dn h.1 j u hj
  |succ i=>
   have:=HA h.2 i r (by simpa using hi) j u (by simpa using hj) (by simp;omega);simpa using this
def mq: ∀{l:List Oper} {k:Nat},jl k l=true-> ∀i o,l[i]? =some o-> ∀e∈o.after,Region.binds .any e=true->e.on<k+i
 |[],k,_,i,o,h=>by simp at h
 |x::t,k,h,i,o,hi=>by
  simp only[jl,bQ] at h;intro e he hb
  cases i with
  |zero=>
   simp at hi;subst hi;have:=Array.all_eq_true_iff_forall_mem.1 h.1 e he;simpa[hb] using this
  |succ i=>have:=mq h.2 i o (by simpa using hi) e he hb;omega
def wO(rd:Option Nat)(P:Program)(ops:Array Oper)(Q:Exit->Act->World->Prop)(o:Oper)(K:Act->World->Prop)(a:Act)(w:World):Prop:=
 if Region.wanted o (yielded ops a.tmps) then o.wpIn (FW rd) 0 P a w K Q else K (a.put o.dst undef) w
section
variable {P:Program} {GB:Gh} {C:az} {n:Nat} {ops:Array Oper} {Q:Exit->Act->World->Prop}
def pm(P:Program)(GB:Gh)(C:az)(n:Nat)(ops:Array Oper)(lk:LK)(bk:BM)(o:Oper)(f:FX)(bl:List (Nat×Option Bk))(nw:List Nat):Prop:=
 ∀(Q:Exit->Act->World->Prop) (tl:LK) (tb:BM) (K:Act->World->Prop),fD lk tl->fD bk tb->i6 nw o.dst tl tb->SX GB C n (c7 tl o.dst f) (upB tb bl) K->SX GB C n tl tb (wO C.rd P ops Q o K)
def SX.drew{lk:LK}{bk:BM}{Φ:Act->World->Prop}(h:SX GB C n lk bk Φ):SX GB C n lk bk (fun a w=>Φ a {w with drawn:=w.drawn+1}):=
 ⟨fun ρ G ov a w r=>h.run ρ G ov a _ ⟨r.gb,r.h.drew,r.sz,r.df,r.fx,r.bx,r.dj,r.fxd⟩⟩
structure fp (P:Program) (GB:Gh) (C:az) (n:Nat) (ops:Array Oper) (us:List Rc) (s0:ST):Prop where
 len:us.length=ops.size
 snd: ∀i r o,us[i]? =some r->ops[i]? =some o->o.dst=r.d/\pm P GB C n ops (io r.rs (b5 (fun j=>decide (j<i)) 0 s0 us).1) (io r.rn (b5 (fun j=>decide (j<i)) 0 s0 us).2) o r.f r.bl r.nw
 all:oB (kh ops.toList []) [] us=true
 edge:jl 0 ops.toList=true
 fr0: ∀r∈us,∀nm∈r.nw,(∀k f,s0.1 k=some f->f.nm≠some nm)/\ ∀k B,s0.2 k=some B-> ¬B.men nm
def ut{o:Option Nat}{k:Nat}:ss o k=true↔o=some k:=by cases o<;>simp[ss]
def C9{B:Bk}{nm:Nat}(h:B.men nm):v8 nm (some B)=true:=by
 cases B with
 |o ty cs lo=>obtain⟨f,hf,e⟩:=h;exact nT.2 ⟨f,hf,ut.2 e⟩
 |b=>cases h
 |c=>cases h
 |p=>cases h
def cH(listed:Array Bool):Nat->Bool:=fun j=>listed.getD j false
def un(ops:Array Oper)(listed:Array Bool):Nat:=((List.range ops.size).filter fun j=>!listed.getD j true).length
def GN{α:Type}{p q:α->Bool}{x:α}: ∀{l:List α},x∈l->(∀y,q y=true->p y=true)->p x=true->q x=false->(l.filter q).length<(l.filter p).length
 |[],h,_,_,_=>by cases h
 |y::t,h,hpq,h1,h2=>by
  have le: ∀l:List α,(l.filter q).length<=(l.filter p).length:=fun l=>by
   induction l with
   |nil=>exact aM _
   |cons z l ih=>
    simp only[nR]
    cases hq:q z with
    |true=>simp[hpq z hq];omega
    |false=>cases hp:p z<;>simp<;>omega
  rcases aR.1 h with rfl|h
  .simp only[nR,h1,h2,if_true];have:=le t;simp;omega
  .have ih:=GN h hpq h1 h2
   simp only[nR]
   cases hq:q y with
   |true=>simp[hpq y hq];omega
   |false=>cases hp:p y<;>simp<;>omega
def fp.walk{us:List Rc}{s0:ST}(D:fp P GB C n ops us s0)(hk:SX GB C n (b5 (fun _=>true) 0 s0 us).1 (b5 (fun _=>true) 0 s0 us).2 (Q .normal)):
  ∀(fuel:Nat) (listed:Array Bool),listed.size=ops.size->(∀i o,ops[i]? =some o->cH listed i=true-> ∀e∈o.after,Region.binds .any e=true->cH listed e.on=true)->un ops listed<=fuel->
   SX GB C n (b5 (cH listed) 0 s0 us).1 (b5 (cH listed) 0 s0 us).2 (wpAnyIn (FW C.rd) 0 P .any ops Q fuel listed):=by
 -- what comes before something listed is listed
 have clo: ∀listed:Array Bool,(∀i o,ops[i]? =some o->cH listed i=true-> ∀e∈o.after,Region.binds .any e=true->cH listed e.on=true)-> ∀i j,Bf ops.toList i j->cH listed i=true->cH listed j=true:=by
  intro listed hc i j hb
  induction hb with
  |b ho he hb=>intro hi;exact hc _ _ (by simpa using ho) hi _ he hb
  |s ho he hb _ ih=>intro hi;exact ih (hc _ _ (by simpa using ho) hi _ he hb)
 have bf: ∀i j,((kh ops.toList []).getD i 0).testBit j=true->Bf ops.toList i j:=BY ops.toList [] [] J J (fun i j h=>by simp at h);have spec: ∀i r,us[i]? =some r-> ∀j u,us[j]? =some u->j<i->((iG u r=true\/iG r u=true\/ ∃nm∈u.nw,kH r nm=true)->Bf ops.toList i j)/\ ∀nm∈r.nw,kH u nm=false:=fun i r hi j u hj hlt=>by
  have:=HA D.all i r hi j u (by simpa using hj) (by simpa using hlt);exact⟨fun h=>bf _ _ (this.1 h),this.2⟩
 have done: ∀listed:Array Bool,listed.size=ops.size->Region.ready .any ops listed=[]-> ∀i,i<ops.size->cH listed i=true:=by
  intro listed hsz hr i
  induction i using Nat.strongRecOn with
  |ind i ih=>
   intro hi
   cases hl:listed.getD i true with
   |true=>unfold cH;simp only[bX] at hl⊢;rw[eJ (by omega)] at hl⊢;simpa using hl
   |false=>
    have:i∈Region.ready .any ops listed:=mem_ready.2 ⟨hl,ops[i],eJ hi,fun e he hb=>by
     have hlt:=mq D.edge i ops[i] (by simp[hi]) e he hb;exact ih e.on (by omega) (by omega)⟩
    rw[hr] at this;cases this
 have same: ∀listed:Array Bool,listed.size=ops.size->(∀i,i<ops.size->cH listed i=true)->(b5 (cH listed) 0 s0 us).1=(b5 (fun _=>true) 0 s0 us).1/\(b5 (cH listed) 0 s0 us).2=(b5 (fun _=>true) 0 s0 us).2:=by
  intro listed hsz h;refine⟨funext fun x=>ui J fun j r hj _=>?_,funext fun x=>sT J fun j r hj _=>?_⟩<;>
  .rw[dW];exact h j (by have:=(aT.1 hj).1;rw[D.len] at this;exact this)
 intro fuel
 induction fuel with
 |zero=>
  intro listed hsz hc hu;have all: ∀i,i<ops.size->cH listed i=true:=fun i hi=>by
   cases hl:listed.getD i true with
   |true=>unfold cH;simp only[bX] at hl⊢;rw[eJ (by omega)] at hl⊢;simpa using hl
   |false=>
    have h0:=List.length_eq_zero_iff.1 (Nat.le_zero.1 hu);have:=List.filter_eq_nil_iff.1 h0 i (pQ.2 hi);simp[hl] at this
  obtain⟨e1,e2⟩:=same listed hsz all;rw[e1,e2];refine hk.imp fun a w h=>⟨?_,h⟩;refine List.eq_nil_iff_forall_not_mem.2 fun i hi=>?_;obtain⟨h1,o,ho,_⟩:=mem_ready.1 hi;have hlt:=(cL.1 ho).1;have h2:=all i hlt;unfold cH at h2;simp only[bX] at h1 h2;rw[eJ (by omega)] at h1 h2;simp at h1 h2;rw[h1] at h2;cases h2
 |succ fuel ih=>
  intro listed hsz hc hu;refine⟨fun ρ G ov a w r=>⟨fun hr=>?_,fun i hi=>?_⟩⟩
  .obtain⟨e1,e2⟩:=same listed hsz (done listed hsz hr)
   rw[e1,e2] at r;exact hk.run ρ G ov a w r
  .obtain⟨h1,o,ho,hall⟩:=mem_ready.1 hi
   have hlt:=(cL.1 ho).1;have hli:cH listed i=false:=by
    unfold cH;simp only[bX] at h1⊢;rw[eJ (by omega)] at h1⊢;simpa using h1
   obtain⟨u,hui⟩: ∃u,us[i]? =some u:=⟨us[i]'(by rw[D.len];exact hlt),aQ _⟩;obtain⟨hd,hop⟩:=D.snd i u o hui ho;have bl: ∀j,Bf ops.toList i j->cH listed j=true:=fun j hb=>by
    cases hb with
    |b ho' he hb=>rw[mN,ho] at ho';cases ho';exact hall _ he hb
    |s ho' he hb h=>rw[mN,ho] at ho';cases ho';exact clo listed hc _ _ h (hall _ he hb)
   have nb: ∀j r,us[j]? =some r->(iG r u=true\/iG u r=true)->decide (j<i)=cH listed j:=fun j r hj hh=>by
    rcases Nat.lt_trichotomy j i with h|h|h
    .rw[bl j ((spec i u hui j r hj h).1 (hh.imp id .inl))];simpa using h
    .subst h;rw[hli];simp
    .cases hl:cH listed j with
     |false=>simp;omega
     |true=>have:=clo listed hc j i ((spec j r hj i u hui h).1 (hh.symm.imp id .inl)) hl;rw[hli] at this;cases this
   have sz':(listed.setIfInBounds i true).size=ops.size:=by simpa using hsz
   have l': ∀j,j≠i->cH (listed.setIfInBounds i true) j=cH listed j:=fun j hj=>by unfold cH;rw[getD_set_ne false (Ne.symm hj)]
   have li':cH (listed.setIfInBounds i true) i=true:=by unfold cH;simp[hsz,hlt]
   have hc': ∀j o',ops[j]? =some o'->cH (listed.setIfInBounds i true) j=true-> ∀e∈o'.after,Region.binds .any e=true->cH (listed.setIfInBounds i true) e.on=true:=fun j o' hj hlj e he hb=>by
    by_cases hji:j=i
    .subst hji;rw[ho] at hj;cases hj
     exact getD_set_true (hall e he hb)
    .rw[l' j hji] at hlj
     exact getD_set_true (hc j o' hj hlj e he hb)
   have hu':un ops (listed.setIfInBounds i true)<=fuel:=by
    have:un ops (listed.setIfInBounds i true)<un ops listed:=by
     refine GN (x:=i) (pQ.2 hlt) (fun y hy=>?_) (by simp[h1]) (by simp[hsz,hlt]);by_cases hyi:y=i
     .subst hyi;simp[hsz,hlt] at hy
     .rwa [getD_set_ne true (Ne.symm hyi)] at hy
    omega
   have next:=ih _ sz' hc' hu'
   have e1:(b5 (cH (listed.setIfInBounds i true)) 0 s0 us).1=c7 (b5 (cH listed) 0 s0 us).1 o.dst u.f:=by
    funext x;rw[hd];by_cases hx:u.d=some x
    .-- i is the last to write x
     have key: ∀(us':List Rc) (k:Nat) (s:ST) (p:Nat->Bool) (m:Nat),us'[m]? =some u->p (k+m)=true->(∀j r,us'[j]? =some r->r.d=some x->j≠m->j<m\/p (k+j)=false)->(b5 p k s us').1 x=some u.f:=by
      intro us'
      induction us' with
      |nil=>intro k s p m h;simp at h
      |cons r t iht=>
       intro k s p m h hp hj;simp only[b5]
       cases m with
       |zero=>
        simp at h;subst h;rw[eK] at hp;rw[hp];have:(b5 p (k+1) (r.ap s) t).1 x=(b5 (fun _=>false) (k+1) (r.ap s) t).1 x:=ui J fun j r' hj' hd'=>by
         have:=hj (j+1) r' (by simpa using hj') hd' (by omega);rw[show k+(j+1)=k+1+j by omega] at this;exact this.resolve_left (by omega)
        simp only[if_true,this];have nosel: ∀(l:List Rc) (k:Nat) (s:ST),b5 (fun _=>false) k s l=s:=fun l=>by
         induction l with
         |nil=>intro k s;rfl
         |cons y l ih=>intro k s;exact ih _ _
        rw[nosel];simp[Rc.ap,c7,hx]
       |succ m=>
        refine iht _ _ p m (by simpa using h) (by rw[show k+1+m=k+(m+1) by omega];exact hp) fun j r' hj' hd' hne=>?_;have:=hj (j+1) r' (by simpa using hj') hd' (by omega);rw[show k+1+j=k+(j+1) by omega];exact this.imp (fun h=>by omega) id
     rw[key us 0 s0 _ i hui (by rw[dW];exact li') fun j r hj hdr hne=>?_]
     .rw[hx];simp[c7]
     .rw[dW,l' j hne]
      have:=nb j r hj (.inl (by simp[iG,hdr,hx,ss]));rw[<-this];by_cases hji:j<i
      .exact .inl hji
      .exact .inr (by simpa using hji)
    .rw[zt hx]
     refine ui J fun j r hj hdr=>?_;rw[dW];exact l' j fun e=>by subst e;rw[hui] at hj;cases hj;exact hx hdr
   have e2:(b5 (cH (listed.setIfInBounds i true)) 0 s0 us).2=upB (b5 (cH listed) 0 s0 us).2 u.bl:=by
    funext x;by_cases hx: ∃e∈u.bl,e.1=x
    .have key: ∀(us':List Rc) (k:Nat) (s s':ST) (p q:Nat->Bool) (m:Nat),us'[m]? =some u->p (k+m)=true->(∀j r,us'[j]? =some r->(∃e∈r.bl,e.1=x)->j≠m->q (k+j)=p (k+j)/\(j<m\/p (k+j)=false))->q (k+m)=false->s.2 x=s'.2 x->(b5 p k s us').2 x=upB (b5 q k s' us').2 u.bl x:=by
      intro us'
      induction us' with
      |nil=>intro k s s' p q m h;simp at h
      |cons r t iht=>
       intro k s s' p q m h hp hj hq hs;simp only[b5]
       cases m with
       |zero=>
        simp at h;subst h;rw[eK] at hp hq;rw[hp,hq];have nosel: ∀(l:List Rc) (k:Nat) (s:ST),b5 (fun _=>false) k s l=s:=fun l=>by
         induction l with
         |nil=>intro k s;rfl
         |cons y l ih=>intro k s;exact ih _ _
        have a1:(b5 p (k+1) (r.ap s) t).2 x=(b5 (fun _=>false) (k+1) (r.ap s) t).2 x:=sT J fun j r' hj' hd'=>by
         have:=(hj (j+1) r' (by simpa using hj') hd' (by omega)).2;rw[show k+(j+1)=k+1+j by omega] at this;exact this.resolve_left (by omega)
        have a2:(b5 q (k+1) s' t).2 x=(b5 (fun _=>false) (k+1) s' t).2 x:=sT J fun j r' hj' hd'=>by
         obtain⟨h3,h4⟩:=hj (j+1) r' (by simpa using hj') hd' (by omega);rw[show k+(j+1)=k+1+j by omega] at h3 h4;rw[h3];exact h4.resolve_left (by omega)
        simp only[if_true,kN,if_false,a1,nosel];exact xX fun _=>by rw[a2,nosel];exact hs
       |succ m=>
        refine iht _ _ _ p q m (by simpa using h) (by rw[show k+1+m=k+(m+1) by omega];exact hp) (fun j r' hj' hd' hne=>?_) (by rw[show k+1+m=k+(m+1) by omega];exact hq) ?_
        .obtain⟨h3,h4⟩:=hj (j+1) r' (by simpa using hj') hd' (by omega)
         rw[show k+1+j=k+(j+1) by omega];exact⟨h3,h4.imp (fun h=>by omega) id⟩
        .by_cases hr: ∃e∈r.bl,e.1=x
         .have:=(hj 0 r J hr (by omega)).1
          rw[eK] at this;rw[this]
          cases p k
          .exact hs
          .exact xX fun _=>hs
         .have: ∀(b:Bool) (s:ST),(if b then r.ap s else s).2 x=s.2 x:=fun b s=>by
           cases b
           .rfl
           .exact yi fun e he hc=>hr ⟨e,he,hc⟩
          rw[this,this];exact hs
     refine key us 0 s0 s0 _ _ i hui (by rw[dW];exact li') (fun j r hj hdr hne=>?_) (by rw[dW];exact hli) J;rw[dW];refine⟨(l' j hne).symm,?_⟩;rw[l' j hne];obtain⟨e,he,rfl⟩:=hx;obtain⟨e',he',hee⟩:=hdr;have hh:iG u r=true:=by
      unfold iG;rw[gK];exact .inr (nT.2 ⟨e,he,by rw[gK];exact .inr (nT.2 ⟨e',he',by simpa using hee⟩)⟩)
     rw[<-nb j r hj (.inr hh)];by_cases hji:j<i
     .exact .inl hji
     .exact .inr (by simpa using hji)
    .rw[yi fun e he hc=>hx ⟨e,he,hc⟩]
     refine sT J fun j r hj hdr=>?_;rw[dW];exact l' j fun e=>by subst e;rw[hui] at hj;cases hj;exact hx hdr
   rw[e1,e2] at next
   have sub1:fD (io u.rs (b5 (fun j=>decide (j<i)) 0 s0 us).1) (b5 (cH listed) 0 s0 us).1:=fun x f hx=>by
    unfold io at hx
    cases hm:py u.rs x with
    |false=>rw[hm] at hx;cases hx
    |true=>
     rw[hm,cond_true] at hx;rw[<-hx];refine(ui J fun j r hj hdr=>?_).symm;rw[dW];exact nb j r hj (.inl (by simp[iG,hdr,hm]))
   have sub2:fD (io u.rn (b5 (fun j=>decide (j<i)) 0 s0 us).2) (b5 (cH listed) 0 s0 us).2:=fun x B hx=>by
    unfold io at hx
    cases hm:py u.rn x with
    |false=>rw[hm] at hx;cases hx
    |true=>
     rw[hm,cond_true] at hx;rw[<-hx];refine(sT J fun j r hj hdr=>?_).symm;rw[dW];obtain⟨e,he,rfl⟩:=hdr;refine nb j r hj (.inl ?_);unfold iG;rw[gK];exact .inr (nT.2 ⟨e,he,by rw[hm];rfl⟩)
   have fr:i6 u.nw o.dst (b5 (cH listed) 0 s0 us).1 (b5 (cH listed) 0 s0 us).2:=fun nm hnm=>by
    obtain⟨g1,g2⟩:=D.fr0 u (aW hui) nm hnm;have men: ∀j r,us[j]? =some r->cH listed j=true->kH r nm=false:=fun j r hj hlj=>by
     rcases Nat.lt_trichotomy j i with h|h|h
     .exact(spec i u hui j r hj h).2 nm hnm
     .subst h;rw[hli] at hlj;cases hlj
     .cases hm:kH r nm with
      |false=>rfl
      |true=>have:=clo listed hc j i ((spec j r hj i u hui h).1 (.inr (.inr ⟨nm,hnm,hm⟩))) hlj;rw[hli] at this;cases this
    refine⟨fun k f hk e=>?_,fun k B hk e hm=>?_⟩
    .intro hc'
     rcases EJ e with h|⟨j,r,h1,h2,h3,h4⟩
     .exact g1 k f h hc'
     .have:=men j r h1 (by simpa using h2)
      simp only[kH,qZ,ra] at this;rw[h4,ut.2 hc'] at this
      cases this.1
    .rcases KE e with h|⟨j,r,h1,h2,h3⟩
     .exact g2 k B h hm
     .have:=men j r h1 (by simpa using h2)
      simp only[kH,qZ] at this;have:=List.any_eq_false.1 this.2 _ h3;exact this (C9 hm)
   have fin:=hop Q _ _ _ sub1 sub2 fr next
   have:=fin.run ρ G ov a w r;unfold wO at this;unfold wpOpIn;rw[ho];simp only;split
   .rename_i hw;rw[if_pos hw] at this;exact this
   .rename_i hw;rw[if_neg hw] at this;exact⟨fun _ _=>trivial,this⟩
def wm(m k:Nat):cH (Array.replicate m false) k=false:=by unfold cH;simp[oZ];split<;>rfl
def fp.region{us:List Rc}{s0:ST}{id:Nat}(D:fp P GB C n ops us s0)(hm:P.follows .mixedOrders=true)(hk:SX GB C n (b5 (fun _=>true) 0 s0 us).1 (b5 (fun _=>true) 0 s0 us).2 (Q .normal)):SX GB C n s0.1 s0.2 (d7 C.rd P (.region id ops true) Q):=by
 have h:=D.walk hk ops.size (Array.replicate ops.size false) (by simp) (fun i o _ hi=>by rw[wm] at hi;cases hi) (by unfold un;exact fJ (List.length_filter_le _ _) (by simp));have e:b5 (cH (Array.replicate ops.size false)) 0 s0 us=s0:=by
  have: ∀(l:List Rc) (k:Nat) (s:ST),b5 (cH (Array.replicate ops.size false)) k s l=s:=fun l=>by
   induction l with
   |nil=>intro k s;rfl
   |cons y l ih=>
    intro k s;simp only[b5];rw[ih];rw[wm];rfl
  exact this us 0 s0
 rw[e] at h;exact h.drew.imp fun a w k=>wpIn_region_any hm k
end
abbrev ao:=List (Nat×FX)
abbrev aA:=List (Nat×Option Bk)
def aD:ao->Nat->Option FX
 |[],_=>none
 |(k,v)::t,j=>bif Nat.beq k j then some v else aD t j
def aI:aA->Nat->Option Bk
 |[],_=>none
 |(k,v)::t,j=>bif Nat.beq k j then v else aI t j
def oD{α:Type}:aA->Nat->Option Bk->(aA->α)->α
 |[],nm,B,k=>k [(nm,B)]
 |(j,v)::t,nm,B,k=>bif Nat.beq j nm then k ((nm,B)::t) else oD t nm B fun t'=>k ((j,v)::t')
def kr{α:Type}:aA->List (Nat×Option Bk)->(aA->α)->α
 |own,[],k=>k own
 |own,(nm,B)::t,k=>oD own nm B fun own'=>kr own' t k
def ig(own:aA)(nm:Nat)(B:Option Bk):aA:=oD own nm B id
def pu(own:aA)(l:List (Nat×Option Bk)):aA:=kr own l id
def q6{α:Type}{nm:Nat}{B:Option Bk}: ∀{own:aA} {k:aA->α},oD own nm B k=k (ig own nm B)
 |[],k=>rfl
 |(j,v)::t,k=>by
  unfold ig oD
  cases Nat.beq j nm with
  |true=>rfl
  |false=>rw[cond_false,cond_false,q6 (own:=t),q6 (own:=t)];rfl
def ru{α:Type}: ∀{l:List (Nat×Option Bk)} {own:aA} {k:aA->α},kr own l k=k (pu own l)
 |[],own,k=>rfl
 |(nm,B)::t,own,k=>by
  unfold pu kr;rw[q6,q6,ru (l:=t),ru (l:=t)];rfl
def e7(k:Nat)(v:FX)(t:ao)(j:Nat):aD ((k,v)::t) j=if j=k then some v else aD t j:=by
 simp only[aD];by_cases h:k=j
 .simp[h]
 .have:Nat.beq k j=false:=by
   cases hb:Nat.beq k j with
   |false=>rfl
   |true=>exact absurd (aU hb) h
  simp[this,Ne.symm h]
def fI(k:Nat)(v:Option Bk)(t:aA)(j:Nat):aI ((k,v)::t) j=if j=k then v else aI t j:=by
 simp only[aI];by_cases h:k=j
 .simp[h]
 .have:Nat.beq k j=false:=by
   cases hb:Nat.beq k j with
   |false=>rfl
   |true=>exact absurd (aU hb) h
  simp[this,Ne.symm h]
def qo{nm:Nat}{B:Option Bk}(j:Nat): ∀own:aA,aI (ig own nm B) j=if j=nm then B else aI own j
 |[]=>fI nm B [] j
 |(k,v)::t=>by
  have ih:=qo (nm:=nm) (B:=B) j t;unfold ig oD
  cases hb:Nat.beq k nm with
  |true=>
   have e:=aU hb;subst e;rw[cond_true,id,fI,fI];by_cases h:j=k<;>simp[h]
  |false=>
   have hne:k≠nm:=fun e=>by subst e;simp at hb
   rw[cond_false,q6,id,fI,fI,ih];by_cases h:j=k
   .subst h;simp[hne]
   .simp[h]
def xe: ∀(l:List (Nat×Option Bk)) (own:aA),aI (pu own l)=upB (aI own) l
 |[],own=>rfl
 |(nm,B)::t,own=>by
  have:pu own ((nm,B)::t)=pu (ig own nm B) t:=by rw[pu,kr,q6];rfl
  rw[this,xe t];simp only[upB];congr 1;funext j;exact qo j own
def wo(fr:ao)(dst:Option Nat)(f:FX):ao:=match dst with
 |some d=>(d,f)::fr
 |none=>fr
def vr{fr:ao}{dst:Option Nat}{f:FX}:aD (wo fr dst f)=c7 (aD fr) dst f:=by
 cases dst with
 |none=>rfl
 |some d=>funext j;exact e7 d f fr j
def ti(T:TT)(n:Nat)(ops:Array Oper)(lk:LK)(bk:BM):Oper->Option CR
 |⟨dst,op,_,_,_,gd⟩=>bif cC n dst then(match gd with
  |none=>sX T lk bk dst op
  |some (j,b)=>match ops[j]? with
   |some oj=>match oj.dst with
    |some d=>match lk d with
     |some .tt=>bif b then sX T lk bk dst op else some ⟨none, .un,[],[]⟩
     |some .ff=>bif b then some ⟨none, .un,[],[]⟩ else sX T lk bk dst op
     |some .un=>some ⟨none, .un,[],[]⟩
     |_=>none
    |none=>none
   |none=>none) else none
section
variable {P:Program} {T:TT} {GB:Gh} {C:az} {n:Nat} {lk:LK} {bk:BM} {ops:Array Oper}
def bw.toS{dst:Option Nat}{op:Op}{ty:TypeId}{pos:String}{af:Array Edge}{gd:Option (Nat×Bool)}{f:FX}{bl:List (Nat×Option Bk)}{nw:List Nat}(h:bw P GB C n lk bk ⟨dst,op,ty,pos,af,gd⟩ f bl nw)(hd:cC n dst=true)
  (hw: ∀ρ G ov a w,bu GB C n lk bk ρ G ov a w->Region.wanted ⟨dst,op,ty,pos,af,gd⟩ (yielded ops a.tmps)=true):pm P GB C n ops lk bk ⟨dst,op,ty,pos,af,gd⟩ f bl nw:=by
 intro Q tl tb K s1 s2 hf hk;have:=h hd tl tb (fun a w=>a.defers=C.mks/\K a w) s1 s2 hf ⟨fun ρ G ov a w r=>⟨r.df,hk.run ρ G ov a w r⟩⟩;refine⟨fun ρ G ov a w r=>?_⟩;unfold wO;rw[if_pos (hw ρ G ov a w (r.mono s1 s2))];exact tG (this.run ρ G ov a w r) fun a' w' k=>⟨k.1.trans r.df.symm,k.2⟩
def pm.skip{dst:Option Nat}{op:Op}{ty:TypeId}{pos:String}{af:Array Edge}{gd:Option (Nat×Bool)}(hd:cC n dst=true)
  (hw: ∀ρ G ov a w,bu GB C n lk bk ρ G ov a w->Region.wanted ⟨dst,op,ty,pos,af,gd⟩ (yielded ops a.tmps)=false):pm P GB C n ops lk bk ⟨dst,op,ty,pos,af,gd⟩ .un [] []:=by
 intro Q tl tb K s1 s2 hf hk;refine⟨fun ρ G ov a w r=>?_⟩;unfold wO;rw[hw ρ G ov a w (r.mono s1 s2)];exact hk.run ρ G ov _ w (r.put J (r.putA undef hd))
def va{ρ:NE}{G:Gh}{ov:List av}{a:Act}{w:World}(r:bu GB C n lk bk ρ G ov a w){j d:Nat}{oj:Oper}{f:FX}(hj:ops[j]? =some oj)(hd:oj.dst=some d)(hf:lk d=some f): ∃y,bz ρ G f y/\yielded ops a.tmps j=match y with| .bool b=>some b|_=>none:=by
 obtain⟨y,h1,h2⟩:=r.fx d f hf;refine⟨y,h2,?_⟩;unfold yielded;rw[hj];simp only[Option.bind_some,hd,h1]
 cases y<;>rfl
def Jf{o:Oper}{r:CR}(hT:i5 P T)(h:ti T n ops lk bk o=some r)(hv: ∀p,r.vc=some p->p):pm P GB C n ops lk bk o r.f r.bl r.nw/\cC n o.dst=true:=by
 obtain⟨dst,op,ty,pos,af,gd⟩:=o;simp only[ti] at h
 cases hd:cC n dst with
 |false=>rw[hd] at h;cases h
 |true=>
  rw[hd,cond_true] at h;refine⟨?_,J⟩;split at h
  .exact(sS hT h hv).toS hd fun _ _ _ _ _ _=>J
  .rename_i j b
   split at h<;>try (cases h;done)
   rename_i oj hj;split at h<;>try (cases h;done)
   rename_i d hdj;split at h<;>try (cases h;done)
   .rename_i hl
    have wt: ∀ρ G ov (a:Act) w,bu GB C n lk bk ρ G ov a w->Region.wanted ⟨dst,op,ty,pos,af,some (j,b)⟩ (yielded ops a.tmps)=b:=fun ρ G ov a w r=>by
     obtain⟨y,h1,h2⟩:=va r hj hdj hl
     cases h1
     simp only[Region.wanted,h2];cases b<;>rfl
    cases b with
    |true=>exact(sS hT h hv).toS hd wt
    |false=>cases h;exact .skip hd wt
   .rename_i hl
    have wt: ∀ρ G ov (a:Act) w,bu GB C n lk bk ρ G ov a w->Region.wanted ⟨dst,op,ty,pos,af,some (j,b)⟩ (yielded ops a.tmps)=!b:=fun ρ G ov a w r=>by
     obtain⟨y,h1,h2⟩:=va r hj hdj hl
     cases h1
     simp only[Region.wanted,h2];cases b<;>rfl
    cases b with
    |true=>cases h;exact .skip hd wt
    |false=>exact(sS hT h hv).toS hd wt
   .rename_i hl
    cases h
    refine .skip hd fun ρ G ov a w r=>?_;obtain⟨y,h1,h2⟩:=va r hj hdj hl
    cases h1
    simp only[Region.wanted,h2];rfl
end
inductive Kt where
 |sq (c:Code)
 |bl (id:Nat)
 |sc
 |ag (A:Act->World->Prop)
def cQ(rd:Option Nat)(P:Program)(Q0:Exit->Act->World->Prop):List Kt->Exit->Act->World->Prop
 |[]=>Q0
 | .sq y::K=>Exit.then (d7 rd P y (cQ rd P Q0 K)) (cQ rd P Q0 K)
 | .bl id::K=>Exit.inBlock id (cQ rd P Q0 K)
 | .sc::K=>Exit.noGoto (cQ rd P Q0 K)
 | .ag A::K=>Exit.then A (cQ rd P Q0 K)
inductive Cf where
 |code (c:Code) (K:List Kt)
 |ops (ops:Array Oper) (r:List Oper) (K:List Kt)
 |dr (id:Nat) (ops:Array Oper) (fr0:ao) (own0:aA) (us:List Rc) (r:List Oper) (K:List Kt)
 |ex (e:Exit) (K:List Kt)
structure te (P:Program) (GB:Gh) (C:az) (n:Nat) (ops:Array Oper) (fr0:ao) (own0:aA) (us:List Rc) (r:List Oper) (fr:ao) (own:aA):Prop where
 pre: ∃pre,ops.toList=pre++r/\pre.length=us.length
 st:b5 (fun _=>true) 0 (aD fr0,aI own0) us=(aD fr,aI own)
 snd: ∀i u o,us[i]? =some u->ops[i]? =some o->o.dst=u.d/\pm P GB C n ops (io u.rs (b5 (fun j=>decide (j<i)) 0 (aD fr0,aI own0) us).1) (io u.rn (b5 (fun j=>decide (j<i)) 0 (aD fr0,aI own0) us).2) o u.f u.bl u.nw
def ak(P:Program)(GB:Gh)(C:az)(n:Nat)(Q0:Exit->Act->World->Prop)(fr:ao)(own:aA):Cf->Prop
 | .code c K=>SX GB C n (aD fr) (aI own) (d7 C.rd P c (cQ C.rd P Q0 K))
 | .ops ops r K=>SX GB C n (aD fr) (aI own) (wpListIn (FW C.rd) 0 P ops (cQ C.rd P Q0 K) r)
 | .dr id ops fr0 own0 us r K=>te P GB C n ops fr0 own0 us r fr own->SX GB C n (aD fr0) (aI own0) (d7 C.rd P (.region id ops true) (cQ C.rd P Q0 K))
 | .ex e K=>SX GB C n (aD fr) (aI own) (cQ C.rd P Q0 K e)
structure sf where
 vc:List Prop
 fr:ao
 own:aA
 cf:Cf
def acc(v:Option Prop)(l:List Prop):List Prop:=match v with
 |some p=>p::l
 |none=>l
def Aw{α:Type}(v:Option Prop)(l:List Prop)(k:List Prop->α):α:=match v with
 |some p=>k (p::l)
 |none=>k l
def Ga{α:Type}{v:Option Prop}{l:List Prop}{k:List Prop->α}:Aw v l k=k (acc v l):=by cases v<;>rfl
def sL{α:Type}(fr:ao)(dst:Option Nat)(f:FX)(k:ao->α):α:=match dst with
 |some d=>k ((d,f)::fr)
 |none=>k fr
def qx{α:Type}{fr:ao}{dst:Option Nat}{f:FX}{k:ao->α}:sL fr dst f k=k (wo fr dst f):=by cases dst<;>rfl
def mw(nw:List Nat)(dst:Option Nat)(fr:ao)(own:aA):Bool:=nw.all fun nm=>fr.all (fun e=>ss dst e.1||!ra nm e.2)&&own.all fun e=>Nat.beq e.1 nm||!v8 nm e.2
def s8:List Operand->List Nat
 |[]=>[]
 | .tmp t::r=>t::s8 r
 |_::r=>s8 r
def xY(fr:ao):List Nat->List Nat
 |[]=>[]
 |t::r=>match aD fr t with
  |some f=>match f.nm with
   |some nm=>nm::xY fr r
   |none=>xY fr r
  |none=>xY fr r
def yw(o:Oper)(fr:ao)(rs:List Nat):List Nat:=match o.op with
 | .move _=>[]
 |_=>xY fr rs
def uD(ops:Array Oper)(o:Oper):List Nat:=match o.guard with
 |some (j,_)=>match ops[j]? with
  |some oj=>match oj.dst with
   |some d=>d::s8 o.op.operands.toList
   |none=>s8 o.op.operands.toList
  |none=>s8 o.op.operands.toList
 |none=>s8 o.op.operands.toList
def go(T:TT)(n:Nat):Nat->List Prop->ao->aA->Cf->sf
 |0,l,fr,own,cf=>⟨l,fr,own,cf⟩
 |k+1,l,fr,own, .code c K=>match c with
  | .seq x y=>go T n k l fr own (.code x (.sq y::K))
  | .region id ops d=>bif d then go T n k l fr own (.dr id ops fr own [] ops.toList K) else go T n k l fr own (.ops ops ops.toList K)
  | .skip=>go T n k l fr own (.ex .normal K)
  | .ret=>go T n k l fr own (.ex .ret K)
  | .exit id=>go T n k l fr own (.ex (.exit id) K)
  | .block id c=>go T n k l fr own (.code c (.bl id::K))
  | .scope c=>go T n k l fr own (.code c (.sc::K))
  | .label _=>go T n k l fr own (.ex .normal K)
  | .cond c x y=>match aB (aD fr) c with
   |some .tt=>go T n k l fr own (.code x K)
   |some .ff=>go T n k l fr own (.code y K)
   |_=>⟨l,fr,own, .code (.cond c x y) K⟩
  |c=>⟨l,fr,own, .code c K⟩
 |k+1,l,fr,own, .ex e K=>match K with
  | .sq y::K'=>match e with
   | .normal=>go T n k l fr own (.code y K')
   |e=>go T n k l fr own (.ex e K')
  | .bl id::K'=>match e with
   | .exit j=>bif Nat.beq j id then go T n k l fr own (.ex .normal K') else go T n k l fr own (.ex (.exit j) K')
   |e=>go T n k l fr own (.ex e K')
  | .sc::K'=>bif Gk e then go T n k l fr own (.ex e K') else⟨l,fr,own, .ex e (.sc::K')⟩
  | .ag A::K'=>match e with
   | .normal=>⟨l,fr,own, .ex .normal (.ag A::K')⟩
   |e=>go T n k l fr own (.ex e K')
  |[]=>⟨l,fr,own, .ex e []⟩
 |k+1,l,fr,own, .ops ops r K=>match r with
  |[]=>go T n k l fr own (.ex .normal K)
  |o::r'=>match ti T n ops (aD fr) (aI own) o with
   |some ⟨v,f,bl,nw⟩=>bif mw nw o.dst fr own then kr own bl fun own'=>Aw v l fun l'=>sL fr o.dst f fun fr'=>go T n k l' fr' own' (.ops ops r' K) else⟨l,fr,own, .ops ops (o::r') K⟩
   |none=>⟨l,fr,own, .ops ops (o::r') K⟩
 |k+1,l,fr,own, .dr id ops fr0 own0 us r K=>match r with
  |[]=>go T n k (((oB (kh ops.toList []) [] us&&jl 0 ops.toList&&yn us fr0 own0)=true)::l) fr own (.ex .normal K)
  |o::r'=>gv (uD ops o) fun rs=>gv (yw o fr rs) fun rn=>match ti T n ops (io rs (aD fr)) (io rn (aI own)) o with
   |some ⟨v,f,bl,nw⟩=>kr own bl fun own'=>gv (us++[⟨rs,o.dst,f,rn,bl,nw⟩]) fun us'=>Aw v l fun l'=>sL fr o.dst f fun fr'=>go T n k l' fr' own' (.dr id ops fr0 own0 us' r' K)
   |none=>⟨l,fr,own, .dr id ops fr0 own0 us (o::r') K⟩
def aj:List Prop->Prop
 |[]=>True
 |[p]=>p
 |p::t=>aj t/\p
def Ff{p:Prop}{t:List Prop}:aj (p::t)↔aj t/\p:=by cases t<;>simp[aj]
def Jm{v:Option Prop}{l:List Prop}(h:aj (acc v l)):aj l/\ ∀p,v=some p->p:=by
 cases v with
 |none=>exact⟨h,fun p e=>by cases e⟩
 |some q=>obtain⟨h1,h2⟩:=Ff.1 h;exact⟨h1,fun p e=>by cases e;exact h2⟩
def zg{f:FX}{k:Nat}: ∀{fr:ao},aD fr k=some f->(k,f)∈fr
 |[],h=>by cases h
 |(j,g)::t,h=>by
  rw[e7] at h;split at h
  .cases h;rename_i e;rw[e];exact aX
  .exact aK _ (zg h)
def AS{B:Bk}{k:Nat}: ∀{own:aA},aI own k=some B->(k,some B)∈own
 |[],h=>by cases h
 |(j,g)::t,h=>by
  rw[fI] at h;split at h
  .rename_i e;rw[e,h];exact aX
  .exact aK _ (AS h)
def vd{nw:List Nat}{dst:Option Nat}{fr:ao}{own:aA}(h:mw nw dst fr own=true):i6 nw dst (aD fr) (aI own):=fun nm hnm=>by
 have:=dJ.1 h nm hnm;simp only[bQ] at this;refine⟨fun k f hk e hc=>?_,fun k B hk e hm=>?_⟩
 .have:=dJ.1 this.1 _ (zg e)
  simp only[gK,gU,ra] at this;rcases this with h|h
  .exact hk (ut.1 h).symm
  .rw[ut.2 hc] at h;cases h
 .have:=dJ.1 this.2 _ (AS e)
  simp only[gK,gU] at this;rcases this with h|h
  .exact hk (aU h)
  .rw[C9 hm] at h;cases h
def JL{us:List Rc}{fr:ao}{own:aA}(h:yn us fr own=true): ∀r∈us,∀nm∈r.nw,(∀k f,aD fr k=some f->f.nm≠some nm)/\ ∀k B,aI own k=some B-> ¬B.men nm:=fun r hr nm hnm=>by
 have:=dJ.1 (dJ.1 h r hr) nm hnm;simp only[bQ] at this;refine⟨fun k f e hc=>?_,fun k B e hm=>?_⟩
 .have:=dJ.1 this.1 _ (zg e)
  simp only[gU,ra] at this;rw[ut.2 hc] at this;cases this
 .have:=dJ.1 this.2 _ (AS e)
  simp only[gU] at this;rw[C9 hm] at this;cases this
section
variable {P:Program} {T:TT} {GB:Gh} {C:az} {n:Nat} {Q0:Exit->Act->World->Prop} {fr fr0:ao} {own own0:aA} {ops:Array Oper} {us:List Rc} {r:List Oper} {o:Oper} {K:List Kt}
def yk{p q:Nat->Bool}{u:Rc}: ∀{us:List Rc} {k:Nat} {s:ST},(∀j,j<us.length->p (k+j)=q (k+j))->b5 p k s (us++[u])=if p (k+us.length) then u.ap (b5 q k s us) else b5 q k s us
 |[],k,s,h=>rfl
 |x::t,k,s,h=>by
  simp only[iS,b5];rw[yk (q:=q) fun j hj=>by have:=h (j+1) (by simp;omega);rwa [show k+(j+1)=k+1+j by omega] at this];have h0:=h 0 (by simp);rw[eK] at h0;rw[h0,bR,show k+1+t.length=k+(t.length+1) by omega]
def te.push(D:te P GB C n ops fr0 own0 us (o::r) fr own){rs rn nw:List Nat}{f:FX}{bl:List (Nat×Option Bk)}(h:pm P GB C n ops (io rs (aD fr)) (io rn (aI own)) o f bl nw):te P GB C n ops fr0 own0 (us++[⟨rs,o.dst,f,rn,bl,nw⟩]) r (wo fr o.dst f) (pu own bl):=by
 obtain⟨pre,hp,hl⟩:=D.pre;refine⟨⟨pre++[o],by rw[hp];simp,by simp[hl]⟩,?_,fun i u o' hu ho=>?_⟩
 .rw[yk (q:=fun _=>true) fun _ _=>J,if_pos J,D.st]
  simp only[Rc.ap];rw[vr,xe]
 .rw[List.getElem?_append] at hu
  split at hu
  .rename_i hi
   obtain⟨h1,h2⟩:=D.snd i u o' hu ho;rw[yk (q:=fun j=>decide (j<i)) fun _ _=>J,if_neg (by simp;omega)];exact⟨h1,h2⟩
  .rename_i hi
   by_cases e:i=us.length
   .subst e
    simp at hu;subst hu;have ho':ops[us.length]? =some o:=by
     have:ops.toList[us.length]? =some o:=by rw[hp,<-hl];simp
     simpa using this
    rw[ho'] at ho;cases ho;refine⟨J,?_⟩;rw[yk (q:=fun _=>true) fun j hj=>by simpa using hj,if_neg (by simp),D.st];exact h
   .rw[dY (by simp;omega)] at hu;cases hu
def te.done(D:te P GB C n ops fr0 own0 us [] fr own){id:Nat}(hm:P.follows .mixedOrders=true)(h:(oB (kh ops.toList []) [] us&&jl 0 ops.toList&&yn us fr0 own0)=true)(hk:SX GB C n (aD fr) (aI own) (cQ C.rd P Q0 K .normal)):
  SX GB C n (aD fr0) (aI own0) (d7 C.rd P (.region id ops true) (cQ C.rd P Q0 K)):=by
 obtain⟨pre,hp,hl⟩:=D.pre;simp only[bQ] at h;have D':fp P GB C n ops us (aD fr0,aI own0):=⟨by rw[<-hl,<-fT,hp];simp,D.snd,h.1.1,h.1.2,JL h.2⟩;exact D'.region hm (by rw[D.st];exact hk)
def SX.op{Q:Exit->Act->World->Prop}{f:FX}{bl:List (Nat×Option Bk)}{nw:List Nat}(h:pm P GB C n ops (aD fr) (aI own) o f bl nw)(hf:i6 nw o.dst (aD fr) (aI own))(hk:SX GB C n (aD (wo fr o.dst f)) (aI (pu own bl)) (wpListIn (FW C.rd) 0 P ops Q r)):SX GB C n (aD fr) (aI own) (wpListIn (FW C.rd) 0 P ops Q (o::r)):=by
 rw[vr,xe] at hk;refine(h Q _ _ _ (fD.refl _) (fD.refl _) hf hk).imp fun a w q=>?_;unfold wO at q;simp only[wpListIn];split
 .rename_i hw;rw[if_pos hw] at q;exact q
 .rename_i hw;rw[if_neg hw] at q;exact⟨fun _ _=>trivial,q⟩
def SX.cond{lk:LK}{bk:BM}{Q:Exit->Act->World->Prop}{c:Operand}{x y:Code}{b:Bool}{f:FX}(hc:aB lk c=some f)(hb:nH f=some b)(h1:b=true->SX GB C n lk bk (d7 C.rd P x Q))(h2:b=false->SX GB C n lk bk (d7 C.rd P y Q)):SX GB C n lk bk (d7 C.rd P (.cond c x y) Q):=by
 refine⟨fun ρ G ov a w r=>?_⟩;obtain⟨v,hv,hv'⟩:=r.ev hc;rw[rb hv' hb] at hv;exact WV (bh (ci a) hv) (fun e=>(h1 e).run ρ G ov a w r) (fun e=>(h2 e).run ρ G ov a w r)
def eE(hT:i5 P T)(hm:P.follows .mixedOrders=true): ∀(k:Nat) (l:List Prop) (fr:ao) (own:aA) (cf:Cf),aj (go T n k l fr own cf).vc->aj l/\(ak P GB C n Q0 (go T n k l fr own cf).fr (go T n k l fr own cf).own (go T n k l fr own cf).cf->ak P GB C n Q0 fr own cf)
 |0,l,fr,own,cf,h=>by simp only[go] at h⊢;exact⟨h,id⟩
 |k+1,l,fr,own, .code c K,h=>by
  cases c with
  |seq x y=>simp only[go] at h⊢;obtain⟨h1,h2⟩:=eE hT hm k _ _ _ _ h;exact⟨h1,fun hk=>(h2 hk).imp fun a w q=>M8 q⟩
  |region id ops d=>
   simp only[go] at h⊢
   cases d with
   |false=>simp only[cond_false] at h⊢;obtain⟨h1,h2⟩:=eE hT hm k _ _ _ _ h;exact⟨h1,fun hk=>(h2 hk).imp fun a w q=>So q⟩
   |true=>simp only[cond_true] at h⊢;obtain⟨h1,h2⟩:=eE hT hm k _ _ _ _ h;exact⟨h1,fun hk=>h2 hk ⟨⟨[],rfl,rfl⟩,rfl,fun i u o hu=>by simp at hu⟩⟩
  |skip=>simp only[go] at h⊢;obtain⟨h1,h2⟩:=eE hT hm k _ _ _ _ h;exact⟨h1,fun hk=>(h2 hk).imp fun a w q=>SW q⟩
  |ret=>simp only[go] at h⊢;obtain⟨h1,h2⟩:=eE hT hm k _ _ _ _ h;exact⟨h1,fun hk=>(h2 hk).imp fun a w q=>Nj q⟩
  |exit id=>simp only[go] at h⊢;obtain⟨h1,h2⟩:=eE hT hm k _ _ _ _ h;exact⟨h1,fun hk=>(h2 hk).imp fun a w q=>Ws q⟩
  |block id c=>simp only[go] at h⊢;obtain⟨h1,h2⟩:=eE hT hm k _ _ _ _ h;exact⟨h1,fun hk=>(h2 hk).imp fun a w q=>M7 q⟩
  |scope c=>simp only[go] at h⊢;obtain⟨h1,h2⟩:=eE hT hm k _ _ _ _ h;exact⟨h1,fun hk=>(h2 hk).imp fun a w q=>WY q⟩
  |label j=>simp only[go] at h⊢;obtain⟨h1,h2⟩:=eE hT hm k _ _ _ _ h;exact⟨h1,fun hk=>(h2 hk).imp fun a w q=>Xu q⟩
  |cond c x y=>
   simp only[go] at h⊢
   cases hc:aB (aD fr) c with
   |none=>simp only[hc] at h⊢;exact⟨h,id⟩
   |some f=>
    cases f with
    |tt=>simp only[hc] at h⊢;obtain⟨h1,h2⟩:=eE hT hm k _ _ _ _ h;exact⟨h1,fun hk=>SX.cond hc rfl (fun _=>h2 hk) (fun e=>by cases e)⟩
    |ff=>simp only[hc] at h⊢;obtain⟨h1,h2⟩:=eE hT hm k _ _ _ _ h;exact⟨h1,fun hk=>SX.cond hc rfl (fun e=>by cases e) (fun _=>h2 hk)⟩
    |_=>simp only[hc] at h⊢;exact⟨h,id⟩
  |_=>simp only[go] at h⊢;exact⟨h,id⟩
 |k+1,l,fr,own, .ex e K,h=>by
  cases K with
  |nil=>simp only[go] at h⊢;exact⟨h,id⟩
  |cons x K=>
   cases x with
   |sq y=>cases e<;>(simp only[go] at h⊢;obtain⟨h1,h2⟩:=eE hT hm k _ _ _ _ h;exact⟨h1,fun hk=>h2 hk⟩)
   |bl id=>
    cases e with
    |exit j=>
     simp only[go] at h⊢
     cases hb:Nat.beq j id with
     |true=>
      simp only[hb,cond_true] at h⊢;obtain⟨h1,h2⟩:=eE hT hm k _ _ _ _ h;exact⟨h1,fun hk=>(h2 hk).imp fun a w q=>by simp only[cQ,Exit.inBlock,aU hb,if_true];exact q⟩
     |false=>
      have hne:j≠id:=fun e=>by subst e;simp at hb
      simp only[hb,cond_false] at h⊢;obtain⟨h1,h2⟩:=eE hT hm k _ _ _ _ h;exact⟨h1,fun hk=>(h2 hk).imp fun a w q=>by simp only[cQ,Exit.inBlock,hne,if_false];exact q⟩
    |_=>simp only[go] at h⊢;obtain⟨h1,h2⟩:=eE hT hm k _ _ _ _ h;exact⟨h1,fun hk=>h2 hk⟩
   |sc=>
    simp only[go] at h⊢
    cases hb:Gk e with
    |true=>
     simp only[hb,cond_true] at h⊢;obtain⟨h1,h2⟩:=eE hT hm k _ _ _ _ h;refine⟨h1,fun hk=>(h2 hk).imp fun a w q=>?_⟩
     cases e<;>first|exact q|cases hb
    |false=>simp only[hb,cond_false] at h⊢;exact⟨h,id⟩
   |ag A=>
    cases e with
    |normal=>simp only[go] at h⊢;exact⟨h,id⟩
    |_=>simp only[go] at h⊢;obtain⟨h1,h2⟩:=eE hT hm k _ _ _ _ h;exact⟨h1,fun hk=>h2 hk⟩
 |k+1,l,fr,own, .ops ops r K,h=>by
  cases r with
  |nil=>simp only[go] at h⊢;obtain⟨h1,h2⟩:=eE hT hm k _ _ _ _ h;exact⟨h1,fun hk=>h2 hk⟩
  |cons o r=>
   simp only[go] at h⊢
   cases hs:ti T n ops (aD fr) (aI own) o with
   |none=>simp only[hs] at h⊢;exact⟨h,id⟩
   |some x=>
    obtain⟨v,f,bl,nw⟩:=x;simp only[hs] at h⊢
    cases hf:mw nw o.dst fr own with
    |false=>simp only[hf,cond_false] at h⊢;exact⟨h,id⟩
    |true=>
     simp only[hf,cond_true] at h⊢;simp only[ru,Ga,qx] at h⊢;obtain⟨h1,h2⟩:=eE hT hm k _ _ _ _ h;obtain⟨h3,h4⟩:=Jm h1;exact⟨h3,fun hk=>SX.op (Jf hT hs h4).1 (vd hf) (h2 hk)⟩
 |k+1,l,fr,own, .dr id ops fr0 own0 us r K,h=>by
  cases r with
  |nil=>
   simp only[go] at h⊢;obtain⟨h1,h2⟩:=eE hT hm k _ _ _ _ h;obtain⟨h3,h4⟩:=Ff.1 h1;exact⟨h3,fun hk D=>D.done hm h4 (h2 hk)⟩
  |cons o r=>
   simp only[go,oo] at h⊢;generalize uD ops o=rs at h⊢;generalize yw o fr rs=rn at h⊢
   cases hs:ti T n ops (io rs (aD fr)) (io rn (aI own)) o with
   |none=>simp only[hs] at h⊢;exact⟨h,fun x=>x⟩
   |some x=>
    obtain⟨v,f,bl,nw⟩:=x;simp only[hs] at h⊢;simp only[ru,Ga,qx] at h⊢;obtain⟨h1,h2⟩:=eE hT hm k _ _ _ _ h;obtain⟨h3,h4⟩:=Jm h1;exact⟨h3,fun hk D=>h2 hk (D.push (Jf hT hs h4).1)⟩
end
end Go.Sx
end
section
namespace Go.Sx
open Go Go.Proofs Tryz
instance:lG prog 3 .i64:=⟨fun _=>by kernel_rfl⟩
instance:lG prog 52 .u16:=⟨fun _=>by kernel_rfl⟩
instance:c8 prog 56 261 1 4:=⟨by kernel_rfl,by kernel_rfl⟩
instance:lI prog 56:=⟨261,by kernel_rfl⟩
instance:gg prog 261 (.int .u32 0):=⟨by kernel_rfl⟩
def follows:prog.follows .mixedOrders=true:=by kernel_rfl
end Go.Sx
end
section
namespace Go.Sx
open Go
def tt:TT:=[
 (2,⟨.int .i64,1,some [.d (.v (.int .i64 0))],false⟩),
 (3,⟨.int .i64,1,some [.d (.v (.int .i64 0))],false⟩),
 (4,⟨.bl,1,some [.ff],false⟩),
 (5,⟨.int .u8,1,some [.d (.v (.int .u8 0))],false⟩),
 (9,⟨.sc,1,some [.d (.v (.string ⟨#[]⟩))],false⟩),
 (20,⟨.fc,1,some [.d (.v (.nilIface))],false⟩),
 (22,⟨.sl 3 1 8,1,some [.nl],false⟩),
 (23,⟨.sl 62 6 112,1,some [.nl],false⟩),
 (24,⟨.sl 62 6 112,1,some [.nl],false⟩),
 (25,⟨.sl 79 6 96,1,some [.nl],false⟩),
 (27,⟨.st [(0,25,1)],1,some [.nl],true⟩),
 (31,⟨.sl 24 1 24,1,some [.nl],false⟩),
 (33,⟨.sl 83 1 24,1,some [.nl],false⟩),
 (34,⟨.pt,1,some [.d (.v (.pointer none))],false⟩),
 (37,⟨.sl 180 8 112,1,some [.nl],false⟩),
 (39,⟨.st [(0,3,1),(1,37,1)],2,some [.d (.v (.int .i64 0)), .nl],true⟩),
 (41,⟨.fc,1,some [.d (.v (.nilIface))],false⟩),
 (48,⟨.sl 123 6 96,1,some [.nl],false⟩),
 (52,⟨.int .u16,1,some [.d (.v (.int .u16 0))],false⟩),
 (55,⟨.sl 261 1 4,1,some [.nl],false⟩),
 (56,⟨.sl 261 1 4,1,some [.nl],false⟩),
 (58,⟨.st [(0,4,1),(1,56,1)],2,some [.ff, .nl],true⟩),
 (60,⟨.st [(0,58,2),(2,56,1)],3,some [.ff, .nl, .nl],true⟩),
 (62,⟨.st [(0,60,3),(3,60,3)],6,some [.ff, .nl, .nl, .ff, .nl, .nl],true⟩),
 (64,⟨.sl 261 1 4,1,some [.nl],false⟩),
 (66,⟨.st [(0,4,1),(1,64,1)],2,some [.ff, .nl],true⟩),
 (68,⟨.st [(0,66,2),(2,64,1)],3,some [.ff, .nl, .nl],true⟩),
 (70,⟨.st [(0,68,3),(3,68,3)],6,some [.ff, .nl, .nl, .ff, .nl, .nl],true⟩),
 (79,⟨.st [(0,58,2),(2,58,2),(4,58,2)],6,some [.ff, .nl, .ff, .nl, .ff, .nl],true⟩),
 (83,⟨.sl 70 6 112,1,some [.nl],false⟩),
 (85,⟨.st [(0,22,1),(1,3,1)],2,some [.nl, .d (.v (.int .i64 0))],true⟩),
 (88,⟨.sl 93 1 24,1,some [.nl],false⟩),
 (91,⟨.sl 139 17 128,1,some [.nl],false⟩),
 (92,⟨.sl 102 6 48,1,some [.nl],false⟩),
 (93,⟨.sl 102 6 48,1,some [.nl],false⟩),
 (95,⟨.pt,1,some [.d (.v (.pointer none))],false⟩),
 (98,⟨.pt,1,some [.d (.v (.pointer none))],false⟩),
 (100,⟨.st [(0,2,1),(1,2,1),(2,98,1)],3,some [.d (.v (.int .i64 0)), .d (.v (.int .i64 0)), .d (.v (.pointer none))],true⟩),
 (102,⟨.st [(0,100,3),(3,100,3)],6,some [.d (.v (.int .i64 0)), .d (.v (.int .i64 0)), .d (.v (.pointer none)), .d (.v (.int .i64 0)), .d (.v (.int .i64 0)), .d (.v (.pointer none))],true⟩),
 (115,⟨.sl 135 9 72,1,some [.nl],false⟩),
 (118,⟨.sl 139 17 128,1,some [.nl],false⟩),
 (123,⟨.st [(0,66,2),(2,66,2),(4,66,2)],6,some [.ff, .nl, .ff, .nl, .ff, .nl],true⟩),
 (135,⟨.st [(0,100,3),(3,100,3),(6,100,3)],9,some [.d (.v (.int .i64 0)), .d (.v (.int .i64 0)), .d (.v (.pointer none)), .d (.v (.int .i64 0)), .d (.v (.int .i64 0)), .d (.v (.pointer none)), .d (.v (.int .i64 0)), .d (.v (.int .i64 0)), .d (.v (.pointer none))],true⟩),
 (137,⟨.st [(0,100,3),(3,100,3),(6,4,1),(7,4,1)],8,some [.d (.v (.int .i64 0)), .d (.v (.int .i64 0)), .d (.v (.pointer none)), .d (.v (.int .i64 0)), .d (.v (.int .i64 0)), .d (.v (.pointer none)), .ff, .ff],true⟩),
 (139,⟨.st [(0,135,9),(9,137,8)],17,some [.d (.v (.int .i64 0)), .d (.v (.int .i64 0)), .d (.v (.pointer none)), .d (.v (.int .i64 0)), .d (.v (.int .i64 0)), .d (.v (.pointer none)), .d (.v (.int .i64 0)), .d (.v (.int .i64 0)), .d (.v (.pointer none)), .d (.v (.int .i64 0)), .d (.v (.int .i64 0)), .d (.v (.pointer none)), .d (.v (.int .i64 0)), .d (.v (.int .i64 0)), .d (.v (.pointer none)), .ff, .ff],true⟩),
 (150,⟨.sl 60 3 56,1,some [.nl],false⟩),
 (151,⟨.sl 56 1 24,1,some [.nl],false⟩),
 (156,⟨.pt,1,some [.d (.v (.pointer none))],false⟩),
 (158,⟨.st [(0,41,1),(1,3,1),(2,3,1),(3,9,1)],4,some [.d (.v (.nilIface)), .d (.v (.int .i64 0)), .d (.v (.int .i64 0)), .d (.v (.string ⟨#[]⟩))],true⟩),
 (164,⟨.o,12,some [.d (.v (.int .i64 0)), .d (.v (.int .i64 0)), .d (.v (.pointer none)), .d (.v (.int .i64 0)), .d (.v (.int .i64 0)), .d (.v (.pointer none)), .d (.v (.int .i64 0)), .d (.v (.int .i64 0)), .d (.v (.pointer none)), .d (.v (.int .i64 0)), .d (.v (.int .i64 0)), .d (.v (.pointer none))],true⟩),
 (168,⟨.st [],0,some [],true⟩),
 (170,⟨.pt,1,some [.d (.v (.pointer none))],false⟩),
 (172,⟨.st [(0,3,1),(1,105,1)],2,some [.d (.v (.int .i64 0)), .d (.v (.nilFunc))],true⟩),
 (178,⟨.st [(0,135,9),(9,95,1),(10,95,1),(11,4,1)],12,some [.d (.v (.int .i64 0)), .d (.v (.int .i64 0)), .d (.v (.pointer none)), .d (.v (.int .i64 0)), .d (.v (.int .i64 0)), .d (.v (.pointer none)), .d (.v (.int .i64 0)), .d (.v (.int .i64 0)), .d (.v (.pointer none)), .d (.v (.pointer none)), .d (.v (.pointer none)), .ff],true⟩),
 (180,⟨.st [(0,79,6),(6,3,1),(7,3,1)],8,some [.ff, .nl, .ff, .nl, .ff, .nl, .d (.v (.int .i64 0)), .d (.v (.int .i64 0))],true⟩),
 (194,⟨.sl 41 1 16,1,some [.nl],false⟩),
 (219,⟨.int .u64,1,some [.d (.v (.int .u64 0))],false⟩),
 (255,⟨.int .u64,1,some [.d (.v (.int .u64 0))],false⟩),
 (261,⟨.int .u32,1,some [.d (.v (.int .u32 0))],false⟩),
 (269,⟨.st [(0,58,2),(2,56,1)],3,some [.ff, .nl, .nl],true⟩),
 (272,⟨.int .i64,1,some [.d (.v (.int .i64 0))],false⟩),
 (311,⟨.int .u64,1,some [.d (.v (.int .u64 0))],false⟩),
 (315,⟨.pt,1,some [.d (.v (.pointer none))],false⟩),
 (317,⟨.sl 237 1 8,1,some [.nl],false⟩),
 (320,⟨.sl 100 3 24,1,some [.nl],false⟩),
 (361,⟨.o,32,some (List.replicate 32 (.d (.v (.int .u8 0)))),true⟩),
 (362,⟨.o,64,some (List.replicate 64 (.d (.v (.int .u8 0)))),true⟩),
 (364,⟨.pt,1,some [.d (.v (.pointer none))],false⟩),
 (389,⟨.st [(0,9,1)],1,some [.d (.v (.string ⟨#[]⟩))],true⟩)]
def dz:i5 Go.Proofs.Tryz.prog tt:=i5.of (by kernel_rfl)
end Go.Sx
end
section
namespace Go.Sx
open Go Go.Proofs Tryz
def jA:Nat->List DV->ao
 |_,[]=>[]
 |i,v::t=>(i, .d v)::jA (i+1) t
class Fu where n:Nat
instance fu0:Fu:=⟨400⟩
section
variable {GB:Gh} {C:az} {n:Nat} {Q0:Exit->Act->World->Prop} {fr fr':ao} {own own':aA} {cf cf':Cf} {vc vc':List Prop} {ops:Array Oper} {r:List Oper} {o:Oper} {K:List Kt}
def dw{q:Nat}(h:go tt n q [] fr own cf=⟨vc,fr',own',cf'⟩)(hv:aj vc)(k:ak prog GB C n Q0 fr' own' cf'):ak prog GB C n Q0 fr own cf:=by
 have:=(eE (GB:=GB) (C:=C) (Q0:=Q0) dz follows q [] fr own cf (by rw[h];exact hv)).2;rw[h] at this;exact this k
def gx[fu:Fu](h:go tt n fu.n [] fr own cf=⟨vc,fr',own',cf'⟩)(k:ak prog GB C n Q0 fr' own' cf')(hv:aj vc:=by first|exact trivial|(simp only[aj];kernel_rfl)|(simp only[aj];omega)|(simp only[aj,aZ,aY,aV];omega)):ak prog GB C n Q0 fr own cf:=dw h hv k
def Jh: ∀{ds:List DV} {vs:List Value} {ρ:NE} {G:Gh} (i:Nat),IsLs G ds vs-> ∀k f,aD (jA i ds) k=some f-> ∃y,(∃j,k=i+j/\vs[j]? =some y)/\bz ρ G f y
 |[],vs,ρ,G,i,h,k,f,e=>by cases e
 |d::t,vs,ρ,G,i,h,k,f,e=>by
  obtain⟨y,m,rfl,h1,h2⟩:=bi.1 h;simp only[jA] at e;rw[e7] at e;split at e
  .cases e;rename_i hk;exact⟨y,⟨0,hk,rfl⟩,h1⟩
  .obtain⟨u,⟨j,hj,hu⟩,h3⟩:=Jh (i+1) h2 k f e
   exact⟨u,⟨j+1,by omega,by simpa using hu⟩,h3⟩
def n5{ds:List DV}{vs:List Value}{ρ:NE}{G:Gh}{a:Act}(h:IsLs G ds vs)(hf:gI (kE 0 vs) a)(k:Nat)(f:FX)(e:aD (jA 0 ds) k=some f): ∃y,a.tmps[k]? =some y/\bz ρ G f y:=by
 obtain⟨y,⟨j,hj,hy⟩,h1⟩:=Jh (ρ:=ρ) 0 h k f e;refine⟨y,hf k y ?_,h1⟩;rw[hj];exact r5 vs 0 j y hy
def fn[fu:Fu]{f:FuncId}{fb:Func}{c:Code}{m:Nat}{ds:List DV}{rv:DV}(hf:prog.funcs[f]? =some fb)(hb:fb.body=some c)(hn:(fb.name== "runtime.NumGoroutine")=false)(hm:fb.ntmps=m)(hlen:Nat.ble ds.length m=true)
  (hgo:go tt m fu.n [] (jA 0 ds) [] (.code c [])=⟨vc,fr,own,cf⟩)(k: ∀C:az,ak prog GB C m (dx C prog fb (d6 C (fun v G'=>Is G' rv v))) fr own cf)
  (hv:aj vc:=by first|exact trivial|(simp only[aj];kernel_rfl)|(simp only[aj];omega)|(simp only[aj,aZ,aY,aV];omega)):PF GB prog f ds rv:=by
 intro G vs hg hvs;refine Fn.introR hf hb hn hm (by rw[hvs.len];exact hlen) fun C _ _ hrd hfx=>?_;intro a w rl;refine oh hrd ?_;have h:=dw (GB:=GB) (C:=C) (Q0:=dx C prog fb (d6 C (fun v G'=>Is G' rv v))) hgo hv (k C);exact h.run (fun _=>⟨none,0,0⟩) G [] a w ⟨hg,rl.h,rl.sz,rl.df,(fun k f e=>n5 hvs rl.fr k f e),(fun nm B e=>by cases e),(fun nm nm' B B' e=>by cases e),fun nm p _ _ e=>by rw[hfx] at e;cases e⟩
def ak.cond{c:Operand}{x y:Code}{b:Bool}{f:FX}(hc:aB (aD fr) c=some f)(hb:nH f=some b)(h1:b=true->ak prog GB C n Q0 fr own (.code x K))(h2:b=false->ak prog GB C n Q0 fr own (.code y K)):ak prog GB C n Q0 fr own (.code (.cond c x y) K):=SX.cond hc hb h1 h2
variable {fr1 fr2:ao} {own1 own2:aA} {cf1 cf2:Cf} {vc1 vc2:List Prop}
def br[fu1:Fu][fu2:Fu]{p:Prop}{hp:Decidable p}{c:Operand}{x y:Code}(hc:aB (aD fr) c=some (.pr p hp))(g1:go tt n fu1.n [] fr own (.code x K)=⟨vc1,fr1,own1,cf1⟩)(g2:go tt n fu2.n [] fr own (.code y K)=⟨vc2,fr2,own2,cf2⟩)
  (k1:p->ak prog GB C n Q0 fr1 own1 cf1)(k2: ¬p->ak prog GB C n Q0 fr2 own2 cf2)
  (v1:p->aj vc1:=by intro;first|exact trivial|(simp only[aj];omega)|(simp only[aj,aZ,aY,aV];omega))(v2: ¬p->aj vc2:=by intro;first|exact trivial|(simp only[aj];omega)|(simp only[aj,aZ,aY,aV];omega)):ak prog GB C n Q0 fr own (.code (.cond c x y) K):=
 .cond hc J (fun h=>dw g1 (v1 (of_decide_eq_true h)) (k1 (of_decide_eq_true h))) (fun h=>dw g2 (v2 (of_decide_eq_false h)) (k2 (of_decide_eq_false h)))
def bd[fu1:Fu][fu2:Fu]{p:Prop}{hp:Decidable p}{c:Operand}{x y:Code}(hc:aB (aD fr) c=some (.d (.v (.bool (@decide p hp)))))(g1:go tt n fu1.n [] fr own (.code x K)=⟨vc1,fr1,own1,cf1⟩)(g2:go tt n fu2.n [] fr own (.code y K)=⟨vc2,fr2,own2,cf2⟩)
  (k1:p->ak prog GB C n Q0 fr1 own1 cf1)(k2: ¬p->ak prog GB C n Q0 fr2 own2 cf2)
  (v1:p->aj vc1:=by intro;first|exact trivial|(simp only[aj];omega)|(simp only[aj,aZ,aY,aV];omega))(v2: ¬p->aj vc2:=by intro;first|exact trivial|(simp only[aj];omega)|(simp only[aj,aZ,aY,aV];omega)):ak prog GB C n Q0 fr own (.code (.cond c x y) K):=
 .cond hc J (fun h=>dw g1 (v1 (of_decide_eq_true h)) (k1 (of_decide_eq_true h))) (fun h=>dw g2 (v2 (of_decide_eq_false h)) (k2 (of_decide_eq_false h)))
def bb[fu1:Fu][fu2:Fu]{b:Bool}{c:Operand}{x y:Code}(hc:aB (aD fr) c=some (.d (.v (.bool b))))(g1:go tt n fu1.n [] fr own (.code x K)=⟨vc1,fr1,own1,cf1⟩)(g2:go tt n fu2.n [] fr own (.code y K)=⟨vc2,fr2,own2,cf2⟩)
  (k1:b=true->ak prog GB C n Q0 fr1 own1 cf1)(k2:b=false->ak prog GB C n Q0 fr2 own2 cf2)
  (v1:b=true->aj vc1:=by intro;first|exact trivial|(simp only[aj];omega)|(simp only[aj,aZ,aY,aV];omega))(v2:b=false->aj vc2:=by intro;first|exact trivial|(simp only[aj];omega)|(simp only[aj,aZ,aY,aV];omega)):ak prog GB C n Q0 fr own (.code (.cond c x y) K):=
 .cond hc J (fun h=>dw g1 (v1 h) (k1 h)) (fun h=>dw g2 (v2 h) (k2 h))
def jt{d:Nat}{f g:FX}(hl:aD fr d=some f)(hi: ∀ρ G y,bz ρ G f y->bz ρ G g y){Φ:Act->World->Prop}(h:SX GB C n (aD ((d,g)::fr)) (aI own) Φ):SX GB C n (aD fr) (aI own) Φ:=by
 refine⟨fun ρ G ov a w r=>h.run ρ G ov a w ⟨r.gb,r.h,r.sz,r.df,fun k f' e=>?_,r.bx,r.dj,r.fxd⟩⟩;rw[e7] at e;split at e
 .cases e;rename_i hk;subst hk
  obtain⟨y,h1,h2⟩:=r.fx _ _ hl;exact⟨y,h1,hi _ _ _ h2⟩
 .exact r.fx k f' e
def ah(d:Nat){f:FX}(g:FX)(hl:aD fr d=some f)(e:f=g)(h:ak prog GB C n Q0 ((d,g)::fr) own cf):ak prog GB C n Q0 fr own cf:=by
 have hs:aD ((d,g)::fr)=aD fr:=by
  funext k;rw[e7];split
  .rename_i hk;rw[hk,hl,e]
  .rfl
 cases cf with
 |dr id ops fr0 own0 us r K=>exact fun D=>h ⟨D.pre,by rw[hs];exact D.st,D.snd⟩
 |_=>unfold ak at h⊢;rw[hs] at h;exact h
def kT(d:Nat){p:Prop}{hp:Decidable p}(hl:aD fr d=some (.pr p hp))(h:p)(k:ak prog GB C n Q0 ((d, .tt)::fr) own (.ops ops r K)):ak prog GB C n Q0 fr own (.ops ops r K):=
 jt hl (fun _ _ _ e=>by rw[show _=_ from e,decide_eq_true h];exact J) k
def kF(d:Nat){p:Prop}{hp:Decidable p}(hl:aD fr d=some (.pr p hp))(h: ¬p)(k:ak prog GB C n Q0 ((d, .ff)::fr) own (.ops ops r K)):ak prog GB C n Q0 fr own (.ops ops r K):=
 jt hl (fun _ _ _ e=>by rw[show _=_ from e,decide_eq_false h];exact J) k
def Qa(d:Nat)(hl:aD fr d=some .nl){e:Exit}(h:ak prog GB C n Q0 ((d, .d (.sl []))::fr) own (.ex e K)):ak prog GB C n Q0 fr own (.ex e K):=
 jt (g:= .d (.sl [])) hl (fun ρ G y hy=>(show Is G (.sl []) y from lu (ρ:=ρ) (f:= .nl) hy J)) h
def PF.to{f:FuncId}{ds:List DV}{r1 r2:DV}{P:Program}(h:PF GB P f ds r1)(e:r1=r2):PF GB P f ds r2:=e▸h
def cs[fu1:Fu][fu2:Fu](d:Nat){p:Prop}{hp:Decidable p}(hl:aD fr d=some (.pr p hp))(g1:go tt n fu1.n [] ((d, .tt)::fr) own (.ops ops r K)=⟨vc1,fr1,own1,cf1⟩)(g2:go tt n fu2.n [] ((d, .ff)::fr) own (.ops ops r K)=⟨vc2,fr2,own2,cf2⟩)
  (k1:p->ak prog GB C n Q0 fr1 own1 cf1)(k2: ¬p->ak prog GB C n Q0 fr2 own2 cf2)
  (v1:p->aj vc1:=by intro;first|exact trivial|(simp only[aj];omega)|(simp only[aj,aZ,aY,aV];omega))(v2: ¬p->aj vc2:=by intro;first|exact trivial|(simp only[aj];omega)|(simp only[aj,aZ,aY,aV];omega)):ak prog GB C n Q0 fr own (.ops ops r K):=by
 by_cases h:p
 .exact jt hl (fun _ _ _ e=>by rw[show _=_ from e,decide_eq_true h];exact J) (dw g1 (v1 h) (k1 h))
 .exact jt hl (fun _ _ _ e=>by rw[show _=_ from e,decide_eq_false h];exact J) (dw g2 (v2 h) (k2 h))
def jz[fu1:Fu][fu2:Fu](d:Nat){b:Bool}(hl:aD fr d=some (.d (.v (.bool b))))(g1:go tt n fu1.n [] ((d, .tt)::fr) own (.ops ops r K)=⟨vc1,fr1,own1,cf1⟩)(g2:go tt n fu2.n [] ((d, .ff)::fr) own (.ops ops r K)=⟨vc2,fr2,own2,cf2⟩)
  (k1:b=true->ak prog GB C n Q0 fr1 own1 cf1)(k2:b=false->ak prog GB C n Q0 fr2 own2 cf2)
  (v1:b=true->aj vc1:=by intro;first|exact trivial|(simp only[aj];omega)|(simp only[aj,aZ,aY,aV];omega))(v2:b=false->aj vc2:=by intro;first|exact trivial|(simp only[aj];omega)|(simp only[aj,aZ,aY,aV];omega)):ak prog GB C n Q0 fr own (.ops ops r K):=by
 cases h:b with
 |true=>exact jt hl (fun _ G _ e=>by rw[(aH (G:=G)).1 e,h];exact J) (dw g1 (v1 h) (k1 h))
 |false=>exact jt hl (fun _ G _ e=>by rw[(aH (G:=G)).1 e,h];exact J) (dw g2 (v2 h) (k2 h))
def y0:Cf->Option (Array Oper×Oper)
 | .ops ops (o::_) _=>some (ops,o)
 | .dr _ ops _ _ _ (o::_) _=>some (ops,o)
 |_=>none
def aP(fr:ao):Cf->LK
 | .dr _ ops _ _ _ (o::_) _=>io (uD ops o) (aD fr)
 |_=>aD fr
def dO(fr:ao)(own:aA):Cf->BM
 | .dr _ ops _ _ _ (o::_) _=>io (yw o fr (uD ops o)) (aI own)
 |_=>aI own
def jq:sf:=⟨[False],[],[], .ex .normal []⟩
def bP(T:TT)(n q:Nat)(fr:ao)(own:aA)(cf:Cf)(f:FX)(bl:List (Nat×Option Bk))(nw:List Nat):sf:=match cf with
 | .ops ops (o::r) K=>bif mw nw o.dst fr own&&cC n o.dst then kr own bl fun own'=>sL fr o.dst f fun fr'=>go T n q [] fr' own' (.ops ops r K) else jq
 | .dr id ops fr0 own0 us (o::r) K=>bif cC n o.dst then gv (uD ops o) fun rs=>gv (yw o fr rs) fun rn=>kr own bl fun own'=>gv (us++[⟨rs,o.dst,f,rn,bl,nw⟩]) fun us'=>sL fr o.dst f fun fr'=>go T n q [] fr' own' (.dr id ops fr0 own0 us' r K) else jq
 |_=>jq
def qG(ops:Array Oper)(lk:LK):Option (Nat×Bool)->Bool
 |none=>true
 |some (j,b)=>match ops[j]? with
  |some oj=>match oj.dst with
   |some d=>match lk d with
    |some .tt=>b
    |some .ff=>!b
    |_=>false
   |none=>false
  |none=>false
def wh{lk:LK}{bk:BM}{o:Oper}(h:qG ops lk o.guard=true): ∀ρ G ov a w,bu GB C n lk bk ρ G ov a w->Region.wanted o (yielded ops a.tmps)=true:=fun ρ G ov a w r=>by
 unfold Region.wanted;unfold qG at h;split at h
 .rename_i e;rw[e]
 .rename_i j b e
  rw[e];split at h<;>try (cases h;done)
  rename_i oj hj;split at h<;>try (cases h;done)
  rename_i d hd;split at h<;>try (cases h;done)
  .rename_i hl
   obtain⟨y,h1,h2⟩:=va r hj hd hl
   cases h1;simp only[h2];subst h;rfl
  .rename_i hl
   obtain⟨y,h1,h2⟩:=va r hj hd hl
   cases h1;simp only[h2];cases b<;>first|rfl|(simp at h)
def uo{q:Nat}{f:FX}{bl:List (Nat×Option Bk)}{nw:List Nat}(hh:y0 cf=some (ops,o))(hg:qG ops (aP fr cf) o.guard=true)(h:bw prog GB C n (aP fr cf) (dO fr own cf) o f bl nw)
  (hgo:bP tt n q fr own cf f bl nw=⟨vc,fr',own',cf'⟩)(hv:aj vc)(k:ak prog GB C n Q0 fr' own' cf'):ak prog GB C n Q0 fr own cf:=by
 obtain⟨dst,op,ty,pos,af,gd⟩:=o
 cases cf with
 |ops ops' r K=>
  cases r with
  |nil=>cases hh
  |cons o' r=>
   cases hh
   unfold bP at hgo
   cases hc:(mw nw dst fr own&&cC n dst) with
   |false=>simp only[hc,cond_false,jq] at hgo;cases hgo;exact absurd hv (fun x=>x)
   |true=>
    simp only[hc,cond_true] at hgo;simp only[ru,qx] at hgo;simp only[bQ] at hc;exact SX.op (h.toS hc.2 (wh hg)) (vd hc.1) (dw hgo hv k)
 |dr id ops' fr0 own0 us r K=>
  cases r with
  |nil=>cases hh
  |cons o' r=>
   cases hh
   unfold bP at hgo
   cases hc:cC n dst with
   |false=>simp only[hc,cond_false,jq] at hgo;cases hgo;exact absurd hv (fun x=>x)
   |true=>
    simp only[hc,cond_true,oo] at hgo;simp only[ru,qx] at hgo;intro D;exact dw hgo hv k (D.push (h.toS hc (wh hg)))
 |_=>cases hh
def ke(lk:LK)(fo:Operand)(args:Array Operand):Option (FuncId×List DV):=match aB lk fo with
 |some (.d (.v (.func (.func f) ⟨[]⟩ ⟨[]⟩)))=>match evDs lk args.toList with
  |some ds=>some (f,ds)
  |none=>none
 |_=>none
def s6{lk:LK}{fo:Operand}{args:Array Operand}{f:FuncId}{ds:List DV}(h:ke lk fo args=some (f,ds)):aB lk fo=some (.d (.v (.func (.func f) #[] #[])))/\evDs lk args.toList=some ds:=by
 unfold ke at h;split at h<;>try (cases h;done)
 rename_i h1;split at h<;>cases h;rename_i h2;exact⟨h1,h2⟩
def KS{lk:LK}{bk:BM}{fo:Operand}{args:Array Operand}{tys:Array TypeId}{f:FuncId}{ds:List DV}{rv:DV}{dst:Option Nat}{ty:TypeId}{pos:String}{af:Array Edge}{gd:Option (Nat×Bool)}(ha:ke lk fo args=some (f,ds))(hF:PF GB prog f ds rv):
  bw prog GB C n lk bk ⟨dst, .call ⟨.value fo,args,tys⟩,ty,pos,af,gd⟩ (.d rv) [] []:=by
 intro hd tl tb K' s1 s2 hf hk;refine⟨fun ρ G ov a w r Q=>?_⟩;obtain⟨h1,h2⟩:=s6 ha;obtain⟨y,hy,hy'⟩:=(r.mono s1 s2).ev h1;rw[(aH (G:=G)).1 hy'] at hy;obtain⟨vs,h3,h4⟩:=(r.mono s1 s2).evDs h2;refine zC hy h3 (hF G vs r.gb h4) hd (fun v G' hG hK a' w' rl=>?_) a w Q ⟨r.h,r.sz,ci a,r.df⟩;exact hk.run ρ G' ov a' w' ⟨r.gb.trans hG.le,rl.h,rl.sz,rl.df,(i7 rl).fx (fun k g _ e=>by obtain⟨u,h5,h6⟩:=r.fx k g e;exact⟨u,h5,h6.up hG.le⟩) hK,
  fun nm B e=>by obtain⟨os,h5,h6⟩:=r.bx nm B e;exact⟨os,h5.up hG.le,h6⟩,r.dj,r.fxd⟩
def jP(T:TT)(fr:ao)(own:aA):List ResultVar->Option (List DV)
 |[]=>some []
 | .tmp t::rs=>match aD fr t with
  |some f=>match gw f with
   |some d=>match jP T fr own rs with
    |some l=>some (d::l)
    |none=>none
   |none=>none
  |none=>none
 | .cell a t::rs=>match aD fr a with
  |some (.ov nm 0)=>match co T t with
   |some i=>match aI own nm with
    |some (.o _ cs _)=>match i.ag with
     |some (some k)=>match takeX cs 0 k with
      |some c=>match iq c with
       |some d=>match jP T fr own rs with
        |some l=>some (.ag d::l)
        |none=>none
       |none=>none
      |none=>none
     |some none=>match cs[0]? with
      |some c=>match gw c with
       |some d=>match jP T fr own rs with
        |some l=>some (d::l)
        |none=>none
       |none=>none
      |none=>none
     |none=>none
    |_=>none
   |none=>none
  |_=>none
def qD{ρ:NE}{G:Gh}{ov:List av}{a:Act}{w:World}(h:bu GB C n (aD fr) (aI own) ρ G ov a w): ∀{rs:List ResultVar} {ds:List DV},jP tt fr own rs=some ds-> ∃vs,gc prog (cg a) ov rs vs/\IsLs G ds vs:=by
 intro rs
 induction rs with
 |nil=>intro ds e;cases e;exact⟨[], .nil, .nil⟩
 |cons x rs ih=>
  intro ds e
  cases x with
  |tmp t=>
   simp only[jP] at e;split at e<;>try (cases e;done)
   rename_i f hf;split at e<;>try (cases e;done)
   rename_i d hd;split at e<;>cases e;rename_i l hl;obtain⟨vs,h1,h2⟩:=ih hl;obtain⟨y,h3,h4⟩:=h.fx t f hf;exact⟨y::vs, .tmp (xw h3) h1, .cons (lu h4 hd) h2⟩
  |cell t ty=>
   simp only[jP] at e;split at e<;>try (cases e;done)
   rename_i nm hf;split at e<;>try (cases e;done)
   rename_i i hi;split at e<;>try (cases e;done)
   rename_i hb;obtain⟨y,h3,h4⟩:=h.fx t _ hf;obtain⟨b,m,rfl,h5,h6,h7⟩:=h.own h4 hb;have oat:ie ov b m _ _:=⟨h7⟩;split at e<;>try (cases e;done)
   .rename_i k ha
    split at e<;>try (cases e;done)
    rename_i c hc;split at e<;>try (cases e;done)
    rename_i d hd;split at e<;>cases e;rename_i l hl;obtain⟨vs,h1,h2⟩:=ih hl;obtain⟨l',h8,h9⟩:=h6.takeX hc;exact⟨.agg ⟨l'⟩::vs, .agg (xw h3) oat (sB (dz _ _ hi) ha) h8 h1, .cons (dt.2 ⟨l',J,q7 h9 hd⟩) h2⟩
   .rename_i ha
    split at e<;>try (cases e;done)
    rename_i c hc;split at e<;>try (cases e;done)
    rename_i d hd;split at e<;>cases e;rename_i l hl;obtain⟨vs,h1,h2⟩:=ih hl;obtain⟨l',h8,h9⟩:=h6.get hc;exact⟨l'::vs, .sc (xw h3) oat (qh (dz _ _ hi) ha) h8 h1, .cons (lu h9 hd) h2⟩
def rp:Exit->Bool
 | .ret=>true
 | .normal=>true
 |_=>false
def rz{fb:Func}{e:Exit}{ds:List DV}{rv:DV}(hr:jP tt fr own fb.results.toList=some ds)(hd:iH ds=rv)(he:rp e=true:=by rfl):ak prog GB C n (dx C prog fb (d6 C (fun v G'=>Is G' rv v))) fr own (.ex e []):=by
 refine⟨fun ρ G ov a w r=>?_⟩;obtain⟨vs,h1,h2⟩:=qD r hr;have hk:Is G rv (i4 vs):=hd▸rL h2
 cases e with
 |ret=>exact zD (C:=C) (n:=n) (fr:=cg a) (own:=ov) (G:=G) (K:=fun v G'=>Is G' rv v) h1 hk a w ⟨r.h,r.sz,ci a,r.df⟩
 |normal=>exact vC (C:=C) (n:=n) (fr:=cg a) (own:=ov) (G:=G) (K:=fun v G'=>Is G' rv v) h1 hk a w ⟨r.h,r.sz,ci a,r.df⟩
 |_=>cases he
end
end Go.Sx
end
section
namespace Go.Sx
open Go
section
variable {P:Program} {GB:Gh} {C:az} {n:Nat} {E:kB} {fr fr':di} {own own':List cj} {bs bs' bs1:List cI} {ops:Array Oper} {Q:Exit->Act->World->Prop} {r:List Oper} {Φ:Act->World->Prop}
variable {dst:Option Nat} {t t' ty':TypeId} {pos:String} {af:Array Edge} {gd:Option (Nat×Bool)} {x y z:Operand} {e s by_:Nat}
class aFR (P:Program) (t:TypeId) (d:outParam DV):Prop where
 z: ∃z,gg P t z/\Is (fun _=>none) d z/\d.okc=true
abbrev SV.f (w:SV):FV:= .d (.v (.slice w.a w.n w.c))
def VA(z:Value)(k:Nat):bc (List.replicate k z)=dA z k:=by unfold bc dA;rw[List.map_replicate]
def J2{G:Gh}{d:DV}{y:Value}(h:Is G d y): ∀k:Nat,IsLs G (List.replicate k d) (List.replicate k y)
 |0=> .nil
 |k+1=> .cons h (J2 h k)
def SY(fr:di):Nat->List (Nat×Operand)->Option (List DV)
 |_,[]=>some []
 |j,(i,x)::r=>match yh fr x,SY fr (j+1) r with
  |some d,some l=>bif Nat.beq i j then some (d::l) else none
  |_,_=>none
def G6(pre mid post vs:List Value)(h:vs.length=mid.length):c9 (pre++(mid++post)) pre.length vs=pre++(vs++post):=by
 rw[qj _ _ _ (by simp;omega)];simp[h]
def Qj(z:Value)(k:Nat):dA z (k+1)=aF z++dA z k:=by simp[dA,jK]
def yN(s:Nat)(ds:List DV):Bool:=ds.all fun d=>d.okc&&Nat.beq d.cells.length s
def w5{ds:List DV}(h:yN s ds=true):dl s ds:=fun d hd=>by
 have:=dJ.1 h d hd;simp only[bQ] at this;exact⟨this.1,aU this.2⟩
def Ja{cs:List Value}{off s:Nat}: ∀(es:List Value),(∀i (h:i<es.length),cc cs (off+i*s) s=some (aF es[i]))->off<=cs.length->cc cs off (es.length*s)=some (bc es)
 |[],_,ho=>by
  rw[ja _ _ _ (by simpa using ho)];simp[bc]
 |v::t,h,ho=>by
  have h0:=h 0 (by simp);simp only[iV,eK,mY] at h0;obtain⟨k1,k2⟩:=uj h0;have ih:=Ja (off:=off+s) t (fun i hi=>by
   have:=h (i+1) (by simpa using hi);rw[gR,show off+(i*s+s)=off+s+i*s by omega] at this;simpa using this) (by omega)
  obtain⟨k3,k4⟩:=uj ih;rw[ja _ _ _ (by simp only[bR,gR];omega)];congr 1;have e1:bc (v::t)=aF v++bc t:=by simp[bc]
  rw[e1,k2,k4,bR,gR,jS (t.length*s) s,List.take_add,nJ]
def Pz{ov:List av}{G:Gh}{w:SV}{es:List Value}(h:ee G s w es):l6 P C ov G s w.n (.slice w.a w.n w.c) (bc es):=by
 rcases h.mem with he|⟨b,off,cs,ha,hg,hc⟩
 .subst he
  rw[h.len];exact tg
 .rw[ha]
  by_cases he:es=[]
  .subst he;rw[h.len];exact tg
  .have hp:0<es.length:=qL.2 he
   have h0:=hc 0 hp;have:=(uj h0).1;rw[h.len];exact DU hg (Ja es hc (by omega))
def Yr(fr:di)(bs:List cI)(s:Nat)(y:Operand)(ds:List DV):Prop:=
 (∃l,yh fr y=some (.sl l)/\l=ds/\dl s l)\/ ∃w ty lo,Bj fr y=some w.f/\(⟨w,s,ty,ds,lo⟩:cI)∈bs/\dl s ds
def Rq[hT:c8 P t e s by_][hN:lI P t']{w:World}{ad2:Option Addr}{cap2:Nat}:(Builtin.append_ #[t,t'] ty' #[.slice none 0 0, .slice ad2 0 cap2]).run P w= .ok (.slice none 0 0) w:=by
 obtain⟨d,hd1⟩:=hN.un;obtain⟨i,hi,his,hib⟩:=hT.info;have h0:(Builtin.firstCells i.size 0 (.slice ad2 0 cap2)).run P w= .ok #[] w:=by
  cases ad2 with
  |none=>rfl
  |some a=>unfold Builtin.firstCells loadCells;simp[loadCellsFrom,run_pure]
 simp[Builtin.append_,run_underlying hT.un,run_underlying hd1,sizeOf,typeInfo,hi,Builtin.lenOf,h0]
def VE[hT:c8 P t e s by_][hN:lI P t']{fr:Fr}{own:List av}{G:Gh}{ad2:Option Addr}{cap2:Nat}(hx:aC fr x=some (.slice none 0 0))(hy:aC fr y=some (.slice ad2 0 cap2))(hd:cC n dst=true)
  (h:St C n (put fr dst (.slice none 0 0)) own G Φ):Ch P C n fr own G ⟨dst, .call ⟨.builtin .append, #[x,y], #[t,t']⟩,ty',pos,af,gd⟩ Φ:=by
 intro a w Q rl;refine ky (v:= .slice none 0 0) (w':=w) ?_ (h _ _ (rl.put _ hd));simp only[execOp,resolve,iT,bL,iQ,bh rl.fr hx,bh rl.fr hy];exact cp Rq
def cG.upd{G:Gh}{w:SV}{s:Nat}{ty:TypeId}{ds:List DV}{lo:Bool}{B:List av}(h:cG G ⟨w,s,ty,ds,lo⟩ B){i:Nat}{d:DV}(hi:ds[i]? =some d):
  ∃b vs rest lo',w.a=some ⟨b,0,none⟩/\B=[⟨b,bc vs++rest,ty,lo'⟩]/\IsLs G ds vs/\(∀v∈vs,(aF v).length=s)/\i<vs.length/\
   ∀u d',Is G d' u->(aF u).length=s->cG G ⟨w,s,ty,ds.set i d',lo⟩ [⟨b,bc (vs.set i u)++rest,ty,lo'⟩]:=by
 obtain⟨vs,hB,hv,hs,hlo⟩:=h;obtain⟨v,h1,h2⟩:=hv.get hi;obtain⟨hi',_⟩:=aT.1 h1;rcases hB with⟨e,_,_⟩|⟨b,rest,lo',h3,h4,h5,h6,h7⟩
 .rw[e] at h1;simp at h1
 .refine⟨b,vs,rest,lo',by simp only[] at h3;rw[h3],h4,hv,hs,hi',fun u d' hu hul=>?_⟩
  have hall: ∀x∈vs.set i u,(aF x).length=s:=fun x hx=>by
   rcases List.mem_or_eq_of_mem_set hx with h'|rfl
   .exact hs x h'
   .exact hul
  refine⟨vs.set i u, .inr ⟨b,rest,lo',by simpa using h3,J,fj _ hall,?_,by simpa using h7⟩,hv.set i hu,hall,fun hl o ho=>?_⟩
  .rw[fj _ hall,aY,<-h5];exact h6
  .have:=hlo hl
   rw[h4] at this;rw[aL.1 ho];have h9:=this ⟨b,bc vs++rest,ty,lo'⟩ aX;exact h9
def PQ{s:Nat}{rest:List Value}{u:Value}(vs:List Value)(i:Nat)(h:i<vs.length)(hs: ∀v∈vs,(aF v).length=s)(hu:(aF u).length=s):c9 (bc vs++rest) (i*s) (aF u)=bc (vs.set i u)++rest:=by
 have hl:=fj vs hs;have hle:i*s+s<=vs.length*s:=by rw[<-gR];exact bK _ h
 rw[qj _ _ _ (by rw[hu,aN];omega),hu,fQ (by omega),iK (by omega),BF vs i hs (by omega),<-gR,z6 vs (i+1) hs h,
  List.set_eq_take_append_cons_drop,if_pos h,show vs.take i++u::vs.drop (i+1)=vs.take i++([u]++vs.drop (i+1)) from J,ot,ot,Gs]
 simp
def reF(ks:List Nat)(f:FV)(fr:di):di:=ks.map (fun k=>(k,f))++fr
end
end Go.Sx
end
