import Derived.Test.YtefoocgiaegobaaGreatDoorPe4
import Derived.Test.YtefoocgiaegobaaGreatDoorProg
set_option linter.all false
set_option maxRecDepth 100000
section
namespace Go.Sx
open Go
abbrev aw:=List (Nat×FX)
abbrev aH:=List (Nat×Option Bk)
def bc:aw->Nat->Option FX
 |[],_=>none
 |(k,v)::t,j=>bif Nat.beq k j then some v else bc t j
def bj:aH->Nat->Option Bk
 |[],_=>none
 |(k,v)::t,j=>bif Nat.beq k j then v else bj t j
def uc{α:Type}:aH->Nat->Option Bk->(aH->α)->α
 |[],nm,B,k=>k [(nm,B)]
 |(j,v)::t,nm,B,k=>bif Nat.beq j nm then k ((nm,B)::t) else uc t nm B fun t'=>k ((j,v)::t')
def qk{α:Type}:aH->List (Nat×Option Bk)->(aH->α)->α
 |own,[],k=>k own
 |own,(nm,B)::t,k=>uc own nm B fun own'=>qk own' t k
def mD(own:aH)(nm:Nat)(B:Option Bk):aH:=uc own nm B id
def tw(own:aH)(l:List (Nat×Option Bk)):aH:=qk own l id
def vM{α:Type}{nm:Nat}{B:Option Bk}: ∀{own:aH} {k:aH->α},uc own nm B k=k (mD own nm B)
 |[],k=>rfl
 |(j,v)::t,k=>by
  unfold mD uc
  cases Nat.beq j nm with
  |true=>rfl
  |false=>rw[cond_false,cond_false,vM (own:=t),vM (own:=t)];rfl
def tD{α:Type}: ∀{l:List (Nat×Option Bk)} {own:aH} {k:aH->α},qk own l k=k (tw own l)
 |[],own,k=>rfl
 |(nm,B)::t,own,k=>by
  unfold tw qk;rw[vM,vM,tD (l:=t),tD (l:=t)];rfl
def i7(k:Nat)(v:FX)(t:aw)(j:Nat):bc ((k,v)::t) j=if j=k then some v else bc t j:=by
 simp only[bc];by_cases h:k=j
 ·simp[h]
 ·have:Nat.beq k j=false:=by
   cases hb:Nat.beq k j with
   |false=>rfl
   |true=>exact absurd (aY hb) h
  simp[this,Ne.symm h]
def kt(k:Nat)(v:Option Bk)(t:aH)(j:Nat):bj ((k,v)::t) j=if j=k then v else bj t j:=by
 simp only[bj];by_cases h:k=j
 ·simp[h]
 ·have:Nat.beq k j=false:=by
   cases hb:Nat.beq k j with
   |false=>rfl
   |true=>exact absurd (aY hb) h
  simp[this,Ne.symm h]
def y5{nm:Nat}{B:Option Bk}(j:Nat): ∀own:aH,bj (mD own nm B) j=if j=nm then B else bj own j
 |[]=>kt nm B [] j
 |(k,v)::t=>by
  have ih:=y5 (nm:=nm) (B:=B) j t;unfold mD uc
  cases hb:Nat.beq k nm with
  |true=>
   have e:=aY hb;subst e;rw[cond_true,id,kt,kt];by_cases h:j=k<;>simp[h]
  |false=>
   have hne:k≠nm:=fun e=>by subst e;simp at hb
   rw[cond_false,vM,id,kt,kt,ih];by_cases h:j=k
   ·subst h;simp[hne]
   ·simp[h]
def BA: ∀(l:List (Nat×Option Bk)) (own:aH),bj (tw own l)=upB (bj own) l
 |[],own=>rfl
 |(nm,B)::t,own=>by
  have:tw own ((nm,B)::t)=tw (mD own nm B) t:=by rw[tw,qk,vM];rfl
  rw[this,BA t];simp only[upB];congr 1;funext j;exact y5 j own
def CP(fr:aw)(dst:Option Nat)(f:FX):aw:=match dst with
 |some d=>(d,f)::fr
 |none=>fr
def Ea{fr:aw}{dst:Option Nat}{f:FX}:bc (CP fr dst f)=dP (bc fr) dst f:=by
 cases dst with
 |none=>rfl
 |some d=>funext j;exact i7 d f fr j
def xb(T:TT)(n:Nat)(ops:Array Oper)(lk:LK)(bk:BM):Oper->Option CR
 |⟨dst,op,_,_,_,gd⟩=>bif b7 n dst then(match gd with
  |none=>wh T lk bk dst op
  |some (j,b)=>match ops[j]? with
   |some oj=>match oj.dst with
    |some d=>match lk d with
     |some .tt=>bif b then wh T lk bk dst op else some ⟨none, .un,[],[]⟩
     |some .ff=>bif b then some ⟨none, .un,[],[]⟩ else wh T lk bk dst op
     |some .un=>some ⟨none, .un,[],[]⟩
     |_=>none
    |none=>none
   |none=>none) else none
section
variable {P:Program} {T:TT} {GB:Gh} {C:aD} {n:Nat} {lk:LK} {bk:BM} {ops:Array Oper}
def bH.toS{dst:Option Nat}{op:Op}{ty:TypeId}{pos:String}{af:Array Edge}{gd:Option (Nat×Bool)}{f:FX}{bl:List (Nat×Option Bk)}{nw:List Nat}(h:bH P GB C n lk bk ⟨dst,op,ty,pos,af,gd⟩ f bl nw)(hd:b7 n dst=true)
  (hw: ∀ρ G ov a w,bE GB C n lk bk ρ G ov a w->Region.wanted ⟨dst,op,ty,pos,af,gd⟩ (yielded ops a.tmps)=true):r7 P GB C n ops lk bk ⟨dst,op,ty,pos,af,gd⟩ f bl nw:=by
 intro Q tl tb K s1 s2 hf hk;have:=h hd tl tb (fun a w=>a.defers=C.mks/\K a w) s1 s2 hf ⟨fun ρ G ov a w r=>⟨r.df,hk.run ρ G ov a w r⟩⟩;refine⟨fun ρ G ov a w r=>?_⟩;unfold wO;rw[if_pos (hw ρ G ov a w (r.mono s1 s2))];exact DK (this.run ρ G ov a w r) fun a' w' k=>⟨k.1.trans r.df.symm,k.2⟩
def r7.skip{dst:Option Nat}{op:Op}{ty:TypeId}{pos:String}{af:Array Edge}{gd:Option (Nat×Bool)}(hd:b7 n dst=true)
  (hw: ∀ρ G ov a w,bE GB C n lk bk ρ G ov a w->Region.wanted ⟨dst,op,ty,pos,af,gd⟩ (yielded ops a.tmps)=false):r7 P GB C n ops lk bk ⟨dst,op,ty,pos,af,gd⟩ .un [] []:=by
 intro Q tl tb K s1 s2 hf hk;refine⟨fun ρ G ov a w r=>?_⟩;unfold wO;rw[hw ρ G ov a w (r.mono s1 s2)];exact hk.run ρ G ov _ w (r.put J (r.putA undef hd))
def yu{ρ:NE}{G:Gh}{ov:List aj}{a:Act}{w:World}(r:bE GB C n lk bk ρ G ov a w){j d:Nat}{oj:Oper}{f:FX}(hj:ops[j]? =some oj)(hd:oj.dst=some d)(hf:lk d=some f): ∃y,bP ρ G f y/\yielded ops a.tmps j=match y with| .bool b=>some b|_=>none:=by
 obtain⟨y,h1,h2⟩:=r.fx d f hf;refine⟨y,h2,?_⟩;unfold yielded;rw[hj];simp only[Option.bind_some,hd,h1]
 cases y<;>rfl
def Oe{o:Oper}{r:CR}(hT:lc P T)(h:xb T n ops lk bk o=some r)(hv: ∀p,r.vc=some p->p):r7 P GB C n ops lk bk o r.f r.bl r.nw/\b7 n o.dst=true:=by
 obtain⟨dst,op,ty,pos,af,gd⟩:=o;simp only[xb] at h
 cases hd:b7 n dst with
 |false=>rw[hd] at h;cases h
 |true=>
  rw[hd,cond_true] at h;refine⟨?_,J⟩;split at h
  ·exact(vW hT h hv).toS hd fun _ _ _ _ _ _=>J
  ·rename_i j b
   split at h<;>try (cases h;done)
   rename_i oj hj;split at h<;>try (cases h;done)
   rename_i d hdj;split at h<;>try (cases h;done)
   ·rename_i hl
    have wt: ∀ρ G ov (a:Act) w,bE GB C n lk bk ρ G ov a w->Region.wanted ⟨dst,op,ty,pos,af,some (j,b)⟩ (yielded ops a.tmps)=b:=fun ρ G ov a w r=>by
     obtain⟨y,h1,h2⟩:=yu r hj hdj hl
     cases h1
     simp only[Region.wanted,h2];cases b<;>rfl
    cases b with
    |true=>exact(vW hT h hv).toS hd wt
    |false=>cases h;exact .skip hd wt
   ·rename_i hl
    have wt: ∀ρ G ov (a:Act) w,bE GB C n lk bk ρ G ov a w->Region.wanted ⟨dst,op,ty,pos,af,some (j,b)⟩ (yielded ops a.tmps)=!b:=fun ρ G ov a w r=>by
     obtain⟨y,h1,h2⟩:=yu r hj hdj hl
     cases h1
     simp only[Region.wanted,h2];cases b<;>rfl
    cases b with
    |true=>cases h;exact .skip hd wt
    |false=>exact(vW hT h hv).toS hd wt
   ·rename_i hl
    cases h
    refine .skip hd fun ρ G ov a w r=>?_;obtain⟨y,h1,h2⟩:=yu r hj hdj hl
    cases h1
    simp only[Region.wanted,h2];rfl
end
inductive Kt where
 |sq (c:Code)
 |bl (id:Nat)
 |sc
 |ag (A:Act->World->Prop)
def cQ(rd:Option Nat)(P:Program)(Q0:Exit->Act->World->Prop):List Kt->Exit->Act->World->Prop
 |[]=>Q0
 | .sq y::K=>Exit.then (f5 rd P y (cQ rd P Q0 K)) (cQ rd P Q0 K)
 | .bl id::K=>Exit.inBlock id (cQ rd P Q0 K)
 | .sc::K=>Exit.noGoto (cQ rd P Q0 K)
 | .ag A::K=>Exit.then A (cQ rd P Q0 K)
inductive Cf where
 |code (c:Code) (K:List Kt)
 |ops (ops:Array Oper) (r:List Oper) (K:List Kt)
 |dr (id:Nat) (ops:Array Oper) (fr0:aw) (own0:aH) (us:List Rc) (r:List Oper) (K:List Kt)
 |ex (e:Exit) (K:List Kt)
structure vK (P:Program) (GB:Gh) (C:aD) (n:Nat) (ops:Array Oper) (fr0:aw) (own0:aH) (us:List Rc) (r:List Oper) (fr:aw) (own:aH):Prop where
 pre: ∃pre,ops.toList=pre++r/\pre.length=us.length
 st:cj (fun _=>true) 0 (bc fr0,bj own0) us=(bc fr,bj own)
 snd: ∀i u o,us[i]? =some u->ops[i]? =some o->o.dst=u.d/\r7 P GB C n ops (kv u.rs (cj (fun j=>decide (j<i)) 0 (bc fr0,bj own0) us).1) (kv u.rn (cj (fun j=>decide (j<i)) 0 (bc fr0,bj own0) us).2) o u.f u.bl u.nw
def ak(P:Program)(GB:Gh)(C:aD)(n:Nat)(Q0:Exit->Act->World->Prop)(fr:aw)(own:aH):Cf->Prop
 | .code c K=>SX GB C n (bc fr) (bj own) (f5 C.rd P c (cQ C.rd P Q0 K))
 | .ops ops r K=>SX GB C n (bc fr) (bj own) (wpListIn (FW C.rd) 0 P ops (cQ C.rd P Q0 K) r)
 | .dr id ops fr0 own0 us r K=>vK P GB C n ops fr0 own0 us r fr own->SX GB C n (bc fr0) (bj own0) (f5 C.rd P (.region id ops true) (cQ C.rd P Q0 K))
 | .ex e K=>SX GB C n (bc fr) (bj own) (cQ C.rd P Q0 K e)
structure vz where
 vc:List Prop
 fr:aw
 own:aH
 cf:Cf
def acc(v:Option Prop)(l:List Prop):List Prop:=match v with
 |some p=>p::l
 |none=>l
def GY{α:Type}(v:Option Prop)(l:List Prop)(k:List Prop->α):α:=match v with
 |some p=>k (p::l)
 |none=>k l
def Ly{α:Type}{v:Option Prop}{l:List Prop}{k:List Prop->α}:GY v l k=k (acc v l):=by cases v<;>rfl
def uY{α:Type}(fr:aw)(dst:Option Nat)(f:FX)(k:aw->α):α:=match dst with
 |some d=>k ((d,f)::fr)
 |none=>k fr
def x7{α:Type}{fr:aw}{dst:Option Nat}{f:FX}{k:aw->α}:uY fr dst f k=k (CP fr dst f):=by cases dst<;>rfl
def r4(nw:List Nat)(dst:Option Nat)(fr:aw)(own:aH):Bool:=nw.all fun nm=>fr.all (fun e=>vD dst e.1||!uw nm e.2)&&own.all fun e=>Nat.beq e.1 nm||!C6 nm e.2
def uL:List Operand->List Nat
 |[]=>[]
 | .tmp t::r=>t::uL r
 |_::r=>uL r
def Cg(fr:aw):List Nat->List Nat
 |[]=>[]
 |t::r=>match bc fr t with
  |some f=>match f.nm with
   |some nm=>nm::Cg fr r
   |none=>Cg fr r
  |none=>Cg fr r
def AA(o:Oper)(fr:aw)(rs:List Nat):List Nat:=match o.op with
 | .move _=>[]
 |_=>Cg fr rs
def yl(ops:Array Oper)(o:Oper):List Nat:=match o.guard with
 |some (j,_)=>match ops[j]? with
  |some oj=>match oj.dst with
   |some d=>d::uL o.op.operands.toList
   |none=>uL o.op.operands.toList
  |none=>uL o.op.operands.toList
 |none=>uL o.op.operands.toList
def go(T:TT)(n:Nat):Nat->List Prop->aw->aH->Cf->vz
 |0,l,fr,own,cf=>⟨l,fr,own,cf⟩
 |k+1,l,fr,own, .code c K=>match c with
  | .seq x y=>go T n k l fr own (.code x (.sq y::K))
  | .region id ops d=>bif d then go T n k l fr own (.dr id ops fr own [] ops.toList K) else go T n k l fr own (.ops ops ops.toList K)
  | .skip=>go T n k l fr own (.ex .normal K)
  | .ret=>go T n k l fr own (.ex .ret K)
  | .exit id=>go T n k l fr own (.ex (.exit id) K)
  | .block id c=>go T n k l fr own (.code c (.bl id::K))
  | .scope c=>go T n k l fr own (.code c (.sc::K))
  | .label _=>go T n k l fr own (.ex .normal K)
  | .cond c x y=>match aI (bc fr) c with
   |some .tt=>go T n k l fr own (.code x K)
   |some .ff=>go T n k l fr own (.code y K)
   |_=>⟨l,fr,own, .code (.cond c x y) K⟩
  |c=>⟨l,fr,own, .code c K⟩
 |k+1,l,fr,own, .ex e K=>match K with
  | .sq y::K'=>match e with
   | .normal=>go T n k l fr own (.code y K')
   |e=>go T n k l fr own (.ex e K')
  | .bl id::K'=>match e with
   | .exit j=>bif Nat.beq j id then go T n k l fr own (.ex .normal K') else go T n k l fr own (.ex (.exit j) K')
   |e=>go T n k l fr own (.ex e K')
  | .sc::K'=>bif Pw e then go T n k l fr own (.ex e K') else⟨l,fr,own, .ex e (.sc::K')⟩
  | .ag A::K'=>match e with
   | .normal=>⟨l,fr,own, .ex .normal (.ag A::K')⟩
   |e=>go T n k l fr own (.ex e K')
  |[]=>⟨l,fr,own, .ex e []⟩
 |k+1,l,fr,own, .ops ops r K=>match r with
  |[]=>go T n k l fr own (.ex .normal K)
  |o::r'=>match xb T n ops (bc fr) (bj own) o with
   |some ⟨v,f,bl,nw⟩=>bif r4 nw o.dst fr own then qk own bl fun own'=>GY v l fun l'=>uY fr o.dst f fun fr'=>go T n k l' fr' own' (.ops ops r' K) else⟨l,fr,own, .ops ops (o::r') K⟩
   |none=>⟨l,fr,own, .ops ops (o::r') K⟩
 |k+1,l,fr,own, .dr id ops fr0 own0 us r K=>match r with
  |[]=>go T n k (((rF (n4 ops.toList []) [] us&&ly 0 ops.toList&&Cs us fr0 own0)=true)::l) fr own (.ex .normal K)
  |o::r'=>jE (yl ops o) fun rs=>jE (AA o fr rs) fun rn=>match xb T n ops (kv rs (bc fr)) (kv rn (bj own)) o with
   |some ⟨v,f,bl,nw⟩=>qk own bl fun own'=>jE (us++[⟨rs,o.dst,f,rn,bl,nw⟩]) fun us'=>GY v l fun l'=>uY fr o.dst f fun fr'=>go T n k l' fr' own' (.dr id ops fr0 own0 us' r' K)
   |none=>⟨l,fr,own, .dr id ops fr0 own0 us (o::r') K⟩
def ah:List Prop->Prop
 |[]=>True
 |[p]=>p
 |p::t=>ah t/\p
def M6{p:Prop}{t:List Prop}:ah (p::t)↔ah t/\p:=by cases t<;>simp[ah]
def IE{v:Option Prop}{l:List Prop}(h:ah (acc v l)):ah l/\ ∀p,v=some p->p:=by
 cases v with
 |none=>exact⟨h,fun p e=>by cases e⟩
 |some q=>obtain⟨h1,h2⟩:=M6.1 h;exact⟨h1,fun p e=>by cases e;exact h2⟩
def Ex{f:FX}{k:Nat}: ∀{fr:aw},bc fr k=some f->(k,f)∈fr
 |[],h=>by cases h
 |(j,g)::t,h=>by
  rw[i7] at h;split at h
  ·cases h;rename_i e;rw[e];exact aQ
  ·exact aZ _ (Ex h)
def D0{B:Bk}{k:Nat}: ∀{own:aH},bj own k=some B->(k,some B)∈own
 |[],h=>by cases h
 |(j,g)::t,h=>by
  rw[kt] at h;split at h
  ·rename_i e;rw[e,h];exact aQ
  ·exact aZ _ (D0 h)
def ya{nw:List Nat}{dst:Option Nat}{fr:aw}{own:aH}(h:r4 nw dst fr own=true):kc nw dst (bc fr) (bj own):=fun nm hnm=>by
 have:=fJ.1 h nm hnm;simp only[aN] at this;refine⟨fun k f hk e hc=>?_,fun k B hk e hm=>?_⟩
 ·have:=fJ.1 this.1 _ (Ex e)
  simp only[iT,iZ,uw] at this;rcases this with h|h
  ·exact hk (yx.1 h).symm
  ·rw[yx.2 hc] at h;cases h
 ·have:=fJ.1 this.2 _ (D0 e)
  simp only[iT,iZ] at this;rcases this with h|h
  ·exact hk (aY h)
  ·rw[Gl hm] at h;cases h
def LU{us:List Rc}{fr:aw}{own:aH}(h:Cs us fr own=true): ∀r∈us,∀nm∈r.nw,(∀k f,bc fr k=some f->f.nm≠some nm)/\ ∀k B,bj own k=some B-> ¬B.men nm:=fun r hr nm hnm=>by
 have:=fJ.1 (fJ.1 h r hr) nm hnm;simp only[aN] at this;refine⟨fun k f e hc=>?_,fun k B e hm=>?_⟩
 ·have:=fJ.1 this.1 _ (Ex e)
  simp only[iZ,uw] at this;rw[yx.2 hc] at this;cases this
 ·have:=fJ.1 this.2 _ (D0 e)
  simp only[iZ] at this;rw[Gl hm] at this;cases this
section
variable {P:Program} {T:TT} {GB:Gh} {C:aD} {n:Nat} {Q0:Exit->Act->World->Prop} {fr fr0:aw} {own own0:aH} {ops:Array Oper} {us:List Rc} {r:List Oper} {o:Oper} {K:List Kt}
def Ct{p q:Nat->Bool}{u:Rc}: ∀{us:List Rc} {k:Nat} {s:ST},(∀j,j<us.length->p (k+j)=q (k+j))->cj p k s (us++[u])=if p (k+us.length) then u.ap (cj q k s us) else cj q k s us
 |[],k,s,h=>rfl
 |x::t,k,s,h=>by
  simp only[cV,cj];rw[Ct (q:=q) fun j hj=>by have:=h (j+1) (by simp;omega);rwa [show k+(j+1)=k+1+j by omega] at this];have h0:=h 0 (by simp);rw[eJ] at h0;rw[h0,bT,show k+1+t.length=k+(t.length+1) by omega]
def vK.push(D:vK P GB C n ops fr0 own0 us (o::r) fr own){rs rn nw:List Nat}{f:FX}{bl:List (Nat×Option Bk)}(h:r7 P GB C n ops (kv rs (bc fr)) (kv rn (bj own)) o f bl nw):vK P GB C n ops fr0 own0 (us++[⟨rs,o.dst,f,rn,bl,nw⟩]) r (CP fr o.dst f) (tw own bl):=by
 obtain⟨pre,hp,hl⟩:=D.pre;refine⟨⟨pre++[o],by rw[hp];simp,by simp[hl]⟩,?_,fun i u o' hu ho=>?_⟩
 ·rw[Ct (q:=fun _=>true) fun _ _=>J,if_pos J,D.st]
  simp only[Rc.ap];rw[Ea,BA]
 ·rw[List.getElem?_append] at hu
  split at hu
  ·rename_i hi
   obtain⟨h1,h2⟩:=D.snd i u o' hu ho;rw[Ct (q:=fun j=>decide (j<i)) fun _ _=>J,if_neg (by simp;omega)];exact⟨h1,h2⟩
  ·rename_i hi
   by_cases e:i=us.length
   ·subst e
    simp at hu;subst hu;have ho':ops[us.length]? =some o:=by
     have:ops.toList[us.length]? =some o:=by rw[hp,<-hl];simp
     simpa using this
    rw[ho'] at ho;cases ho;refine⟨J,?_⟩;rw[Ct (q:=fun _=>true) fun j hj=>by simpa using hj,if_neg (by simp),D.st];exact h
   ·rw[dJ (by simp;omega)] at hu;cases hu
def vK.done(D:vK P GB C n ops fr0 own0 us [] fr own){id:Nat}(hm:P.follows .mixedOrders=true)(h:(rF (n4 ops.toList []) [] us&&ly 0 ops.toList&&Cs us fr0 own0)=true)(hk:SX GB C n (bc fr) (bj own) (cQ C.rd P Q0 K .normal)):
  SX GB C n (bc fr0) (bj own0) (f5 C.rd P (.region id ops true) (cQ C.rd P Q0 K)):=by
 obtain⟨pre,hp,hl⟩:=D.pre;simp only[aN] at h;have D':iA P GB C n ops us (bc fr0,bj own0):=⟨by rw[<-hl,<-iV,hp];simp,D.snd,h.1.1,h.1.2,LU h.2⟩;exact D'.region hm (by rw[D.st];exact hk)
def SX.op{Q:Exit->Act->World->Prop}{f:FX}{bl:List (Nat×Option Bk)}{nw:List Nat}(h:r7 P GB C n ops (bc fr) (bj own) o f bl nw)(hf:kc nw o.dst (bc fr) (bj own))(hk:SX GB C n (bc (CP fr o.dst f)) (bj (tw own bl)) (wpListIn (FW C.rd) 0 P ops Q r)):SX GB C n (bc fr) (bj own) (wpListIn (FW C.rd) 0 P ops Q (o::r)):=by
 rw[Ea,BA] at hk;refine(h Q _ _ _ (i0.refl _) (i0.refl _) hf hk).imp fun a w q=>?_;unfold wO at q;simp only[wpListIn];split
 ·rename_i hw;rw[if_pos hw] at q;exact q
 ·rename_i hw;rw[if_neg hw] at q;exact⟨fun _ _=>trivial,q⟩
def SX.cond{lk:LK}{bk:BM}{Q:Exit->Act->World->Prop}{c:Operand}{x y:Code}{b:Bool}{f:FX}(hc:aI lk c=some f)(hb:rx f=some b)(h1:b=true->SX GB C n lk bk (f5 C.rd P x Q))(h2:b=false->SX GB C n lk bk (f5 C.rd P y Q)):SX GB C n lk bk (f5 C.rd P (.cond c x y) Q):=by
 refine⟨fun ρ G ov a w r=>?_⟩;obtain⟨v,hv,hv'⟩:=r.ev hc;rw[t7 hv' hb] at hv;exact UR (bh (cP a) hv) (fun e=>(h1 e).run ρ G ov a w r) (fun e=>(h2 e).run ρ G ov a w r)
def gP(hT:lc P T)(hm:P.follows .mixedOrders=true): ∀(k:Nat) (l:List Prop) (fr:aw) (own:aH) (cf:Cf),ah (go T n k l fr own cf).vc->ah l/\(ak P GB C n Q0 (go T n k l fr own cf).fr (go T n k l fr own cf).own (go T n k l fr own cf).cf->ak P GB C n Q0 fr own cf)
 |0,l,fr,own,cf,h=>by simp only[go] at h⊢;exact⟨h,id⟩
 |k+1,l,fr,own, .code c K,h=>by
  cases c with
  |seq x y=>simp only[go] at h⊢;obtain⟨h1,h2⟩:=gP hT hm k _ _ _ _ h;exact⟨h1,fun hk=>(h2 hk).imp fun a w q=>P4 q⟩
  |region id ops d=>
   simp only[go] at h⊢
   cases d with
   |false=>simp only[cond_false] at h⊢;obtain⟨h1,h2⟩:=gP hT hm k _ _ _ _ h;exact⟨h1,fun hk=>(h2 hk).imp fun a w q=>ZK q⟩
   |true=>simp only[cond_true] at h⊢;obtain⟨h1,h2⟩:=gP hT hm k _ _ _ _ h;exact⟨h1,fun hk=>h2 hk ⟨⟨[],rfl,rfl⟩,rfl,fun i u o hu=>by simp at hu⟩⟩
  |skip=>simp only[go] at h⊢;obtain⟨h1,h2⟩:=gP hT hm k _ _ _ _ h;exact⟨h1,fun hk=>(h2 hk).imp fun a w q=>QM q⟩
  |ret=>simp only[go] at h⊢;obtain⟨h1,h2⟩:=gP hT hm k _ _ _ _ h;exact⟨h1,fun hk=>(h2 hk).imp fun a w q=>Wd q⟩
  |exit id=>simp only[go] at h⊢;obtain⟨h1,h2⟩:=gP hT hm k _ _ _ _ h;exact⟨h1,fun hk=>(h2 hk).imp fun a w q=>ats q⟩
  |block id c=>simp only[go] at h⊢;obtain⟨h1,h2⟩:=gP hT hm k _ _ _ _ h;exact⟨h1,fun hk=>(h2 hk).imp fun a w q=>PK q⟩
  |scope c=>simp only[go] at h⊢;obtain⟨h1,h2⟩:=gP hT hm k _ _ _ _ h;exact⟨h1,fun hk=>(h2 hk).imp fun a w q=>PQ q⟩
  |label j=>simp only[go] at h⊢;obtain⟨h1,h2⟩:=gP hT hm k _ _ _ _ h;exact⟨h1,fun hk=>(h2 hk).imp fun a w q=>R2 q⟩
  |cond c x y=>
   simp only[go] at h⊢
   cases hc:aI (bc fr) c with
   |none=>simp only[hc] at h⊢;exact⟨h,id⟩
   |some f=>
    cases f with
    |tt=>simp only[hc] at h⊢;obtain⟨h1,h2⟩:=gP hT hm k _ _ _ _ h;exact⟨h1,fun hk=>SX.cond hc rfl (fun _=>h2 hk) (fun e=>by cases e)⟩
    |ff=>simp only[hc] at h⊢;obtain⟨h1,h2⟩:=gP hT hm k _ _ _ _ h;exact⟨h1,fun hk=>SX.cond hc rfl (fun e=>by cases e) (fun _=>h2 hk)⟩
    |_=>simp only[hc] at h⊢;exact⟨h,id⟩
  |_=>simp only[go] at h⊢;exact⟨h,id⟩
 |k+1,l,fr,own, .ex e K,h=>by
  cases K with
  |nil=>simp only[go] at h⊢;exact⟨h,id⟩
  |cons x K=>
   cases x with
   |sq y=>cases e<;>(simp only[go] at h⊢;obtain⟨h1,h2⟩:=gP hT hm k _ _ _ _ h;exact⟨h1,fun hk=>h2 hk⟩)
   |bl id=>
    cases e with
    |exit j=>
     simp only[go] at h⊢
     cases hb:Nat.beq j id with
     |true=>
      simp only[hb,cond_true] at h⊢;obtain⟨h1,h2⟩:=gP hT hm k _ _ _ _ h;exact⟨h1,fun hk=>(h2 hk).imp fun a w q=>by simp only[cQ,Exit.inBlock,aY hb,if_true];exact q⟩
     |false=>
      have hne:j≠id:=fun e=>by subst e;simp at hb
      simp only[hb,cond_false] at h⊢;obtain⟨h1,h2⟩:=gP hT hm k _ _ _ _ h;exact⟨h1,fun hk=>(h2 hk).imp fun a w q=>by simp only[cQ,Exit.inBlock,hne,if_false];exact q⟩
    |_=>simp only[go] at h⊢;obtain⟨h1,h2⟩:=gP hT hm k _ _ _ _ h;exact⟨h1,fun hk=>h2 hk⟩
   |sc=>
    simp only[go] at h⊢
    cases hb:Pw e with
    |true=>
     simp only[hb,cond_true] at h⊢;obtain⟨h1,h2⟩:=gP hT hm k _ _ _ _ h;refine⟨h1,fun hk=>(h2 hk).imp fun a w q=>?_⟩
     cases e<;>first|exact q|cases hb
    |false=>simp only[hb,cond_false] at h⊢;exact⟨h,id⟩
   |ag A=>
    cases e with
    |normal=>simp only[go] at h⊢;exact⟨h,id⟩
    |_=>simp only[go] at h⊢;obtain⟨h1,h2⟩:=gP hT hm k _ _ _ _ h;exact⟨h1,fun hk=>h2 hk⟩
 |k+1,l,fr,own, .ops ops r K,h=>by
  cases r with
  |nil=>simp only[go] at h⊢;obtain⟨h1,h2⟩:=gP hT hm k _ _ _ _ h;exact⟨h1,fun hk=>h2 hk⟩
  |cons o r=>
   simp only[go] at h⊢
   cases hs:xb T n ops (bc fr) (bj own) o with
   |none=>simp only[hs] at h⊢;exact⟨h,id⟩
   |some x=>
    obtain⟨v,f,bl,nw⟩:=x;simp only[hs] at h⊢
    cases hf:r4 nw o.dst fr own with
    |false=>simp only[hf,cond_false] at h⊢;exact⟨h,id⟩
    |true=>
     simp only[hf,cond_true] at h⊢;simp only[tD,Ly,x7] at h⊢;obtain⟨h1,h2⟩:=gP hT hm k _ _ _ _ h;obtain⟨h3,h4⟩:=IE h1;exact⟨h3,fun hk=>SX.op (Oe hT hs h4).1 (ya hf) (h2 hk)⟩
 |k+1,l,fr,own, .dr id ops fr0 own0 us r K,h=>by
  cases r with
  |nil=>
   simp only[go] at h⊢;obtain⟨h1,h2⟩:=gP hT hm k _ _ _ _ h;obtain⟨h3,h4⟩:=M6.1 h1;exact⟨h3,fun hk D=>D.done hm h4 (h2 hk)⟩
  |cons o r=>
   simp only[go,qt] at h⊢;generalize yl ops o=rs at h⊢;generalize AA o fr rs=rn at h⊢
   cases hs:xb T n ops (kv rs (bc fr)) (kv rn (bj own)) o with
   |none=>simp only[hs] at h⊢;exact⟨h,fun x=>x⟩
   |some x=>
    obtain⟨v,f,bl,nw⟩:=x;simp only[hs] at h⊢;simp only[tD,Ly,x7] at h⊢;obtain⟨h1,h2⟩:=gP hT hm k _ _ _ _ h;obtain⟨h3,h4⟩:=IE h1;exact⟨h3,fun hk D=>h2 hk (D.push (Oe hT hs h4).1)⟩
end
end Go.Sx
end
section
namespace Go.Sx
open Go Go.Proofs Tryz
instance:gk prog 3:=⟨fun _=>by kernel_rfl,fun _=>by kernel_rfl⟩
instance:kI prog 3 .i64:=⟨fun _=>by kernel_rfl⟩
instance:gk prog 4:=⟨fun _=>by kernel_rfl,fun _=>by kernel_rfl⟩
instance:fk prog 4 (.bool false):=⟨by kernel_rfl⟩
instance:gk prog 30:=⟨fun _=>by kernel_rfl,fun _=>by kernel_rfl⟩
instance:cd prog 30 149 8 112:=⟨by kernel_rfl,by kernel_rfl⟩
instance:ka prog 30:=⟨149,by kernel_rfl⟩
instance:jI prog 32 2:=⟨fun _=>by kernel_rfl,fun _=>by kernel_rfl⟩
instance:fk prog 32 (.agg ⟨[.int .i64 0, .slice none 0 0]⟩):=⟨by kernel_rfl⟩
instance:jF prog 32 0 0:=⟨fun _ _ _=>by kernel_rfl⟩
instance:jF prog 32 1 1:=⟨fun _ _ _=>by kernel_rfl⟩
instance:cd prog 67 366 1 4:=⟨by kernel_rfl,by kernel_rfl⟩
instance:ka prog 67:=⟨366,by kernel_rfl⟩
instance:cd prog 130 222 17 128:=⟨by kernel_rfl,by kernel_rfl⟩
instance:ka prog 130:=⟨222,by kernel_rfl⟩
instance:gk prog 134:=⟨fun _=>by kernel_rfl,fun _=>by kernel_rfl⟩
instance:jI prog 147 6:=⟨fun _=>by kernel_rfl,fun _=>by kernel_rfl⟩
instance:jI prog 149 8:=⟨fun _=>by kernel_rfl,fun _=>by kernel_rfl⟩
instance:fk prog 149 (.agg ⟨[.bool false, .slice none 0 0, .bool false, .slice none 0 0, .bool false, .slice none 0 0, .int .i64 0, .int .i64 0]⟩):=⟨by kernel_rfl⟩
instance:jF prog 149 0 0:=⟨fun _ _ _=>by kernel_rfl⟩
instance:jF prog 149 1 6:=⟨fun _ _ _=>by kernel_rfl⟩
instance:jF prog 149 2 7:=⟨fun _ _ _=>by kernel_rfl⟩
instance:CG prog 149 [(0,6),(6,1),(7,1)]:=⟨_,fun _=>IZ underlying149 _,fun _=>by kernel_rfl⟩
instance:cd prog 174 222 17 128:=⟨by kernel_rfl,by kernel_rfl⟩
instance:jI prog 218 9:=⟨fun _=>by kernel_rfl,fun _=>by kernel_rfl⟩
instance:fk prog 218 (.agg ⟨[.int .i64 0, .int .i64 0, .pointer none, .int .i64 0, .int .i64 0, .pointer none, .int .i64 0, .int .i64 0, .pointer none]⟩):=⟨by kernel_rfl⟩
instance:kI prog 251 .u64:=⟨fun _=>by kernel_rfl⟩
instance:gk prog 274:=⟨fun _=>by kernel_rfl,fun _=>by kernel_rfl⟩
instance:fk prog 274 (.nilFunc):=⟨by kernel_rfl⟩
instance:jF prog 276 0 0:=⟨fun _ _ _=>by kernel_rfl⟩
instance:jF prog 276 1 9:=⟨fun _ _ _=>by kernel_rfl⟩
instance:jF prog 276 2 10:=⟨fun _ _ _=>by kernel_rfl⟩
instance:jF prog 276 3 11:=⟨fun _ _ _=>by kernel_rfl⟩
instance:gk prog 340:=⟨fun _=>by kernel_rfl,fun _=>by kernel_rfl⟩
instance:cd prog 340 4 1 1:=⟨by kernel_rfl,by kernel_rfl⟩
instance:fk prog 342 (.agg ⟨[.slice none 0 0, .slice none 0 0, .int .i64 0, .bool false]⟩):=⟨by kernel_rfl⟩
instance:jF prog 342 0 0:=⟨fun _ _ _=>by kernel_rfl⟩
instance:jF prog 342 1 1:=⟨fun _ _ _=>by kernel_rfl⟩
instance:jF prog 342 2 2:=⟨fun _ _ _=>by kernel_rfl⟩
instance:jF prog 342 3 3:=⟨fun _ _ _=>by kernel_rfl⟩
instance:CG prog 342 [(0,1),(1,1),(2,1),(3,1)]:=⟨_,fun _=>IZ underlying342 _,fun _=>by kernel_rfl⟩
instance:kI prog 355 .u64:=⟨fun _=>by kernel_rfl⟩
instance:gk prog 366:=⟨fun _=>by kernel_rfl,fun _=>by kernel_rfl⟩
instance:fk prog 366 (.int .u32 0):=⟨by kernel_rfl⟩
instance:kI prog 366 .u32:=⟨fun _=>by kernel_rfl⟩
def follows:prog.follows .mixedOrders=true:=by kernel_rfl
end Go.Sx
end
section
namespace Go.Sx
open Go
def tt:TT:=[
 (2,⟨.int .i64,1,some [.d (.v (.int .i64 0))],false⟩),
 (3,⟨.int .i64,1,some [.d (.v (.int .i64 0))],false⟩),
 (4,⟨.bl,1,some [.ff],false⟩),
 (5,⟨.int .u8,1,some [.d (.v (.int .u8 0))],false⟩),
 (9,⟨.sc,1,some [.d (.v (.string ⟨#[]⟩))],false⟩),
 (20,⟨.fc,1,some [.d (.v (.nilIface))],false⟩),
 (22,⟨.sl 3 1 8,1,some [.nl],false⟩),
 (23,⟨.pt,1,some [.d (.v (.pointer none))],false⟩),
 (25,⟨.sl 48 1 24,1,some [.nl],false⟩),
 (27,⟨.sl 62 1 24,1,some [.nl],false⟩),
 (30,⟨.sl 149 8 112,1,some [.nl],false⟩),
 (32,⟨.st [(0,3,1),(1,30,1)],2,some [.d (.v (.int .i64 0)), .nl],true⟩),
 (34,⟨.fc,1,some [.d (.v (.nilIface))],false⟩),
 (40,⟨.pt,1,some [.d (.v (.pointer none))],false⟩),
 (42,⟨.sl 115 6 96,1,some [.nl],false⟩),
 (44,⟨.st [(0,27,1),(1,3,1),(2,42,1)],3,some [.nl, .d (.v (.int .i64 0)), .nl],true⟩),
 (47,⟨.sl 73 6 112,1,some [.nl],false⟩),
 (48,⟨.sl 73 6 112,1,some [.nl],false⟩),
 (49,⟨.sl 147 6 96,1,some [.nl],false⟩),
 (51,⟨.st [(0,49,1)],1,some [.nl],true⟩),
 (62,⟨.sl 81 6 112,1,some [.nl],false⟩),
 (66,⟨.sl 366 1 4,1,some [.nl],false⟩),
 (67,⟨.sl 366 1 4,1,some [.nl],false⟩),
 (69,⟨.st [(0,4,1),(1,67,1)],2,some [.ff, .nl],true⟩),
 (71,⟨.st [(0,69,2),(2,67,1)],3,some [.ff, .nl, .nl],true⟩),
 (73,⟨.st [(0,71,3),(3,71,3)],6,some [.ff, .nl, .nl, .ff, .nl, .nl],true⟩),
 (75,⟨.sl 366 1 4,1,some [.nl],false⟩),
 (77,⟨.st [(0,4,1),(1,75,1)],2,some [.ff, .nl],true⟩),
 (79,⟨.st [(0,77,2),(2,75,1)],3,some [.ff, .nl, .nl],true⟩),
 (81,⟨.st [(0,79,3),(3,79,3)],6,some [.ff, .nl, .nl, .ff, .nl, .nl],true⟩),
 (104,⟨.int .u16,1,some [.d (.v (.int .u16 0))],false⟩),
 (115,⟨.st [(0,77,2),(2,77,2),(4,77,2)],6,some [.ff, .nl, .ff, .nl, .ff, .nl],true⟩),
 (126,⟨.st [(0,22,1),(1,3,1)],2,some [.nl, .d (.v (.int .i64 0))],true⟩),
 (127,⟨.sl 132 1 24,1,some [.nl],false⟩),
 (130,⟨.sl 222 17 128,1,some [.nl],false⟩),
 (131,⟨.sl 141 6 48,1,some [.nl],false⟩),
 (132,⟨.sl 141 6 48,1,some [.nl],false⟩),
 (134,⟨.pt,1,some [.d (.v (.pointer none))],false⟩),
 (137,⟨.pt,1,some [.d (.v (.pointer none))],false⟩),
 (139,⟨.st [(0,2,1),(1,2,1),(2,137,1)],3,some [.d (.v (.int .i64 0)), .d (.v (.int .i64 0)), .d (.v (.pointer none))],true⟩),
 (141,⟨.st [(0,139,3),(3,139,3)],6,some [.d (.v (.int .i64 0)), .d (.v (.int .i64 0)), .d (.v (.pointer none)), .d (.v (.int .i64 0)), .d (.v (.int .i64 0)), .d (.v (.pointer none))],true⟩),
 (147,⟨.st [(0,69,2),(2,69,2),(4,69,2)],6,some [.ff, .nl, .ff, .nl, .ff, .nl],true⟩),
 (149,⟨.st [(0,147,6),(6,3,1),(7,3,1)],8,some [.ff, .nl, .ff, .nl, .ff, .nl, .d (.v (.int .i64 0)), .d (.v (.int .i64 0))],true⟩),
 (153,⟨.sl 161 14 216,1,some [.nl],false⟩),
 (159,⟨.st [(0,79,3),(3,79,3),(6,4,1),(7,4,1)],8,some [.ff, .nl, .nl, .ff, .nl, .nl, .ff, .ff],true⟩),
 (161,⟨.st [(0,115,6),(6,159,8)],14,some [.ff, .nl, .ff, .nl, .ff, .nl, .ff, .nl, .nl, .ff, .nl, .nl, .ff, .ff],true⟩),
 (171,⟨.sl 218 9 72,1,some [.nl],false⟩),
 (174,⟨.sl 222 17 128,1,some [.nl],false⟩),
 (202,⟨.sl 174 1 24,1,some [.nl],false⟩),
 (218,⟨.st [(0,139,3),(3,139,3),(6,139,3)],9,some [.d (.v (.int .i64 0)), .d (.v (.int .i64 0)), .d (.v (.pointer none)), .d (.v (.int .i64 0)), .d (.v (.int .i64 0)), .d (.v (.pointer none)), .d (.v (.int .i64 0)), .d (.v (.int .i64 0)), .d (.v (.pointer none))],true⟩),
 (220,⟨.st [(0,139,3),(3,139,3),(6,4,1),(7,4,1)],8,some [.d (.v (.int .i64 0)), .d (.v (.int .i64 0)), .d (.v (.pointer none)), .d (.v (.int .i64 0)), .d (.v (.int .i64 0)), .d (.v (.pointer none)), .ff, .ff],true⟩),
 (222,⟨.st [(0,218,9),(9,220,8)],17,some [.d (.v (.int .i64 0)), .d (.v (.int .i64 0)), .d (.v (.pointer none)), .d (.v (.int .i64 0)), .d (.v (.int .i64 0)), .d (.v (.pointer none)), .d (.v (.int .i64 0)), .d (.v (.int .i64 0)), .d (.v (.pointer none)), .d (.v (.int .i64 0)), .d (.v (.int .i64 0)), .d (.v (.pointer none)), .d (.v (.int .i64 0)), .d (.v (.int .i64 0)), .d (.v (.pointer none)), .ff, .ff],true⟩),
 (238,⟨.sl 79 3 56,1,some [.nl],false⟩),
 (251,⟨.int .u64,1,some [.d (.v (.int .u64 0))],false⟩),
 (256,⟨.st [(0,4,1),(1,4,1),(2,115,6),(8,40,1),(9,40,1)],10,some [.ff, .ff, .ff, .nl, .ff, .nl, .ff, .nl, .d (.v (.pointer none)), .d (.v (.pointer none))],true⟩),
 (258,⟨.pt,1,some [.d (.v (.pointer none))],false⟩),
 (260,⟨.st [(0,34,1),(1,3,1),(2,3,1),(3,9,1)],4,some [.d (.v (.nilIface)), .d (.v (.int .i64 0)), .d (.v (.int .i64 0)), .d (.v (.string ⟨#[]⟩))],true⟩),
 (264,⟨.o,12,some [.d (.v (.int .i64 0)), .d (.v (.int .i64 0)), .d (.v (.pointer none)), .d (.v (.int .i64 0)), .d (.v (.int .i64 0)), .d (.v (.pointer none)), .d (.v (.int .i64 0)), .d (.v (.int .i64 0)), .d (.v (.pointer none)), .d (.v (.int .i64 0)), .d (.v (.int .i64 0)), .d (.v (.pointer none))],true⟩),
 (268,⟨.st [],0,some [],true⟩),
 (270,⟨.pt,1,some [.d (.v (.pointer none))],false⟩),
 (272,⟨.st [(0,3,1),(1,143,1)],2,some [.d (.v (.int .i64 0)), .d (.v (.nilFunc))],true⟩),
 (276,⟨.st [(0,218,9),(9,134,1),(10,134,1),(11,4,1)],12,some [.d (.v (.int .i64 0)), .d (.v (.int .i64 0)), .d (.v (.pointer none)), .d (.v (.int .i64 0)), .d (.v (.int .i64 0)), .d (.v (.pointer none)), .d (.v (.int .i64 0)), .d (.v (.int .i64 0)), .d (.v (.pointer none)), .d (.v (.pointer none)), .d (.v (.pointer none)), .ff],true⟩),
 (286,⟨.sl 71 3 56,1,some [.nl],false⟩),
 (287,⟨.sl 67 1 24,1,some [.nl],false⟩),
 (299,⟨.sl 34 1 16,1,some [.nl],false⟩),
 (318,⟨.sl 159 8 120,1,some [.nl],false⟩),
 (323,⟨.o,9,some [.d (.v (.int .i64 0)), .d (.v (.int .i64 0)), .d (.v (.pointer none)), .d (.v (.int .i64 0)), .d (.v (.int .i64 0)), .d (.v (.pointer none)), .d (.v (.int .i64 0)), .d (.v (.int .i64 0)), .d (.v (.pointer none))],true⟩),
 (338,⟨.st [(0,69,2),(2,67,1)],3,some [.ff, .nl, .nl],true⟩),
 (339,⟨.pt,1,some [.d (.v (.pointer none))],false⟩),
 (340,⟨.sl 4 1 1,1,some [.nl],false⟩),
 (342,⟨.st [(0,30,1),(1,340,1),(2,3,1),(3,4,1)],4,some [.nl, .nl, .d (.v (.int .i64 0)), .ff],true⟩),
 (355,⟨.int .u64,1,some [.d (.v (.int .u64 0))],false⟩),
 (366,⟨.int .u32,1,some [.d (.v (.int .u32 0))],false⟩),
 (381,⟨.o,2,some [.nl, .nl],true⟩),
 (428,⟨.int .i64,1,some [.d (.v (.int .i64 0))],false⟩),
 (436,⟨.sl 139 3 24,1,some [.nl],false⟩),
 (450,⟨.sl 376 1 8,1,some [.nl],false⟩),
 (457,⟨.sl 460 2 32,1,some [.nl],false⟩),
 (460,⟨.st [(0,174,1),(1,134,1)],2,some [.nl, .d (.v (.pointer none))],true⟩),
 (467,⟨.int .u64,1,some [.d (.v (.int .u64 0))],false⟩),
 (471,⟨.pt,1,some [.d (.v (.pointer none))],false⟩),
 (497,⟨.o,32,some [.d (.v (.int .u8 0)), .d (.v (.int .u8 0)), .d (.v (.int .u8 0)), .d (.v (.int .u8 0)), .d (.v (.int .u8 0)), .d (.v (.int .u8 0)), .d (.v (.int .u8 0)), .d (.v (.int .u8 0)), .d (.v (.int .u8 0)), .d (.v (.int .u8 0)), .d (.v (.int .u8 0)), .d (.v (.int .u8 0)), .d (.v (.int .u8 0)), .d (.v (.int .u8 0)), .d (.v (.int .u8 0)), .d (.v (.int .u8 0)), .d (.v (.int .u8 0)), .d (.v (.int .u8 0)), .d (.v (.int .u8 0)), .d (.v (.int .u8 0)), .d (.v (.int .u8 0)), .d (.v (.int .u8 0)), .d (.v (.int .u8 0)), .d (.v (.int .u8 0)), .d (.v (.int .u8 0)), .d (.v (.int .u8 0)), .d (.v (.int .u8 0)), .d (.v (.int .u8 0)), .d (.v (.int .u8 0)), .d (.v (.int .u8 0)), .d (.v (.int .u8 0)), .d (.v (.int .u8 0))],true⟩),
 (498,⟨.o,64,some [.d (.v (.int .u8 0)), .d (.v (.int .u8 0)), .d (.v (.int .u8 0)), .d (.v (.int .u8 0)), .d (.v (.int .u8 0)), .d (.v (.int .u8 0)), .d (.v (.int .u8 0)), .d (.v (.int .u8 0)), .d (.v (.int .u8 0)), .d (.v (.int .u8 0)), .d (.v (.int .u8 0)), .d (.v (.int .u8 0)), .d (.v (.int .u8 0)), .d (.v (.int .u8 0)), .d (.v (.int .u8 0)), .d (.v (.int .u8 0)), .d (.v (.int .u8 0)), .d (.v (.int .u8 0)), .d (.v (.int .u8 0)), .d (.v (.int .u8 0)), .d (.v (.int .u8 0)), .d (.v (.int .u8 0)), .d (.v (.int .u8 0)), .d (.v (.int .u8 0)), .d (.v (.int .u8 0)), .d (.v (.int .u8 0)), .d (.v (.int .u8 0)), .d (.v (.int .u8 0)), .d (.v (.int .u8 0)), .d (.v (.int .u8 0)), .d (.v (.int .u8 0)), .d (.v (.int .u8 0)), .d (.v (.int .u8 0)), .d (.v (.int .u8 0)), .d (.v (.int .u8 0)), .d (.v (.int .u8 0)), .d (.v (.int .u8 0)), .d (.v (.int .u8 0)), .d (.v (.int .u8 0)), .d (.v (.int .u8 0)), .d (.v (.int .u8 0)), .d (.v (.int .u8 0)), .d (.v (.int .u8 0)), .d (.v (.int .u8 0)), .d (.v (.int .u8 0)), .d (.v (.int .u8 0)), .d (.v (.int .u8 0)), .d (.v (.int .u8 0)), .d (.v (.int .u8 0)), .d (.v (.int .u8 0)), .d (.v (.int .u8 0)), .d (.v (.int .u8 0)), .d (.v (.int .u8 0)), .d (.v (.int .u8 0)), .d (.v (.int .u8 0)), .d (.v (.int .u8 0)), .d (.v (.int .u8 0)), .d (.v (.int .u8 0)), .d (.v (.int .u8 0)), .d (.v (.int .u8 0)), .d (.v (.int .u8 0)), .d (.v (.int .u8 0)), .d (.v (.int .u8 0)), .d (.v (.int .u8 0))],true⟩),
 (499,⟨.pt,1,some [.d (.v (.pointer none))],false⟩),
 (524,⟨.st [(0,9,1)],1,some [.d (.v (.string ⟨#[]⟩))],true⟩)]
def d7:lc Go.Proofs.Tryz.prog tt:=lc.of (by kernel_rfl)
end Go.Sx
end
section
namespace Go.Sx
open Go Go.Proofs Tryz
def pE:Nat->List DV->aw
 |_,[]=>[]
 |i,v::t=>(i, .d v)::pE (i+1) t
class Fu where n:Nat
instance fu0:Fu:=⟨400⟩
section
variable {GB:Gh} {C:aD} {n:Nat} {Q0:Exit->Act->World->Prop} {fr fr':aw} {own own':aH} {cf cf':Cf} {vc vc':List Prop} {ops:Array Oper} {r:List Oper} {o:Oper} {K:List Kt}
def fg{q:Nat}(h:go tt n q [] fr own cf=⟨vc,fr',own',cf'⟩)(hv:ah vc)(k:ak prog GB C n Q0 fr' own' cf'):ak prog GB C n Q0 fr own cf:=by
 have:=(gP (GB:=GB) (C:=C) (Q0:=Q0) d7 follows q [] fr own cf (by rw[h];exact hv)).2;rw[h] at this;exact this k
def gx[fu:Fu](h:go tt n fu.n [] fr own cf=⟨vc,fr',own',cf'⟩)(k:ak prog GB C n Q0 fr' own' cf')(hv:ah vc:=by first|exact trivial|(simp only[ah];kernel_rfl)|(simp only[ah];omega)|(simp only[ah,aJ,aT,aV];omega)):ak prog GB C n Q0 fr own cf:=fg h hv k
def MS: ∀{ds:List DV} {vs:List Value} {ρ:NE} {G:Gh} (i:Nat),IsLs G ds vs-> ∀k f,bc (pE i ds) k=some f-> ∃y,(∃j,k=i+j/\vs[j]? =some y)/\bP ρ G f y
 |[],vs,ρ,G,i,h,k,f,e=>by cases e
 |d::t,vs,ρ,G,i,h,k,f,e=>by
  obtain⟨y,m,rfl,h1,h2⟩:=ba.1 h;simp only[pE] at e;rw[i7] at e;split at e
  ·cases e;rename_i hk;exact⟨y,⟨0,hk,rfl⟩,h1⟩
  ·obtain⟨u,⟨j,hj,hu⟩,h3⟩:=MS (i+1) h2 k f e
   exact⟨u,⟨j+1,by omega,by simpa using hu⟩,h3⟩
def ve{ds:List DV}{vs:List Value}{ρ:NE}{G:Gh}{a:Act}(h:IsLs G ds vs)(hf:jD (l8 0 vs) a)(k:Nat)(f:FX)(e:bc (pE 0 ds) k=some f): ∃y,a.tmps[k]? =some y/\bP ρ G f y:=by
 obtain⟨y,⟨j,hj,hy⟩,h1⟩:=MS (ρ:=ρ) 0 h k f e;refine⟨y,hf k y ?_,h1⟩;rw[hj];exact uZ vs 0 j y hy
def fn[fu:Fu]{f:FuncId}{fb:Func}{c:Code}{m:Nat}{ds:List DV}{rv:DV}(hf:prog.funcs[f]? =some fb)(hb:fb.body=some c)(hn:(fb.name== "runtime.NumGoroutine")=false)(hm:fb.ntmps=m)(hlen:Nat.ble ds.length m=true)
  (hgo:go tt m fu.n [] (pE 0 ds) [] (.code c [])=⟨vc,fr,own,cf⟩)(k: ∀C:aD,ak prog GB C m (fA C prog fb (iI C (fun v G'=>Is G' rv v))) fr own cf)
  (hv:ah vc:=by first|exact trivial|(simp only[ah];kernel_rfl)|(simp only[ah];omega)|(simp only[ah,aJ,aT,aV];omega)):PF GB prog f ds rv:=by
 intro G vs hg hvs;refine Fn.introR hf hb hn hm (by rw[hvs.len];exact hlen) fun C _ _ hrd hfx=>?_;intro a w rl;refine vL hrd ?_;have h:=fg (GB:=GB) (C:=C) (Q0:=fA C prog fb (iI C (fun v G'=>Is G' rv v))) hgo hv (k C);exact h.run (fun _=>⟨none,0,0⟩) G [] a w ⟨hg,rl.h,rl.sz,rl.df,(fun k f e=>ve hvs rl.fr k f e),(fun nm B e=>by cases e),(fun nm nm' B B' e=>by cases e),fun nm p _ _ e=>by rw[hfx] at e;cases e⟩
def ak.cond{c:Operand}{x y:Code}{b:Bool}{f:FX}(hc:aI (bc fr) c=some f)(hb:rx f=some b)(h1:b=true->ak prog GB C n Q0 fr own (.code x K))(h2:b=false->ak prog GB C n Q0 fr own (.code y K)):ak prog GB C n Q0 fr own (.code (.cond c x y) K):=SX.cond hc hb h1 h2
variable {fr1 fr2:aw} {own1 own2:aH} {cf1 cf2:Cf} {vc1 vc2:List Prop}
def br[fu1:Fu][fu2:Fu]{p:Prop}{hp:Decidable p}{c:Operand}{x y:Code}(hc:aI (bc fr) c=some (.pr p hp))(g1:go tt n fu1.n [] fr own (.code x K)=⟨vc1,fr1,own1,cf1⟩)(g2:go tt n fu2.n [] fr own (.code y K)=⟨vc2,fr2,own2,cf2⟩)
  (k1:p->ak prog GB C n Q0 fr1 own1 cf1)(k2: ¬p->ak prog GB C n Q0 fr2 own2 cf2)
  (v1:p->ah vc1:=by intro;first|exact trivial|(simp only[ah];omega)|(simp only[ah,aJ,aT,aV];omega))(v2: ¬p->ah vc2:=by intro;first|exact trivial|(simp only[ah];omega)|(simp only[ah,aJ,aT,aV];omega)):ak prog GB C n Q0 fr own (.code (.cond c x y) K):=
 .cond hc J (fun h=>fg g1 (v1 (of_decide_eq_true h)) (k1 (of_decide_eq_true h))) (fun h=>fg g2 (v2 (of_decide_eq_false h)) (k2 (of_decide_eq_false h)))
def bd[fu1:Fu][fu2:Fu]{p:Prop}{hp:Decidable p}{c:Operand}{x y:Code}(hc:aI (bc fr) c=some (.d (.v (.bool (@decide p hp)))))(g1:go tt n fu1.n [] fr own (.code x K)=⟨vc1,fr1,own1,cf1⟩)(g2:go tt n fu2.n [] fr own (.code y K)=⟨vc2,fr2,own2,cf2⟩)
  (k1:p->ak prog GB C n Q0 fr1 own1 cf1)(k2: ¬p->ak prog GB C n Q0 fr2 own2 cf2)
  (v1:p->ah vc1:=by intro;first|exact trivial|(simp only[ah];omega)|(simp only[ah,aJ,aT,aV];omega))(v2: ¬p->ah vc2:=by intro;first|exact trivial|(simp only[ah];omega)|(simp only[ah,aJ,aT,aV];omega)):ak prog GB C n Q0 fr own (.code (.cond c x y) K):=
 .cond hc J (fun h=>fg g1 (v1 (of_decide_eq_true h)) (k1 (of_decide_eq_true h))) (fun h=>fg g2 (v2 (of_decide_eq_false h)) (k2 (of_decide_eq_false h)))
def bb[fu1:Fu][fu2:Fu]{b:Bool}{c:Operand}{x y:Code}(hc:aI (bc fr) c=some (.d (.v (.bool b))))(g1:go tt n fu1.n [] fr own (.code x K)=⟨vc1,fr1,own1,cf1⟩)(g2:go tt n fu2.n [] fr own (.code y K)=⟨vc2,fr2,own2,cf2⟩)
  (k1:b=true->ak prog GB C n Q0 fr1 own1 cf1)(k2:b=false->ak prog GB C n Q0 fr2 own2 cf2)
  (v1:b=true->ah vc1:=by intro;first|exact trivial|(simp only[ah];omega)|(simp only[ah,aJ,aT,aV];omega))(v2:b=false->ah vc2:=by intro;first|exact trivial|(simp only[ah];omega)|(simp only[ah,aJ,aT,aV];omega)):ak prog GB C n Q0 fr own (.code (.cond c x y) K):=
 .cond hc J (fun h=>fg g1 (v1 h) (k1 h)) (fun h=>fg g2 (v2 h) (k2 h))
def o7{d:Nat}{f g:FX}(hl:bc fr d=some f)(hi: ∀ρ G y,bP ρ G f y->bP ρ G g y){Φ:Act->World->Prop}(h:SX GB C n (bc ((d,g)::fr)) (bj own) Φ):SX GB C n (bc fr) (bj own) Φ:=by
 refine⟨fun ρ G ov a w r=>h.run ρ G ov a w ⟨r.gb,r.h,r.sz,r.df,fun k f' e=>?_,r.bx,r.dj,r.fxd⟩⟩;rw[i7] at e;split at e
 ·cases e;rename_i hk;subst hk
  obtain⟨y,h1,h2⟩:=r.fx _ _ hl;exact⟨y,h1,hi _ _ _ h2⟩
 ·exact r.fx k f' e
def aB(d:Nat){f:FX}(g:FX)(hl:bc fr d=some f)(e:f=g)(h:ak prog GB C n Q0 ((d,g)::fr) own cf):ak prog GB C n Q0 fr own cf:=by
 have hs:bc ((d,g)::fr)=bc fr:=by
  funext k;rw[i7];split
  ·rename_i hk;rw[hk,hl,e]
  ·rfl
 cases cf with
 |dr id ops fr0 own0 us r K=>exact fun D=>h ⟨D.pre,by rw[hs];exact D.st,D.snd⟩
 |_=>unfold ak at h⊢;rw[hs] at h;exact h
def kT(d:Nat){p:Prop}{hp:Decidable p}(hl:bc fr d=some (.pr p hp))(h:p)(k:ak prog GB C n Q0 ((d, .tt)::fr) own (.ops ops r K)):ak prog GB C n Q0 fr own (.ops ops r K):=
 o7 hl (fun _ _ _ e=>by rw[show _=_ from e,decide_eq_true h];exact J) k
def kF(d:Nat){p:Prop}{hp:Decidable p}(hl:bc fr d=some (.pr p hp))(h: ¬p)(k:ak prog GB C n Q0 ((d, .ff)::fr) own (.ops ops r K)):ak prog GB C n Q0 fr own (.ops ops r K):=
 o7 hl (fun _ _ _ e=>by rw[show _=_ from e,decide_eq_false h];exact J) k
def YS(d:Nat)(hl:bc fr d=some .nl){e:Exit}(h:ak prog GB C n Q0 ((d, .d (.sl []))::fr) own (.ex e K)):ak prog GB C n Q0 fr own (.ex e K):=
 o7 (g:= .d (.sl [])) hl (fun ρ G y hy=>(show Is G (.sl []) y from oP (ρ:=ρ) (f:= .nl) hy J)) h
def PF.to{f:FuncId}{ds:List DV}{r1 r2:DV}{P:Program}(h:PF GB P f ds r1)(e:r1=r2):PF GB P f ds r2:=e▸h
def cs[fu1:Fu][fu2:Fu](d:Nat){p:Prop}{hp:Decidable p}(hl:bc fr d=some (.pr p hp))(g1:go tt n fu1.n [] ((d, .tt)::fr) own (.ops ops r K)=⟨vc1,fr1,own1,cf1⟩)(g2:go tt n fu2.n [] ((d, .ff)::fr) own (.ops ops r K)=⟨vc2,fr2,own2,cf2⟩)
  (k1:p->ak prog GB C n Q0 fr1 own1 cf1)(k2: ¬p->ak prog GB C n Q0 fr2 own2 cf2)
  (v1:p->ah vc1:=by intro;first|exact trivial|(simp only[ah];omega)|(simp only[ah,aJ,aT,aV];omega))(v2: ¬p->ah vc2:=by intro;first|exact trivial|(simp only[ah];omega)|(simp only[ah,aJ,aT,aV];omega)):ak prog GB C n Q0 fr own (.ops ops r K):=by
 by_cases h:p
 ·exact o7 hl (fun _ _ _ e=>by rw[show _=_ from e,decide_eq_true h];exact J) (fg g1 (v1 h) (k1 h))
 ·exact o7 hl (fun _ _ _ e=>by rw[show _=_ from e,decide_eq_false h];exact J) (fg g2 (v2 h) (k2 h))
def ql[fu1:Fu][fu2:Fu](d:Nat){b:Bool}(hl:bc fr d=some (.d (.v (.bool b))))(g1:go tt n fu1.n [] ((d, .tt)::fr) own (.ops ops r K)=⟨vc1,fr1,own1,cf1⟩)(g2:go tt n fu2.n [] ((d, .ff)::fr) own (.ops ops r K)=⟨vc2,fr2,own2,cf2⟩)
  (k1:b=true->ak prog GB C n Q0 fr1 own1 cf1)(k2:b=false->ak prog GB C n Q0 fr2 own2 cf2)
  (v1:b=true->ah vc1:=by intro;first|exact trivial|(simp only[ah];omega)|(simp only[ah,aJ,aT,aV];omega))(v2:b=false->ah vc2:=by intro;first|exact trivial|(simp only[ah];omega)|(simp only[ah,aJ,aT,aV];omega)):ak prog GB C n Q0 fr own (.ops ops r K):=by
 cases h:b with
 |true=>exact o7 hl (fun _ G _ e=>by rw[(aG (G:=G)).1 e,h];exact J) (fg g1 (v1 h) (k1 h))
 |false=>exact o7 hl (fun _ G _ e=>by rw[(aG (G:=G)).1 e,h];exact J) (fg g2 (v2 h) (k2 h))
def Cu:Cf->Option (Array Oper×Oper)
 | .ops ops (o::_) _=>some (ops,o)
 | .dr _ ops _ _ _ (o::_) _=>some (ops,o)
 |_=>none
def bw(fr:aw):Cf->LK
 | .dr _ ops _ _ _ (o::_) _=>kv (yl ops o) (bc fr)
 |_=>bc fr
def fE(fr:aw)(own:aH):Cf->BM
 | .dr _ ops _ _ _ (o::_) _=>kv (AA o fr (yl ops o)) (bj own)
 |_=>bj own
def bad:vz:=⟨[False],[],[], .ex .normal []⟩
def cB(T:TT)(n q:Nat)(fr:aw)(own:aH)(cf:Cf)(f:FX)(bl:List (Nat×Option Bk))(nw:List Nat):vz:=match cf with
 | .ops ops (o::r) K=>bif r4 nw o.dst fr own&&b7 n o.dst then qk own bl fun own'=>uY fr o.dst f fun fr'=>go T n q [] fr' own' (.ops ops r K) else bad
 | .dr id ops fr0 own0 us (o::r) K=>bif b7 n o.dst then jE (yl ops o) fun rs=>jE (AA o fr rs) fun rn=>qk own bl fun own'=>jE (us++[⟨rs,o.dst,f,rn,bl,nw⟩]) fun us'=>uY fr o.dst f fun fr'=>go T n q [] fr' own' (.dr id ops fr0 own0 us' r K) else bad
 |_=>bad
def r9(ops:Array Oper)(lk:LK):Option (Nat×Bool)->Bool
 |none=>true
 |some (j,b)=>match ops[j]? with
  |some oj=>match oj.dst with
   |some d=>match lk d with
    |some .tt=>b
    |some .ff=>!b
    |_=>false
   |none=>false
  |none=>false
def CB{lk:LK}{bk:BM}{o:Oper}(h:r9 ops lk o.guard=true): ∀ρ G ov a w,bE GB C n lk bk ρ G ov a w->Region.wanted o (yielded ops a.tmps)=true:=fun ρ G ov a w r=>by
 unfold Region.wanted;unfold r9 at h;split at h
 ·rename_i e;rw[e]
 ·rename_i j b e
  rw[e];split at h<;>try (cases h;done)
  rename_i oj hj;split at h<;>try (cases h;done)
  rename_i d hd;split at h<;>try (cases h;done)
  ·rename_i hl
   obtain⟨y,h1,h2⟩:=yu r hj hd hl
   cases h1;simp only[h2];subst h;rfl
  ·rename_i hl
   obtain⟨y,h1,h2⟩:=yu r hj hd hl
   cases h1;simp only[h2];cases b<;>first|rfl|(simp at h)
def uo{q:Nat}{f:FX}{bl:List (Nat×Option Bk)}{nw:List Nat}(hh:Cu cf=some (ops,o))(hg:r9 ops (bw fr cf) o.guard=true)(h:bH prog GB C n (bw fr cf) (fE fr own cf) o f bl nw)
  (hgo:cB tt n q fr own cf f bl nw=⟨vc,fr',own',cf'⟩)(hv:ah vc)(k:ak prog GB C n Q0 fr' own' cf'):ak prog GB C n Q0 fr own cf:=by
 obtain⟨dst,op,ty,pos,af,gd⟩:=o
 cases cf with
 |ops ops' r K=>
  cases r with
  |nil=>cases hh
  |cons o' r=>
   cases hh
   unfold cB at hgo
   cases hc:(r4 nw dst fr own&&b7 n dst) with
   |false=>simp only[hc,cond_false,bad] at hgo;cases hgo;exact absurd hv (fun x=>x)
   |true=>
    simp only[hc,cond_true] at hgo;simp only[tD,x7] at hgo;simp only[aN] at hc;exact SX.op (h.toS hc.2 (CB hg)) (ya hc.1) (fg hgo hv k)
 |dr id ops' fr0 own0 us r K=>
  cases r with
  |nil=>cases hh
  |cons o' r=>
   cases hh
   unfold cB at hgo
   cases hc:b7 n dst with
   |false=>simp only[hc,cond_false,bad] at hgo;cases hgo;exact absurd hv (fun x=>x)
   |true=>
    simp only[hc,cond_true,qt] at hgo;simp only[tD,x7] at hgo;intro D;exact fg hgo hv k (D.push (h.toS hc (CB hg)))
 |_=>cases hh
def qO(lk:LK)(fo:Operand)(args:Array Operand):Option (FuncId×List DV):=match aI lk fo with
 |some (.d (.v (.func (.func f) ⟨[]⟩ ⟨[]⟩)))=>match evDs lk args.toList with
  |some ds=>some (f,ds)
  |none=>none
 |_=>none
def BV{lk:LK}{fo:Operand}{args:Array Operand}{f:FuncId}{ds:List DV}(h:qO lk fo args=some (f,ds)):aI lk fo=some (.d (.v (.func (.func f) #[] #[])))/\evDs lk args.toList=some ds:=by
 unfold qO at h;split at h<;>try (cases h;done)
 rename_i h1;split at h<;>cases h;rename_i h2;exact⟨h1,h2⟩
def O2{lk:LK}{bk:BM}{fo:Operand}{args:Array Operand}{tys:Array TypeId}{f:FuncId}{ds:List DV}{rv:DV}{dst:Option Nat}{ty:TypeId}{pos:String}{af:Array Edge}{gd:Option (Nat×Bool)}(ha:qO lk fo args=some (f,ds))(hF:PF GB prog f ds rv):
  bH prog GB C n lk bk ⟨dst, .call ⟨.value fo,args,tys⟩,ty,pos,af,gd⟩ (.d rv) [] []:=by
 intro hd tl tb K' s1 s2 hf hk;refine⟨fun ρ G ov a w r Q=>?_⟩;obtain⟨h1,h2⟩:=BV ha;obtain⟨y,hy,hy'⟩:=(r.mono s1 s2).ev h1;rw[(aG (G:=G)).1 hy'] at hy;obtain⟨vs,h3,h4⟩:=(r.mono s1 s2).evDs h2;refine zC hy h3 (hF G vs r.gb h4) hd (fun v G' hG hK a' w' rl=>?_) a w Q ⟨r.h,r.sz,cP a,r.df⟩;exact hk.run ρ G' ov a' w' ⟨r.gb.trans hG.le,rl.h,rl.sz,rl.df,(jO rl).fx (fun k g _ e=>by obtain⟨u,h5,h6⟩:=r.fx k g e;exact⟨u,h5,h6.up hG.le⟩) hK,
  fun nm B e=>by obtain⟨os,h5,h6⟩:=r.bx nm B e;exact⟨os,h5.up hG.le,h6⟩,r.dj,r.fxd⟩
def ca[fu:Fu]{fo:Operand}{args:Array Operand}{tys:Array TypeId}{f:FuncId}{ds:List DV}{rv:DV}{dst:Option Nat}{ty:TypeId}{pos:String}{af:Array Edge}{gd:Option (Nat×Bool)}(hh:Cu cf=some (ops,⟨dst, .call ⟨.value fo,args,tys⟩,ty,pos,af,gd⟩))
  (hg:r9 ops (bw fr cf) gd=true)(ha:qO (bw fr cf) fo args=some (f,ds))(hF:PF GB prog f ds rv)(hgo:cB tt n fu.n fr own cf (.d rv) [] []=⟨vc,fr',own',cf'⟩)(k:ak prog GB C n Q0 fr' own' cf')(hv:ah vc:=by first|exact trivial|(simp only[ah];kernel_rfl)|(simp only[ah];omega)|(simp only[ah,aJ,aT,aV];omega)):ak prog GB C n Q0 fr own cf:=
 uo hh hg (O2 ha hF) hgo hv k
def oy(T:TT)(fr:aw)(own:aH):List ResultVar->Option (List DV)
 |[]=>some []
 | .tmp t::rs=>match bc fr t with
  |some f=>match lB f with
   |some d=>match oy T fr own rs with
    |some l=>some (d::l)
    |none=>none
   |none=>none
  |none=>none
 | .cell a t::rs=>match bc fr a with
  |some (.ov nm 0)=>match cO T t with
   |some i=>match bj own nm with
    |some (.o _ cs _)=>match i.ag with
     |some (some k)=>match takeX cs 0 k with
      |some c=>match kB c with
       |some d=>match oy T fr own rs with
        |some l=>some (.ag d::l)
        |none=>none
       |none=>none
      |none=>none
     |some none=>match cs[0]? with
      |some c=>match lB c with
       |some d=>match oy T fr own rs with
        |some l=>some (d::l)
        |none=>none
       |none=>none
      |none=>none
     |none=>none
    |_=>none
   |none=>none
  |_=>none
def zg{ρ:NE}{G:Gh}{ov:List aj}{a:Act}{w:World}(h:bE GB C n (bc fr) (bj own) ρ G ov a w): ∀{rs:List ResultVar} {ds:List DV},oy tt fr own rs=some ds-> ∃vs,jk prog (cF a) ov rs vs/\IsLs G ds vs:=by
 intro rs
 induction rs with
 |nil=>intro ds e;cases e;exact⟨[], .nil, .nil⟩
 |cons x rs ih=>
  intro ds e
  cases x with
  |tmp t=>
   simp only[oy] at e;split at e<;>try (cases e;done)
   rename_i f hf;split at e<;>try (cases e;done)
   rename_i d hd;split at e<;>cases e;rename_i l hl;obtain⟨vs,h1,h2⟩:=ih hl;obtain⟨y,h3,h4⟩:=h.fx t f hf;exact⟨y::vs, .tmp (vT h3) h1, .cons (oP h4 hd) h2⟩
  |cell t ty=>
   simp only[oy] at e;split at e<;>try (cases e;done)
   rename_i nm hf;split at e<;>try (cases e;done)
   rename_i i hi;split at e<;>try (cases e;done)
   rename_i hb;obtain⟨y,h3,h4⟩:=h.fx t _ hf;obtain⟨b,m,rfl,h5,h6,h7⟩:=h.own h4 hb;have oat:gm ov b m _ _:=⟨h7⟩;split at e<;>try (cases e;done)
   ·rename_i k ha
    split at e<;>try (cases e;done)
    rename_i c hc;split at e<;>try (cases e;done)
    rename_i d hd;split at e<;>cases e;rename_i l hl;obtain⟨vs,h1,h2⟩:=ih hl;obtain⟨l',h8,h9⟩:=h6.takeX hc;exact⟨.agg ⟨l'⟩::vs, .agg (vT h3) oat (vG (d7 _ _ hi) ha) h8 h1, .cons (c6.2 ⟨l',J,uD h9 hd⟩) h2⟩
   ·rename_i ha
    split at e<;>try (cases e;done)
    rename_i c hc;split at e<;>try (cases e;done)
    rename_i d hd;split at e<;>cases e;rename_i l hl;obtain⟨vs,h1,h2⟩:=ih hl;obtain⟨l',h8,h9⟩:=h6.get hc;exact⟨l'::vs, .sc (vT h3) oat (ur (d7 _ _ hi) ha) h8 h1, .cons (oP h9 hd) h2⟩
def Aq:Exit->Bool
 | .ret=>true
 | .normal=>true
 |_=>false
def rz{fb:Func}{e:Exit}{ds:List DV}{rv:DV}(hr:oy tt fr own fb.results.toList=some ds)(hd:gH ds=rv)(he:Aq e=true:=by rfl):ak prog GB C n (fA C prog fb (iI C (fun v G'=>Is G' rv v))) fr own (.ex e []):=by
 refine⟨fun ρ G ov a w r=>?_⟩;obtain⟨vs,h1,h2⟩:=zg r hr;have hk:Is G rv (f9 vs):=hd▸zk h2
 cases e with
 |ret=>exact zD (C:=C) (n:=n) (fr:=cF a) (own:=ov) (G:=G) (K:=fun v G'=>Is G' rv v) h1 hk a w ⟨r.h,r.sz,cP a,r.df⟩
 |normal=>exact JS (C:=C) (n:=n) (fr:=cF a) (own:=ov) (G:=G) (K:=fun v G'=>Is G' rv v) h1 hk a w ⟨r.h,r.sz,cP a,r.df⟩
 |_=>cases he
end
end Go.Sx
end
section
namespace Go.Sx
open Go
section
variable {P:Program} {GB:Gh} {C:aD} {n:Nat} {E:nq} {fr fr':dH} {own own':List cI} {bs bs' bs1:List dt} {ops:Array Oper} {Q:Exit->Act->World->Prop} {r:List Oper} {Φ:Act->World->Prop}
variable {dst:Option Nat} {t t' ty':TypeId} {pos:String} {af:Array Edge} {gd:Option (Nat×Bool)} {x y z:Operand} {e s by_:Nat}
class aF5 (P:Program) (t:TypeId) (d:outParam DV):Prop where
 z: ∃z,fk P t z/\Is (fun _=>none) d z/\d.okc=true
abbrev SV.f (w:SV):FV:= .d (.v (.slice w.a w.n w.c))
def ZS(z:Value)(k:Nat):aC (List.replicate k z)=cC z k:=by unfold aC cC;rw[List.map_replicate]
def K8{G:Gh}{d:DV}{y:Value}(h:Is G d y): ∀k:Nat,IsLs G (List.replicate k d) (List.replicate k y)
 |0=> .nil
 |k+1=> .cons h (K8 h k)
def Zh(fr:dH):Nat->List (Nat×Operand)->Option (List DV)
 |_,[]=>some []
 |j,(i,x)::r=>match BU fr x,Zh fr (j+1) r with
  |some d,some l=>bif Nat.beq i j then some (d::l) else none
  |_,_=>none
def I8(pre mid post vs:List Value)(h:vs.length=mid.length):ck (pre++(mid++post)) pre.length vs=pre++(vs++post):=by
 rw[nC _ _ _ (by simp;omega)];simp[h]
def Yi(z:Value)(k:Nat):cC z (k+1)=aE z++cC z k:=by simp[cC,iY]
def A7(s:Nat)(ds:List DV):Bool:=ds.all fun d=>d.okc&&Nat.beq d.cells.length s
def H1{ds:List DV}(h:A7 s ds=true):dB s ds:=fun d hd=>by
 have:=fJ.1 h d hd;simp only[aN] at this;exact⟨this.1,aY this.2⟩
def Km{cs:List Value}{off s:Nat}: ∀(es:List Value),(∀i (h:i<es.length),cv cs (off+i*s) s=some (aE es[i]))->off<=cs.length->cv cs off (es.length*s)=some (aC es)
 |[],_,ho=>by
  rw[ku _ _ _ (by simpa using ho)];simp[aC]
 |v::t,h,ho=>by
  have h0:=h 0 (by simp);simp only[kX,eJ,oV] at h0;obtain⟨k1,k2⟩:=zr h0;have ih:=Km (off:=off+s) t (fun i hi=>by
   have:=h (i+1) (by simpa using hi);rw[gX,show off+(i*s+s)=off+s+i*s by omega] at this;simpa using this) (by omega)
  obtain⟨k3,k4⟩:=zr ih;rw[ku _ _ _ (by simp only[bT,gX];omega)];congr 1;have e1:aC (v::t)=aE v++aC t:=by simp[aC]
  rw[e1,k2,k4,bT,gX,kR (t.length*s) s,List.take_add,sU]
def Y0{ov:List aj}{G:Gh}{w:SV}{es:List Value}(h:d5 G s w es):lu P C ov G s w.n (.slice w.a w.n w.c) (aC es):=by
 rcases h.mem with he|⟨b,off,cs,ha,hg,hc⟩
 ·subst he
  rw[h.len];exact tC
 ·rw[ha]
  by_cases he:es=[]
  ·subst he;rw[h.len];exact tC
  ·have hp:0<es.length:=sV.2 he
   have h0:=hc 0 hp;have:=(zr h0).1;rw[h.len];exact KN hg (Km es hc (by omega))
def aGK(fr:dH)(bs:List dt)(s:Nat)(y:Operand)(ds:List DV):Prop:=
 (∃l,BU fr y=some (.sl l)/\l=ds/\dB s l)\/ ∃w ty lo,DU fr y=some w.f/\(⟨w,s,ty,ds,lo⟩:dt)∈bs/\dB s ds
def QW[hT:cd P t e s by_][hN:ka P t']{w:World}{ad2:Option Addr}{cap2:Nat}:(Builtin.append_ #[t,t'] ty' #[.slice none 0 0, .slice ad2 0 cap2]).run P w= .ok (.slice none 0 0) w:=by
 obtain⟨d,hd1⟩:=hN.un;obtain⟨i,hi,his,hib⟩:=hT.info;have h0:(Builtin.firstCells i.size 0 (.slice ad2 0 cap2)).run P w= .ok #[] w:=by
  cases ad2 with
  |none=>rfl
  |some a=>unfold Builtin.firstCells loadCells;simp[loadCellsFrom,run_pure]
 simp[Builtin.append_,run_underlying hT.un,run_underlying hd1,sizeOf,typeInfo,hi,Builtin.lenOf,h0]
def PL[hT:cd P t e s by_][hN:ka P t']{fr:Fr}{own:List aj}{G:Gh}{ad2:Option Addr}{cap2:Nat}(hx:av fr x=some (.slice none 0 0))(hy:av fr y=some (.slice ad2 0 cap2))(hd:b7 n dst=true)
  (h:St C n (put fr dst (.slice none 0 0)) own G Φ):Ch P C n fr own G ⟨dst, .call ⟨.builtin .append, #[x,y], #[t,t']⟩,ty',pos,af,gd⟩ Φ:=by
 intro a w Q rl;refine jh (v:= .slice none 0 0) (w':=w) ?_ (h _ _ (rl.put _ hd));simp only[execOp,resolve,gV,bW,dR,bh rl.fr hx,bh rl.fr hy];exact cx QW
def de.upd{G:Gh}{w:SV}{s:Nat}{ty:TypeId}{ds:List DV}{lo:Bool}{B:List aj}(h:de G ⟨w,s,ty,ds,lo⟩ B){i:Nat}{d:DV}(hi:ds[i]? =some d):
  ∃b vs rest lo',w.a=some ⟨b,0,none⟩/\B=[⟨b,aC vs++rest,ty,lo'⟩]/\IsLs G ds vs/\(∀v∈vs,(aE v).length=s)/\i<vs.length/\
   ∀u d',Is G d' u->(aE u).length=s->de G ⟨w,s,ty,ds.set i d',lo⟩ [⟨b,aC (vs.set i u)++rest,ty,lo'⟩]:=by
 obtain⟨vs,hB,hv,hs,hlo⟩:=h;obtain⟨v,h1,h2⟩:=hv.get hi;obtain⟨hi',_⟩:=aS.1 h1;rcases hB with⟨e,_,_⟩|⟨b,rest,lo',h3,h4,h5,h6,h7⟩
 ·rw[e] at h1;simp at h1
 ·refine⟨b,vs,rest,lo',by simp only[] at h3;rw[h3],h4,hv,hs,hi',fun u d' hu hul=>?_⟩
  have hall: ∀x∈vs.set i u,(aE x).length=s:=fun x hx=>by
   rcases List.mem_or_eq_of_mem_set hx with h'|rfl
   ·exact hs x h'
   ·exact hul
  refine⟨vs.set i u, .inr ⟨b,rest,lo',by simpa using h3,J,d8 _ hall,?_,by simpa using h7⟩,hv.set i hu,hall,fun hl o ho=>?_⟩
  ·rw[d8 _ hall,aT,<-h5];exact h6
  ·have:=hlo hl
   rw[h4] at this;rw[aU.1 ho];have h9:=this ⟨b,aC vs++rest,ty,lo'⟩ aQ;exact h9
def So{s:Nat}{rest:List Value}{u:Value}(vs:List Value)(i:Nat)(h:i<vs.length)(hs: ∀v∈vs,(aE v).length=s)(hu:(aE u).length=s):ck (aC vs++rest) (i*s) (aE u)=aC (vs.set i u)++rest:=by
 have hl:=d8 vs hs;have hle:i*s+s<=vs.length*s:=by rw[<-gX];exact bK _ h
 rw[nC _ _ _ (by rw[hu,aR];omega),hu,eX (by omega),jZ (by omega),Da vs i hs (by omega),<-gX,B9 vs (i+1) hs h,
  List.set_eq_take_append_cons_drop,if_pos h,show vs.take i++u::vs.drop (i+1)=vs.take i++([u]++vs.drop (i+1)) from J,l5,l5,uv]
 simp
def reF(ks:List Nat)(f:FV)(fr:dH):dH:=ks.map (fun k=>(k,f))++fr
end
end Go.Sx
end
section
namespace Go.Sx
open Go Go.Proofs Tryz
section
variable {GB:Gh} {C:aD} {n:Nat} {Q0:Exit->Act->World->Prop} {fr fr':aw} {own own':aH} {cf cf':Cf} {vc vc':List Prop} {ops:Array Oper} {r:List Oper} {o:Oper} {K:List Kt}
def mC(row:Bool)(nm:Nat)(l:List DV):FX->FX
 | .rw m=>bif Nat.beq m nm then(bif row then .d (.sl l) else .no) else .rw m
 | .ov m off=>bif Nat.beq m nm then(bif row then .no else(match off with
  |0=> .d (.pt l)
  |_+1=> .no)) else .ov m off
 | .be m s i j=>bif Nat.beq m nm then .no else .be m s i j
 | .rs m s i j=>bif Nat.beq m nm then .no else .rs m s i j
 | .bx tp pre m post=>bif Nat.beq m nm then(bif row then(match tp with
  |true=> .d (.tp (pre++ .sl l::post))
  |false=> .d (.ag (pre++ .sl l::post))) else .no) else .bx tp pre m post
 |f=>f
def zq{α:Type}(f:FX)(k:FX->α):α:=match f with
 | .d x=>k (.d x)
 | .rw m=>k (.rw m)
 | .ov a b=>k (.ov a b)
 | .be a b c d=>k (.be a b c d)
 | .rs a b c d=>k (.rs a b c d)
 |f=>k f
def AT{α:Type}{f:FX}{k:FX->α}:zq f k=k f:=by cases f<;>rfl
def Ab{α:Type}(row:Bool)(nm:Nat)(l:List DV):aw->(aw->α)->α
 |[],k=>k []
 |(j,f)::t,k=>Ab row nm l t fun t'=>zq (mC row nm l f) fun f'=>k ((j,f')::t')
def C5{α:Type}(row:Bool)(nm:Nat)(l:List DV):List FX->(List FX->α)->α
 |[],k=>k []
 |f::t,k=>C5 row nm l t fun t'=>zq (mC row nm l f) fun f'=>k (f'::t')
def yv{α:Type}(row:Bool)(nm:Nat)(l:List DV):aH->(aH->α)->α
 |[],k=>k []
 |(j,B)::t,k=>yv row nm l t fun t'=>bif Nat.beq j nm then k ((j,none)::t') else match B with
  |some (.o ty cs lo)=>C5 row nm l cs fun cs'=>k ((j,some (.o ty cs' lo))::t')
  |B=>k ((j,B)::t')
def ti(row:Bool)(nm:Nat)(l:List DV):Option Bk->Option Bk
 |some (.o ty cs lo)=>some (.o ty (cs.map (mC row nm l)) lo)
 |B=>B
def N4{α:Type}{row:Bool}{nm:Nat}{l:List DV}: ∀{cs:List FX} {k:List FX->α},C5 row nm l cs k=k (cs.map (mC row nm l))
 |[],k=>rfl
 |f::t,k=>by simp only[C5,AT];rw[N4];rfl
def Ep{α:Type}{row:Bool}{nm:Nat}{l:List DV}: ∀{fr:aw} {k:aw->α},Ab row nm l fr k=k (fr.map fun e=>(e.1,mC row nm l e.2))
 |[],k=>rfl
 |(j,f)::t,k=>by simp only[Ab,AT];rw[Ep];rfl
def GO{α:Type}{row:Bool}{nm:Nat}{l:List DV}: ∀{own:aH} {k:aH->α},yv row nm l own k=k (own.map fun e=>(e.1,bif Nat.beq e.1 nm then none else ti row nm l e.2))
 |[],k=>rfl
 |(j,B)::t,k=>by
  simp only[yv,GO (own:=t),bW]
  cases Nat.beq j nm with
  |true=>rfl
  |false=>
   cases B with
   |none=>rfl
   |some B=>cases B<;>simp only[cond_false,N4,ti]
def AJ{g:FX->FX}: ∀{fr:aw} {k:Nat},bc (fr.map fun e=>(e.1,g e.2)) k=(bc fr k).map g
 |[],k=>rfl
 |(j,f)::t,k=>by
  simp only[bW];rw[i7,i7,AJ (fr:=t)];split<;>rfl
def Jr{row:Bool}{nm:Nat}{l:List DV}: ∀{own:aH} {k:Nat},bj (own.map fun e=>(e.1,bif Nat.beq e.1 nm then none else ti row nm l e.2)) k=if k=nm then none else ti row nm l (bj own k)
 |[],k=>by simp[bj,ti]
 |(j,B)::t,k=>by
  simp only[bW];rw[kt,kt,Jr (own:=t)];by_cases h:k=j
  ·subst h
   simp only[if_true];by_cases e:k=nm
   ·subst e;simp
   ·have:Nat.beq k nm=false:=by
     cases hb:Nat.beq k nm with
     |false=>rfl
     |true=>exact absurd (aY hb) e
    simp[this,e]
  ·simp[h]
structure y8 where
 fr:aw
 own:aH
def zh(fr:aw)(own:aH)(nm:Nat):Option y8:=match bj own nm with
 |some (.b _ _ ds true)=>Ab true nm ds fr fun fr'=>yv true nm ds own fun own'=>some ⟨fr',own'⟩
 |some (.o _ cs true)=>match kB cs with
  |some l=>Ab false nm l fr fun fr'=>yv false nm l own fun own'=>some ⟨fr',own'⟩
  |none=>none
 |_=>none
def je.of_mem{o:aj}: ∀{own:List aj},o∈own-> ∃own',je own o own'/\ ∀x∈own,x.b≠o.b->x∈own'
 |[],h=>by cases h
 |x::t,h=>by
  rcases aW.1 h with rfl|h
  ·exact⟨t, .hd ..,fun y hy hb=>(aW.1 hy).elim (fun e=>absurd (by rw[e]) hb) id⟩
  ·obtain⟨own',h1,h2⟩:=je.of_mem h
   exact⟨x::own', .tl _ _ _ _ h1,fun y hy hb=>(aW.1 hy).elim (fun e=>by rw[e];exact aQ) (fun e=>aZ _ (h2 y e hb))⟩
def IC{row:Bool}{nm:Nat}{l:List DV}{ρ:NE}{G G':Gh}{f:FX}{y:Value}(hg:bz G G')(h:bP ρ G f y)(hr:row=true-> ∀y,bP ρ G (.rw nm) y->Is G' (.sl l) y)(ho:row=false-> ∀y,bP ρ G (.ov nm 0) y->Is G' (.pt l) y):bP ρ G' (mC row nm l f) y:=by
 cases f with
 |rw m=>
  simp only[mC]
  cases hb:Nat.beq m nm with
  |false=>exact h.up hg
  |true=>
   cases aY hb
   cases row with
   |true=>exact hr J y h
   |false=>trivial
 |ov m off=>
  simp only[mC]
  cases hb:Nat.beq m nm with
  |false=>exact h.up hg
  |true=>
   cases aY hb
   cases row with
   |true=>trivial
   |false=>cases off with
    |zero=>exact ho J y h
    |succ=>trivial
 |be m s i j=>
  simp only[mC]
  cases hb:Nat.beq m nm with
  |false=>exact h.up hg
  |true=>trivial
 |rs m s i j=>
  simp only[mC]
  cases hb:Nat.beq m nm with
  |false=>exact h.up hg
  |true=>trivial
 |bx tp pre m post=>
  simp only[mC]
  cases hb:Nat.beq m nm with
  |false=>exact h.up hg
  |true=>
   cases aY hb
   cases row with
   |false=>trivial
   |true=>
    obtain⟨m1,m2,e,h1,h2⟩:=h;have hl:=(h1.up hg).app (.cons (hr J _ J) (h2.up hg))
    cases tp with
    |true=>exact iD.2 ⟨_,e,hl⟩
    |false=>exact c6.2 ⟨_,e,hl⟩
 |_=>exact h.up hg
def Io{row:Bool}{nm:Nat}{l:List DV}{ρ:NE}{G G':Gh}(hg:bz G G')(hr:row=true-> ∀y,bP ρ G (.rw nm) y->Is G' (.sl l) y)(ho:row=false-> ∀y,bP ρ G (.ov nm 0) y->Is G' (.pt l) y): ∀{cs:List FX} {m:List Value},dl ρ G cs m->dl ρ G' (cs.map (mC row nm l)) m
 |[],m,h=>h
 |f::t,m,⟨y,q,e,h1,h2⟩=>⟨y,q,e,IC hg h1 hr ho,Io hg hr ho h2⟩
def bE.frz{ρ:NE}{G G':Gh}{ov ov':List aj}{a:Act}{w:World}{row:Bool}{nm:Nat}{l:List DV}(h:bE GB C n (bc fr) (bj own) ρ G ov a w)(hg:bz G G')(hh:bm C ov' G' w)(hv: ∀o∈ov,(ρ nm).a≠some ⟨o.b,0,none⟩->o∈ov'){B0:Bk}(hb:bj own nm=some B0)
  (hr:row=true-> ∀y,bP ρ G (.rw nm) y->Is G' (.sl l) y)(ho:row=false-> ∀y,bP ρ G (.ov nm 0) y->Is G' (.pt l) y):
  bE GB C n (bc (fr.map fun e=>(e.1,mC row nm l e.2))) (bj (own.map fun e=>(e.1,bif Nat.beq e.1 nm then none else ti row nm l e.2))) ρ G' ov' a w:=by
 have inv: ∀m B,bj (own.map fun e=>(e.1,bif Nat.beq e.1 nm then none else ti row nm l e.2)) m=some B->m≠nm/\ ∃B1,bj own m=some B1/\ti row nm l (some B1)=some B:=fun m B e=>by
  rw[Jr] at e;split at e
  ·cases e
  ·rename_i hm
   refine⟨hm,?_⟩
   cases hl:bj own m with
   |none=>rw[hl] at e;cases e
   |some B1=>rw[hl] at e;exact⟨B1,J,e⟩
 refine⟨h.gb.trans hg,hh,h.sz,h.df,fun k f e=>?_,fun m B e=>?_,fun m m' B B' e e'=>?_,h.fxd⟩
 ·rw[AJ] at e
  cases hf:bc fr k with
  |none=>rw[hf] at e;cases e
  |some g=>
   rw[hf] at e;cases e;obtain⟨y,h1,h2⟩:=h.fx k g hf;exact⟨y,h1,IC hg h2 hr ho⟩
 ·obtain⟨hm,B1,h1,h2⟩:=inv m B e
  obtain⟨os,h3,h4⟩:=h.bx m B1 h1;refine⟨os,?_,fun o ho'=>hv o (h4 o ho') fun hc=>h.dj m nm B1 B0 h1 hb hm _ (h3.blk ho') hc⟩
  cases B1 with
  |b=>cases h2;exact h3.up hg
  |c=>cases h2;exact h3.up hg
  |o ty cs lo=>cases h2;obtain⟨b,q,h5,h6,h7⟩:=h3;exact⟨b,q,h5,h6,Io hg hr ho h7⟩
 ·obtain⟨_,B1,h1,_⟩:=inv m B e
  obtain⟨_,B2,h2,_⟩:=inv m' B' e';exact h.dj m m' B1 B2 h1 h2
def bE.frzRow{lk:LK}{bk:BM}{ρ:NE}{G:Gh}{ov:List aj}{a:Act}{w:World}{nm:Nat}{ty:TypeId}{s:Nat}{ds:List DV}(r:bE GB C n lk bk ρ G ov a w)(hb:bk nm=some (.b ty s ds true)):
  ∃G' ov',bz G G'/\bm C ov' G' w/\(∀o∈ov,(ρ nm).a≠some ⟨o.b,0,none⟩->o∈ov')/\ ∀y,bP ρ G (.rw nm) y->Is G' (.sl ds) y:=by
 obtain⟨B,⟨vs,hB,hv,hs,hlo⟩,hBo⟩:=r.row (y:= .nilFunc) hb;rcases hB with⟨e1,e2,e3⟩|⟨b,rest,lo',e2,e3,h5,h6,h7⟩
 ·subst e1
  have ed:ds=[]:=bU (by rw[<-hv.len];rfl);subst ed;simp only at e2;refine⟨G,ov,bz.refl _,r.h,fun o ho _=>ho,fun y hy=>?_⟩;rw[show y=_ from hy,e2];exact gz.2 ⟨0,⟨none,0,0⟩,[],J, .nil G 0, .nil⟩
 ·subst e3
  have hl:=hlo J _ aQ;simp only at hl;subst hl;obtain⟨ov',o1,o2⟩:=je.of_mem (hBo _ aQ);obtain⟨f1,f2⟩:=r.h.freeze o1;simp only at e2;refine⟨_,ov',f2,f1,fun o ho hne=>o2 o ho fun e=>hne (by rw[e2,e]),fun y hy=>?_⟩;rw[show y=_ from hy,e2];exact gz.2 ⟨s,⟨some ⟨b,0,none⟩,vs.length,_⟩,vs,J,d5.of_flat hs (if_pos J) h7,hv.up f2⟩
def bE.frzVar{lk:LK}{bk:BM}{ρ:NE}{G:Gh}{ov:List aj}{a:Act}{w:World}{nm:Nat}{ty:TypeId}{cs:List FX}{l:List DV}(r:bE GB C n lk bk ρ G ov a w)(hb:bk nm=some (.o ty cs true))(hl:kB cs=some l):
  ∃G' ov',bz G G'/\bm C ov' G' w/\(∀o∈ov,(ρ nm).a≠some ⟨o.b,0,none⟩->o∈ov')/\ ∀y,bP ρ G (.ov nm 0) y->Is G' (.pt l) y:=by
 obtain⟨os,⟨b,m,h3,rfl,h4⟩,h5⟩:=r.bx _ _ hb;obtain⟨ov',o1,o2⟩:=je.of_mem (h5 _ aQ);obtain⟨f1,f2⟩:=r.h.freeze o1;refine⟨_,ov',f2,f1,fun o ho hne=>o2 o ho fun e=>hne (by rw[h3,e]),fun y hy=>?_⟩;obtain⟨b',h6,rfl⟩:=hy;rw[h3] at h6;cases h6;exact nI.2 ⟨b,m,J,if_pos J,(uD h4 hl).up f2⟩
def FP{nm:Nat}{Φ:Act->World->Prop}{R:y8}(h:zh fr own nm=some R)(hk:SX GB C n (bc R.fr) (bj R.own) Φ):SX GB C n (bc fr) (bj own) Φ:=by
 refine⟨fun ρ G ov a w r=>?_⟩;unfold zh at h;split at h<;>try (cases h;done)
 ·rename_i ty s ds hb
  rw[Ep,GO] at h;cases h;obtain⟨G',ov',h1,h2,h3,h4⟩:=r.frzRow hb;exact hk.run ρ G' ov' a w (r.frz (row:=true) h1 h2 h3 hb (fun _=>h4) (fun e=>by cases e))
 ·rename_i ty cs hb
  split at h<;>try (cases h;done)
  rename_i l hl;rw[Ep,GO] at h;cases h;obtain⟨G',ov',h1,h2,h3,h4⟩:=r.frzVar hb hl;exact hk.run ρ G' ov' a w (r.frz (row:=false) h1 h2 h3 hb (fun e=>by cases e) (fun _=>h4))
def fz[fu:Fu](nm:Nat){fr1:aw}{own1:aH}(h:zh fr own nm=some ⟨fr1,own1⟩)(hgo:go tt n fu.n [] fr1 own1 (.ops ops r K)=⟨vc,fr',own',cf'⟩)(k:ak prog GB C n Q0 fr' own' cf')(hv:ah vc:=by first|exact trivial|(simp only[ah];kernel_rfl)|(simp only[ah];omega)|(simp only[ah,aJ,aT,aV];omega)):ak prog GB C n Q0 fr own (.ops ops r K):=
 FP h (fg hgo hv k)
def nv(nm:Nat){fr1:aw}{own1:aH}{e:Exit}(h:zh fr own nm=some ⟨fr1,own1⟩)(k:ak prog GB C n Q0 fr1 own1 (.ex e K)):ak prog GB C n Q0 fr own (.ex e K):=FP h k
def uS(nm:Nat){fr1:aw}{own1:aH}{c:Code}(h:zh fr own nm=some ⟨fr1,own1⟩)(k:ak prog GB C n Q0 fr1 own1 (.code c K)):ak prog GB C n Q0 fr own (.code c K):=FP h k
def rG:aw->aw->Prop
 |[],_=>True
 |(k,v)::t,fr=>bc fr k=some v/\rG t fr
def uU:aH->aH->Prop
 |[],_=>True
 |(k,v)::t,own=>bj own k=v/\uU t own
def um: ∀{f:aw},rG f fr->i0 (bc f) (bc fr)
 |[],_,k,x,h=>by cases h
 |(j,v)::t,h,k,x,e=>by
  rw[i7] at e;split at e
  ·cases e;rename_i hk;rw[hk];exact h.1
  ·exact um h.2 k x e
def tL: ∀{f:aH},uU f own->i0 (bj f) (bj own)
 |[],_,k,x,h=>by cases h
 |(j,v)::t,h,k,x,e=>by
  rw[kt] at e;split at e
  ·rename_i hk;rw[hk,h.1,e]
  ·exact tL h.2 k x e
def nn{k:Nat}{q:IntKind}{a b:Int}(h:bc fr k=some (.d (.v (.int q a))))(e:a=b):bc fr k=some (.d (.v (.int q b))):=e▸h
def GV(GB:Gh)(C:aD)(n:Nat){X:Type}(F:X->aw)(O:X->aH)(I:X->Prop)(a:Act)(w:World):Prop:=
 ∃x ρ G ov,I x/\bE GB C n (bc (F x)) (bj (O x)) ρ G ov a w
def Hq:List Oper->List Nat->List Nat
 |[],l=>l
 |o::r,l=>match o.dst with
  |some d=>d::Hq r l
  |none=>Hq r l
def se:Code->List Nat->List Nat
 | .region _ ops _,l=>Hq ops.toList l
 | .seq a b,l=>se a (se b l)
 | .cond _ a b,l=>se a (se b l)
 | .block _ a,l=>se a l
 | .loop a,l=>se a l
 | .scope a,l=>se a l
 |_,l=>l
def Ew{α:Type}:List Nat->aw->(aw->α)->α
 |_,[],k=>k []
 |l,(j,f)::t,k=>bif r5 l j then Ew l t k else Ew (j::l) t fun t'=>k ((j,f)::t')
def Bo{α:Type}:List Nat->aH->(aH->α)->α
 |_,[],k=>k []
 |l,(j,B)::t,k=>bif r5 l j then Bo l t k else match B with
  |some B=>Bo l t fun t'=>k ((j,some B)::t')
  |none=>Bo l t k
structure Kp where
 fr:aw
 own:aH
def keep(c:Code)(uf uo:List Nat)(fr:aw)(own:aH):Kp:=jE (se c uo) fun m=>jE (uf++m) fun m'=>Ew m' fr fun fr'=>Bo m own fun own'=>⟨fr',own'⟩
def lp[fu:Fu]{c:Code}{X:Type}(U:X->aw)(V:X->aH)(I:X->Prop)(μ:X->Nat)(x0:X){kf:aw}{ko:aH}{cf':X->Cf}{fr':X->aw}{own':X->aH}{vc:X->List Prop}(hkp:keep c ((U x0).map (·.1)) ((V x0).map (·.1)) fr own=⟨kf,ko⟩)(hI:I x0)
  (hgo: ∀x,go tt n fu.n [] (U x++kf) (V x++ko) (.code c (.ag (GV GB C n (fun y=>U y++kf) (fun y=>V y++ko) (fun y=>I y/\μ y<μ x))::K))=⟨vc x,fr' x,own' x,cf' x⟩)
  (round: ∀x,I x->ak prog GB C n Q0 (fr' x) (own' x) (cf' x))(hF:rG (U x0++kf) fr:=by repeat (first|exact trivial|refine And.intro J ?_|refine And.intro (nn J (by first|omega|(dsimp only;omega))) ?_|refine And.intro (nn J (by simp)) ?_))(hO:uU (V x0++ko) own:=by repeat (first|exact trivial|refine And.intro J ?_))
  (hv: ∀x,I x->ah (vc x):=by intros;first|exact trivial|(simp only[ah];kernel_rfl)|(simp only[ah];omega)|(simp only[ah,aJ,aT,aV];omega)):ak prog GB C n Q0 fr own (.code (.loop c) K):=by
 refine⟨fun ρ G ov a w r=>?_⟩;have r0:=r.mono (um hF) (tL hO);intro b k cs hro hb hrm;have key: ∀m a w,(∃x ρ G ov,I x/\μ x=m/\bE GB C n (bc (U x++kf)) (bj (V x++ko)) ρ G ov a w)->
   ∃e a' w',cQ C.rd prog Q0 K e a' w'/\ArrivesIn (Machine.fenced prog (FW C.rd)) prog (lone (b.atR a (.code c:: .inLoop c::k)) cs w) b k cs e a' w':=by
  intro m
  induction m using Nat.strongRecOn with
  |_ m ih=>
   intro a w ⟨x,ρ,G,ov,hx,hm,hr⟩;have h1:=fg (GB:=GB) (C:=C) (Q0:=Q0) (hgo x) (hv x hx) (round x hx);obtain⟨e,a₁,w₁,hq,harr⟩:=h1.run ρ G ov a w hr b (.inLoop c::k) cs hro hb hrm
   cases e with
   |normal=>
    obtain⟨x',ρ',G',ov',⟨hx',hlt⟩,hr'⟩:=hq;obtain⟨e₂,a₂,w₂,hq₂,harr₂⟩:=ih (μ x') (hm▸hlt) a₁ w₁ ⟨x',ρ',G',ov',hx',rfl,hr'⟩;exact⟨e₂,a₂,w₂,hq₂, .of_steps (StepsIn.trans harr (.one (fenced_calm hb hrm J) stepR_inLoop)) harr₂⟩
   |exit id=>exact⟨_,a₁,w₁,hq, .pass (x:= .inLoop c) J (fun _ _=> .inl (by simp)) harr⟩
   |goto l=>exact⟨_,a₁,w₁,hq, .pass (x:= .inLoop c) J (fun _ _=> .inl (by simp)) harr⟩
   |ret=>exact⟨_,a₁,w₁,hq, .pass (x:= .inLoop c) J (fun _ _=> .inl (by simp)) harr⟩
   |panic ch=>exact⟨_,a₁,w₁,hq, .pass (x:= .inLoop c) J (fun _ _=> .inl (by simp)) harr⟩
   |outgrown=>exact⟨_,a₁,w₁,hq, .pass (x:= .inLoop c) J (fun _ _=> .inl (by simp)) harr⟩
 obtain⟨e,a',w',q,rr⟩:=key (μ x0) a w ⟨x0,ρ,G,ov,hI,rfl,r0⟩;exact⟨e,a',w',q, .of_steps (.one (fenced_calm hb hrm J) stepR_loop) rr⟩
def at_{X:Type}{F:X->aw}{O:X->aH}{I:X->Prop}(x:X)(hI:I x)(hF:rG (F x) fr:=by repeat (first|exact trivial|refine And.intro J ?_|refine And.intro (nn J (by first|omega|(dsimp only;omega))) ?_|refine And.intro (nn J (by simp)) ?_))(hO:uU (O x) own:=by repeat (first|exact trivial|refine And.intro J ?_)):ak prog GB C n Q0 fr own (.ex .normal (.ag (GV GB C n F O I)::K)):=
 ⟨fun ρ G ov a w r=>⟨x,ρ,G,ov,hI,r.mono (um hF) (tL hO)⟩⟩
def mg[fu:Fu]{c d:Code}{X:Type}(U:X->aw)(V:X->aH)(I:X->Prop){kf:aw}{ko:aH}{cf':X->Cf}{fr':X->aw}{own':X->aH}{vc:X->List Prop}(u0 v0:List Nat)(hkp:keep c u0 v0 fr own=⟨kf,ko⟩)
  (h1:ak prog GB C n Q0 fr own (.code c (.ag (GV GB C n (fun y=>U y++kf) (fun y=>V y++ko) I)::K)))
  (hgo: ∀x,go tt n fu.n [] (U x++kf) (V x++ko) (.code d K)=⟨vc x,fr' x,own' x,cf' x⟩)(k: ∀x,I x->ak prog GB C n Q0 (fr' x) (own' x) (cf' x))(hv: ∀x,I x->ah (vc x):=by intros;first|exact trivial|(simp only[ah];kernel_rfl)|(simp only[ah];omega)|(simp only[ah,aJ,aT,aV];omega)):ak prog GB C n Q0 fr own (.code c (.sq d::K)):=by
 refine SX.imp h1 fun a w h=>Qj h ?_;intro e a w h
 cases e with
 |normal=>
  obtain⟨x,ρ,G,ov,hI,hr⟩:=h;have:=fg (GB:=GB) (C:=C) (Q0:=Q0) (hgo x) (hv x hI) (k x hI);exact this.run ρ G ov a w hr
 |_=>exact h
end
end Go.Sx
end
section
namespace Go.Sx
open Go
section
variable {P:Program} {ops:Array Oper} {Q:Exit->Act->World->Prop} {S:World->Prop} {π₂:List (Nat×Bool)}
abbrev aGa:Nat->Bool:=fun _=>false
def tZ(S:World->Prop)(K:(World->Prop)->Act->World->Prop)(a:Act)(w:World):Prop:= ∃S':World->Prop,(∀w,S' w->S w)/\S' w/\K S' a w
def vJ(P:Program)(ops:Array Oper)(Q:Exit->Act->World->Prop)(K:(World->Prop)->Act->World->Prop):List Nat->List (Nat×Bool)->(World->Prop)->Act->World->Prop
 |[],[],S,a,w=>K S a w
 |k::ks,[],S,a,w=> ∀j,(h:j∈k::ks)->wpOp P ops Q j (tZ S (vJ P ops Q K (bD (k::ks) j) [])) a w
 |ks,(i,true)::r,S,a,w=> ∃o v,ops[i]? =some o/\S w/\YieldsIf P ops S o v a/\vJ P ops Q K ks r S (a.put o.dst v) w
 |ks,(i,false)::r,S,a,w=>wpOp P ops Q i (tZ S (vJ P ops Q K ks r)) a w/\
   ∀j,(h:j∈ks)->wpOp P ops Q j (tZ S (vJ P ops Q K (bD ks j) ((i,false)::r))) a w
termination_by ks π=>ks.length+π.length
decreasing_by
 all_goals (first|(have:=Gk h;simp only[bT,jK] at*;omega)|(simp only[bT];omega))
def aGP(Q:Exit->Act->World->Prop):(World->Prop)->Act->World->Prop:=fun _ a w=>Q .normal a w
end
section
variable {P:Program} {GB:Gh} {C:aD} {n:Nat} {fr fr':dH} {own own' own0 own1 own1':List cI} {bs bs0 bs1 bs1':List dt} {ops:Array Oper} {Q:Exit->Act->World->Prop} {fd:List FD} {π π₂:List (Nat×Bool)}
structure SR (GB:Gh) (C:aD) (n:Nat) (fr:dH) (own0:List cI) (bs0:List dt) (own1:List cI) (bs1:List dt) (fd:List FD) (K:List Nat->(World->Prop)->Act->World->Prop):Prop where
 run: ∀G frv o0 o1,bz GB G->Df G fr frv->OB G own0 bs0 o0->OB G own1 bs1 o1-> ∀fs:Fs,St C n (frv++EL fd fs) (o1++(o0++DH fd fs)) G (K (DS fd fs) (HS C o0 G))
instance {GB:Gh} {C:aD} {n:Nat} {fr:dH} {own0:List cI} {bs0:List dt} {own1:List cI} {bs1:List dt} {fd:List FD} {K:List Nat->(World->Prop)->Act->World->Prop}:CoeFun (SR GB C n fr own0 bs0 own1 bs1 fd K) (fun _=> ∀G frv o0 o1,bz GB G->Df G fr frv->OB G own0 bs0 o0->OB G own1 bs1 o1-> ∀fs:Fs,St C n (frv++EL fd fs) (o1++(o0++DH fd fs)) G (K (DS fd fs) (HS C o0 G))):=⟨SR.run⟩
abbrev dwK (P:Program) (ops:Array Oper) (Q:Exit->Act->World->Prop) (K:(World->Prop)->Act->World->Prop) (π:List (Nat×Bool)):List Nat->(World->Prop)->Act->World->Prop:=fun ks S=>vJ P ops (e7 Q) K ks π S
def ZV:List FD->List Nat->dH
 |f::fd,b::bl=>(f.d, .d (.v (.pointer (some ⟨b,0,none⟩))))::ZV fd bl
 |_,_=>[]
def Sq:List FD->List (List DV)->List Nat->List cI
 |f::fd,c::cl,b::bl=>⟨b,c,f.t,true⟩::Sq fd cl bl
 |_,_,_=>[]
def Q5:List FD->List (List DV)->Prop
 |f::fd,c::cl=>IsLs (fun _=>none) c (aE f.z)/\Q5 fd cl
 |[],[]=>True
 |_,_=>False
end
def aEV{α:Type}(idx:List Nat)(l:List α):List α:=idx.filterMap (l[·]?)
section
variable {P:Program} {GB:Gh} {C:aD} {n:Nat} {E:nq} {fr fr':dH} {own own':List cI} {bs bs' bs1:List dt} {ops:Array Oper} {Q:Exit->Act->World->Prop} {r:List Oper} {Φ:Act->World->Prop}
variable {dst:Option Nat} {t t' ty':TypeId} {pos:String} {af:Array Edge} {gd:Option (Nat×Bool)} {x y z:Operand} {e s by_:Nat}
def PB(GB:Gh)(P:Program)(f:FuncId)(mk:SV->List DV)(s:Nat)(ty:TypeId)(dsi:List DV)(mkr:SV->DV)(dso:List DV):Prop:=
 ∀G w vs B,bz GB G->de G ⟨w,s,ty,dsi,false⟩ B->IsLs G (mk w) vs->gF P f vs B G (fun v own' G'=> ∃w',Is G' (mkr w') v/\de G' ⟨w',s,ty,dso,false⟩ own')
def QL(fr:dH):List Operand->Option (List DV)
 |[]=>some []
 |x::t=>match DU fr x,QL fr t with
  |some (.d d),some l=>some (d::l)
  |_,_=>none
def de.asB{G:Gh}{w:SV}{ty:TypeId}{ds:List DV}{lo:Bool}{B:List aj}(h:de G ⟨w,s,ty,ds,lo⟩ B):de G ⟨w,s,ty,ds,false⟩ (Sx.asB B):=by
 obtain⟨vs,h1,h2,h3,h4⟩:=h;exact⟨vs,h1.asB,h2,h3,fun h=>by cases h⟩
def de.weak{G:Gh}{w:SV}{ty:TypeId}{ds:List DV}{lo:Bool}{B:List aj}(h:de G ⟨w,s,ty,ds,lo⟩ B):de G ⟨w,s,ty,ds,false⟩ B:=by
 obtain⟨vs,h1,h2,h3,h4⟩:=h;exact⟨vs,h1,h2,h3,fun h=>by cases h⟩
inductive Fp (fr:dH):List ResultVar->List DV->Prop
 |nil:Fp fr [] []
 |tmp {t:Nat} {v:DV} {rs:List ResultVar} {vs:List DV} (h:tQ fr t=some (.d v)) (k:Fp fr rs vs):Fp fr (.tmp t::rs) (v::vs)
end
section
variable {P:Program} {GB:Gh} {C:aD} {n:Nat} {E:nq} {fr fr':dH} {own own':List cI} {bs bs' bs1:List dt} {ops:Array Oper} {Q:Exit->Act->World->Prop} {r:List Oper} {Φ:Act->World->Prop}
variable {dst:Option Nat} {t t' ty':TypeId} {pos:String} {af:Array Edge} {gd:Option (Nat×Bool)} {x y z:Operand} {e s by_:Nat}
def PX(GB:Gh)(P:Program)(f:FuncId)(ds:List DV)(ι:Type)(r:ι->DV):Prop:=
 ∀G vs,bz GB G->IsLs G ds vs->Fn P f vs G (fun v G'=> ∃x,Is G' (r x) v)
def PMX(GB:Gh)(P:Program)(f:FuncId)(ds:List DV)(b:Nat)(ty:TypeId)(cs:List DV)(ι:Type)(r:ι->DV)(cs':ι->List DV):Prop:=
 ∀G vs m lo,bz GB G->IsLs G ds vs->IsLs G cs m->jb P f vs [⟨b,m,ty,lo⟩] G (fun v css G'=> ∃x,Is G' (r x) v/\ ∃m',css=[m']/\IsLs G' (cs' x) m')
def PN(GB:Gh)(P:Program)(f:FuncId)(ds:List DV)(ty:TypeId)(ι:Type)(cs:ι->List DV):Prop:=
 ∀G vs,bz GB G->IsLs G ds vs->gF P f vs [] G (fun v own' G'=> ∃x b m,v= .pointer (some ⟨b,0,none⟩)/\own'=[⟨b,m,ty,true⟩]/\IsLs G' (cs x) m)
inductive D5:List cI->Nat->List DV->TypeId->Bool->List cI->List cI->Prop
 |hd (b:Nat) (cs:List DV) (ty:TypeId) (lo:Bool) (t:List cI):D5 (⟨b,cs,ty,lo⟩::t) b cs ty lo [] t
 |tl (o:cI) (t:List cI) (b:Nat) (cs:List DV) (ty:TypeId) (lo:Bool) (L R:List cI) (h:D5 t b cs ty lo L R):D5 (o::t) b cs ty lo (o::L) R
end
section
variable {P:Program} {GB:Gh} {C:aD} {n:Nat} {fr:dH} {own:List cI} {bs:List dt}
def PMR(GB:Gh)(P:Program)(f:FuncId)(ds:List DV)(b:Nat)(ty:TypeId)(cs:List DV)(s:Nat)(ty2:TypeId)(ι:Type)(rows:ι->List DV)(cs':ι->List DV):Prop:=
 ∀G vs m lo,bz GB G->IsLs G ds vs->IsLs G cs m->gF P f vs [⟨b,m,ty,lo⟩] G (fun v own' G'=> ∃x w m' B,v= .slice w.a w.n w.c/\own'=⟨b,m',ty,false⟩::B/\IsLs G' (cs' x) m'/\de G' ⟨w,s,ty2,rows x,true⟩ B/\ ∀o∈B,b≠o.b)
variable {dst:Option Nat} {t t' ty':TypeId} {pos:String} {af:Array Edge} {gd:Option (Nat×Bool)} {x y z:Operand}
def Uf{fr:Fr}{own:List aj}{G:Gh}{fn:Func}{K:Value->List aj->Gh->Prop}{vs:List Value}(hr:jk P fr own fn.results.toList vs)(own2 own3:List aj)(hp:own.Perm own2)(hs:own3.Sublist own2)(hk:own3.Pairwise (fun x y=>x.b≠y.b)->K (f9 vs) own3 G):St C n fr own G (fA C P fn (pu C K) .ret):=
 fun a w rl hmk=>⟨rl.df.trans hmk,_,q6 hr rl.fr rl.h,_,own3,G,J,(rl.h.perm hp).drop hs,hk ((rl.h.perm hp).drop hs).nd⟩
variable {e s by_:Nat}
def Xd{G:Gh}{l:List DV}{w:SV}{es:List Value}{s' nhi mx':Nat}(hsl:d5 G s' w es)(hl:IsLs G l es)(ho:dB s l)(h2:nhi<=l.length)(hm1:nhi<=mx')(hm2:mx'<=w.c):Is G (.sl (l.take nhi)) (.slice w.a nhi mx'):=by
 have hn:=hsl.len;have hcap:=hsl.cap;have hll:=hl.len;have e9: ∀s,kP w.a w.n w.c 0 nhi mx' s= .slice w.a nhi mx':=by
  intro s;unfold kP
  cases w.a with
  |none=>simp
  |some ad=>simp[Addr.add]
 rcases Af hsl hl ho with he|he
 ·subst he
  have:l=[]:=bU (by rw[<-hll];rfl);subst this;have e1:nhi=0:=by simp at h2;exact h2
  subst e1;refine gz.2 ⟨s,⟨_,0,mx'⟩,[],J,⟨J,bL _, .inl J⟩,by simpa using IsLs.nil⟩
 ·subst he
  have k:=hsl.sub 0 nhi mx' (bL _) (by omega) hm1 hm2;have k2:=gz.2 ⟨s',⟨_,_,_⟩,_,J,k,(hl.take nhi).drop 0⟩;rw[iM] at k2;have e:=e9 s';unfold kP at e;revert k2;simp only[] at*;intro k2
  first|exact e▸k2|(simp at e k2⊢;first|exact k2|(cases hw:w.a<;>simp_all [Addr.add]))
end
end Go.Sx
end
