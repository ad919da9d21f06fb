import Derived.Test.YtefoocgiaegobaaGreatDoorPi4
import Derived.Test.YtefoocgiaegobaaGreatDoorProg
set_option linter.all false
set_option maxRecDepth 100000
section
namespace Go.Sx
open Go
abbrev aA:=List (Nat×FX)
abbrev aG:=List (Nat×Option Bk)
def bc:aA->Nat->Option FX
 |[],_=>none
 |(k,v)::t,j=>bif Nat.beq k j then some v else bc t j
def bh:aG->Nat->Option Bk
 |[],_=>none
 |(k,v)::t,j=>bif Nat.beq k j then v else bh t j
def vV{α:Type}:aG->Nat->Option Bk->(aG->α)->α
 |[],nm,B,k=>k [(nm,B)]
 |(j,v)::t,nm,B,k=>bif Nat.beq j nm then k ((nm,B)::t) else vV t nm B fun t'=>k ((j,v)::t')
def q0{α:Type}:aG->List (Nat×Option Bk)->(aG->α)->α
 |own,[],k=>k own
 |own,(nm,B)::t,k=>vV own nm B fun own'=>q0 own' t k
def n9(own:aG)(nm:Nat)(B:Option Bk):aG:=vV own nm B id
def uL(own:aG)(l:List (Nat×Option Bk)):aG:=q0 own l id
def xE{α:Type}{nm:Nat}{B:Option Bk}: ∀{own:aG} {k:aG->α},vV own nm B k=k (n9 own nm B)
 |[],k=>rfl
 |(j,v)::t,k=>by
  unfold n9 vV
  cases Nat.beq j nm with
  |true=>rfl
  |false=>rw[cond_false,cond_false,xE (own:=t),xE (own:=t)];rfl
def wk{α:Type}: ∀{l:List (Nat×Option Bk)} {own:aG} {k:aG->α},q0 own l k=k (uL own l)
 |[],own,k=>rfl
 |(nm,B)::t,own,k=>by
  unfold uL q0;rw[xE,xE,wk (l:=t),wk (l:=t)];rfl
def jE(k:Nat)(v:FX)(t:aA)(j:Nat):bc ((k,v)::t) j=if j=k then some v else bc t j:=by
 simp only[bc];by_cases h:k=j
 ·simp[h]
 ·have:Nat.beq k j=false:=by
   cases hb:Nat.beq k j with
   |false=>rfl
   |true=>exact absurd (aU hb) h
  simp[this,Ne.symm h]
def i7(k:Nat)(v:Option Bk)(t:aG)(j:Nat):bh ((k,v)::t) j=if j=k then v else bh t j:=by
 simp only[bh];by_cases h:k=j
 ·simp[h]
 ·have:Nat.beq k j=false:=by
   cases hb:Nat.beq k j with
   |false=>rfl
   |true=>exact absurd (aU hb) h
  simp[this,Ne.symm h]
def yO{nm:Nat}{B:Option Bk}(j:Nat): ∀own:aG,bh (n9 own nm B) j=if j=nm then B else bh own j
 |[]=>i7 nm B [] j
 |(k,v)::t=>by
  have ih:=yO (nm:=nm) (B:=B) j t;unfold n9 vV
  cases hb:Nat.beq k nm with
  |true=>
   have e:=aU hb;subst e;rw[cond_true,id,i7,i7];by_cases h:j=k<;>simp[h]
  |false=>
   have hne:k≠nm:=fun e=>by subst e;simp at hb
   rw[cond_false,xE,id,i7,i7,ih];by_cases h:j=k
   ·subst h;simp[hne]
   ·simp[h]
def DZ: ∀(l:List (Nat×Option Bk)) (own:aG),bh (uL own l)=upB (bh own) l
 |[],own=>rfl
 |(nm,B)::t,own=>by
  have:uL own ((nm,B)::t)=uL (n9 own nm B) t:=by rw[uL,q0,xE];rfl
  rw[this,DZ t];simp only[upB];congr 1;funext j;exact yO j own
def Cu(fr:aA)(dst:Option Nat)(f:FX):aA:=match dst with
 |some d=>(d,f)::fr
 |none=>fr
def Ii{fr:aA}{dst:Option Nat}{f:FX}:bc (Cu fr dst f)=ek (bc fr) dst f:=by
 cases dst with
 |none=>rfl
 |some d=>funext j;exact jE d f fr j
def wV(T:TT)(n:Nat)(ops:Array Oper)(lk:LK)(bk:BM):Oper->Option CR
 |⟨dst,op,_,_,_,gd⟩=>bif b9 n dst then(match gd with
  |none=>wH T lk bk dst op
  |some (j,b)=>match ops[j]? with
   |some oj=>match oj.dst with
    |some d=>match lk d with
     |some .tt=>bif b then wH T lk bk dst op else some ⟨none, .un,[],[]⟩
     |some .ff=>bif b then some ⟨none, .un,[],[]⟩ else wH T lk bk dst op
     |some .un=>some ⟨none, .un,[],[]⟩
     |_=>none
    |none=>none
   |none=>none) else none
section
variable {P:Program} {T:TT} {GB:Gh} {C:aD} {n:Nat} {lk:LK} {bk:BM} {ops:Array Oper}
def bH.toS{dst:Option Nat}{op:Op}{ty:TypeId}{pos:String}{af:Array Edge}{gd:Option (Nat×Bool)}{f:FX}{bl:List (Nat×Option Bk)}{nw:List Nat}(h:bH P GB C n lk bk ⟨dst,op,ty,pos,af,gd⟩ f bl nw)(hd:b9 n dst=true)
  (hw: ∀ρ G ov a w,bF GB C n lk bk ρ G ov a w->Region.wanted ⟨dst,op,ty,pos,af,gd⟩ (yielded ops a.tmps)=true):tD P GB C n ops lk bk ⟨dst,op,ty,pos,af,gd⟩ f bl nw:=by
 intro Q tl tb K s1 s2 hf hk;have:=h hd tl tb (fun a w=>a.defers=C.mks/\K a w) s1 s2 hf ⟨fun ρ G ov a w r=>⟨r.df,hk.run ρ G ov a w r⟩⟩;refine⟨fun ρ G ov a w r=>?_⟩;unfold wO;rw[if_pos (hw ρ G ov a w (r.mono s1 s2))];exact FG (this.run ρ G ov a w r) fun a' w' k=>⟨k.1.trans r.df.symm,k.2⟩
def tD.skip{dst:Option Nat}{op:Op}{ty:TypeId}{pos:String}{af:Array Edge}{gd:Option (Nat×Bool)}(hd:b9 n dst=true)
  (hw: ∀ρ G ov a w,bF GB C n lk bk ρ G ov a w->Region.wanted ⟨dst,op,ty,pos,af,gd⟩ (yielded ops a.tmps)=false):tD P GB C n ops lk bk ⟨dst,op,ty,pos,af,gd⟩ .un [] []:=by
 intro Q tl tb K s1 s2 hf hk;refine⟨fun ρ G ov a w r=>?_⟩;unfold wO;rw[hw ρ G ov a w (r.mono s1 s2)];exact hk.run ρ G ov _ w (r.put J (r.putA undef hd))
def AA{ρ:NE}{G:Gh}{ov:List ao}{a:Act}{w:World}(r:bF GB C n lk bk ρ G ov a w){j d:Nat}{oj:Oper}{f:FX}(hj:ops[j]? =some oj)(hd:oj.dst=some d)(hf:lk d=some f): ∃y,bP ρ G f y/\yielded ops a.tmps j=match y with| .bool b=>some b|_=>none:=by
 obtain⟨y,h1,h2⟩:=r.fx d f hf;refine⟨y,h2,?_⟩;unfold yielded;rw[hj];simp only[Option.bind_some,hd,h1]
 cases y<;>rfl
def O9{o:Oper}{r:CR}(hT:ml P T)(h:wV T n ops lk bk o=some r)(hv: ∀p,r.vc=some p->p):tD P GB C n ops lk bk o r.f r.bl r.nw/\b9 n o.dst=true:=by
 obtain⟨dst,op,ty,pos,af,gd⟩:=o;simp only[wV] at h
 cases hd:b9 n dst with
 |false=>rw[hd] at h;cases h
 |true=>
  rw[hd,cond_true] at h;refine⟨?_,J⟩;split at h
  ·exact(xw hT h hv).toS hd fun _ _ _ _ _ _=>J
  ·rename_i j b
   split at h<;>try (cases h;done)
   rename_i oj hj;split at h<;>try (cases h;done)
   rename_i d hdj;split at h<;>try (cases h;done)
   ·rename_i hl
    have wt: ∀ρ G ov (a:Act) w,bF GB C n lk bk ρ G ov a w->Region.wanted ⟨dst,op,ty,pos,af,some (j,b)⟩ (yielded ops a.tmps)=b:=fun ρ G ov a w r=>by
     obtain⟨y,h1,h2⟩:=AA r hj hdj hl
     cases h1
     simp only[Region.wanted,h2];cases b<;>rfl
    cases b with
    |true=>exact(xw hT h hv).toS hd wt
    |false=>cases h;exact .skip hd wt
   ·rename_i hl
    have wt: ∀ρ G ov (a:Act) w,bF GB C n lk bk ρ G ov a w->Region.wanted ⟨dst,op,ty,pos,af,some (j,b)⟩ (yielded ops a.tmps)=!b:=fun ρ G ov a w r=>by
     obtain⟨y,h1,h2⟩:=AA r hj hdj hl
     cases h1
     simp only[Region.wanted,h2];cases b<;>rfl
    cases b with
    |true=>cases h;exact .skip hd wt
    |false=>exact(xw hT h hv).toS hd wt
   ·rename_i hl
    cases h
    refine .skip hd fun ρ G ov a w r=>?_;obtain⟨y,h1,h2⟩:=AA r hj hdj hl
    cases h1
    simp only[Region.wanted,h2];rfl
end
inductive Kt where
 |sq (c:Code)
 |bl (id:Nat)
 |sc
 |ag (A:Act->World->Prop)
def cQ(rd:Option Nat)(P:Program)(Q0:Exit->Act->World->Prop):List Kt->Exit->Act->World->Prop
 |[]=>Q0
 | .sq y::K=>Exit.then (gO rd P y (cQ rd P Q0 K)) (cQ rd P Q0 K)
 | .bl id::K=>Exit.inBlock id (cQ rd P Q0 K)
 | .sc::K=>Exit.noGoto (cQ rd P Q0 K)
 | .ag A::K=>Exit.then A (cQ rd P Q0 K)
inductive Cf where
 |code (c:Code) (K:List Kt)
 |ops (ops:Array Oper) (r:List Oper) (K:List Kt)
 |dr (id:Nat) (ops:Array Oper) (fr0:aA) (own0:aG) (us:List Rc) (r:List Oper) (K:List Kt)
 |ex (e:Exit) (K:List Kt)
structure xW (P:Program) (GB:Gh) (C:aD) (n:Nat) (ops:Array Oper) (fr0:aA) (own0:aG) (us:List Rc) (r:List Oper) (fr:aA) (own:aG):Prop where
 pre: ∃pre,ops.toList=pre++r/\pre.length=us.length
 st:cA (fun _=>true) 0 (bc fr0,bh own0) us=(bc fr,bh own)
 snd: ∀i u o,us[i]? =some u->ops[i]? =some o->o.dst=u.d/\tD P GB C n ops (lH u.rs (cA (fun j=>decide (j<i)) 0 (bc fr0,bh own0) us).1) (lH u.rn (cA (fun j=>decide (j<i)) 0 (bc fr0,bh own0) us).2) o u.f u.bl u.nw
def ak(P:Program)(GB:Gh)(C:aD)(n:Nat)(Q0:Exit->Act->World->Prop)(fr:aA)(own:aG):Cf->Prop
 | .code c K=>SX GB C n (bc fr) (bh own) (gO C.rd P c (cQ C.rd P Q0 K))
 | .ops ops r K=>SX GB C n (bc fr) (bh own) (wpListIn (FW C.rd) 0 P ops (cQ C.rd P Q0 K) r)
 | .dr id ops fr0 own0 us r K=>xW P GB C n ops fr0 own0 us r fr own->SX GB C n (bc fr0) (bh own0) (gO C.rd P (.region id ops true) (cQ C.rd P Q0 K))
 | .ex e K=>SX GB C n (bc fr) (bh own) (cQ C.rd P Q0 K e)
structure xT where
 vc:List Prop
 fr:aA
 own:aG
 cf:Cf
def acc(v:Option Prop)(l:List Prop):List Prop:=match v with
 |some p=>p::l
 |none=>l
def Ei{α:Type}(v:Option Prop)(l:List Prop)(k:List Prop->α):α:=match v with
 |some p=>k (p::l)
 |none=>k l
def Mq{α:Type}{v:Option Prop}{l:List Prop}{k:List Prop->α}:Ei v l k=k (acc v l):=by cases v<;>rfl
def xf{α:Type}(fr:aA)(dst:Option Nat)(f:FX)(k:aA->α):α:=match dst with
 |some d=>k ((d,f)::fr)
 |none=>k fr
def yD{α:Type}{fr:aA}{dst:Option Nat}{f:FX}{k:aA->α}:xf fr dst f k=k (Cu fr dst f):=by cases dst<;>rfl
def uE(nw:List Nat)(dst:Option Nat)(fr:aA)(own:aG):Bool:=nw.all fun nm=>fr.all (fun e=>xN dst e.1||!wo nm e.2)&&own.all fun e=>Nat.beq e.1 nm||!Bo nm e.2
def wZ:List Operand->List Nat
 |[]=>[]
 | .tmp t::r=>t::wZ r
 |_::r=>wZ r
def Bt(fr:aA):List Nat->List Nat
 |[]=>[]
 |t::r=>match bc fr t with
  |some f=>match f.nm with
   |some nm=>nm::Bt fr r
   |none=>Bt fr r
  |none=>Bt fr r
def De(o:Oper)(fr:aA)(rs:List Nat):List Nat:=match o.op with
 | .move _=>[]
 |_=>Bt fr rs
def zU(ops:Array Oper)(o:Oper):List Nat:=match o.guard with
 |some (j,_)=>match ops[j]? with
  |some oj=>match oj.dst with
   |some d=>d::wZ o.op.operands.toList
   |none=>wZ o.op.operands.toList
  |none=>wZ o.op.operands.toList
 |none=>wZ o.op.operands.toList
def go(T:TT)(n:Nat):Nat->List Prop->aA->aG->Cf->xT
 |0,l,fr,own,cf=>⟨l,fr,own,cf⟩
 |k+1,l,fr,own, .code c K=>match c with
  | .seq x y=>go T n k l fr own (.code x (.sq y::K))
  | .region id ops d=>bif d then go T n k l fr own (.dr id ops fr own [] ops.toList K) else go T n k l fr own (.ops ops ops.toList K)
  | .skip=>go T n k l fr own (.ex .normal K)
  | .ret=>go T n k l fr own (.ex .ret K)
  | .exit id=>go T n k l fr own (.ex (.exit id) K)
  | .block id c=>go T n k l fr own (.code c (.bl id::K))
  | .scope c=>go T n k l fr own (.code c (.sc::K))
  | .label _=>go T n k l fr own (.ex .normal K)
  | .cond c x y=>match aH (bc fr) c with
   |some .tt=>go T n k l fr own (.code x K)
   |some .ff=>go T n k l fr own (.code y K)
   |_=>⟨l,fr,own, .code (.cond c x y) K⟩
  |c=>⟨l,fr,own, .code c K⟩
 |k+1,l,fr,own, .ex e K=>match K with
  | .sq y::K'=>match e with
   | .normal=>go T n k l fr own (.code y K')
   |e=>go T n k l fr own (.ex e K')
  | .bl id::K'=>match e with
   | .exit j=>bif Nat.beq j id then go T n k l fr own (.ex .normal K') else go T n k l fr own (.ex (.exit j) K')
   |e=>go T n k l fr own (.ex e K')
  | .sc::K'=>bif Ns e then go T n k l fr own (.ex e K') else⟨l,fr,own, .ex e (.sc::K')⟩
  | .ag A::K'=>match e with
   | .normal=>⟨l,fr,own, .ex .normal (.ag A::K')⟩
   |e=>go T n k l fr own (.ex e K')
  |[]=>⟨l,fr,own, .ex e []⟩
 |k+1,l,fr,own, .ops ops r K=>match r with
  |[]=>go T n k l fr own (.ex .normal K)
  |o::r'=>match wV T n ops (bc fr) (bh own) o with
   |some ⟨v,f,bl,nw⟩=>bif uE nw o.dst fr own then q0 own bl fun own'=>Ei v l fun l'=>xf fr o.dst f fun fr'=>go T n k l' fr' own' (.ops ops r' K) else⟨l,fr,own, .ops ops (o::r') K⟩
   |none=>⟨l,fr,own, .ops ops (o::r') K⟩
 |k+1,l,fr,own, .dr id ops fr0 own0 us r K=>match r with
  |[]=>go T n k (((ut (oO ops.toList []) [] us&&mH 0 ops.toList&&Cr us fr0 own0)=true)::l) fr own (.ex .normal K)
  |o::r'=>lc (zU ops o) fun rs=>lc (De o fr rs) fun rn=>match wV T n ops (lH rs (bc fr)) (lH rn (bh own)) o with
   |some ⟨v,f,bl,nw⟩=>q0 own bl fun own'=>lc (us++[⟨rs,o.dst,f,rn,bl,nw⟩]) fun us'=>Ei v l fun l'=>xf fr o.dst f fun fr'=>go T n k l' fr' own' (.dr id ops fr0 own0 us' r' K)
   |none=>⟨l,fr,own, .dr id ops fr0 own0 us (o::r') K⟩
def ah:List Prop->Prop
 |[]=>True
 |[p]=>p
 |p::t=>ah t/\p
def Q6{p:Prop}{t:List Prop}:ah (p::t)↔ah t/\p:=by cases t<;>simp[ah]
def Mz{v:Option Prop}{l:List Prop}(h:ah (acc v l)):ah l/\ ∀p,v=some p->p:=by
 cases v with
 |none=>exact⟨h,fun p e=>by cases e⟩
 |some q=>obtain⟨h1,h2⟩:=Q6.1 h;exact⟨h1,fun p e=>by cases e;exact h2⟩
def Hr{f:FX}{k:Nat}: ∀{fr:aA},bc fr k=some f->(k,f)∈fr
 |[],h=>by cases h
 |(j,g)::t,h=>by
  rw[jE] at h;split at h
  ·cases h;rename_i e;rw[e];exact aQ
  ·exact aZ _ (Hr h)
def Gs{B:Bk}{k:Nat}: ∀{own:aG},bh own k=some B->(k,some B)∈own
 |[],h=>by cases h
 |(j,g)::t,h=>by
  rw[i7] at h;split at h
  ·rename_i e;rw[e,h];exact aQ
  ·exact aZ _ (Gs h)
def yX{nw:List Nat}{dst:Option Nat}{fr:aA}{own:aG}(h:uE nw dst fr own=true):jn nw dst (bc fr) (bh own):=fun nm hnm=>by
 have:=fZ.1 h nm hnm;simp only[aL] at this;refine⟨fun k f hk e hc=>?_,fun k B hk e hm=>?_⟩
 ·have:=fZ.1 this.1 _ (Hr e)
  simp only[iU,iJ,wo] at this;rcases this with h|h
  ·exact hk (yY.1 h).symm
  ·rw[yY.2 hc] at h;cases h
 ·have:=fZ.1 this.2 _ (Gs e)
  simp only[iU,iJ] at this;rcases this with h|h
  ·exact hk (aU h)
  ·rw[IN hm] at h;cases h
def P4{us:List Rc}{fr:aA}{own:aG}(h:Cr us fr own=true): ∀r∈us,∀nm∈r.nw,(∀k f,bc fr k=some f->f.nm≠some nm)/\ ∀k B,bh own k=some B-> ¬B.men nm:=fun r hr nm hnm=>by
 have:=fZ.1 (fZ.1 h r hr) nm hnm;simp only[aL] at this;refine⟨fun k f e hc=>?_,fun k B e hm=>?_⟩
 ·have:=fZ.1 this.1 _ (Hr e)
  simp only[iJ,wo] at this;rw[yY.2 hc] at this;cases this
 ·have:=fZ.1 this.2 _ (Gs e)
  simp only[iJ] at this;rw[IN hm] at this;cases this
section
variable {P:Program} {T:TT} {GB:Gh} {C:aD} {n:Nat} {Q0:Exit->Act->World->Prop} {fr fr0:aA} {own own0:aG} {ops:Array Oper} {us:List Rc} {r:List Oper} {o:Oper} {K:List Kt}
def By{p q:Nat->Bool}{u:Rc}: ∀{us:List Rc} {k:Nat} {s:ST},(∀j,j<us.length->p (k+j)=q (k+j))->cA p k s (us++[u])=if p (k+us.length) then u.ap (cA q k s us) else cA q k s us
 |[],k,s,h=>rfl
 |x::t,k,s,h=>by
  simp only[cW,cA];rw[By (q:=q) fun j hj=>by have:=h (j+1) (by simp;omega);rwa [show k+(j+1)=k+1+j by omega] at this];have h0:=h 0 (by simp);rw[eY] at h0;rw[h0,bW,show k+1+t.length=k+(t.length+1) by omega]
def xW.push(D:xW P GB C n ops fr0 own0 us (o::r) fr own){rs rn nw:List Nat}{f:FX}{bl:List (Nat×Option Bk)}(h:tD P GB C n ops (lH rs (bc fr)) (lH rn (bh own)) o f bl nw):xW P GB C n ops fr0 own0 (us++[⟨rs,o.dst,f,rn,bl,nw⟩]) r (Cu fr o.dst f) (uL own bl):=by
 obtain⟨pre,hp,hl⟩:=D.pre;refine⟨⟨pre++[o],by rw[hp];simp,by simp[hl]⟩,?_,fun i u o' hu ho=>?_⟩
 ·rw[By (q:=fun _=>true) fun _ _=>J,if_pos J,D.st]
  simp only[Rc.ap];rw[Ii,DZ]
 ·rw[List.getElem?_append] at hu
  split at hu
  ·rename_i hi
   obtain⟨h1,h2⟩:=D.snd i u o' hu ho;rw[By (q:=fun j=>decide (j<i)) fun _ _=>J,if_neg (by simp;omega)];exact⟨h1,h2⟩
  ·rename_i hi
   by_cases e:i=us.length
   ·subst e
    simp at hu;subst hu;have ho':ops[us.length]? =some o:=by
     have:ops.toList[us.length]? =some o:=by rw[hp,<-hl];simp
     simpa using this
    rw[ho'] at ho;cases ho;refine⟨J,?_⟩;rw[By (q:=fun _=>true) fun j hj=>by simpa using hj,if_neg (by simp),D.st];exact h
   ·rw[dW (by simp;omega)] at hu;cases hu
def xW.done(D:xW P GB C n ops fr0 own0 us [] fr own){id:Nat}(hm:P.follows .mixedOrders=true)(h:(ut (oO ops.toList []) [] us&&mH 0 ops.toList&&Cr us fr0 own0)=true)(hk:SX GB C n (bc fr) (bh own) (cQ C.rd P Q0 K .normal)):
  SX GB C n (bc fr0) (bh own0) (gO C.rd P (.region id ops true) (cQ C.rd P Q0 K)):=by
 obtain⟨pre,hp,hl⟩:=D.pre;simp only[aL] at h;have D':jr P GB C n ops us (bc fr0,bh own0):=⟨by rw[<-hl,<-iM,hp];simp,D.snd,h.1.1,h.1.2,P4 h.2⟩;exact D'.region hm (by rw[D.st];exact hk)
def SX.op{Q:Exit->Act->World->Prop}{f:FX}{bl:List (Nat×Option Bk)}{nw:List Nat}(h:tD P GB C n ops (bc fr) (bh own) o f bl nw)(hf:jn nw o.dst (bc fr) (bh own))(hk:SX GB C n (bc (Cu fr o.dst f)) (bh (uL own bl)) (wpListIn (FW C.rd) 0 P ops Q r)):SX GB C n (bc fr) (bh own) (wpListIn (FW C.rd) 0 P ops Q (o::r)):=by
 rw[Ii,DZ] at hk;refine(h Q _ _ _ (jD.refl _) (jD.refl _) hf hk).imp fun a w q=>?_;unfold wO at q;simp only[wpListIn];split
 ·rename_i hw;rw[if_pos hw] at q;exact q
 ·rename_i hw;rw[if_neg hw] at q;exact⟨fun _ _=>trivial,q⟩
def SX.cond{lk:LK}{bk:BM}{Q:Exit->Act->World->Prop}{c:Operand}{x y:Code}{b:Bool}{f:FX}(hc:aH lk c=some f)(hb:sD f=some b)(h1:b=true->SX GB C n lk bk (gO C.rd P x Q))(h2:b=false->SX GB C n lk bk (gO C.rd P y Q)):SX GB C n lk bk (gO C.rd P (.cond c x y) Q):=by
 refine⟨fun ρ G ov a w r=>?_⟩;obtain⟨v,hv,hv'⟩:=r.ev hc;rw[vM hv' hb] at hv;exact aj6 (bi (cC a) hv) (fun e=>(h1 e).run ρ G ov a w r) (fun e=>(h2 e).run ρ G ov a w r)
def i4(hT:ml P T)(hm:P.follows .mixedOrders=true): ∀(k:Nat) (l:List Prop) (fr:aA) (own:aG) (cf:Cf),ah (go T n k l fr own cf).vc->ah l/\(ak P GB C n Q0 (go T n k l fr own cf).fr (go T n k l fr own cf).own (go T n k l fr own cf).cf->ak P GB C n Q0 fr own cf)
 |0,l,fr,own,cf,h=>by simp only[go] at h⊢;exact⟨h,id⟩
 |k+1,l,fr,own, .code c K,h=>by
  cases c with
  |seq x y=>simp only[go] at h⊢;obtain⟨h1,h2⟩:=i4 hT hm k _ _ _ _ h;exact⟨h1,fun hk=>(h2 hk).imp fun a w q=>Xe q⟩
  |region id ops d=>
   simp only[go] at h⊢
   cases d with
   |false=>simp only[cond_false] at h⊢;obtain⟨h1,h2⟩:=i4 hT hm k _ _ _ _ h;exact⟨h1,fun hk=>(h2 hk).imp fun a w q=>Vh q⟩
   |true=>simp only[cond_true] at h⊢;obtain⟨h1,h2⟩:=i4 hT hm k _ _ _ _ h;exact⟨h1,fun hk=>h2 hk ⟨⟨[],rfl,rfl⟩,rfl,fun i u o hu=>by simp at hu⟩⟩
  |skip=>simp only[go] at h⊢;obtain⟨h1,h2⟩:=i4 hT hm k _ _ _ _ h;exact⟨h1,fun hk=>(h2 hk).imp fun a w q=>WQ q⟩
  |ret=>simp only[go] at h⊢;obtain⟨h1,h2⟩:=i4 hT hm k _ _ _ _ h;exact⟨h1,fun hk=>(h2 hk).imp fun a w q=>aAa q⟩
  |exit id=>simp only[go] at h⊢;obtain⟨h1,h2⟩:=i4 hT hm k _ _ _ _ h;exact⟨h1,fun hk=>(h2 hk).imp fun a w q=>Z0 q⟩
  |block id c=>simp only[go] at h⊢;obtain⟨h1,h2⟩:=i4 hT hm k _ _ _ _ h;exact⟨h1,fun hk=>(h2 hk).imp fun a w q=>TN q⟩
  |scope c=>simp only[go] at h⊢;obtain⟨h1,h2⟩:=i4 hT hm k _ _ _ _ h;exact⟨h1,fun hk=>(h2 hk).imp fun a w q=>ati q⟩
  |label j=>simp only[go] at h⊢;obtain⟨h1,h2⟩:=i4 hT hm k _ _ _ _ h;exact⟨h1,fun hk=>(h2 hk).imp fun a w q=>auj q⟩
  |cond c x y=>
   simp only[go] at h⊢
   cases hc:aH (bc fr) c with
   |none=>simp only[hc] at h⊢;exact⟨h,id⟩
   |some f=>
    cases f with
    |tt=>simp only[hc] at h⊢;obtain⟨h1,h2⟩:=i4 hT hm k _ _ _ _ h;exact⟨h1,fun hk=>SX.cond hc rfl (fun _=>h2 hk) (fun e=>by cases e)⟩
    |ff=>simp only[hc] at h⊢;obtain⟨h1,h2⟩:=i4 hT hm k _ _ _ _ h;exact⟨h1,fun hk=>SX.cond hc rfl (fun e=>by cases e) (fun _=>h2 hk)⟩
    |_=>simp only[hc] at h⊢;exact⟨h,id⟩
  |_=>simp only[go] at h⊢;exact⟨h,id⟩
 |k+1,l,fr,own, .ex e K,h=>by
  cases K with
  |nil=>simp only[go] at h⊢;exact⟨h,id⟩
  |cons x K=>
   cases x with
   |sq y=>cases e<;>(simp only[go] at h⊢;obtain⟨h1,h2⟩:=i4 hT hm k _ _ _ _ h;exact⟨h1,fun hk=>h2 hk⟩)
   |bl id=>
    cases e with
    |exit j=>
     simp only[go] at h⊢
     cases hb:Nat.beq j id with
     |true=>
      simp only[hb,cond_true] at h⊢;obtain⟨h1,h2⟩:=i4 hT hm k _ _ _ _ h;exact⟨h1,fun hk=>(h2 hk).imp fun a w q=>by simp only[cQ,Exit.inBlock,aU hb,if_true];exact q⟩
     |false=>
      have hne:j≠id:=fun e=>by subst e;simp at hb
      simp only[hb,cond_false] at h⊢;obtain⟨h1,h2⟩:=i4 hT hm k _ _ _ _ h;exact⟨h1,fun hk=>(h2 hk).imp fun a w q=>by simp only[cQ,Exit.inBlock,hne,if_false];exact q⟩
    |_=>simp only[go] at h⊢;obtain⟨h1,h2⟩:=i4 hT hm k _ _ _ _ h;exact⟨h1,fun hk=>h2 hk⟩
   |sc=>
    simp only[go] at h⊢
    cases hb:Ns e with
    |true=>
     simp only[hb,cond_true] at h⊢;obtain⟨h1,h2⟩:=i4 hT hm k _ _ _ _ h;refine⟨h1,fun hk=>(h2 hk).imp fun a w q=>?_⟩
     cases e<;>first|exact q|cases hb
    |false=>simp only[hb,cond_false] at h⊢;exact⟨h,id⟩
   |ag A=>
    cases e with
    |normal=>simp only[go] at h⊢;exact⟨h,id⟩
    |_=>simp only[go] at h⊢;obtain⟨h1,h2⟩:=i4 hT hm k _ _ _ _ h;exact⟨h1,fun hk=>h2 hk⟩
 |k+1,l,fr,own, .ops ops r K,h=>by
  cases r with
  |nil=>simp only[go] at h⊢;obtain⟨h1,h2⟩:=i4 hT hm k _ _ _ _ h;exact⟨h1,fun hk=>h2 hk⟩
  |cons o r=>
   simp only[go] at h⊢
   cases hs:wV T n ops (bc fr) (bh own) o with
   |none=>simp only[hs] at h⊢;exact⟨h,id⟩
   |some x=>
    obtain⟨v,f,bl,nw⟩:=x;simp only[hs] at h⊢
    cases hf:uE nw o.dst fr own with
    |false=>simp only[hf,cond_false] at h⊢;exact⟨h,id⟩
    |true=>
     simp only[hf,cond_true] at h⊢;simp only[wk,Mq,yD] at h⊢;obtain⟨h1,h2⟩:=i4 hT hm k _ _ _ _ h;obtain⟨h3,h4⟩:=Mz h1;exact⟨h3,fun hk=>SX.op (O9 hT hs h4).1 (yX hf) (h2 hk)⟩
 |k+1,l,fr,own, .dr id ops fr0 own0 us r K,h=>by
  cases r with
  |nil=>
   simp only[go] at h⊢;obtain⟨h1,h2⟩:=i4 hT hm k _ _ _ _ h;obtain⟨h3,h4⟩:=Q6.1 h1;exact⟨h3,fun hk D=>D.done hm h4 (h2 hk)⟩
  |cons o r=>
   simp only[go,sC] at h⊢;generalize zU ops o=rs at h⊢;generalize De o fr rs=rn at h⊢
   cases hs:wV T n ops (lH rs (bc fr)) (lH rn (bh own)) o with
   |none=>simp only[hs] at h⊢;exact⟨h,fun x=>x⟩
   |some x=>
    obtain⟨v,f,bl,nw⟩:=x;simp only[hs] at h⊢;simp only[wk,Mq,yD] at h⊢;obtain⟨h1,h2⟩:=i4 hT hm k _ _ _ _ h;obtain⟨h3,h4⟩:=Mz h1;exact⟨h3,fun hk D=>h2 hk (D.push (O9 hT hs h4).1)⟩
end
end Go.Sx
end
section
namespace Go.Sx
open Go Go.Proofs Tryz
instance:ig prog 3:=⟨fun _=>by kernel_rfl,fun _=>by kernel_rfl⟩
instance:mf prog 3 .i64:=⟨fun _=>by kernel_rfl⟩
instance:ig prog 4:=⟨fun _=>by kernel_rfl,fun _=>by kernel_rfl⟩
instance:gj prog 4 (.bool false):=⟨by kernel_rfl⟩
instance:ig prog 30:=⟨fun _=>by kernel_rfl,fun _=>by kernel_rfl⟩
instance:cj prog 30 149 8 112:=⟨by kernel_rfl,by kernel_rfl⟩
instance:jO prog 30:=⟨149,by kernel_rfl⟩
instance:kO prog 32 2:=⟨fun _=>by kernel_rfl,fun _=>by kernel_rfl⟩
instance:gj prog 32 (.agg ⟨[.int .i64 0, .slice none 0 0]⟩):=⟨by kernel_rfl⟩
instance:kE prog 32 0 0:=⟨fun _ _ _=>by kernel_rfl⟩
instance:kE prog 32 1 1:=⟨fun _ _ _=>by kernel_rfl⟩
instance:cj prog 67 366 1 4:=⟨by kernel_rfl,by kernel_rfl⟩
instance:jO prog 67:=⟨366,by kernel_rfl⟩
instance:cj prog 130 222 17 128:=⟨by kernel_rfl,by kernel_rfl⟩
instance:jO prog 130:=⟨222,by kernel_rfl⟩
instance:ig prog 134:=⟨fun _=>by kernel_rfl,fun _=>by kernel_rfl⟩
instance:kO prog 147 6:=⟨fun _=>by kernel_rfl,fun _=>by kernel_rfl⟩
instance:kO prog 149 8:=⟨fun _=>by kernel_rfl,fun _=>by kernel_rfl⟩
instance:gj prog 149 (.agg ⟨[.bool false, .slice none 0 0, .bool false, .slice none 0 0, .bool false, .slice none 0 0, .int .i64 0, .int .i64 0]⟩):=⟨by kernel_rfl⟩
instance:kE prog 149 0 0:=⟨fun _ _ _=>by kernel_rfl⟩
instance:kE prog 149 1 6:=⟨fun _ _ _=>by kernel_rfl⟩
instance:kE prog 149 2 7:=⟨fun _ _ _=>by kernel_rfl⟩
instance:DY prog 149 [(0,6),(6,1),(7,1)]:=⟨_,fun _=>PC underlying149 _,fun _=>by kernel_rfl⟩
instance:cj prog 174 222 17 128:=⟨by kernel_rfl,by kernel_rfl⟩
instance:kO prog 218 9:=⟨fun _=>by kernel_rfl,fun _=>by kernel_rfl⟩
instance:gj prog 218 (.agg ⟨[.int .i64 0, .int .i64 0, .pointer none, .int .i64 0, .int .i64 0, .pointer none, .int .i64 0, .int .i64 0, .pointer none]⟩):=⟨by kernel_rfl⟩
instance:mf prog 251 .u64:=⟨fun _=>by kernel_rfl⟩
instance:ig prog 274:=⟨fun _=>by kernel_rfl,fun _=>by kernel_rfl⟩
instance:gj prog 274 (.nilFunc):=⟨by kernel_rfl⟩
instance:kE prog 276 0 0:=⟨fun _ _ _=>by kernel_rfl⟩
instance:kE prog 276 1 9:=⟨fun _ _ _=>by kernel_rfl⟩
instance:kE prog 276 2 10:=⟨fun _ _ _=>by kernel_rfl⟩
instance:kE prog 276 3 11:=⟨fun _ _ _=>by kernel_rfl⟩
instance:ig prog 340:=⟨fun _=>by kernel_rfl,fun _=>by kernel_rfl⟩
instance:cj prog 340 4 1 1:=⟨by kernel_rfl,by kernel_rfl⟩
instance:gj prog 342 (.agg ⟨[.slice none 0 0, .slice none 0 0, .int .i64 0, .bool false]⟩):=⟨by kernel_rfl⟩
instance:kE prog 342 0 0:=⟨fun _ _ _=>by kernel_rfl⟩
instance:kE prog 342 1 1:=⟨fun _ _ _=>by kernel_rfl⟩
instance:kE prog 342 2 2:=⟨fun _ _ _=>by kernel_rfl⟩
instance:kE prog 342 3 3:=⟨fun _ _ _=>by kernel_rfl⟩
instance:DY prog 342 [(0,1),(1,1),(2,1),(3,1)]:=⟨_,fun _=>PC underlying342 _,fun _=>by kernel_rfl⟩
instance:mf prog 355 .u64:=⟨fun _=>by kernel_rfl⟩
instance:ig prog 366:=⟨fun _=>by kernel_rfl,fun _=>by kernel_rfl⟩
instance:gj prog 366 (.int .u32 0):=⟨by kernel_rfl⟩
instance:mf prog 366 .u32:=⟨fun _=>by kernel_rfl⟩
def follows:prog.follows .mixedOrders=true:=by kernel_rfl
end Go.Sx
end
section
namespace Go.Sx
open Go
def tt:TT:=[
 (2,⟨.int .i64,1,some [.d (.v (.int .i64 0))],false⟩),
 (3,⟨.int .i64,1,some [.d (.v (.int .i64 0))],false⟩),
 (4,⟨.bl,1,some [.ff],false⟩),
 (5,⟨.int .u8,1,some [.d (.v (.int .u8 0))],false⟩),
 (9,⟨.sc,1,some [.d (.v (.string ⟨#[]⟩))],false⟩),
 (20,⟨.fc,1,some [.d (.v (.nilIface))],false⟩),
 (22,⟨.sl 3 1 8,1,some [.nl],false⟩),
 (23,⟨.pt,1,some [.d (.v (.pointer none))],false⟩),
 (25,⟨.sl 48 1 24,1,some [.nl],false⟩),
 (27,⟨.sl 62 1 24,1,some [.nl],false⟩),
 (30,⟨.sl 149 8 112,1,some [.nl],false⟩),
 (32,⟨.st [(0,3,1),(1,30,1)],2,some [.d (.v (.int .i64 0)), .nl],true⟩),
 (34,⟨.fc,1,some [.d (.v (.nilIface))],false⟩),
 (40,⟨.pt,1,some [.d (.v (.pointer none))],false⟩),
 (42,⟨.sl 115 6 96,1,some [.nl],false⟩),
 (44,⟨.st [(0,27,1),(1,3,1),(2,42,1)],3,some [.nl, .d (.v (.int .i64 0)), .nl],true⟩),
 (47,⟨.sl 73 6 112,1,some [.nl],false⟩),
 (48,⟨.sl 73 6 112,1,some [.nl],false⟩),
 (49,⟨.sl 147 6 96,1,some [.nl],false⟩),
 (51,⟨.st [(0,49,1)],1,some [.nl],true⟩),
 (62,⟨.sl 81 6 112,1,some [.nl],false⟩),
 (66,⟨.sl 366 1 4,1,some [.nl],false⟩),
 (67,⟨.sl 366 1 4,1,some [.nl],false⟩),
 (69,⟨.st [(0,4,1),(1,67,1)],2,some [.ff, .nl],true⟩),
 (71,⟨.st [(0,69,2),(2,67,1)],3,some [.ff, .nl, .nl],true⟩),
 (73,⟨.st [(0,71,3),(3,71,3)],6,some [.ff, .nl, .nl, .ff, .nl, .nl],true⟩),
 (75,⟨.sl 366 1 4,1,some [.nl],false⟩),
 (77,⟨.st [(0,4,1),(1,75,1)],2,some [.ff, .nl],true⟩),
 (79,⟨.st [(0,77,2),(2,75,1)],3,some [.ff, .nl, .nl],true⟩),
 (81,⟨.st [(0,79,3),(3,79,3)],6,some [.ff, .nl, .nl, .ff, .nl, .nl],true⟩),
 (104,⟨.int .u16,1,some [.d (.v (.int .u16 0))],false⟩),
 (115,⟨.st [(0,77,2),(2,77,2),(4,77,2)],6,some [.ff, .nl, .ff, .nl, .ff, .nl],true⟩),
 (126,⟨.st [(0,22,1),(1,3,1)],2,some [.nl, .d (.v (.int .i64 0))],true⟩),
 (127,⟨.sl 132 1 24,1,some [.nl],false⟩),
 (130,⟨.sl 222 17 128,1,some [.nl],false⟩),
 (131,⟨.sl 141 6 48,1,some [.nl],false⟩),
 (132,⟨.sl 141 6 48,1,some [.nl],false⟩),
 (134,⟨.pt,1,some [.d (.v (.pointer none))],false⟩),
 (137,⟨.pt,1,some [.d (.v (.pointer none))],false⟩),
 (139,⟨.st [(0,2,1),(1,2,1),(2,137,1)],3,some [.d (.v (.int .i64 0)), .d (.v (.int .i64 0)), .d (.v (.pointer none))],true⟩),
 (141,⟨.st [(0,139,3),(3,139,3)],6,some [.d (.v (.int .i64 0)), .d (.v (.int .i64 0)), .d (.v (.pointer none)), .d (.v (.int .i64 0)), .d (.v (.int .i64 0)), .d (.v (.pointer none))],true⟩),
 (147,⟨.st [(0,69,2),(2,69,2),(4,69,2)],6,some [.ff, .nl, .ff, .nl, .ff, .nl],true⟩),
 (149,⟨.st [(0,147,6),(6,3,1),(7,3,1)],8,some [.ff, .nl, .ff, .nl, .ff, .nl, .d (.v (.int .i64 0)), .d (.v (.int .i64 0))],true⟩),
 (153,⟨.sl 161 14 216,1,some [.nl],false⟩),
 (159,⟨.st [(0,79,3),(3,79,3),(6,4,1),(7,4,1)],8,some [.ff, .nl, .nl, .ff, .nl, .nl, .ff, .ff],true⟩),
 (161,⟨.st [(0,115,6),(6,159,8)],14,some [.ff, .nl, .ff, .nl, .ff, .nl, .ff, .nl, .nl, .ff, .nl, .nl, .ff, .ff],true⟩),
 (171,⟨.sl 218 9 72,1,some [.nl],false⟩),
 (174,⟨.sl 222 17 128,1,some [.nl],false⟩),
 (202,⟨.sl 174 1 24,1,some [.nl],false⟩),
 (218,⟨.st [(0,139,3),(3,139,3),(6,139,3)],9,some [.d (.v (.int .i64 0)), .d (.v (.int .i64 0)), .d (.v (.pointer none)), .d (.v (.int .i64 0)), .d (.v (.int .i64 0)), .d (.v (.pointer none)), .d (.v (.int .i64 0)), .d (.v (.int .i64 0)), .d (.v (.pointer none))],true⟩),
 (220,⟨.st [(0,139,3),(3,139,3),(6,4,1),(7,4,1)],8,some [.d (.v (.int .i64 0)), .d (.v (.int .i64 0)), .d (.v (.pointer none)), .d (.v (.int .i64 0)), .d (.v (.int .i64 0)), .d (.v (.pointer none)), .ff, .ff],true⟩),
 (222,⟨.st [(0,218,9),(9,220,8)],17,some [.d (.v (.int .i64 0)), .d (.v (.int .i64 0)), .d (.v (.pointer none)), .d (.v (.int .i64 0)), .d (.v (.int .i64 0)), .d (.v (.pointer none)), .d (.v (.int .i64 0)), .d (.v (.int .i64 0)), .d (.v (.pointer none)), .d (.v (.int .i64 0)), .d (.v (.int .i64 0)), .d (.v (.pointer none)), .d (.v (.int .i64 0)), .d (.v (.int .i64 0)), .d (.v (.pointer none)), .ff, .ff],true⟩),
 (238,⟨.sl 79 3 56,1,some [.nl],false⟩),
 (251,⟨.int .u64,1,some [.d (.v (.int .u64 0))],false⟩),
 (256,⟨.st [(0,4,1),(1,4,1),(2,115,6),(8,40,1),(9,40,1)],10,some [.ff, .ff, .ff, .nl, .ff, .nl, .ff, .nl, .d (.v (.pointer none)), .d (.v (.pointer none))],true⟩),
 (258,⟨.pt,1,some [.d (.v (.pointer none))],false⟩),
 (260,⟨.st [(0,34,1),(1,3,1),(2,3,1),(3,9,1)],4,some [.d (.v (.nilIface)), .d (.v (.int .i64 0)), .d (.v (.int .i64 0)), .d (.v (.string ⟨#[]⟩))],true⟩),
 (264,⟨.o,12,some [.d (.v (.int .i64 0)), .d (.v (.int .i64 0)), .d (.v (.pointer none)), .d (.v (.int .i64 0)), .d (.v (.int .i64 0)), .d (.v (.pointer none)), .d (.v (.int .i64 0)), .d (.v (.int .i64 0)), .d (.v (.pointer none)), .d (.v (.int .i64 0)), .d (.v (.int .i64 0)), .d (.v (.pointer none))],true⟩),
 (268,⟨.st [],0,some [],true⟩),
 (270,⟨.pt,1,some [.d (.v (.pointer none))],false⟩),
 (272,⟨.st [(0,3,1),(1,143,1)],2,some [.d (.v (.int .i64 0)), .d (.v (.nilFunc))],true⟩),
 (276,⟨.st [(0,218,9),(9,134,1),(10,134,1),(11,4,1)],12,some [.d (.v (.int .i64 0)), .d (.v (.int .i64 0)), .d (.v (.pointer none)), .d (.v (.int .i64 0)), .d (.v (.int .i64 0)), .d (.v (.pointer none)), .d (.v (.int .i64 0)), .d (.v (.int .i64 0)), .d (.v (.pointer none)), .d (.v (.pointer none)), .d (.v (.pointer none)), .ff],true⟩),
 (286,⟨.sl 71 3 56,1,some [.nl],false⟩),
 (287,⟨.sl 67 1 24,1,some [.nl],false⟩),
 (299,⟨.sl 34 1 16,1,some [.nl],false⟩),
 (318,⟨.sl 159 8 120,1,some [.nl],false⟩),
 (323,⟨.o,9,some [.d (.v (.int .i64 0)), .d (.v (.int .i64 0)), .d (.v (.pointer none)), .d (.v (.int .i64 0)), .d (.v (.int .i64 0)), .d (.v (.pointer none)), .d (.v (.int .i64 0)), .d (.v (.int .i64 0)), .d (.v (.pointer none))],true⟩),
 (338,⟨.st [(0,69,2),(2,67,1)],3,some [.ff, .nl, .nl],true⟩),
 (339,⟨.pt,1,some [.d (.v (.pointer none))],false⟩),
 (340,⟨.sl 4 1 1,1,some [.nl],false⟩),
 (342,⟨.st [(0,30,1),(1,340,1),(2,3,1),(3,4,1)],4,some [.nl, .nl, .d (.v (.int .i64 0)), .ff],true⟩),
 (355,⟨.int .u64,1,some [.d (.v (.int .u64 0))],false⟩),
 (366,⟨.int .u32,1,some [.d (.v (.int .u32 0))],false⟩),
 (381,⟨.o,2,some [.nl, .nl],true⟩),
 (428,⟨.int .i64,1,some [.d (.v (.int .i64 0))],false⟩),
 (436,⟨.sl 139 3 24,1,some [.nl],false⟩),
 (450,⟨.sl 376 1 8,1,some [.nl],false⟩),
 (457,⟨.sl 460 2 32,1,some [.nl],false⟩),
 (460,⟨.st [(0,174,1),(1,134,1)],2,some [.nl, .d (.v (.pointer none))],true⟩),
 (467,⟨.int .u64,1,some [.d (.v (.int .u64 0))],false⟩),
 (471,⟨.pt,1,some [.d (.v (.pointer none))],false⟩),
 (497,⟨.o,32,some [.d (.v (.int .u8 0)), .d (.v (.int .u8 0)), .d (.v (.int .u8 0)), .d (.v (.int .u8 0)), .d (.v (.int .u8 0)), .d (.v (.int .u8 0)), .d (.v (.int .u8 0)), .d (.v (.int .u8 0)), .d (.v (.int .u8 0)), .d (.v (.int .u8 0)), .d (.v (.int .u8 0)), .d (.v (.int .u8 0)), .d (.v (.int .u8 0)), .d (.v (.int .u8 0)), .d (.v (.int .u8 0)), .d (.v (.int .u8 0)), .d (.v (.int .u8 0)), .d (.v (.int .u8 0)), .d (.v (.int .u8 0)), .d (.v (.int .u8 0)), .d (.v (.int .u8 0)), .d (.v (.int .u8 0)), .d (.v (.int .u8 0)), .d (.v (.int .u8 0)), .d (.v (.int .u8 0)), .d (.v (.int .u8 0)), .d (.v (.int .u8 0)), .d (.v (.int .u8 0)), .d (.v (.int .u8 0)), .d (.v (.int .u8 0)), .d (.v (.int .u8 0)), .d (.v (.int .u8 0))],true⟩),
 (498,⟨.o,64,some [.d (.v (.int .u8 0)), .d (.v (.int .u8 0)), .d (.v (.int .u8 0)), .d (.v (.int .u8 0)), .d (.v (.int .u8 0)), .d (.v (.int .u8 0)), .d (.v (.int .u8 0)), .d (.v (.int .u8 0)), .d (.v (.int .u8 0)), .d (.v (.int .u8 0)), .d (.v (.int .u8 0)), .d (.v (.int .u8 0)), .d (.v (.int .u8 0)), .d (.v (.int .u8 0)), .d (.v (.int .u8 0)), .d (.v (.int .u8 0)), .d (.v (.int .u8 0)), .d (.v (.int .u8 0)), .d (.v (.int .u8 0)), .d (.v (.int .u8 0)), .d (.v (.int .u8 0)), .d (.v (.int .u8 0)), .d (.v (.int .u8 0)), .d (.v (.int .u8 0)), .d (.v (.int .u8 0)), .d (.v (.int .u8 0)), .d (.v (.int .u8 0)), .d (.v (.int .u8 0)), .d (.v (.int .u8 0)), .d (.v (.int .u8 0)), .d (.v (.int .u8 0)), .d (.v (.int .u8 0)), .d (.v (.int .u8 0)), .d (.v (.int .u8 0)), .d (.v (.int .u8 0)), .d (.v (.int .u8 0)), .d (.v (.int .u8 0)), .d (.v (.int .u8 0)), .d (.v (.int .u8 0)), .d (.v (.int .u8 0)), .d (.v (.int .u8 0)), .d (.v (.int .u8 0)), .d (.v (.int .u8 0)), .d (.v (.int .u8 0)), .d (.v (.int .u8 0)), .d (.v (.int .u8 0)), .d (.v (.int .u8 0)), .d (.v (.int .u8 0)), .d (.v (.int .u8 0)), .d (.v (.int .u8 0)), .d (.v (.int .u8 0)), .d (.v (.int .u8 0)), .d (.v (.int .u8 0)), .d (.v (.int .u8 0)), .d (.v (.int .u8 0)), .d (.v (.int .u8 0)), .d (.v (.int .u8 0)), .d (.v (.int .u8 0)), .d (.v (.int .u8 0)), .d (.v (.int .u8 0)), .d (.v (.int .u8 0)), .d (.v (.int .u8 0)), .d (.v (.int .u8 0)), .d (.v (.int .u8 0))],true⟩),
 (499,⟨.pt,1,some [.d (.v (.pointer none))],false⟩),
 (524,⟨.st [(0,9,1)],1,some [.d (.v (.string ⟨#[]⟩))],true⟩)]
def et:ml Go.Proofs.Tryz.prog tt:=ml.of (by kernel_rfl)
end Go.Sx
end
section
namespace Go.Sx
open Go Go.Proofs Tryz
def qv:Nat->List DV->aA
 |_,[]=>[]
 |i,v::t=>(i, .d v)::qv (i+1) t
class Fu where n:Nat
instance fu0:Fu:=⟨400⟩
section
variable {GB:Gh} {C:aD} {n:Nat} {Q0:Exit->Act->World->Prop} {fr fr':aA} {own own':aG} {cf cf':Cf} {vc vc':List Prop} {ops:Array Oper} {r:List Oper} {o:Oper} {K:List Kt}
def fB{q:Nat}(h:go tt n q [] fr own cf=⟨vc,fr',own',cf'⟩)(hv:ah vc)(k:ak prog GB C n Q0 fr' own' cf'):ak prog GB C n Q0 fr own cf:=by
 have:=(i4 (GB:=GB) (C:=C) (Q0:=Q0) et follows q [] fr own cf (by rw[h];exact hv)).2;rw[h] at this;exact this k
def gx[fu:Fu](h:go tt n fu.n [] fr own cf=⟨vc,fr',own',cf'⟩)(k:ak prog GB C n Q0 fr' own' cf')(hv:ah vc:=by first|exact trivial|(simp only[ah];kernel_rfl)|(simp only[ah];omega)|(simp only[ah,aJ,aT,aV];omega)):ak prog GB C n Q0 fr own cf:=fB h hv k
def OP: ∀{ds:List DV} {vs:List Value} {ρ:NE} {G:Gh} (i:Nat),IsLs G ds vs-> ∀k f,bc (qv i ds) k=some f-> ∃y,(∃j,k=i+j/\vs[j]? =some y)/\bP ρ G f y
 |[],vs,ρ,G,i,h,k,f,e=>by cases e
 |d::t,vs,ρ,G,i,h,k,f,e=>by
  obtain⟨y,m,rfl,h1,h2⟩:=aP.1 h;simp only[qv] at e;rw[jE] at e;split at e
  ·cases e;rename_i hk;exact⟨y,⟨0,hk,rfl⟩,h1⟩
  ·obtain⟨u,⟨j,hj,hu⟩,h3⟩:=OP (i+1) h2 k f e
   exact⟨u,⟨j+1,by omega,by simpa using hu⟩,h3⟩
def wL{ds:List DV}{vs:List Value}{ρ:NE}{G:Gh}{a:Act}(h:IsLs G ds vs)(hf:lh (mF 0 vs) a)(k:Nat)(f:FX)(e:bc (qv 0 ds) k=some f): ∃y,a.tmps[k]? =some y/\bP ρ G f y:=by
 obtain⟨y,⟨j,hj,hy⟩,h1⟩:=OP (ρ:=ρ) 0 h k f e;refine⟨y,hf k y ?_,h1⟩;rw[hj];exact uU vs 0 j y hy
def fn[fu:Fu]{f:FuncId}{fb:Func}{c:Code}{m:Nat}{ds:List DV}{rv:DV}(hf:prog.funcs[f]? =some fb)(hb:fb.body=some c)(hn:(fb.name== "runtime.NumGoroutine")=false)(hm:fb.ntmps=m)(hlen:Nat.ble ds.length m=true)
  (hgo:go tt m fu.n [] (qv 0 ds) [] (.code c [])=⟨vc,fr,own,cf⟩)(k: ∀C:aD,ak prog GB C m (fp C prog fb (jp C (fun v G'=>Is G' rv v))) fr own cf)
  (hv:ah vc:=by first|exact trivial|(simp only[ah];kernel_rfl)|(simp only[ah];omega)|(simp only[ah,aJ,aT,aV];omega)):PF GB prog f ds rv:=by
 intro G vs hg hvs;refine Fn.introR hf hb hn hm (by rw[hvs.len];exact hlen) fun C _ _ hrd hfx=>?_;intro a w rl;refine uY hrd ?_;have h:=fB (GB:=GB) (C:=C) (Q0:=fp C prog fb (jp C (fun v G'=>Is G' rv v))) hgo hv (k C);exact h.run (fun _=>⟨none,0,0⟩) G [] a w ⟨hg,rl.h,rl.sz,rl.df,(fun k f e=>wL hvs rl.fr k f e),(fun nm B e=>by cases e),(fun nm nm' B B' e=>by cases e),fun nm p _ _ e=>by rw[hfx] at e;cases e⟩
def ak.cond{c:Operand}{x y:Code}{b:Bool}{f:FX}(hc:aH (bc fr) c=some f)(hb:sD f=some b)(h1:b=true->ak prog GB C n Q0 fr own (.code x K))(h2:b=false->ak prog GB C n Q0 fr own (.code y K)):ak prog GB C n Q0 fr own (.code (.cond c x y) K):=SX.cond hc hb h1 h2
variable {fr1 fr2:aA} {own1 own2:aG} {cf1 cf2:Cf} {vc1 vc2:List Prop}
def br[fu1:Fu][fu2:Fu]{p:Prop}{hp:Decidable p}{c:Operand}{x y:Code}(hc:aH (bc fr) c=some (.pr p hp))(g1:go tt n fu1.n [] fr own (.code x K)=⟨vc1,fr1,own1,cf1⟩)(g2:go tt n fu2.n [] fr own (.code y K)=⟨vc2,fr2,own2,cf2⟩)
  (k1:p->ak prog GB C n Q0 fr1 own1 cf1)(k2: ¬p->ak prog GB C n Q0 fr2 own2 cf2)
  (v1:p->ah vc1:=by intro;first|exact trivial|(simp only[ah];omega)|(simp only[ah,aJ,aT,aV];omega))(v2: ¬p->ah vc2:=by intro;first|exact trivial|(simp only[ah];omega)|(simp only[ah,aJ,aT,aV];omega)):ak prog GB C n Q0 fr own (.code (.cond c x y) K):=
 .cond hc J (fun h=>fB g1 (v1 (of_decide_eq_true h)) (k1 (of_decide_eq_true h))) (fun h=>fB g2 (v2 (of_decide_eq_false h)) (k2 (of_decide_eq_false h)))
def bd[fu1:Fu][fu2:Fu]{p:Prop}{hp:Decidable p}{c:Operand}{x y:Code}(hc:aH (bc fr) c=some (.d (.v (.bool (@decide p hp)))))(g1:go tt n fu1.n [] fr own (.code x K)=⟨vc1,fr1,own1,cf1⟩)(g2:go tt n fu2.n [] fr own (.code y K)=⟨vc2,fr2,own2,cf2⟩)
  (k1:p->ak prog GB C n Q0 fr1 own1 cf1)(k2: ¬p->ak prog GB C n Q0 fr2 own2 cf2)
  (v1:p->ah vc1:=by intro;first|exact trivial|(simp only[ah];omega)|(simp only[ah,aJ,aT,aV];omega))(v2: ¬p->ah vc2:=by intro;first|exact trivial|(simp only[ah];omega)|(simp only[ah,aJ,aT,aV];omega)):ak prog GB C n Q0 fr own (.code (.cond c x y) K):=
 .cond hc J (fun h=>fB g1 (v1 (of_decide_eq_true h)) (k1 (of_decide_eq_true h))) (fun h=>fB g2 (v2 (of_decide_eq_false h)) (k2 (of_decide_eq_false h)))
def bb[fu1:Fu][fu2:Fu]{b:Bool}{c:Operand}{x y:Code}(hc:aH (bc fr) c=some (.d (.v (.bool b))))(g1:go tt n fu1.n [] fr own (.code x K)=⟨vc1,fr1,own1,cf1⟩)(g2:go tt n fu2.n [] fr own (.code y K)=⟨vc2,fr2,own2,cf2⟩)
  (k1:b=true->ak prog GB C n Q0 fr1 own1 cf1)(k2:b=false->ak prog GB C n Q0 fr2 own2 cf2)
  (v1:b=true->ah vc1:=by intro;first|exact trivial|(simp only[ah];omega)|(simp only[ah,aJ,aT,aV];omega))(v2:b=false->ah vc2:=by intro;first|exact trivial|(simp only[ah];omega)|(simp only[ah,aJ,aT,aV];omega)):ak prog GB C n Q0 fr own (.code (.cond c x y) K):=
 .cond hc J (fun h=>fB g1 (v1 h) (k1 h)) (fun h=>fB g2 (v2 h) (k2 h))
def pk{d:Nat}{f g:FX}(hl:bc fr d=some f)(hi: ∀ρ G y,bP ρ G f y->bP ρ G g y){Φ:Act->World->Prop}(h:SX GB C n (bc ((d,g)::fr)) (bh own) Φ):SX GB C n (bc fr) (bh own) Φ:=by
 refine⟨fun ρ G ov a w r=>h.run ρ G ov a w ⟨r.gb,r.h,r.sz,r.df,fun k f' e=>?_,r.bx,r.dj,r.fxd⟩⟩;rw[jE] at e;split at e
 ·cases e;rename_i hk;subst hk
  obtain⟨y,h1,h2⟩:=r.fx _ _ hl;exact⟨y,h1,hi _ _ _ h2⟩
 ·exact r.fx k f' e
def av(d:Nat){f:FX}(g:FX)(hl:bc fr d=some f)(e:f=g)(h:ak prog GB C n Q0 ((d,g)::fr) own cf):ak prog GB C n Q0 fr own cf:=by
 have hs:bc ((d,g)::fr)=bc fr:=by
  funext k;rw[jE];split
  ·rename_i hk;rw[hk,hl,e]
  ·rfl
 cases cf with
 |dr id ops fr0 own0 us r K=>exact fun D=>h ⟨D.pre,by rw[hs];exact D.st,D.snd⟩
 |_=>unfold ak at h⊢;rw[hs] at h;exact h
def kT(d:Nat){p:Prop}{hp:Decidable p}(hl:bc fr d=some (.pr p hp))(h:p)(k:ak prog GB C n Q0 ((d, .tt)::fr) own (.ops ops r K)):ak prog GB C n Q0 fr own (.ops ops r K):=
 pk hl (fun _ _ _ e=>by rw[show _=_ from e,decide_eq_true h];exact J) k
def kF(d:Nat){p:Prop}{hp:Decidable p}(hl:bc fr d=some (.pr p hp))(h: ¬p)(k:ak prog GB C n Q0 ((d, .ff)::fr) own (.ops ops r K)):ak prog GB C n Q0 fr own (.ops ops r K):=
 pk hl (fun _ _ _ e=>by rw[show _=_ from e,decide_eq_false h];exact J) k
def Vo(d:Nat)(hl:bc fr d=some .nl){e:Exit}(h:ak prog GB C n Q0 ((d, .d (.sl []))::fr) own (.ex e K)):ak prog GB C n Q0 fr own (.ex e K):=
 pk (g:= .d (.sl [])) hl (fun ρ G y hy=>(show Is G (.sl []) y from me (ρ:=ρ) (f:= .nl) hy J)) h
def PF.to{f:FuncId}{ds:List DV}{r1 r2:DV}{P:Program}(h:PF GB P f ds r1)(e:r1=r2):PF GB P f ds r2:=e▸h
def cs[fu1:Fu][fu2:Fu](d:Nat){p:Prop}{hp:Decidable p}(hl:bc fr d=some (.pr p hp))(g1:go tt n fu1.n [] ((d, .tt)::fr) own (.ops ops r K)=⟨vc1,fr1,own1,cf1⟩)(g2:go tt n fu2.n [] ((d, .ff)::fr) own (.ops ops r K)=⟨vc2,fr2,own2,cf2⟩)
  (k1:p->ak prog GB C n Q0 fr1 own1 cf1)(k2: ¬p->ak prog GB C n Q0 fr2 own2 cf2)
  (v1:p->ah vc1:=by intro;first|exact trivial|(simp only[ah];omega)|(simp only[ah,aJ,aT,aV];omega))(v2: ¬p->ah vc2:=by intro;first|exact trivial|(simp only[ah];omega)|(simp only[ah,aJ,aT,aV];omega)):ak prog GB C n Q0 fr own (.ops ops r K):=by
 by_cases h:p
 ·exact pk hl (fun _ _ _ e=>by rw[show _=_ from e,decide_eq_true h];exact J) (fB g1 (v1 h) (k1 h))
 ·exact pk hl (fun _ _ _ e=>by rw[show _=_ from e,decide_eq_false h];exact J) (fB g2 (v2 h) (k2 h))
def lv[fu1:Fu][fu2:Fu](d:Nat){b:Bool}(hl:bc fr d=some (.d (.v (.bool b))))(g1:go tt n fu1.n [] ((d, .tt)::fr) own (.ops ops r K)=⟨vc1,fr1,own1,cf1⟩)(g2:go tt n fu2.n [] ((d, .ff)::fr) own (.ops ops r K)=⟨vc2,fr2,own2,cf2⟩)
  (k1:b=true->ak prog GB C n Q0 fr1 own1 cf1)(k2:b=false->ak prog GB C n Q0 fr2 own2 cf2)
  (v1:b=true->ah vc1:=by intro;first|exact trivial|(simp only[ah];omega)|(simp only[ah,aJ,aT,aV];omega))(v2:b=false->ah vc2:=by intro;first|exact trivial|(simp only[ah];omega)|(simp only[ah,aJ,aT,aV];omega)):ak prog GB C n Q0 fr own (.ops ops r K):=by
 cases h:b with
 |true=>exact pk hl (fun _ G _ e=>by rw[(aF (G:=G)).1 e,h];exact J) (fB g1 (v1 h) (k1 h))
 |false=>exact pk hl (fun _ G _ e=>by rw[(aF (G:=G)).1 e,h];exact J) (fB g2 (v2 h) (k2 h))
def Cl:Cf->Option (Array Oper×Oper)
 | .ops ops (o::_) _=>some (ops,o)
 | .dr _ ops _ _ _ (o::_) _=>some (ops,o)
 |_=>none
def bD(fr:aA):Cf->LK
 | .dr _ ops _ _ _ (o::_) _=>lH (zU ops o) (bc fr)
 |_=>bc fr
def gu(fr:aA)(own:aG):Cf->BM
 | .dr _ ops _ _ _ (o::_) _=>lH (De o fr (zU ops o)) (bh own)
 |_=>bh own
def bad:xT:=⟨[False],[],[], .ex .normal []⟩
def cD(T:TT)(n q:Nat)(fr:aA)(own:aG)(cf:Cf)(f:FX)(bl:List (Nat×Option Bk))(nw:List Nat):xT:=match cf with
 | .ops ops (o::r) K=>bif uE nw o.dst fr own&&b9 n o.dst then q0 own bl fun own'=>xf fr o.dst f fun fr'=>go T n q [] fr' own' (.ops ops r K) else bad
 | .dr id ops fr0 own0 us (o::r) K=>bif b9 n o.dst then lc (zU ops o) fun rs=>lc (De o fr rs) fun rn=>q0 own bl fun own'=>lc (us++[⟨rs,o.dst,f,rn,bl,nw⟩]) fun us'=>xf fr o.dst f fun fr'=>go T n q [] fr' own' (.dr id ops fr0 own0 us' r K) else bad
 |_=>bad
def uF(ops:Array Oper)(lk:LK):Option (Nat×Bool)->Bool
 |none=>true
 |some (j,b)=>match ops[j]? with
  |some oj=>match oj.dst with
   |some d=>match lk d with
    |some .tt=>b
    |some .ff=>!b
    |_=>false
   |none=>false
  |none=>false
def BK{lk:LK}{bk:BM}{o:Oper}(h:uF ops lk o.guard=true): ∀ρ G ov a w,bF GB C n lk bk ρ G ov a w->Region.wanted o (yielded ops a.tmps)=true:=fun ρ G ov a w r=>by
 unfold Region.wanted;unfold uF at h;split at h
 ·rename_i e;rw[e]
 ·rename_i j b e
  rw[e];split at h<;>try (cases h;done)
  rename_i oj hj;split at h<;>try (cases h;done)
  rename_i d hd;split at h<;>try (cases h;done)
  ·rename_i hl
   obtain⟨y,h1,h2⟩:=AA r hj hd hl
   cases h1;simp only[h2];subst h;rfl
  ·rename_i hl
   obtain⟨y,h1,h2⟩:=AA r hj hd hl
   cases h1;simp only[h2];cases b<;>first|rfl|(simp at h)
def uo{q:Nat}{f:FX}{bl:List (Nat×Option Bk)}{nw:List Nat}(hh:Cl cf=some (ops,o))(hg:uF ops (bD fr cf) o.guard=true)(h:bH prog GB C n (bD fr cf) (gu fr own cf) o f bl nw)
  (hgo:cD tt n q fr own cf f bl nw=⟨vc,fr',own',cf'⟩)(hv:ah vc)(k:ak prog GB C n Q0 fr' own' cf'):ak prog GB C n Q0 fr own cf:=by
 obtain⟨dst,op,ty,pos,af,gd⟩:=o
 cases cf with
 |ops ops' r K=>
  cases r with
  |nil=>cases hh
  |cons o' r=>
   cases hh
   unfold cD at hgo
   cases hc:(uE nw dst fr own&&b9 n dst) with
   |false=>simp only[hc,cond_false,bad] at hgo;cases hgo;exact absurd hv (fun x=>x)
   |true=>
    simp only[hc,cond_true] at hgo;simp only[wk,yD] at hgo;simp only[aL] at hc;exact SX.op (h.toS hc.2 (BK hg)) (yX hc.1) (fB hgo hv k)
 |dr id ops' fr0 own0 us r K=>
  cases r with
  |nil=>cases hh
  |cons o' r=>
   cases hh
   unfold cD at hgo
   cases hc:b9 n dst with
   |false=>simp only[hc,cond_false,bad] at hgo;cases hgo;exact absurd hv (fun x=>x)
   |true=>
    simp only[hc,cond_true,sC] at hgo;simp only[wk,yD] at hgo;intro D;exact fB hgo hv k (D.push (h.toS hc (BK hg)))
 |_=>cases hh
def sI(lk:LK)(fo:Operand)(args:Array Operand):Option (FuncId×List DV):=match aH lk fo with
 |some (.d (.v (.func (.func f) ⟨[]⟩ ⟨[]⟩)))=>match evDs lk args.toList with
  |some ds=>some (f,ds)
  |none=>none
 |_=>none
def CA{lk:LK}{fo:Operand}{args:Array Operand}{f:FuncId}{ds:List DV}(h:sI lk fo args=some (f,ds)):aH lk fo=some (.d (.v (.func (.func f) #[] #[])))/\evDs lk args.toList=some ds:=by
 unfold sI at h;split at h<;>try (cases h;done)
 rename_i h1;split at h<;>cases h;rename_i h2;exact⟨h1,h2⟩
def HN{lk:LK}{bk:BM}{fo:Operand}{args:Array Operand}{tys:Array TypeId}{f:FuncId}{ds:List DV}{rv:DV}{dst:Option Nat}{ty:TypeId}{pos:String}{af:Array Edge}{gd:Option (Nat×Bool)}(ha:sI lk fo args=some (f,ds))(hF:PF GB prog f ds rv):
  bH prog GB C n lk bk ⟨dst, .call ⟨.value fo,args,tys⟩,ty,pos,af,gd⟩ (.d rv) [] []:=by
 intro hd tl tb K' s1 s2 hf hk;refine⟨fun ρ G ov a w r Q=>?_⟩;obtain⟨h1,h2⟩:=CA ha;obtain⟨y,hy,hy'⟩:=(r.mono s1 s2).ev h1;rw[(aF (G:=G)).1 hy'] at hy;obtain⟨vs,h3,h4⟩:=(r.mono s1 s2).evDs h2;refine zC hy h3 (hF G vs r.gb h4) hd (fun v G' hG hK a' w' rl=>?_) a w Q ⟨r.h,r.sz,cC a,r.df⟩;exact hk.run ρ G' ov a' w' ⟨r.gb.trans hG.le,rl.h,rl.sz,rl.df,(i6 rl).fx (fun k g _ e=>by obtain⟨u,h5,h6⟩:=r.fx k g e;exact⟨u,h5,h6.up hG.le⟩) hK,
  fun nm B e=>by obtain⟨os,h5,h6⟩:=r.bx nm B e;exact⟨os,h5.up hG.le,h6⟩,r.dj,r.fxd⟩
def ca[fu:Fu]{fo:Operand}{args:Array Operand}{tys:Array TypeId}{f:FuncId}{ds:List DV}{rv:DV}{dst:Option Nat}{ty:TypeId}{pos:String}{af:Array Edge}{gd:Option (Nat×Bool)}(hh:Cl cf=some (ops,⟨dst, .call ⟨.value fo,args,tys⟩,ty,pos,af,gd⟩))
  (hg:uF ops (bD fr cf) gd=true)(ha:sI (bD fr cf) fo args=some (f,ds))(hF:PF GB prog f ds rv)(hgo:cD tt n fu.n fr own cf (.d rv) [] []=⟨vc,fr',own',cf'⟩)(k:ak prog GB C n Q0 fr' own' cf')(hv:ah vc:=by first|exact trivial|(simp only[ah];kernel_rfl)|(simp only[ah];omega)|(simp only[ah,aJ,aT,aV];omega)):ak prog GB C n Q0 fr own cf:=
 uo hh hg (HN ha hF) hgo hv k
def qe(T:TT)(fr:aA)(own:aG):List ResultVar->Option (List DV)
 |[]=>some []
 | .tmp t::rs=>match bc fr t with
  |some f=>match jq f with
   |some d=>match qe T fr own rs with
    |some l=>some (d::l)
    |none=>none
   |none=>none
  |none=>none
 | .cell a t::rs=>match bc fr a with
  |some (.ov nm 0)=>match dt T t with
   |some i=>match bh own nm with
    |some (.o _ cs _)=>match i.ag with
     |some (some k)=>match takeX cs 0 k with
      |some c=>match kv c with
       |some d=>match qe T fr own rs with
        |some l=>some (.ag d::l)
        |none=>none
       |none=>none
      |none=>none
     |some none=>match cs[0]? with
      |some c=>match jq c with
       |some d=>match qe T fr own rs with
        |some l=>some (d::l)
        |none=>none
       |none=>none
      |none=>none
     |none=>none
    |_=>none
   |none=>none
  |_=>none
def yL{ρ:NE}{G:Gh}{ov:List ao}{a:Act}{w:World}(h:bF GB C n (bc fr) (bh own) ρ G ov a w): ∀{rs:List ResultVar} {ds:List DV},qe tt fr own rs=some ds-> ∃vs,ku prog (co a) ov rs vs/\IsLs G ds vs:=by
 intro rs
 induction rs with
 |nil=>intro ds e;cases e;exact⟨[], .nil, .nil⟩
 |cons x rs ih=>
  intro ds e
  cases x with
  |tmp t=>
   simp only[qe] at e;split at e<;>try (cases e;done)
   rename_i f hf;split at e<;>try (cases e;done)
   rename_i d hd;split at e<;>cases e;rename_i l hl;obtain⟨vs,h1,h2⟩:=ih hl;obtain⟨y,h3,h4⟩:=h.fx t f hf;exact⟨y::vs, .tmp (yb h3) h1, .cons (me h4 hd) h2⟩
  |cell t ty=>
   simp only[qe] at e;split at e<;>try (cases e;done)
   rename_i nm hf;split at e<;>try (cases e;done)
   rename_i i hi;split at e<;>try (cases e;done)
   rename_i hb;obtain⟨y,h3,h4⟩:=h.fx t _ hf;obtain⟨b,m,rfl,h5,h6,h7⟩:=h.own h4 hb;have oat:io ov b m _ _:=⟨h7⟩;split at e<;>try (cases e;done)
   ·rename_i k ha
    split at e<;>try (cases e;done)
    rename_i c hc;split at e<;>try (cases e;done)
    rename_i d hd;split at e<;>cases e;rename_i l hl;obtain⟨vs,h1,h2⟩:=ih hl;obtain⟨l',h8,h9⟩:=h6.takeX hc;exact⟨.agg ⟨l'⟩::vs, .agg (yb h3) oat (wW (et _ _ hi) ha) h8 h1, .cons (c8.2 ⟨l',J,ul h9 hd⟩) h2⟩
   ·rename_i ha
    split at e<;>try (cases e;done)
    rename_i c hc;split at e<;>try (cases e;done)
    rename_i d hd;split at e<;>cases e;rename_i l hl;obtain⟨vs,h1,h2⟩:=ih hl;obtain⟨l',h8,h9⟩:=h6.get hc;exact⟨l'::vs, .sc (yb h3) oat (xX (et _ _ hi) ha) h8 h1, .cons (me h9 hd) h2⟩
def zZ:Exit->Bool
 | .ret=>true
 | .normal=>true
 |_=>false
def rz{fb:Func}{e:Exit}{ds:List DV}{rv:DV}(hr:qe tt fr own fb.results.toList=some ds)(hd:i9 ds=rv)(he:zZ e=true:=by rfl):ak prog GB C n (fp C prog fb (jp C (fun v G'=>Is G' rv v))) fr own (.ex e []):=by
 refine⟨fun ρ G ov a w r=>?_⟩;obtain⟨vs,h1,h2⟩:=yL r hr;have hk:Is G rv (gH vs):=hd▸zk h2
 cases e with
 |ret=>exact zD (C:=C) (n:=n) (fr:=co a) (own:=ov) (G:=G) (K:=fun v G'=>Is G' rv v) h1 hk a w ⟨r.h,r.sz,cC a,r.df⟩
 |normal=>exact Pz (C:=C) (n:=n) (fr:=co a) (own:=ov) (G:=G) (K:=fun v G'=>Is G' rv v) h1 hk a w ⟨r.h,r.sz,cC a,r.df⟩
 |_=>cases he
end
end Go.Sx
end
section
namespace Go.Sx
open Go
section
variable {P:Program} {GB:Gh} {C:aD} {n:Nat} {E:o4} {fr fr':d8} {own own':List dl} {bs bs' bs1:List dP} {ops:Array Oper} {Q:Exit->Act->World->Prop} {r:List Oper} {Φ:Act->World->Prop}
variable {dst:Option Nat} {t t' ty':TypeId} {pos:String} {af:Array Edge} {gd:Option (Nat×Bool)} {x y z:Operand} {e s by_:Nat}
class aKW (P:Program) (t:TypeId) (d:outParam DV):Prop where
 z: ∃z,gj P t z/\Is (fun _=>none) d z/\d.okc=true
abbrev SV.f (w:SV):FV:= .d (.v (.slice w.a w.n w.c))
def Wa(z:Value)(k:Nat):aB (List.replicate k z)=cO z k:=by unfold aB cO;rw[List.map_replicate]
def KL{G:Gh}{d:DV}{y:Value}(h:Is G d y): ∀k:Nat,IsLs G (List.replicate k d) (List.replicate k y)
 |0=> .nil
 |k+1=> .cons h (KL h k)
def SF(fr:d8):Nat->List (Nat×Operand)->Option (List DV)
 |_,[]=>some []
 |j,(i,x)::r=>match Bx fr x,SF fr (j+1) r with
  |some d,some l=>bif Nat.beq i j then some (d::l) else none
  |_,_=>none
def Ot(pre mid post vs:List Value)(h:vs.length=mid.length):cB (pre++(mid++post)) pre.length vs=pre++(vs++post):=by
 rw[o5 _ _ _ (by simp;omega)];simp[h]
def Y9(z:Value)(k:Nat):cO z (k+1)=aE z++cO z k:=by simp[cO,jK]
def Ca(s:Nat)(ds:List DV):Bool:=ds.all fun d=>d.okc&&Nat.beq d.cells.length s
def D7{ds:List DV}(h:Ca s ds=true):ew s ds:=fun d hd=>by
 have:=fZ.1 h d hd;simp only[aL] at this;exact⟨this.1,aU this.2⟩
def P2{cs:List Value}{off s:Nat}: ∀(es:List Value),(∀i (h:i<es.length),cF cs (off+i*s) s=some (aE es[i]))->off<=cs.length->cF cs off (es.length*s)=some (aB es)
 |[],_,ho=>by
  rw[lC _ _ _ (by simpa using ho)];simp[aB]
 |v::t,h,ho=>by
  have h0:=h 0 (by simp);simp only[kU,eY,oS] at h0;obtain⟨k1,k2⟩:=Ae h0;have ih:=P2 (off:=off+s) t (fun i hi=>by
   have:=h (i+1) (by simpa using hi);rw[gU,show off+(i*s+s)=off+s+i*s by omega] at this;simpa using this) (by omega)
  obtain⟨k3,k4⟩:=Ae ih;rw[lC _ _ _ (by simp only[bW,gU];omega)];congr 1;have e1:aB (v::t)=aE v++aB t:=by simp[aB]
  rw[e1,k2,k4,bW,gU,kX (t.length*s) s,List.take_add,tK]
def aDO{ov:List ao}{G:Gh}{w:SV}{es:List Value}(h:eB G s w es):l7 P C ov G s w.n (.slice w.a w.n w.c) (aB es):=by
 rcases h.mem with he|⟨b,off,cs,ha,hg,hc⟩
 ·subst he
  rw[h.len];exact uR
 ·rw[ha]
  by_cases he:es=[]
  ·subst he;rw[h.len];exact uR
  ·have hp:0<es.length:=qX.2 he
   have h0:=hc 0 hp;have:=(Ae h0).1;rw[h.len];exact Js hg (P2 es hc (by omega))
def aKG(fr:d8)(bs:List dP)(s:Nat)(y:Operand)(ds:List DV):Prop:=
 (∃l,Bx fr y=some (.sl l)/\l=ds/\ew s l)\/ ∃w ty lo,E9 fr y=some w.f/\(⟨w,s,ty,ds,lo⟩:dP)∈bs/\ew s ds
def aj4[hT:cj P t e s by_][hN:jO P t']{w:World}{ad2:Option Addr}{cap2:Nat}:(Builtin.append_ #[t,t'] ty' #[.slice none 0 0, .slice ad2 0 cap2]).run P w= .ok (.slice none 0 0) w:=by
 obtain⟨d,hd1⟩:=hN.un;obtain⟨i,hi,his,hib⟩:=hT.info;have h0:(Builtin.firstCells i.size 0 (.slice ad2 0 cap2)).run P w= .ok #[] w:=by
  cases ad2 with
  |none=>rfl
  |some a=>unfold Builtin.firstCells loadCells;simp[loadCellsFrom,run_pure]
 simp[Builtin.append_,run_underlying hT.un,run_underlying hd1,sizeOf,typeInfo,hi,Builtin.lenOf,h0]
def Lt[hT:cj P t e s by_][hN:jO P t']{fr:Fr}{own:List ao}{G:Gh}{ad2:Option Addr}{cap2:Nat}(hx:aw fr x=some (.slice none 0 0))(hy:aw fr y=some (.slice ad2 0 cap2))(hd:b9 n dst=true)
  (h:St C n (put fr dst (.slice none 0 0)) own G Φ):Ch P C n fr own G ⟨dst, .call ⟨.builtin .append, #[x,y], #[t,t']⟩,ty',pos,af,gd⟩ Φ:=by
 intro a w Q rl;refine kg (v:= .slice none 0 0) (w':=w) ?_ (h _ _ (rl.put _ hd));simp only[execOp,resolve,gS,bS,dR,bi rl.fr hx,bi rl.fr hy];exact cP aj4
def de.upd{G:Gh}{w:SV}{s:Nat}{ty:TypeId}{ds:List DV}{lo:Bool}{B:List ao}(h:de G ⟨w,s,ty,ds,lo⟩ B){i:Nat}{d:DV}(hi:ds[i]? =some d):
  ∃b vs rest lo',w.a=some ⟨b,0,none⟩/\B=[⟨b,aB vs++rest,ty,lo'⟩]/\IsLs G ds vs/\(∀v∈vs,(aE v).length=s)/\i<vs.length/\
   ∀u d',Is G d' u->(aE u).length=s->de G ⟨w,s,ty,ds.set i d',lo⟩ [⟨b,aB (vs.set i u)++rest,ty,lo'⟩]:=by
 obtain⟨vs,hB,hv,hs,hlo⟩:=h;obtain⟨v,h1,h2⟩:=hv.get hi;obtain⟨hi',_⟩:=aR.1 h1;rcases hB with⟨e,_,_⟩|⟨b,rest,lo',h3,h4,h5,h6,h7⟩
 ·rw[e] at h1;simp at h1
 ·refine⟨b,vs,rest,lo',by simp only[] at h3;rw[h3],h4,hv,hs,hi',fun u d' hu hul=>?_⟩
  have hall: ∀x∈vs.set i u,(aE x).length=s:=fun x hx=>by
   rcases pM hx with h'|rfl
   ·exact hs x h'
   ·exact hul
  refine⟨vs.set i u, .inr ⟨b,rest,lo',by simpa using h3,J,d7 _ hall,?_,by simpa using h7⟩,hv.set i hu,hall,fun hl o ho=>?_⟩
  ·rw[d7 _ hall,aT,<-h5];exact h6
  ·have:=hlo hl
   rw[h4] at this;rw[aW.1 ho];have h9:=this ⟨b,aB vs++rest,ty,lo'⟩ aQ;exact h9
def ats{s:Nat}{rest:List Value}{u:Value}(vs:List Value)(i:Nat)(h:i<vs.length)(hs: ∀v∈vs,(aE v).length=s)(hu:(aE u).length=s):cB (aB vs++rest) (i*s) (aE u)=aB (vs.set i u)++rest:=by
 have hl:=d7 vs hs;have hle:i*s+s<=vs.length*s:=by rw[<-gU];exact bT _ h
 rw[o5 _ _ _ (by rw[hu,aS];omega),hu,eK (by omega),jU (by omega),DN vs i hs (by omega),<-gU,BG vs (i+1) hs h,
  List.set_eq_take_append_cons_drop,if_pos h,show vs.take i++u::vs.drop (i+1)=vs.take i++([u]++vs.drop (i+1)) from J,mC,mC,wm]
 simp
def reF(ks:List Nat)(f:FV)(fr:d8):d8:=ks.map (fun k=>(k,f))++fr
end
end Go.Sx
end
section
namespace Go.Sx
open Go Go.Proofs Tryz
section
variable {GB:Gh} {C:aD} {n:Nat} {Q0:Exit->Act->World->Prop} {fr fr':aA} {own own':aG} {cf cf':Cf} {vc vc':List Prop} {ops:Array Oper} {r:List Oper} {o:Oper} {K:List Kt}
def om(row:Bool)(nm:Nat)(l:List DV):FX->FX
 | .rw m=>bif Nat.beq m nm then(bif row then .d (.sl l) else .no) else .rw m
 | .ov m off=>bif Nat.beq m nm then(bif row then .no else(match off with
  |0=> .d (.pt l)
  |_+1=> .no)) else .ov m off
 | .be m s i j=>bif Nat.beq m nm then .no else .be m s i j
 | .rs m s i j=>bif Nat.beq m nm then .no else .rs m s i j
 | .bx tp pre m post=>bif Nat.beq m nm then(bif row then(match tp with
  |true=> .d (.tp (pre++ .sl l::post))
  |false=> .d (.ag (pre++ .sl l::post))) else .no) else .bx tp pre m post
 |f=>f
def yx{α:Type}(f:FX)(k:FX->α):α:=match f with
 | .d x=>k (.d x)
 | .rw m=>k (.rw m)
 | .ov a b=>k (.ov a b)
 | .be a b c d=>k (.be a b c d)
 | .rs a b c d=>k (.rs a b c d)
 |f=>k f
def DW{α:Type}{f:FX}{k:FX->α}:yx f k=k f:=by cases f<;>rfl
def zQ{α:Type}(row:Bool)(nm:Nat)(l:List DV):aA->(aA->α)->α
 |[],k=>k []
 |(j,f)::t,k=>zQ row nm l t fun t'=>yx (om row nm l f) fun f'=>k ((j,f')::t')
def DK{α:Type}(row:Bool)(nm:Nat)(l:List DV):List FX->(List FX->α)->α
 |[],k=>k []
 |f::t,k=>DK row nm l t fun t'=>yx (om row nm l f) fun f'=>k (f'::t')
def AF{α:Type}(row:Bool)(nm:Nat)(l:List DV):aG->(aG->α)->α
 |[],k=>k []
 |(j,B)::t,k=>AF row nm l t fun t'=>bif Nat.beq j nm then k ((j,none)::t') else match B with
  |some (.o ty cs lo)=>DK row nm l cs fun cs'=>k ((j,some (.o ty cs' lo))::t')
  |B=>k ((j,B)::t')
def uJ(row:Bool)(nm:Nat)(l:List DV):Option Bk->Option Bk
 |some (.o ty cs lo)=>some (.o ty (cs.map (om row nm l)) lo)
 |B=>B
def KT{α:Type}{row:Bool}{nm:Nat}{l:List DV}: ∀{cs:List FX} {k:List FX->α},DK row nm l cs k=k (cs.map (om row nm l))
 |[],k=>rfl
 |f::t,k=>by simp only[DK,DW];rw[KT];rfl
def D9{α:Type}{row:Bool}{nm:Nat}{l:List DV}: ∀{fr:aA} {k:aA->α},zQ row nm l fr k=k (fr.map fun e=>(e.1,om row nm l e.2))
 |[],k=>rfl
 |(j,f)::t,k=>by simp only[zQ,DW];rw[D9];rfl
def GK{α:Type}{row:Bool}{nm:Nat}{l:List DV}: ∀{own:aG} {k:aG->α},AF row nm l own k=k (own.map fun e=>(e.1,bif Nat.beq e.1 nm then none else uJ row nm l e.2))
 |[],k=>rfl
 |(j,B)::t,k=>by
  simp only[AF,GK (own:=t),bS]
  cases Nat.beq j nm with
  |true=>rfl
  |false=>
   cases B with
   |none=>rfl
   |some B=>cases B<;>simp only[cond_false,KT,uJ]
def BY{g:FX->FX}: ∀{fr:aA} {k:Nat},bc (fr.map fun e=>(e.1,g e.2)) k=(bc fr k).map g
 |[],k=>rfl
 |(j,f)::t,k=>by
  simp only[bS];rw[jE,jE,BY (fr:=t)];split<;>rfl
def Nx{row:Bool}{nm:Nat}{l:List DV}: ∀{own:aG} {k:Nat},bh (own.map fun e=>(e.1,bif Nat.beq e.1 nm then none else uJ row nm l e.2)) k=if k=nm then none else uJ row nm l (bh own k)
 |[],k=>by simp[bh,uJ]
 |(j,B)::t,k=>by
  simp only[bS];rw[i7,i7,Nx (own:=t)];by_cases h:k=j
  ·subst h
   simp only[if_true];by_cases e:k=nm
   ·subst e;simp
   ·have:Nat.beq k nm=false:=by
     cases hb:Nat.beq k nm with
     |false=>rfl
     |true=>exact absurd (aU hb) e
    simp[this,e]
  ·simp[h]
structure yU where
 fr:aA
 own:aG
def yC(fr:aA)(own:aG)(nm:Nat):Option yU:=match bh own nm with
 |some (.b _ _ ds true)=>zQ true nm ds fr fun fr'=>AF true nm ds own fun own'=>some ⟨fr',own'⟩
 |some (.o _ cs true)=>match kv cs with
  |some l=>zQ false nm l fr fun fr'=>AF false nm l own fun own'=>some ⟨fr',own'⟩
  |none=>none
 |_=>none
def jw.of_mem{o:ao}: ∀{own:List ao},o∈own-> ∃own',jw own o own'/\ ∀x∈own,x.b≠o.b->x∈own'
 |[],h=>by cases h
 |x::t,h=>by
  rcases aY.1 h with rfl|h
  ·exact⟨t, .hd ..,fun y hy hb=>(aY.1 hy).elim (fun e=>absurd (by rw[e]) hb) id⟩
  ·obtain⟨own',h1,h2⟩:=jw.of_mem h
   exact⟨x::own', .tl _ _ _ _ h1,fun y hy hb=>(aY.1 hy).elim (fun e=>by rw[e];exact aQ) (fun e=>aZ _ (h2 y e hb))⟩
def Pv{row:Bool}{nm:Nat}{l:List DV}{ρ:NE}{G G':Gh}{f:FX}{y:Value}(hg:bz G G')(h:bP ρ G f y)(hr:row=true-> ∀y,bP ρ G (.rw nm) y->Is G' (.sl l) y)(ho:row=false-> ∀y,bP ρ G (.ov nm 0) y->Is G' (.pt l) y):bP ρ G' (om row nm l f) y:=by
 cases f with
 |rw m=>
  simp only[om]
  cases hb:Nat.beq m nm with
  |false=>exact h.up hg
  |true=>
   cases aU hb
   cases row with
   |true=>exact hr J y h
   |false=>trivial
 |ov m off=>
  simp only[om]
  cases hb:Nat.beq m nm with
  |false=>exact h.up hg
  |true=>
   cases aU hb
   cases row with
   |true=>trivial
   |false=>cases off with
    |zero=>exact ho J y h
    |succ=>trivial
 |be m s i j=>
  simp only[om]
  cases hb:Nat.beq m nm with
  |false=>exact h.up hg
  |true=>trivial
 |rs m s i j=>
  simp only[om]
  cases hb:Nat.beq m nm with
  |false=>exact h.up hg
  |true=>trivial
 |bx tp pre m post=>
  simp only[om]
  cases hb:Nat.beq m nm with
  |false=>exact h.up hg
  |true=>
   cases aU hb
   cases row with
   |false=>trivial
   |true=>
    obtain⟨m1,m2,e,h1,h2⟩:=h;have hl:=(h1.up hg).app (.cons (hr J _ J) (h2.up hg))
    cases tp with
    |true=>exact iF.2 ⟨_,e,hl⟩
    |false=>exact c8.2 ⟨_,e,hl⟩
 |_=>exact h.up hg
def Pq{row:Bool}{nm:Nat}{l:List DV}{ρ:NE}{G G':Gh}(hg:bz G G')(hr:row=true-> ∀y,bP ρ G (.rw nm) y->Is G' (.sl l) y)(ho:row=false-> ∀y,bP ρ G (.ov nm 0) y->Is G' (.pt l) y): ∀{cs:List FX} {m:List Value},dG ρ G cs m->dG ρ G' (cs.map (om row nm l)) m
 |[],m,h=>h
 |f::t,m,⟨y,q,e,h1,h2⟩=>⟨y,q,e,Pv hg h1 hr ho,Pq hg hr ho h2⟩
def bF.frz{ρ:NE}{G G':Gh}{ov ov':List ao}{a:Act}{w:World}{row:Bool}{nm:Nat}{l:List DV}(h:bF GB C n (bc fr) (bh own) ρ G ov a w)(hg:bz G G')(hh:bp C ov' G' w)(hv: ∀o∈ov,(ρ nm).a≠some ⟨o.b,0,none⟩->o∈ov'){B0:Bk}(hb:bh own nm=some B0)
  (hr:row=true-> ∀y,bP ρ G (.rw nm) y->Is G' (.sl l) y)(ho:row=false-> ∀y,bP ρ G (.ov nm 0) y->Is G' (.pt l) y):
  bF GB C n (bc (fr.map fun e=>(e.1,om row nm l e.2))) (bh (own.map fun e=>(e.1,bif Nat.beq e.1 nm then none else uJ row nm l e.2))) ρ G' ov' a w:=by
 have inv: ∀m B,bh (own.map fun e=>(e.1,bif Nat.beq e.1 nm then none else uJ row nm l e.2)) m=some B->m≠nm/\ ∃B1,bh own m=some B1/\uJ row nm l (some B1)=some B:=fun m B e=>by
  rw[Nx] at e;split at e
  ·cases e
  ·rename_i hm
   refine⟨hm,?_⟩
   cases hl:bh own m with
   |none=>rw[hl] at e;cases e
   |some B1=>rw[hl] at e;exact⟨B1,J,e⟩
 refine⟨h.gb.trans hg,hh,h.sz,h.df,fun k f e=>?_,fun m B e=>?_,fun m m' B B' e e'=>?_,h.fxd⟩
 ·rw[BY] at e
  cases hf:bc fr k with
  |none=>rw[hf] at e;cases e
  |some g=>
   rw[hf] at e;cases e;obtain⟨y,h1,h2⟩:=h.fx k g hf;exact⟨y,h1,Pv hg h2 hr ho⟩
 ·obtain⟨hm,B1,h1,h2⟩:=inv m B e
  obtain⟨os,h3,h4⟩:=h.bx m B1 h1;refine⟨os,?_,fun o ho'=>hv o (h4 o ho') fun hc=>h.dj m nm B1 B0 h1 hb hm _ (h3.blk ho') hc⟩
  cases B1 with
  |b=>cases h2;exact h3.up hg
  |c=>cases h2;exact h3.up hg
  |o ty cs lo=>cases h2;obtain⟨b,q,h5,h6,h7⟩:=h3;exact⟨b,q,h5,h6,Pq hg hr ho h7⟩
 ·obtain⟨_,B1,h1,_⟩:=inv m B e
  obtain⟨_,B2,h2,_⟩:=inv m' B' e';exact h.dj m m' B1 B2 h1 h2
def bF.frzRow{lk:LK}{bk:BM}{ρ:NE}{G:Gh}{ov:List ao}{a:Act}{w:World}{nm:Nat}{ty:TypeId}{s:Nat}{ds:List DV}(r:bF GB C n lk bk ρ G ov a w)(hb:bk nm=some (.b ty s ds true)):
  ∃G' ov',bz G G'/\bp C ov' G' w/\(∀o∈ov,(ρ nm).a≠some ⟨o.b,0,none⟩->o∈ov')/\ ∀y,bP ρ G (.rw nm) y->Is G' (.sl ds) y:=by
 obtain⟨B,⟨vs,hB,hv,hs,hlo⟩,hBo⟩:=r.row (y:= .nilFunc) hb;rcases hB with⟨e1,e2,e3⟩|⟨b,rest,lo',e2,e3,h5,h6,h7⟩
 ·subst e1
  have ed:ds=[]:=bL (by rw[<-hv.len];rfl);subst ed;simp only at e2;refine⟨G,ov,bz.refl _,r.h,fun o ho _=>ho,fun y hy=>?_⟩;rw[show y=_ from hy,e2];exact ij.2 ⟨0,⟨none,0,0⟩,[],J, .nil G 0, .nil⟩
 ·subst e3
  have hl:=hlo J _ aQ;simp only at hl;subst hl;obtain⟨ov',o1,o2⟩:=jw.of_mem (hBo _ aQ);obtain⟨f1,f2⟩:=r.h.freeze o1;simp only at e2;refine⟨_,ov',f2,f1,fun o ho hne=>o2 o ho fun e=>hne (by rw[e2,e]),fun y hy=>?_⟩;rw[show y=_ from hy,e2];exact ij.2 ⟨s,⟨some ⟨b,0,none⟩,vs.length,_⟩,vs,J,eB.of_flat hs (if_pos J) h7,hv.up f2⟩
def bF.frzVar{lk:LK}{bk:BM}{ρ:NE}{G:Gh}{ov:List ao}{a:Act}{w:World}{nm:Nat}{ty:TypeId}{cs:List FX}{l:List DV}(r:bF GB C n lk bk ρ G ov a w)(hb:bk nm=some (.o ty cs true))(hl:kv cs=some l):
  ∃G' ov',bz G G'/\bp C ov' G' w/\(∀o∈ov,(ρ nm).a≠some ⟨o.b,0,none⟩->o∈ov')/\ ∀y,bP ρ G (.ov nm 0) y->Is G' (.pt l) y:=by
 obtain⟨os,⟨b,m,h3,rfl,h4⟩,h5⟩:=r.bx _ _ hb;obtain⟨ov',o1,o2⟩:=jw.of_mem (h5 _ aQ);obtain⟨f1,f2⟩:=r.h.freeze o1;refine⟨_,ov',f2,f1,fun o ho hne=>o2 o ho fun e=>hne (by rw[h3,e]),fun y hy=>?_⟩;obtain⟨b',h6,rfl⟩:=hy;rw[h3] at h6;cases h6;exact oH.2 ⟨b,m,J,if_pos J,(ul h4 hl).up f2⟩
def Fp{nm:Nat}{Φ:Act->World->Prop}{R:yU}(h:yC fr own nm=some R)(hk:SX GB C n (bc R.fr) (bh R.own) Φ):SX GB C n (bc fr) (bh own) Φ:=by
 refine⟨fun ρ G ov a w r=>?_⟩;unfold yC at h;split at h<;>try (cases h;done)
 ·rename_i ty s ds hb
  rw[D9,GK] at h;cases h;obtain⟨G',ov',h1,h2,h3,h4⟩:=r.frzRow hb;exact hk.run ρ G' ov' a w (r.frz (row:=true) h1 h2 h3 hb (fun _=>h4) (fun e=>by cases e))
 ·rename_i ty cs hb
  split at h<;>try (cases h;done)
  rename_i l hl;rw[D9,GK] at h;cases h;obtain⟨G',ov',h1,h2,h3,h4⟩:=r.frzVar hb hl;exact hk.run ρ G' ov' a w (r.frz (row:=false) h1 h2 h3 hb (fun e=>by cases e) (fun _=>h4))
def fz[fu:Fu](nm:Nat){fr1:aA}{own1:aG}(h:yC fr own nm=some ⟨fr1,own1⟩)(hgo:go tt n fu.n [] fr1 own1 (.ops ops r K)=⟨vc,fr',own',cf'⟩)(k:ak prog GB C n Q0 fr' own' cf')(hv:ah vc:=by first|exact trivial|(simp only[ah];kernel_rfl)|(simp only[ah];omega)|(simp only[ah,aJ,aT,aV];omega)):ak prog GB C n Q0 fr own (.ops ops r K):=
 Fp h (fB hgo hv k)
def mp(nm:Nat){fr1:aA}{own1:aG}{e:Exit}(h:yC fr own nm=some ⟨fr1,own1⟩)(k:ak prog GB C n Q0 fr1 own1 (.ex e K)):ak prog GB C n Q0 fr own (.ex e K):=Fp h k
def yJ(nm:Nat){fr1:aA}{own1:aG}{c:Code}(h:yC fr own nm=some ⟨fr1,own1⟩)(k:ak prog GB C n Q0 fr1 own1 (.code c K)):ak prog GB C n Q0 fr own (.code c K):=Fp h k
def tu:aA->aA->Prop
 |[],_=>True
 |(k,v)::t,fr=>bc fr k=some v/\tu t fr
def xv:aG->aG->Prop
 |[],_=>True
 |(k,v)::t,own=>bh own k=v/\xv t own
def wj: ∀{f:aA},tu f fr->jD (bc f) (bc fr)
 |[],_,k,x,h=>by cases h
 |(j,v)::t,h,k,x,e=>by
  rw[jE] at e;split at e
  ·cases e;rename_i hk;rw[hk];exact h.1
  ·exact wj h.2 k x e
def vO: ∀{f:aG},xv f own->jD (bh f) (bh own)
 |[],_,k,x,h=>by cases h
 |(j,v)::t,h,k,x,e=>by
  rw[i7] at e;split at e
  ·rename_i hk;rw[hk,h.1,e]
  ·exact vO h.2 k x e
def oB{k:Nat}{q:IntKind}{a b:Int}(h:bc fr k=some (.d (.v (.int q a))))(e:a=b):bc fr k=some (.d (.v (.int q b))):=e▸h
def GF(GB:Gh)(C:aD)(n:Nat){X:Type}(F:X->aA)(O:X->aG)(I:X->Prop)(a:Act)(w:World):Prop:=
 ∃x ρ G ov,I x/\bF GB C n (bc (F x)) (bh (O x)) ρ G ov a w
def Er:List Oper->List Nat->List Nat
 |[],l=>l
 |o::r,l=>match o.dst with
  |some d=>d::Er r l
  |none=>Er r l
def vf:Code->List Nat->List Nat
 | .region _ ops _,l=>Er ops.toList l
 | .seq a b,l=>vf a (vf b l)
 | .cond _ a b,l=>vf a (vf b l)
 | .block _ a,l=>vf a l
 | .loop a,l=>vf a l
 | .scope a,l=>vf a l
 |_,l=>l
def Im{α:Type}:List Nat->aA->(aA->α)->α
 |_,[],k=>k []
 |l,(j,f)::t,k=>bif uK l j then Im l t k else Im (j::l) t fun t'=>k ((j,f)::t')
def Ba{α:Type}:List Nat->aG->(aG->α)->α
 |_,[],k=>k []
 |l,(j,B)::t,k=>bif uK l j then Ba l t k else match B with
  |some B=>Ba l t fun t'=>k ((j,some B)::t')
  |none=>Ba l t k
structure Kp where
 fr:aA
 own:aG
def keep(c:Code)(uf uo:List Nat)(fr:aA)(own:aG):Kp:=lc (vf c uo) fun m=>lc (uf++m) fun m'=>Im m' fr fun fr'=>Ba m own fun own'=>⟨fr',own'⟩
def lp[fu:Fu]{c:Code}{X:Type}(U:X->aA)(V:X->aG)(I:X->Prop)(μ:X->Nat)(x0:X){kf:aA}{ko:aG}{cf':X->Cf}{fr':X->aA}{own':X->aG}{vc:X->List Prop}(hkp:keep c ((U x0).map (·.1)) ((V x0).map (·.1)) fr own=⟨kf,ko⟩)(hI:I x0)
  (hgo: ∀x,go tt n fu.n [] (U x++kf) (V x++ko) (.code c (.ag (GF GB C n (fun y=>U y++kf) (fun y=>V y++ko) (fun y=>I y/\μ y<μ x))::K))=⟨vc x,fr' x,own' x,cf' x⟩)
  (round: ∀x,I x->ak prog GB C n Q0 (fr' x) (own' x) (cf' x))(hF:tu (U x0++kf) fr:=by repeat (first|exact trivial|refine And.intro J ?_|refine And.intro (oB J (by first|omega|(dsimp only;omega))) ?_|refine And.intro (oB J (by simp)) ?_))(hO:xv (V x0++ko) own:=by repeat (first|exact trivial|refine And.intro J ?_))
  (hv: ∀x,I x->ah (vc x):=by intros;first|exact trivial|(simp only[ah];kernel_rfl)|(simp only[ah];omega)|(simp only[ah,aJ,aT,aV];omega)):ak prog GB C n Q0 fr own (.code (.loop c) K):=by
 refine⟨fun ρ G ov a w r=>?_⟩;have r0:=r.mono (wj hF) (vO hO);intro b k cs hro hb hrm;have key: ∀m a w,(∃x ρ G ov,I x/\μ x=m/\bF GB C n (bc (U x++kf)) (bh (V x++ko)) ρ G ov a w)->
   ∃e a' w',cQ C.rd prog Q0 K e a' w'/\ArrivesIn (Machine.fenced prog (FW C.rd)) prog (lone (b.atR a (.code c:: .inLoop c::k)) cs w) b k cs e a' w':=by
  intro m
  induction m using Nat.strongRecOn with
  |_ m ih=>
   intro a w ⟨x,ρ,G,ov,hx,hm,hr⟩;have h1:=fB (GB:=GB) (C:=C) (Q0:=Q0) (hgo x) (hv x hx) (round x hx);obtain⟨e,a₁,w₁,hq,harr⟩:=h1.run ρ G ov a w hr b (.inLoop c::k) cs hro hb hrm
   cases e with
   |normal=>
    obtain⟨x',ρ',G',ov',⟨hx',hlt⟩,hr'⟩:=hq;obtain⟨e₂,a₂,w₂,hq₂,harr₂⟩:=ih (μ x') (hm▸hlt) a₁ w₁ ⟨x',ρ',G',ov',hx',rfl,hr'⟩;exact⟨e₂,a₂,w₂,hq₂, .of_steps (StepsIn.trans harr (.one (fenced_calm hb hrm J) stepR_inLoop)) harr₂⟩
   |exit id=>exact⟨_,a₁,w₁,hq, .pass (x:= .inLoop c) J (fun _ _=> .inl (by simp)) harr⟩
   |goto l=>exact⟨_,a₁,w₁,hq, .pass (x:= .inLoop c) J (fun _ _=> .inl (by simp)) harr⟩
   |ret=>exact⟨_,a₁,w₁,hq, .pass (x:= .inLoop c) J (fun _ _=> .inl (by simp)) harr⟩
   |panic ch=>exact⟨_,a₁,w₁,hq, .pass (x:= .inLoop c) J (fun _ _=> .inl (by simp)) harr⟩
   |outgrown=>exact⟨_,a₁,w₁,hq, .pass (x:= .inLoop c) J (fun _ _=> .inl (by simp)) harr⟩
 obtain⟨e,a',w',q,rr⟩:=key (μ x0) a w ⟨x0,ρ,G,ov,hI,rfl,r0⟩;exact⟨e,a',w',q, .of_steps (.one (fenced_calm hb hrm J) stepR_loop) rr⟩
def at_{X:Type}{F:X->aA}{O:X->aG}{I:X->Prop}(x:X)(hI:I x)(hF:tu (F x) fr:=by repeat (first|exact trivial|refine And.intro J ?_|refine And.intro (oB J (by first|omega|(dsimp only;omega))) ?_|refine And.intro (oB J (by simp)) ?_))(hO:xv (O x) own:=by repeat (first|exact trivial|refine And.intro J ?_)):ak prog GB C n Q0 fr own (.ex .normal (.ag (GF GB C n F O I)::K)):=
 ⟨fun ρ G ov a w r=>⟨x,ρ,G,ov,hI,r.mono (wj hF) (vO hO)⟩⟩
def mg[fu:Fu]{c d:Code}{X:Type}(U:X->aA)(V:X->aG)(I:X->Prop){kf:aA}{ko:aG}{cf':X->Cf}{fr':X->aA}{own':X->aG}{vc:X->List Prop}(u0 v0:List Nat)(hkp:keep c u0 v0 fr own=⟨kf,ko⟩)
  (h1:ak prog GB C n Q0 fr own (.code c (.ag (GF GB C n (fun y=>U y++kf) (fun y=>V y++ko) I)::K)))
  (hgo: ∀x,go tt n fu.n [] (U x++kf) (V x++ko) (.code d K)=⟨vc x,fr' x,own' x,cf' x⟩)(k: ∀x,I x->ak prog GB C n Q0 (fr' x) (own' x) (cf' x))(hv: ∀x,I x->ah (vc x):=by intros;first|exact trivial|(simp only[ah];kernel_rfl)|(simp only[ah];omega)|(simp only[ah,aJ,aT,aV];omega)):ak prog GB C n Q0 fr own (.code c (.sq d::K)):=by
 refine SX.imp h1 fun a w h=>VK h ?_;intro e a w h
 cases e with
 |normal=>
  obtain⟨x,ρ,G,ov,hI,hr⟩:=h;have:=fB (GB:=GB) (C:=C) (Q0:=Q0) (hgo x) (hv x hI) (k x hI);exact this.run ρ G ov a w hr
 |_=>exact h
end
end Go.Sx
end
section
namespace Go.Sx
open Go
section
variable {P:Program} {ops:Array Oper} {Q:Exit->Act->World->Prop} {S:World->Prop} {π₂:List (Nat×Bool)}
abbrev aKX:Nat->Bool:=fun _=>false
def vG(S:World->Prop)(K:(World->Prop)->Act->World->Prop)(a:Act)(w:World):Prop:= ∃S':World->Prop,(∀w,S' w->S w)/\S' w/\K S' a w
def xq(P:Program)(ops:Array Oper)(Q:Exit->Act->World->Prop)(K:(World->Prop)->Act->World->Prop):List Nat->List (Nat×Bool)->(World->Prop)->Act->World->Prop
 |[],[],S,a,w=>K S a w
 |k::ks,[],S,a,w=> ∀j,(h:j∈k::ks)->wpOp P ops Q j (vG S (xq P ops Q K (bG (k::ks) j) [])) a w
 |ks,(i,true)::r,S,a,w=> ∃o v,ops[i]? =some o/\S w/\YieldsIf P ops S o v a/\xq P ops Q K ks r S (a.put o.dst v) w
 |ks,(i,false)::r,S,a,w=>wpOp P ops Q i (vG S (xq P ops Q K ks r)) a w/\
   ∀j,(h:j∈ks)->wpOp P ops Q j (vG S (xq P ops Q K (bG ks j) ((i,false)::r))) a w
termination_by ks π=>ks.length+π.length
decreasing_by
 all_goals (first|(have:=Iv h;simp only[bW,jQ] at*;omega)|(simp only[bW];omega))
def aKP(Q:Exit->Act->World->Prop):(World->Prop)->Act->World->Prop:=fun _ a w=>Q .normal a w
end
section
variable {P:Program} {GB:Gh} {C:aD} {n:Nat} {fr fr':d8} {own own' own0 own1 own1':List dl} {bs bs0 bs1 bs1':List dP} {ops:Array Oper} {Q:Exit->Act->World->Prop} {fd:List FD} {π π₂:List (Nat×Bool)}
structure SR (GB:Gh) (C:aD) (n:Nat) (fr:d8) (own0:List dl) (bs0:List dP) (own1:List dl) (bs1:List dP) (fd:List FD) (K:List Nat->(World->Prop)->Act->World->Prop):Prop where
 run: ∀G frv o0 o1,bz GB G->A8 G fr frv->OB G own0 bs0 o0->OB G own1 bs1 o1-> ∀fs:Fs,St C n (frv++Ex fd fs) (o1++(o0++HE fd fs)) G (K (IG fd fs) (HS C o0 G))
instance {GB:Gh} {C:aD} {n:Nat} {fr:d8} {own0:List dl} {bs0:List dP} {own1:List dl} {bs1:List dP} {fd:List FD} {K:List Nat->(World->Prop)->Act->World->Prop}:CoeFun (SR GB C n fr own0 bs0 own1 bs1 fd K) (fun _=> ∀G frv o0 o1,bz GB G->A8 G fr frv->OB G own0 bs0 o0->OB G own1 bs1 o1-> ∀fs:Fs,St C n (frv++Ex fd fs) (o1++(o0++HE fd fs)) G (K (IG fd fs) (HS C o0 G))):=⟨SR.run⟩
abbrev dwK (P:Program) (ops:Array Oper) (Q:Exit->Act->World->Prop) (K:(World->Prop)->Act->World->Prop) (π:List (Nat×Bool)):List Nat->(World->Prop)->Act->World->Prop:=fun ks S=>xq P ops (f4 Q) K ks π S
def Wd:List FD->List Nat->d8
 |f::fd,b::bl=>(f.d, .d (.v (.pointer (some ⟨b,0,none⟩))))::Wd fd bl
 |_,_=>[]
def owB:List FD->List (List DV)->List Nat->List dl
 |f::fd,c::cl,b::bl=>⟨b,c,f.t,true⟩::owB fd cl bl
 |_,_,_=>[]
def Ue:List FD->List (List DV)->Prop
 |f::fd,c::cl=>IsLs (fun _=>none) c (aE f.z)/\Ue fd cl
 |[],[]=>True
 |_,_=>False
end
def aJA{α:Type}(idx:List Nat)(l:List α):List α:=idx.filterMap (l[·]?)
section
variable {P:Program} {GB:Gh} {C:aD} {n:Nat} {E:o4} {fr fr':d8} {own own':List dl} {bs bs' bs1:List dP} {ops:Array Oper} {Q:Exit->Act->World->Prop} {r:List Oper} {Φ:Act->World->Prop}
variable {dst:Option Nat} {t t' ty':TypeId} {pos:String} {af:Array Edge} {gd:Option (Nat×Bool)} {x y z:Operand} {e s by_:Nat}
def PB(GB:Gh)(P:Program)(f:FuncId)(mk:SV->List DV)(s:Nat)(ty:TypeId)(dsi:List DV)(mkr:SV->DV)(dso:List DV):Prop:=
 ∀G w vs B,bz GB G->de G ⟨w,s,ty,dsi,false⟩ B->IsLs G (mk w) vs->iA P f vs B G (fun v own' G'=> ∃w',Is G' (mkr w') v/\de G' ⟨w',s,ty,dso,false⟩ own')
def aJo(fr:d8):List Operand->Option (List DV)
 |[]=>some []
 |x::t=>match E9 fr x,aJo fr t with
  |some (.d d),some l=>some (d::l)
  |_,_=>none
def de.asB{G:Gh}{w:SV}{ty:TypeId}{ds:List DV}{lo:Bool}{B:List ao}(h:de G ⟨w,s,ty,ds,lo⟩ B):de G ⟨w,s,ty,ds,false⟩ (Sx.asB B):=by
 obtain⟨vs,h1,h2,h3,h4⟩:=h;exact⟨vs,h1.asB,h2,h3,fun h=>by cases h⟩
def de.weak{G:Gh}{w:SV}{ty:TypeId}{ds:List DV}{lo:Bool}{B:List ao}(h:de G ⟨w,s,ty,ds,lo⟩ B):de G ⟨w,s,ty,ds,false⟩ B:=by
 obtain⟨vs,h1,h2,h3,h4⟩:=h;exact⟨vs,h1,h2,h3,fun h=>by cases h⟩
inductive II (fr:d8):List ResultVar->List DV->Prop
 |nil:II fr [] []
 |tmp {t:Nat} {v:DV} {rs:List ResultVar} {vs:List DV} (h:vo fr t=some (.d v)) (k:II fr rs vs):II fr (.tmp t::rs) (v::vs)
end
section
variable {P:Program} {GB:Gh} {C:aD} {n:Nat} {E:o4} {fr fr':d8} {own own':List dl} {bs bs' bs1:List dP} {ops:Array Oper} {Q:Exit->Act->World->Prop} {r:List Oper} {Φ:Act->World->Prop}
variable {dst:Option Nat} {t t' ty':TypeId} {pos:String} {af:Array Edge} {gd:Option (Nat×Bool)} {x y z:Operand} {e s by_:Nat}
def PX(GB:Gh)(P:Program)(f:FuncId)(ds:List DV)(ι:Type)(r:ι->DV):Prop:=
 ∀G vs,bz GB G->IsLs G ds vs->Fn P f vs G (fun v G'=> ∃x,Is G' (r x) v)
def PMX(GB:Gh)(P:Program)(f:FuncId)(ds:List DV)(b:Nat)(ty:TypeId)(cs:List DV)(ι:Type)(r:ι->DV)(cs':ι->List DV):Prop:=
 ∀G vs m lo,bz GB G->IsLs G ds vs->IsLs G cs m->j0 P f vs [⟨b,m,ty,lo⟩] G (fun v css G'=> ∃x,Is G' (r x) v/\ ∃m',css=[m']/\IsLs G' (cs' x) m')
def PN(GB:Gh)(P:Program)(f:FuncId)(ds:List DV)(ty:TypeId)(ι:Type)(cs:ι->List DV):Prop:=
 ∀G vs,bz GB G->IsLs G ds vs->iA P f vs [] G (fun v own' G'=> ∃x b m,v= .pointer (some ⟨b,0,none⟩)/\own'=[⟨b,m,ty,true⟩]/\IsLs G' (cs x) m)
inductive FH:List dl->Nat->List DV->TypeId->Bool->List dl->List dl->Prop
 |hd (b:Nat) (cs:List DV) (ty:TypeId) (lo:Bool) (t:List dl):FH (⟨b,cs,ty,lo⟩::t) b cs ty lo [] t
 |tl (o:dl) (t:List dl) (b:Nat) (cs:List DV) (ty:TypeId) (lo:Bool) (L R:List dl) (h:FH t b cs ty lo L R):FH (o::t) b cs ty lo (o::L) R
end
section
variable {P:Program} {GB:Gh} {C:aD} {n:Nat} {fr:d8} {own:List dl} {bs:List dP}
def Cq(GB:Gh)(P:Program)(f:FuncId)(ds:List DV)(b:Nat)(ty:TypeId)(cs:List DV)(s:Nat)(ty2:TypeId)(ι:Type)(rows:ι->List DV)(cs':ι->List DV):Prop:=
 ∀G vs m lo,bz GB G->IsLs G ds vs->IsLs G cs m->iA P f vs [⟨b,m,ty,lo⟩] G (fun v own' G'=> ∃x w m' B,v= .slice w.a w.n w.c/\own'=⟨b,m',ty,false⟩::B/\IsLs G' (cs' x) m'/\de G' ⟨w,s,ty2,rows x,true⟩ B/\ ∀o∈B,b≠o.b)
variable {dst:Option Nat} {t t' ty':TypeId} {pos:String} {af:Array Edge} {gd:Option (Nat×Bool)} {x y z:Operand}
def Ph{fr:Fr}{own:List ao}{G:Gh}{fn:Func}{K:Value->List ao->Gh->Prop}{vs:List Value}(hr:ku P fr own fn.results.toList vs)(own2 own3:List ao)(hp:own.Perm own2)(hs:own3.Sublist own2)(hk:own3.Pairwise (fun x y=>x.b≠y.b)->K (gH vs) own3 G):St C n fr own G (fp C P fn (qq C K) .ret):=
 fun a w rl hmk=>⟨rl.df.trans hmk,_,te hr rl.fr rl.h,_,own3,G,J,(rl.h.perm hp).drop hs,hk ((rl.h.perm hp).drop hs).nd⟩
variable {e s by_:Nat}
def ZF{G:Gh}{l:List DV}{w:SV}{es:List Value}{s' nhi mx':Nat}(hsl:eB G s' w es)(hl:IsLs G l es)(ho:ew s l)(h2:nhi<=l.length)(hm1:nhi<=mx')(hm2:mx'<=w.c):Is G (.sl (l.take nhi)) (.slice w.a nhi mx'):=by
 have hn:=hsl.len;have hcap:=hsl.cap;have hll:=hl.len;have e9: ∀s,mh w.a w.n w.c 0 nhi mx' s= .slice w.a nhi mx':=by
  intro s;unfold mh
  cases w.a with
  |none=>simp
  |some ad=>simp[Addr.add]
 rcases yM hsl hl ho with he|he
 ·subst he
  have:l=[]:=bL (by rw[<-hll];rfl);subst this;have e1:nhi=0:=by simp at h2;exact h2
  subst e1;refine ij.2 ⟨s,⟨_,0,mx'⟩,[],J,⟨J,bU _, .inl J⟩,by simpa using IsLs.nil⟩
 ·subst he
  have k:=hsl.sub 0 nhi mx' (bU _) (by omega) hm1 hm2;have k2:=ij.2 ⟨s',⟨_,_,_⟩,_,J,k,(hl.take nhi).drop 0⟩;rw[jJ] at k2;have e:=e9 s';unfold mh at e;revert k2;simp only[] at*;intro k2
  first|exact e▸k2|(simp at e k2⊢;first|exact k2|(cases hw:w.a<;>simp_all [Addr.add]))
end
end Go.Sx
end
