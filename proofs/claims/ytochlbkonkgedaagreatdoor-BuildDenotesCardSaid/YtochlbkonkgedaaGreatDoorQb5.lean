import Derived.Test.YtochlbkonkgedaaGreatDoorQb4
import Derived.Test.YtochlbkonkgedaaGreatDoorProg
set_option linter.all false
set_option maxRecDepth 100000
section
namespace Go.Sx
open Go
abbrev aA:=List (Nat×FX)
abbrev aI:=List (Nat×Option Bk)
def bg:aA->Nat->Option FX
 |[],_=>none
 |(k,v)::t,j=>bif Nat.beq k j then some v else bg t j
def bi:aI->Nat->Option Bk
 |[],_=>none
 |(k,v)::t,j=>bif Nat.beq k j then v else bi t j
def vV{α:Type}:aI->Nat->Option Bk->(aI->α)->α
 |[],nm,B,k=>k [(nm,B)]
 |(j,v)::t,nm,B,k=>bif Nat.beq j nm then k ((nm,B)::t) else vV t nm B fun t'=>k ((j,v)::t')
def rB{α:Type}:aI->List (Nat×Option Bk)->(aI->α)->α
 |own,[],k=>k own
 |own,(nm,B)::t,k=>vV own nm B fun own'=>rB own' t k
def mc(own:aI)(nm:Nat)(B:Option Bk):aI:=vV own nm B id
def vP(own:aI)(l:List (Nat×Option Bk)):aI:=rB own l id
def xv{α:Type}{nm:Nat}{B:Option Bk}: ∀{own:aI} {k:aI->α},vV own nm B k=k (mc own nm B)
 |[],k=>rfl
 |(j,v)::t,k=>by
  unfold mc vV
  cases Nat.beq j nm with
  |true=>rfl
  |false=>rw[cond_false,cond_false,xv (own:=t),xv (own:=t)];rfl
def xq{α:Type}: ∀{l:List (Nat×Option Bk)} {own:aI} {k:aI->α},rB own l k=k (vP own l)
 |[],own,k=>rfl
 |(nm,B)::t,own,k=>by
  unfold vP rB;rw[xv,xv,xq (l:=t),xq (l:=t)];rfl
def ju(k:Nat)(v:FX)(t:aA)(j:Nat):bg ((k,v)::t) j=if j=k then some v else bg t j:=by
 simp only[bg];by_cases h:k=j
 ·simp[h]
 ·have:Nat.beq k j=false:=by
   cases hb:Nat.beq k j with
   |false=>rfl
   |true=>exact absurd (aT hb) h
  simp[this,Ne.symm h]
def mr(k:Nat)(v:Option Bk)(t:aI)(j:Nat):bi ((k,v)::t) j=if j=k then v else bi t j:=by
 simp only[bi];by_cases h:k=j
 ·simp[h]
 ·have:Nat.beq k j=false:=by
   cases hb:Nat.beq k j with
   |false=>rfl
   |true=>exact absurd (aT hb) h
  simp[this,Ne.symm h]
def xf{nm:Nat}{B:Option Bk}(j:Nat): ∀own:aI,bi (mc own nm B) j=if j=nm then B else bi own j
 |[]=>mr nm B [] j
 |(k,v)::t=>by
  have ih:=xf (nm:=nm) (B:=B) j t;unfold mc vV
  cases hb:Nat.beq k nm with
  |true=>
   have e:=aT hb;subst e;rw[cond_true,id,mr,mr];by_cases h:j=k<;>simp[h]
  |false=>
   have hne:k≠nm:=fun e=>by subst e;simp at hb
   rw[cond_false,xv,id,mr,mr,ih];by_cases h:j=k
   ·subst h;simp[hne]
   ·simp[h]
def Gi: ∀(l:List (Nat×Option Bk)) (own:aI),bi (vP own l)=upB (bi own) l
 |[],own=>rfl
 |(nm,B)::t,own=>by
  have:vP own ((nm,B)::t)=vP (mc own nm B) t:=by rw[vP,rB,xv];rfl
  rw[this,Gi t];simp only[upB];congr 1;funext j;exact xf j own
def Gv(fr:aA)(dst:Option Nat)(f:FX):aA:=match dst with
 |some d=>(d,f)::fr
 |none=>fr
def KV{fr:aA}{dst:Option Nat}{f:FX}:bg (Gv fr dst f)=ey (bg fr) dst f:=by
 cases dst with
 |none=>rfl
 |some d=>funext j;exact ju d f fr j
def Bh(T:TT)(n:Nat)(ops:Array Oper)(lk:LK)(bk:BM):Oper->Option CR
 |⟨dst,op,_,_,_,gd⟩=>bif cd n dst then(match gd with
  |none=>AA T lk bk dst op
  |some (j,b)=>match ops[j]? with
   |some oj=>match oj.dst with
    |some d=>match lk d with
     |some .tt=>bif b then AA T lk bk dst op else some ⟨none, .un,[],[]⟩
     |some .ff=>bif b then some ⟨none, .un,[],[]⟩ else AA T lk bk dst op
     |some .un=>some ⟨none, .un,[],[]⟩
     |_=>none
    |none=>none
   |none=>none) else none
section
variable {P:Program} {T:TT} {GB:Gh} {C:aD} {n:Nat} {lk:LK} {bk:BM} {ops:Array Oper}
def b8.toS{dst:Option Nat}{op:Op}{ty:TypeId}{pos:String}{af:Array Edge}{gd:Option (Nat×Bool)}{f:FX}{bl:List (Nat×Option Bk)}{nw:List Nat}(h:b8 P GB C n lk bk ⟨dst,op,ty,pos,af,gd⟩ f bl nw)(hd:cd n dst=true)
  (hw: ∀ρ G ov a w,bG GB C n lk bk ρ G ov a w->Region.wanted ⟨dst,op,ty,pos,af,gd⟩ (yielded ops a.tmps)=true):uE P GB C n ops lk bk ⟨dst,op,ty,pos,af,gd⟩ f bl nw:=by
 intro Q tl tb K s1 s2 hf hk;have:=h hd tl tb (fun a w=>a.defers=C.mks/\K a w) s1 s2 hf ⟨fun ρ G ov a w r=>⟨r.df,hk.run ρ G ov a w r⟩⟩;refine⟨fun ρ G ov a w r=>?_⟩;unfold wO;rw[if_pos (hw ρ G ov a w (r.mono s1 s2))];exact Je (this.run ρ G ov a w r) fun a' w' k=>⟨k.1.trans r.df.symm,k.2⟩
def uE.skip{dst:Option Nat}{op:Op}{ty:TypeId}{pos:String}{af:Array Edge}{gd:Option (Nat×Bool)}(hd:cd n dst=true)
  (hw: ∀ρ G ov a w,bG GB C n lk bk ρ G ov a w->Region.wanted ⟨dst,op,ty,pos,af,gd⟩ (yielded ops a.tmps)=false):uE P GB C n ops lk bk ⟨dst,op,ty,pos,af,gd⟩ .un [] []:=by
 intro Q tl tb K s1 s2 hf hk;refine⟨fun ρ G ov a w r=>?_⟩;unfold wO;rw[hw ρ G ov a w (r.mono s1 s2)];exact hk.run ρ G ov _ w (r.put J (r.putA undef hd))
def BR{ρ:NE}{G:Gh}{ov:List ak}{a:Act}{w:World}(r:bG GB C n lk bk ρ G ov a w){j d:Nat}{oj:Oper}{f:FX}(hj:ops[j]? =some oj)(hd:oj.dst=some d)(hf:lk d=some f): ∃y,cb ρ G f y/\yielded ops a.tmps j=match y with| .bool b=>some b|_=>none:=by
 obtain⟨y,h1,h2⟩:=r.fx d f hf;refine⟨y,h2,?_⟩;unfold yielded;rw[hj];simp only[Option.bind_some,hd,h1]
 cases y<;>rfl
def On{o:Oper}{r:CR}(hT:nf P T)(h:Bh T n ops lk bk o=some r)(hv: ∀p,r.vc=some p->p):uE P GB C n ops lk bk o r.f r.bl r.nw/\cd n o.dst=true:=by
 obtain⟨dst,op,ty,pos,af,gd⟩:=o;simp only[Bh] at h
 cases hd:cd n dst with
 |false=>rw[hd] at h;cases h
 |true=>
  rw[hd,cond_true] at h;refine⟨?_,J⟩;split at h
  ·exact(zi hT h hv).toS hd fun _ _ _ _ _ _=>J
  ·rename_i j b
   split at h<;>try (cases h;done)
   rename_i oj hj;split at h<;>try (cases h;done)
   rename_i d hdj;split at h<;>try (cases h;done)
   ·rename_i hl
    have wt: ∀ρ G ov (a:Act) w,bG GB C n lk bk ρ G ov a w->Region.wanted ⟨dst,op,ty,pos,af,some (j,b)⟩ (yielded ops a.tmps)=b:=fun ρ G ov a w r=>by
     obtain⟨y,h1,h2⟩:=BR r hj hdj hl
     cases h1
     simp only[Region.wanted,h2];cases b<;>rfl
    cases b with
    |true=>exact(zi hT h hv).toS hd wt
    |false=>cases h;exact .skip hd wt
   ·rename_i hl
    have wt: ∀ρ G ov (a:Act) w,bG GB C n lk bk ρ G ov a w->Region.wanted ⟨dst,op,ty,pos,af,some (j,b)⟩ (yielded ops a.tmps)=!b:=fun ρ G ov a w r=>by
     obtain⟨y,h1,h2⟩:=BR r hj hdj hl
     cases h1
     simp only[Region.wanted,h2];cases b<;>rfl
    cases b with
    |true=>cases h;exact .skip hd wt
    |false=>exact(zi hT h hv).toS hd wt
   ·rename_i hl
    cases h
    refine .skip hd fun ρ G ov a w r=>?_;obtain⟨y,h1,h2⟩:=BR r hj hdj hl
    cases h1
    simp only[Region.wanted,h2];rfl
end
inductive Kt where
 |sq (c:Code)
 |bl (id:Nat)
 |sc
 |ag (A:Act->World->Prop)
def cQ(rd:Option Nat)(P:Program)(Q0:Exit->Act->World->Prop):List Kt->Exit->Act->World->Prop
 |[]=>Q0
 | .sq y::K=>Exit.then (il rd P y (cQ rd P Q0 K)) (cQ rd P Q0 K)
 | .bl id::K=>Exit.inBlock id (cQ rd P Q0 K)
 | .sc::K=>Exit.noGoto (cQ rd P Q0 K)
 | .ag A::K=>Exit.then A (cQ rd P Q0 K)
inductive Cf where
 |code (c:Code) (K:List Kt)
 |ops (ops:Array Oper) (r:List Oper) (K:List Kt)
 |dr (id:Nat) (ops:Array Oper) (fr0:aA) (own0:aI) (us:List Rc) (r:List Oper) (K:List Kt)
 |ex (e:Exit) (K:List Kt)
structure A' (P:Program) (GB:Gh) (C:aD) (n:Nat) (ops:Array Oper) (fr0:aA) (own0:aI) (us:List Rc) (r:List Oper) (fr:aA) (own:aI):Prop where
 pre: ∃pre,ops.toList=pre++r/\pre.length=us.length
 st:cC (fun _=>true) 0 (bg fr0,bi own0) us=(bg fr,bi own)
 snd: ∀i u o,us[i]? =some u->ops[i]? =some o->o.dst=u.d/\uE P GB C n ops (mp u.rs (cC (fun j=>decide (j<i)) 0 (bg fr0,bi own0) us).1) (mp u.rn (cC (fun j=>decide (j<i)) 0 (bg fr0,bi own0) us).2) o u.f u.bl u.nw
def aj(P:Program)(GB:Gh)(C:aD)(n:Nat)(Q0:Exit->Act->World->Prop)(fr:aA)(own:aI):Cf->Prop
 | .code c K=>SX GB C n (bg fr) (bi own) (il C.rd P c (cQ C.rd P Q0 K))
 | .ops ops r K=>SX GB C n (bg fr) (bi own) (wpListIn (FW C.rd) 0 P ops (cQ C.rd P Q0 K) r)
 | .dr id ops fr0 own0 us r K=>A' P GB C n ops fr0 own0 us r fr own->SX GB C n (bg fr0) (bi own0) (il C.rd P (.region id ops true) (cQ C.rd P Q0 K))
 | .ex e K=>SX GB C n (bg fr) (bi own) (cQ C.rd P Q0 K e)
structure Ar where
 vc:List Prop
 fr:aA
 own:aI
 cf:Cf
def acc(v:Option Prop)(l:List Prop):List Prop:=match v with
 |some p=>p::l
 |none=>l
def Id{α:Type}(v:Option Prop)(l:List Prop)(k:List Prop->α):α:=match v with
 |some p=>k (p::l)
 |none=>k l
def MC{α:Type}{v:Option Prop}{l:List Prop}{k:List Prop->α}:Id v l k=k (acc v l):=by cases v<;>rfl
def y5{α:Type}(fr:aA)(dst:Option Nat)(f:FX)(k:aA->α):α:=match dst with
 |some d=>k ((d,f)::fr)
 |none=>k fr
def Ci{α:Type}{fr:aA}{dst:Option Nat}{f:FX}{k:aA->α}:y5 fr dst f k=k (Gv fr dst f):=by cases dst<;>rfl
def vW(nw:List Nat)(dst:Option Nat)(fr:aA)(own:aI):Bool:=nw.all fun nm=>fr.all (fun e=>Ae dst e.1||!yf nm e.2)&&own.all fun e=>Nat.beq e.1 nm||!EY nm e.2
def Bi:List Operand->List Nat
 |[]=>[]
 | .tmp t::r=>t::Bi r
 |_::r=>Bi r
def DL(fr:aA):List Nat->List Nat
 |[]=>[]
 |t::r=>match bg fr t with
  |some f=>match f.nm with
   |some nm=>nm::DL fr r
   |none=>DL fr r
  |none=>DL fr r
def Fw(o:Oper)(fr:aA)(rs:List Nat):List Nat:=match o.op with
 | .move _=>[]
 |_=>DL fr rs
def B4(ops:Array Oper)(o:Oper):List Nat:=match o.guard with
 |some (j,_)=>match ops[j]? with
  |some oj=>match oj.dst with
   |some d=>d::Bi o.op.operands.toList
   |none=>Bi o.op.operands.toList
  |none=>Bi o.op.operands.toList
 |none=>Bi o.op.operands.toList
def go(T:TT)(n:Nat):Nat->List Prop->aA->aI->Cf->Ar
 |0,l,fr,own,cf=>⟨l,fr,own,cf⟩
 |k+1,l,fr,own, .code c K=>match c with
  | .seq x y=>go T n k l fr own (.code x (.sq y::K))
  | .region id ops d=>bif d then go T n k l fr own (.dr id ops fr own [] ops.toList K) else go T n k l fr own (.ops ops ops.toList K)
  | .skip=>go T n k l fr own (.ex .normal K)
  | .ret=>go T n k l fr own (.ex .ret K)
  | .exit id=>go T n k l fr own (.ex (.exit id) K)
  | .block id c=>go T n k l fr own (.code c (.bl id::K))
  | .scope c=>go T n k l fr own (.code c (.sc::K))
  | .label _=>go T n k l fr own (.ex .normal K)
  | .cond c x y=>match aO (bg fr) c with
   |some .tt=>go T n k l fr own (.code x K)
   |some .ff=>go T n k l fr own (.code y K)
   |_=>⟨l,fr,own, .code (.cond c x y) K⟩
  |c=>⟨l,fr,own, .code c K⟩
 |k+1,l,fr,own, .ex e K=>match K with
  | .sq y::K'=>match e with
   | .normal=>go T n k l fr own (.code y K')
   |e=>go T n k l fr own (.ex e K')
  | .bl id::K'=>match e with
   | .exit j=>bif Nat.beq j id then go T n k l fr own (.ex .normal K') else go T n k l fr own (.ex (.exit j) K')
   |e=>go T n k l fr own (.ex e K')
  | .sc::K'=>bif Sn e then go T n k l fr own (.ex e K') else⟨l,fr,own, .ex e (.sc::K')⟩
  | .ag A::K'=>match e with
   | .normal=>⟨l,fr,own, .ex .normal (.ag A::K')⟩
   |e=>go T n k l fr own (.ex e K')
  |[]=>⟨l,fr,own, .ex e []⟩
 |k+1,l,fr,own, .ops ops r K=>match r with
  |[]=>go T n k l fr own (.ex .normal K)
  |o::r'=>match Bh T n ops (bg fr) (bi own) o with
   |some ⟨v,f,bl,nw⟩=>bif vW nw o.dst fr own then rB own bl fun own'=>Id v l fun l'=>y5 fr o.dst f fun fr'=>go T n k l' fr' own' (.ops ops r' K) else⟨l,fr,own, .ops ops (o::r') K⟩
   |none=>⟨l,fr,own, .ops ops (o::r') K⟩
 |k+1,l,fr,own, .dr id ops fr0 own0 us r K=>match r with
  |[]=>go T n k (((uU (pe ops.toList []) [] us&&nI 0 ops.toList&&Ef us fr0 own0)=true)::l) fr own (.ex .normal K)
  |o::r'=>l9 (B4 ops o) fun rs=>l9 (Fw o fr rs) fun rn=>match Bh T n ops (mp rs (bg fr)) (mp rn (bi own)) o with
   |some ⟨v,f,bl,nw⟩=>rB own bl fun own'=>l9 (us++[⟨rs,o.dst,f,rn,bl,nw⟩]) fun us'=>Id v l fun l'=>y5 fr o.dst f fun fr'=>go T n k l' fr' own' (.dr id ops fr0 own0 us' r' K)
   |none=>⟨l,fr,own, .dr id ops fr0 own0 us (o::r') K⟩
def ah:List Prop->Prop
 |[]=>True
 |[p]=>p
 |p::t=>ah t/\p
def Sz{p:Prop}{t:List Prop}:ah (p::t)↔ah t/\p:=by cases t<;>simp[ah]
def M4{v:Option Prop}{l:List Prop}(h:ah (acc v l)):ah l/\ ∀p,v=some p->p:=by
 cases v with
 |none=>exact⟨h,fun p e=>by cases e⟩
 |some q=>obtain⟨h1,h2⟩:=Sz.1 h;exact⟨h1,fun p e=>by cases e;exact h2⟩
def Jp{f:FX}{k:Nat}: ∀{fr:aA},bg fr k=some f->(k,f)∈fr
 |[],h=>by cases h
 |(j,g)::t,h=>by
  rw[ju] at h;split at h
  ·cases h;rename_i e;rw[e];exact aQ
  ·exact aZ _ (Jp h)
def HM{B:Bk}{k:Nat}: ∀{own:aI},bi own k=some B->(k,some B)∈own
 |[],h=>by cases h
 |(j,g)::t,h=>by
  rw[mr] at h;split at h
  ·rename_i e;rw[e,h];exact aQ
  ·exact aZ _ (HM h)
def BH{nw:List Nat}{dst:Option Nat}{fr:aA}{own:aI}(h:vW nw dst fr own=true):kz nw dst (bg fr) (bi own):=fun nm hnm=>by
 have:=fW.1 h nm hnm;simp only[aL] at this;refine⟨fun k f hk e hc=>?_,fun k B hk e hm=>?_⟩
 ·have:=fW.1 this.1 _ (Jp e)
  simp only[iL,iK,yf] at this;rcases this with h|h
  ·exact hk (Cr.1 h).symm
  ·rw[Cr.2 hc] at h;cases h
 ·have:=fW.1 this.2 _ (HM e)
  simp only[iL,iK] at this;rcases this with h|h
  ·exact hk (aT h)
  ·rw[Lm hm] at h;cases h
def LM{us:List Rc}{fr:aA}{own:aI}(h:Ef us fr own=true): ∀r∈us,∀nm∈r.nw,(∀k f,bg fr k=some f->f.nm≠some nm)/\ ∀k B,bi own k=some B-> ¬B.men nm:=fun r hr nm hnm=>by
 have:=fW.1 (fW.1 h r hr) nm hnm;simp only[aL] at this;refine⟨fun k f e hc=>?_,fun k B e hm=>?_⟩
 ·have:=fW.1 this.1 _ (Jp e)
  simp only[iK,yf] at this;rw[Cr.2 hc] at this;cases this
 ·have:=fW.1 this.2 _ (HM e)
  simp only[iK] at this;rw[Lm hm] at this;cases this
section
variable {P:Program} {T:TT} {GB:Gh} {C:aD} {n:Nat} {Q0:Exit->Act->World->Prop} {fr fr0:aA} {own own0:aI} {ops:Array Oper} {us:List Rc} {r:List Oper} {o:Oper} {K:List Kt}
def Fq{p q:Nat->Bool}{u:Rc}: ∀{us:List Rc} {k:Nat} {s:ST},(∀j,j<us.length->p (k+j)=q (k+j))->cC p k s (us++[u])=if p (k+us.length) then u.ap (cC q k s us) else cC q k s us
 |[],k,s,h=>rfl
 |x::t,k,s,h=>by
  simp only[cR,cC];rw[Fq (q:=q) fun j hj=>by have:=h (j+1) (by simp;omega);rwa [show k+(j+1)=k+1+j by omega] at this];have h0:=h 0 (by simp);rw[fJ] at h0;rw[h0,bV,show k+1+t.length=k+(t.length+1) by omega]
def A'.push(D:A' P GB C n ops fr0 own0 us (o::r) fr own){rs rn nw:List Nat}{f:FX}{bl:List (Nat×Option Bk)}(h:uE P GB C n ops (mp rs (bg fr)) (mp rn (bi own)) o f bl nw):A' P GB C n ops fr0 own0 (us++[⟨rs,o.dst,f,rn,bl,nw⟩]) r (Gv fr o.dst f) (vP own bl):=by
 obtain⟨pre,hp,hl⟩:=D.pre;refine⟨⟨pre++[o],by rw[hp];simp,by simp[hl]⟩,?_,fun i u o' hu ho=>?_⟩
 ·rw[Fq (q:=fun _=>true) fun _ _=>J,if_pos J,D.st]
  simp only[Rc.ap];rw[KV,Gi]
 ·rw[List.getElem?_append] at hu
  split at hu
  ·rename_i hi
   obtain⟨h1,h2⟩:=D.snd i u o' hu ho;rw[Fq (q:=fun j=>decide (j<i)) fun _ _=>J,if_neg (by simp;omega)];exact⟨h1,h2⟩
  ·rename_i hi
   by_cases e:i=us.length
   ·subst e
    simp at hu;subst hu;have ho':ops[us.length]? =some o:=by
     have:ops.toList[us.length]? =some o:=by rw[hp,<-hl];simp
     simpa using this
    rw[ho'] at ho;cases ho;refine⟨J,?_⟩;rw[Fq (q:=fun _=>true) fun j hj=>by simpa using hj,if_neg (by simp),D.st];exact h
   ·rw[eK (by simp;omega)] at hu;cases hu
def A'.done(D:A' P GB C n ops fr0 own0 us [] fr own){id:Nat}(hm:P.follows .mixedOrders=true)(h:(uU (pe ops.toList []) [] us&&nI 0 ops.toList&&Ef us fr0 own0)=true)(hk:SX GB C n (bg fr) (bi own) (cQ C.rd P Q0 K .normal)):
  SX GB C n (bg fr0) (bi own0) (il C.rd P (.region id ops true) (cQ C.rd P Q0 K)):=by
 obtain⟨pre,hp,hl⟩:=D.pre;simp only[aL] at h;have D':jF P GB C n ops us (bg fr0,bi own0):=⟨by rw[<-hl,<-iS,hp];simp,D.snd,h.1.1,h.1.2,LM h.2⟩;exact D'.region hm (by rw[D.st];exact hk)
def SX.op{Q:Exit->Act->World->Prop}{f:FX}{bl:List (Nat×Option Bk)}{nw:List Nat}(h:uE P GB C n ops (bg fr) (bi own) o f bl nw)(hf:kz nw o.dst (bg fr) (bi own))(hk:SX GB C n (bg (Gv fr o.dst f)) (bi (vP own bl)) (wpListIn (FW C.rd) 0 P ops Q r)):SX GB C n (bg fr) (bi own) (wpListIn (FW C.rd) 0 P ops Q (o::r)):=by
 rw[KV,Gi] at hk;refine(h Q _ _ _ (kd.refl _) (kd.refl _) hf hk).imp fun a w q=>?_;unfold wO at q;simp only[wpListIn];split
 ·rename_i hw;rw[if_pos hw] at q;exact q
 ·rename_i hw;rw[if_neg hw] at q;exact⟨fun _ _=>trivial,q⟩
def SX.cond{lk:LK}{bk:BM}{Q:Exit->Act->World->Prop}{c:Operand}{x y:Code}{b:Bool}{f:FX}(hc:aO lk c=some f)(hb:ue f=some b)(h1:b=true->SX GB C n lk bk (il C.rd P x Q))(h2:b=false->SX GB C n lk bk (il C.rd P y Q)):SX GB C n lk bk (il C.rd P (.cond c x y) Q):=by
 refine⟨fun ρ G ov a w r=>?_⟩;obtain⟨v,hv,hv'⟩:=r.ev hc;rw[xp hv' hb] at hv;exact akB (bm (c9 a) hv) (fun e=>(h1 e).run ρ G ov a w r) (fun e=>(h2 e).run ρ G ov a w r)
def jc(hT:nf P T)(hm:P.follows .mixedOrders=true): ∀(k:Nat) (l:List Prop) (fr:aA) (own:aI) (cf:Cf),ah (go T n k l fr own cf).vc->ah l/\(aj P GB C n Q0 (go T n k l fr own cf).fr (go T n k l fr own cf).own (go T n k l fr own cf).cf->aj P GB C n Q0 fr own cf)
 |0,l,fr,own,cf,h=>by simp only[go] at h⊢;exact⟨h,id⟩
 |k+1,l,fr,own, .code c K,h=>by
  cases c with
  |seq x y=>simp only[go] at h⊢;obtain⟨h1,h2⟩:=jc hT hm k _ _ _ _ h;exact⟨h1,fun hk=>(h2 hk).imp fun a w q=>ZE q⟩
  |region id ops d=>
   simp only[go] at h⊢
   cases d with
   |false=>simp only[cond_false] at h⊢;obtain⟨h1,h2⟩:=jc hT hm k _ _ _ _ h;exact⟨h1,fun hk=>(h2 hk).imp fun a w q=>anr q⟩
   |true=>simp only[cond_true] at h⊢;obtain⟨h1,h2⟩:=jc hT hm k _ _ _ _ h;exact⟨h1,fun hk=>h2 hk ⟨⟨[],rfl,rfl⟩,rfl,fun i u o hu=>by simp at hu⟩⟩
  |skip=>simp only[go] at h⊢;obtain⟨h1,h2⟩:=jc hT hm k _ _ _ _ h;exact⟨h1,fun hk=>(h2 hk).imp fun a w q=>axf q⟩
  |ret=>simp only[go] at h⊢;obtain⟨h1,h2⟩:=jc hT hm k _ _ _ _ h;exact⟨h1,fun hk=>(h2 hk).imp fun a w q=>Xj q⟩
  |exit id=>simp only[go] at h⊢;obtain⟨h1,h2⟩:=jc hT hm k _ _ _ _ h;exact⟨h1,fun hk=>(h2 hk).imp fun a w q=>Z5 q⟩
  |block id c=>simp only[go] at h⊢;obtain⟨h1,h2⟩:=jc hT hm k _ _ _ _ h;exact⟨h1,fun hk=>(h2 hk).imp fun a w q=>UQ q⟩
  |scope c=>simp only[go] at h⊢;obtain⟨h1,h2⟩:=jc hT hm k _ _ _ _ h;exact⟨h1,fun hk=>(h2 hk).imp fun a w q=>Zy q⟩
  |label j=>simp only[go] at h⊢;obtain⟨h1,h2⟩:=jc hT hm k _ _ _ _ h;exact⟨h1,fun hk=>(h2 hk).imp fun a w q=>WX q⟩
  |cond c x y=>
   simp only[go] at h⊢
   cases hc:aO (bg fr) c with
   |none=>simp only[hc] at h⊢;exact⟨h,id⟩
   |some f=>
    cases f with
    |tt=>simp only[hc] at h⊢;obtain⟨h1,h2⟩:=jc hT hm k _ _ _ _ h;exact⟨h1,fun hk=>SX.cond hc rfl (fun _=>h2 hk) (fun e=>by cases e)⟩
    |ff=>simp only[hc] at h⊢;obtain⟨h1,h2⟩:=jc hT hm k _ _ _ _ h;exact⟨h1,fun hk=>SX.cond hc rfl (fun e=>by cases e) (fun _=>h2 hk)⟩
    |_=>simp only[hc] at h⊢;exact⟨h,id⟩
  |_=>simp only[go] at h⊢;exact⟨h,id⟩
 |k+1,l,fr,own, .ex e K,h=>by
  cases K with
  |nil=>simp only[go] at h⊢;exact⟨h,id⟩
  |cons x K=>
   cases x with
   |sq y=>cases e<;>(simp only[go] at h⊢;obtain⟨h1,h2⟩:=jc hT hm k _ _ _ _ h;exact⟨h1,fun hk=>h2 hk⟩)
   |bl id=>
    cases e with
    |exit j=>
     simp only[go] at h⊢
     cases hb:Nat.beq j id with
     |true=>
      simp only[hb,cond_true] at h⊢;obtain⟨h1,h2⟩:=jc hT hm k _ _ _ _ h;exact⟨h1,fun hk=>(h2 hk).imp fun a w q=>by simp only[cQ,Exit.inBlock,aT hb,if_true];exact q⟩
     |false=>
      have hne:j≠id:=fun e=>by subst e;simp at hb
      simp only[hb,cond_false] at h⊢;obtain⟨h1,h2⟩:=jc hT hm k _ _ _ _ h;exact⟨h1,fun hk=>(h2 hk).imp fun a w q=>by simp only[cQ,Exit.inBlock,hne,if_false];exact q⟩
    |_=>simp only[go] at h⊢;obtain⟨h1,h2⟩:=jc hT hm k _ _ _ _ h;exact⟨h1,fun hk=>h2 hk⟩
   |sc=>
    simp only[go] at h⊢
    cases hb:Sn e with
    |true=>
     simp only[hb,cond_true] at h⊢;obtain⟨h1,h2⟩:=jc hT hm k _ _ _ _ h;refine⟨h1,fun hk=>(h2 hk).imp fun a w q=>?_⟩
     cases e<;>first|exact q|cases hb
    |false=>simp only[hb,cond_false] at h⊢;exact⟨h,id⟩
   |ag A=>
    cases e with
    |normal=>simp only[go] at h⊢;exact⟨h,id⟩
    |_=>simp only[go] at h⊢;obtain⟨h1,h2⟩:=jc hT hm k _ _ _ _ h;exact⟨h1,fun hk=>h2 hk⟩
 |k+1,l,fr,own, .ops ops r K,h=>by
  cases r with
  |nil=>simp only[go] at h⊢;obtain⟨h1,h2⟩:=jc hT hm k _ _ _ _ h;exact⟨h1,fun hk=>h2 hk⟩
  |cons o r=>
   simp only[go] at h⊢
   cases hs:Bh T n ops (bg fr) (bi own) o with
   |none=>simp only[hs] at h⊢;exact⟨h,id⟩
   |some x=>
    obtain⟨v,f,bl,nw⟩:=x;simp only[hs] at h⊢
    cases hf:vW nw o.dst fr own with
    |false=>simp only[hf,cond_false] at h⊢;exact⟨h,id⟩
    |true=>
     simp only[hf,cond_true] at h⊢;simp only[xq,MC,Ci] at h⊢;obtain⟨h1,h2⟩:=jc hT hm k _ _ _ _ h;obtain⟨h3,h4⟩:=M4 h1;exact⟨h3,fun hk=>SX.op (On hT hs h4).1 (BH hf) (h2 hk)⟩
 |k+1,l,fr,own, .dr id ops fr0 own0 us r K,h=>by
  cases r with
  |nil=>
   simp only[go] at h⊢;obtain⟨h1,h2⟩:=jc hT hm k _ _ _ _ h;obtain⟨h3,h4⟩:=Sz.1 h1;exact⟨h3,fun hk D=>D.done hm h4 (h2 hk)⟩
  |cons o r=>
   simp only[go,tP] at h⊢;generalize B4 ops o=rs at h⊢;generalize Fw o fr rs=rn at h⊢
   cases hs:Bh T n ops (mp rs (bg fr)) (mp rn (bi own)) o with
   |none=>simp only[hs] at h⊢;exact⟨h,fun x=>x⟩
   |some x=>
    obtain⟨v,f,bl,nw⟩:=x;simp only[hs] at h⊢;simp only[xq,MC,Ci] at h⊢;obtain⟨h1,h2⟩:=jc hT hm k _ _ _ _ h;obtain⟨h3,h4⟩:=M4 h1;exact⟨h3,fun hk D=>h2 hk (D.push (On hT hs h4).1)⟩
end
end Go.Sx
end
section
namespace Go.Sx
open Go Go.Proofs Tryz
instance:gG prog 3:=⟨fun _=>by kernel_rfl,fun _=>by kernel_rfl⟩
instance:nk prog 3 .i64:=⟨fun _=>by kernel_rfl⟩
instance:gG prog 4:=⟨fun _=>by kernel_rfl,fun _=>by kernel_rfl⟩
instance:gh prog 4 (.bool false):=⟨by kernel_rfl⟩
instance:gG prog 30:=⟨fun _=>by kernel_rfl,fun _=>by kernel_rfl⟩
instance:cv prog 30 154 8 112:=⟨by kernel_rfl,by kernel_rfl⟩
instance:kj prog 30:=⟨154,by kernel_rfl⟩
instance:lA prog 32 2:=⟨fun _=>by kernel_rfl,fun _=>by kernel_rfl⟩
instance:gh prog 32 (.agg ⟨[.int .i64 0, .slice none 0 0]⟩):=⟨by kernel_rfl⟩
instance:ly prog 32 0 0:=⟨fun _ _ _=>by kernel_rfl⟩
instance:ly prog 32 1 1:=⟨fun _ _ _=>by kernel_rfl⟩
instance:cv prog 58 218 1 4:=⟨by kernel_rfl,by kernel_rfl⟩
instance:kj prog 58:=⟨218,by kernel_rfl⟩
instance:cv prog 78 136 17 128:=⟨by kernel_rfl,by kernel_rfl⟩
instance:kj prog 78:=⟨136,by kernel_rfl⟩
instance:gG prog 82:=⟨fun _=>by kernel_rfl,fun _=>by kernel_rfl⟩
instance:lA prog 132 9:=⟨fun _=>by kernel_rfl,fun _=>by kernel_rfl⟩
instance:gh prog 132 (.agg ⟨[.int .i64 0, .int .i64 0, .pointer none, .int .i64 0, .int .i64 0, .pointer none, .int .i64 0, .int .i64 0, .pointer none]⟩):=⟨by kernel_rfl⟩
instance:gG prog 147:=⟨fun _=>by kernel_rfl,fun _=>by kernel_rfl⟩
instance:gh prog 147 (.nilFunc):=⟨by kernel_rfl⟩
instance:ly prog 149 0 0:=⟨fun _ _ _=>by kernel_rfl⟩
instance:ly prog 149 1 9:=⟨fun _ _ _=>by kernel_rfl⟩
instance:ly prog 149 2 10:=⟨fun _ _ _=>by kernel_rfl⟩
instance:ly prog 149 3 11:=⟨fun _ _ _=>by kernel_rfl⟩
instance:lA prog 151 6:=⟨fun _=>by kernel_rfl,fun _=>by kernel_rfl⟩
instance:lA prog 154 8:=⟨fun _=>by kernel_rfl,fun _=>by kernel_rfl⟩
instance:gh prog 154 (.agg ⟨[.bool false, .slice none 0 0, .bool false, .slice none 0 0, .bool false, .slice none 0 0, .int .i64 0, .int .i64 0]⟩):=⟨by kernel_rfl⟩
instance:ly prog 154 0 0:=⟨fun _ _ _=>by kernel_rfl⟩
instance:ly prog 154 1 6:=⟨fun _ _ _=>by kernel_rfl⟩
instance:ly prog 154 2 7:=⟨fun _ _ _=>by kernel_rfl⟩
instance:EE prog 154 [(0,6),(6,1),(7,1)]:=⟨_,fun _=>SC underlying154 _,fun _=>by kernel_rfl⟩
instance:nk prog 170 .u64:=⟨fun _=>by kernel_rfl⟩
instance:gG prog 172:=⟨fun _=>by kernel_rfl,fun _=>by kernel_rfl⟩
instance:cv prog 172 4 1 1:=⟨by kernel_rfl,by kernel_rfl⟩
instance:gh prog 174 (.agg ⟨[.slice none 0 0, .slice none 0 0, .int .i64 0, .bool false]⟩):=⟨by kernel_rfl⟩
instance:ly prog 174 0 0:=⟨fun _ _ _=>by kernel_rfl⟩
instance:ly prog 174 1 1:=⟨fun _ _ _=>by kernel_rfl⟩
instance:ly prog 174 2 2:=⟨fun _ _ _=>by kernel_rfl⟩
instance:ly prog 174 3 3:=⟨fun _ _ _=>by kernel_rfl⟩
instance:EE prog 174 [(0,1),(1,1),(2,1),(3,1)]:=⟨_,fun _=>SC underlying174 _,fun _=>by kernel_rfl⟩
instance:cv prog 194 136 17 128:=⟨by kernel_rfl,by kernel_rfl⟩
instance:gG prog 218:=⟨fun _=>by kernel_rfl,fun _=>by kernel_rfl⟩
instance:gh prog 218 (.int .u32 0):=⟨by kernel_rfl⟩
instance:nk prog 218 .u32:=⟨fun _=>by kernel_rfl⟩
instance:nk prog 219 .u64:=⟨fun _=>by kernel_rfl⟩
def follows:prog.follows .mixedOrders=true:=by kernel_rfl
end Go.Sx
end
section
namespace Go.Sx
open Go
def tt:TT:=[
 (2,⟨.int .i64,1,some [.d (.v (.int .i64 0))],false⟩),
 (3,⟨.int .i64,1,some [.d (.v (.int .i64 0))],false⟩),
 (4,⟨.bl,1,some [.ff],false⟩),
 (5,⟨.int .u8,1,some [.d (.v (.int .u8 0))],false⟩),
 (9,⟨.sc,1,some [.d (.v (.string ⟨#[]⟩))],false⟩),
 (20,⟨.fc,1,some [.d (.v (.nilIface))],false⟩),
 (22,⟨.sl 3 1 8,1,some [.nl],false⟩),
 (23,⟨.pt,1,some [.d (.v (.pointer none))],false⟩),
 (25,⟨.sl 94 1 24,1,some [.nl],false⟩),
 (27,⟨.sl 71 1 24,1,some [.nl],false⟩),
 (30,⟨.sl 154 8 112,1,some [.nl],false⟩),
 (32,⟨.st [(0,3,1),(1,30,1)],2,some [.d (.v (.int .i64 0)), .nl],true⟩),
 (34,⟨.fc,1,some [.d (.v (.nilIface))],false⟩),
 (37,⟨.sl 51 6 96,1,some [.nl],false⟩),
 (39,⟨.st [(0,27,1),(1,3,1),(2,37,1)],3,some [.nl, .d (.v (.int .i64 0)), .nl],true⟩),
 (41,⟨.sl 218 1 4,1,some [.nl],false⟩),
 (42,⟨.sl 218 1 4,1,some [.nl],false⟩),
 (44,⟨.st [(0,4,1),(1,42,1)],2,some [.ff, .nl],true⟩),
 (46,⟨.st [(0,44,2),(2,42,1)],3,some [.ff, .nl, .nl],true⟩),
 (48,⟨.st [(0,46,3),(3,46,3)],6,some [.ff, .nl, .nl, .ff, .nl, .nl],true⟩),
 (51,⟨.st [(0,44,2),(2,44,2),(4,44,2)],6,some [.ff, .nl, .ff, .nl, .ff, .nl],true⟩),
 (58,⟨.sl 218 1 4,1,some [.nl],false⟩),
 (60,⟨.st [(0,4,1),(1,58,1)],2,some [.ff, .nl],true⟩),
 (62,⟨.st [(0,60,2),(2,58,1)],3,some [.ff, .nl, .nl],true⟩),
 (64,⟨.st [(0,62,3),(3,62,3)],6,some [.ff, .nl, .nl, .ff, .nl, .nl],true⟩),
 (70,⟨.st [(0,22,1),(1,3,1)],2,some [.nl, .d (.v (.int .i64 0))],true⟩),
 (71,⟨.sl 48 6 112,1,some [.nl],false⟩),
 (72,⟨.sl 64 6 112,1,some [.nl],false⟩),
 (75,⟨.sl 80 1 24,1,some [.nl],false⟩),
 (78,⟨.sl 136 17 128,1,some [.nl],false⟩),
 (79,⟨.sl 89 6 48,1,some [.nl],false⟩),
 (80,⟨.sl 89 6 48,1,some [.nl],false⟩),
 (82,⟨.pt,1,some [.d (.v (.pointer none))],false⟩),
 (85,⟨.pt,1,some [.d (.v (.pointer none))],false⟩),
 (87,⟨.st [(0,2,1),(1,2,1),(2,85,1)],3,some [.d (.v (.int .i64 0)), .d (.v (.int .i64 0)), .d (.v (.pointer none))],true⟩),
 (89,⟨.st [(0,87,3),(3,87,3)],6,some [.d (.v (.int .i64 0)), .d (.v (.int .i64 0)), .d (.v (.pointer none)), .d (.v (.int .i64 0)), .d (.v (.int .i64 0)), .d (.v (.pointer none))],true⟩),
 (94,⟨.sl 64 6 112,1,some [.nl],false⟩),
 (96,⟨.sl 101 14 216,1,some [.nl],false⟩),
 (99,⟨.st [(0,46,3),(3,46,3),(6,4,1),(7,4,1)],8,some [.ff, .nl, .nl, .ff, .nl, .nl, .ff, .ff],true⟩),
 (101,⟨.st [(0,51,6),(6,99,8)],14,some [.ff, .nl, .ff, .nl, .ff, .nl, .ff, .nl, .nl, .ff, .nl, .nl, .ff, .ff],true⟩),
 (122,⟨.pt,1,some [.d (.v (.pointer none))],false⟩),
 (124,⟨.st [(0,34,1),(1,3,1),(2,3,1),(3,9,1)],4,some [.d (.v (.nilIface)), .d (.v (.int .i64 0)), .d (.v (.int .i64 0)), .d (.v (.string ⟨#[]⟩))],true⟩),
 (130,⟨.o,12,some [.d (.v (.int .i64 0)), .d (.v (.int .i64 0)), .d (.v (.pointer none)), .d (.v (.int .i64 0)), .d (.v (.int .i64 0)), .d (.v (.pointer none)), .d (.v (.int .i64 0)), .d (.v (.int .i64 0)), .d (.v (.pointer none)), .d (.v (.int .i64 0)), .d (.v (.int .i64 0)), .d (.v (.pointer none))],true⟩),
 (132,⟨.st [(0,87,3),(3,87,3),(6,87,3)],9,some [.d (.v (.int .i64 0)), .d (.v (.int .i64 0)), .d (.v (.pointer none)), .d (.v (.int .i64 0)), .d (.v (.int .i64 0)), .d (.v (.pointer none)), .d (.v (.int .i64 0)), .d (.v (.int .i64 0)), .d (.v (.pointer none))],true⟩),
 (134,⟨.st [(0,87,3),(3,87,3),(6,4,1),(7,4,1)],8,some [.d (.v (.int .i64 0)), .d (.v (.int .i64 0)), .d (.v (.pointer none)), .d (.v (.int .i64 0)), .d (.v (.int .i64 0)), .d (.v (.pointer none)), .ff, .ff],true⟩),
 (136,⟨.st [(0,132,9),(9,134,8)],17,some [.d (.v (.int .i64 0)), .d (.v (.int .i64 0)), .d (.v (.pointer none)), .d (.v (.int .i64 0)), .d (.v (.int .i64 0)), .d (.v (.pointer none)), .d (.v (.int .i64 0)), .d (.v (.int .i64 0)), .d (.v (.pointer none)), .d (.v (.int .i64 0)), .d (.v (.int .i64 0)), .d (.v (.pointer none)), .d (.v (.int .i64 0)), .d (.v (.int .i64 0)), .d (.v (.pointer none)), .ff, .ff],true⟩),
 (140,⟨.st [],0,some [],true⟩),
 (142,⟨.pt,1,some [.d (.v (.pointer none))],false⟩),
 (144,⟨.st [(0,3,1),(1,92,1)],2,some [.d (.v (.int .i64 0)), .d (.v (.nilFunc))],true⟩),
 (149,⟨.st [(0,132,9),(9,82,1),(10,82,1),(11,4,1)],12,some [.d (.v (.int .i64 0)), .d (.v (.int .i64 0)), .d (.v (.pointer none)), .d (.v (.int .i64 0)), .d (.v (.int .i64 0)), .d (.v (.pointer none)), .d (.v (.int .i64 0)), .d (.v (.int .i64 0)), .d (.v (.pointer none)), .d (.v (.pointer none)), .d (.v (.pointer none)), .ff],true⟩),
 (151,⟨.st [(0,60,2),(2,60,2),(4,60,2)],6,some [.ff, .nl, .ff, .nl, .ff, .nl],true⟩),
 (154,⟨.st [(0,151,6),(6,3,1),(7,3,1)],8,some [.ff, .nl, .ff, .nl, .ff, .nl, .d (.v (.int .i64 0)), .d (.v (.int .i64 0))],true⟩),
 (170,⟨.int .u64,1,some [.d (.v (.int .u64 0))],false⟩),
 (171,⟨.pt,1,some [.d (.v (.pointer none))],false⟩),
 (172,⟨.sl 4 1 1,1,some [.nl],false⟩),
 (174,⟨.st [(0,30,1),(1,172,1),(2,3,1),(3,4,1)],4,some [.nl, .nl, .d (.v (.int .i64 0)), .ff],true⟩),
 (194,⟨.sl 136 17 128,1,some [.nl],false⟩),
 (218,⟨.int .u32,1,some [.d (.v (.int .u32 0))],false⟩),
 (219,⟨.int .u64,1,some [.d (.v (.int .u64 0))],false⟩),
 (245,⟨.st [(0,60,2),(2,58,1)],3,some [.ff, .nl, .nl],true⟩),
 (268,⟨.sl 204 1 8,1,some [.nl],false⟩),
 (271,⟨.sl 87 3 24,1,some [.nl],false⟩),
 (290,⟨.int .i64,1,some [.d (.v (.int .i64 0))],false⟩),
 (316,⟨.int .u64,1,some [.d (.v (.int .u64 0))],false⟩),
 (320,⟨.pt,1,some [.d (.v (.pointer none))],false⟩),
 (332,⟨.o,32,some [.d (.v (.int .u8 0)), .d (.v (.int .u8 0)), .d (.v (.int .u8 0)), .d (.v (.int .u8 0)), .d (.v (.int .u8 0)), .d (.v (.int .u8 0)), .d (.v (.int .u8 0)), .d (.v (.int .u8 0)), .d (.v (.int .u8 0)), .d (.v (.int .u8 0)), .d (.v (.int .u8 0)), .d (.v (.int .u8 0)), .d (.v (.int .u8 0)), .d (.v (.int .u8 0)), .d (.v (.int .u8 0)), .d (.v (.int .u8 0)), .d (.v (.int .u8 0)), .d (.v (.int .u8 0)), .d (.v (.int .u8 0)), .d (.v (.int .u8 0)), .d (.v (.int .u8 0)), .d (.v (.int .u8 0)), .d (.v (.int .u8 0)), .d (.v (.int .u8 0)), .d (.v (.int .u8 0)), .d (.v (.int .u8 0)), .d (.v (.int .u8 0)), .d (.v (.int .u8 0)), .d (.v (.int .u8 0)), .d (.v (.int .u8 0)), .d (.v (.int .u8 0)), .d (.v (.int .u8 0))],true⟩),
 (333,⟨.o,64,some [.d (.v (.int .u8 0)), .d (.v (.int .u8 0)), .d (.v (.int .u8 0)), .d (.v (.int .u8 0)), .d (.v (.int .u8 0)), .d (.v (.int .u8 0)), .d (.v (.int .u8 0)), .d (.v (.int .u8 0)), .d (.v (.int .u8 0)), .d (.v (.int .u8 0)), .d (.v (.int .u8 0)), .d (.v (.int .u8 0)), .d (.v (.int .u8 0)), .d (.v (.int .u8 0)), .d (.v (.int .u8 0)), .d (.v (.int .u8 0)), .d (.v (.int .u8 0)), .d (.v (.int .u8 0)), .d (.v (.int .u8 0)), .d (.v (.int .u8 0)), .d (.v (.int .u8 0)), .d (.v (.int .u8 0)), .d (.v (.int .u8 0)), .d (.v (.int .u8 0)), .d (.v (.int .u8 0)), .d (.v (.int .u8 0)), .d (.v (.int .u8 0)), .d (.v (.int .u8 0)), .d (.v (.int .u8 0)), .d (.v (.int .u8 0)), .d (.v (.int .u8 0)), .d (.v (.int .u8 0)), .d (.v (.int .u8 0)), .d (.v (.int .u8 0)), .d (.v (.int .u8 0)), .d (.v (.int .u8 0)), .d (.v (.int .u8 0)), .d (.v (.int .u8 0)), .d (.v (.int .u8 0)), .d (.v (.int .u8 0)), .d (.v (.int .u8 0)), .d (.v (.int .u8 0)), .d (.v (.int .u8 0)), .d (.v (.int .u8 0)), .d (.v (.int .u8 0)), .d (.v (.int .u8 0)), .d (.v (.int .u8 0)), .d (.v (.int .u8 0)), .d (.v (.int .u8 0)), .d (.v (.int .u8 0)), .d (.v (.int .u8 0)), .d (.v (.int .u8 0)), .d (.v (.int .u8 0)), .d (.v (.int .u8 0)), .d (.v (.int .u8 0)), .d (.v (.int .u8 0)), .d (.v (.int .u8 0)), .d (.v (.int .u8 0)), .d (.v (.int .u8 0)), .d (.v (.int .u8 0)), .d (.v (.int .u8 0)), .d (.v (.int .u8 0)), .d (.v (.int .u8 0)), .d (.v (.int .u8 0))],true⟩),
 (334,⟨.pt,1,some [.d (.v (.pointer none))],false⟩),
 (352,⟨.st [(0,9,1)],1,some [.d (.v (.string ⟨#[]⟩))],true⟩)]
def d9:nf Go.Proofs.Tryz.prog tt:=nf.of (by kernel_rfl)
end Go.Sx
end
section
namespace Go.Sx
open Go Go.Proofs Tryz
def r8:Nat->List DV->aA
 |_,[]=>[]
 |i,v::t=>(i, .d v)::r8 (i+1) t
class Fu where n:Nat
instance fu0:Fu:=⟨400⟩
section
variable {GB:Gh} {C:aD} {n:Nat} {Q0:Exit->Act->World->Prop} {fr fr':aA} {own own':aI} {cf cf':Cf} {vc vc':List Prop} {ops:Array Oper} {r:List Oper} {o:Oper} {K:List Kt}
def f5{q:Nat}(h:go tt n q [] fr own cf=⟨vc,fr',own',cf'⟩)(hv:ah vc)(k:aj prog GB C n Q0 fr' own' cf'):aj prog GB C n Q0 fr own cf:=by
 have:=(jc (GB:=GB) (C:=C) (Q0:=Q0) d9 follows q [] fr own cf (by rw[h];exact hv)).2;rw[h] at this;exact this k
def gx[fu:Fu](h:go tt n fu.n [] fr own cf=⟨vc,fr',own',cf'⟩)(k:aj prog GB C n Q0 fr' own' cf')(hv:ah vc:=by first|exact trivial|(simp only[ah];kernel_rfl)|(simp only[ah];omega)|(simp only[ah,aJ,aN,aU];omega)):aj prog GB C n Q0 fr own cf:=f5 h hv k
def Mf: ∀{ds:List DV} {vs:List Value} {ρ:NE} {G:Gh} (i:Nat),IsLs G ds vs-> ∀k f,bg (r8 i ds) k=some f-> ∃y,(∃j,k=i+j/\vs[j]? =some y)/\cb ρ G f y
 |[],vs,ρ,G,i,h,k,f,e=>by cases e
 |d::t,vs,ρ,G,i,h,k,f,e=>by
  obtain⟨y,m,rfl,h1,h2⟩:=aP.1 h;simp only[r8] at e;rw[ju] at e;split at e
  ·cases e;rename_i hk;exact⟨y,⟨0,hk,rfl⟩,h1⟩
  ·obtain⟨u,⟨j,hj,hu⟩,h3⟩:=Mf (i+1) h2 k f e
   exact⟨u,⟨j+1,by omega,by simpa using hu⟩,h3⟩
def Be{ds:List DV}{vs:List Value}{ρ:NE}{G:Gh}{a:Act}(h:IsLs G ds vs)(hf:l7 (nP 0 vs) a)(k:Nat)(f:FX)(e:bg (r8 0 ds) k=some f): ∃y,a.tmps[k]? =some y/\cb ρ G f y:=by
 obtain⟨y,⟨j,hj,hy⟩,h1⟩:=Mf (ρ:=ρ) 0 h k f e;refine⟨y,hf k y ?_,h1⟩;rw[hj];exact y4 vs 0 j y hy
def fn[fu:Fu]{f:FuncId}{fb:Func}{c:Code}{m:Nat}{ds:List DV}{rv:DV}(hf:prog.funcs[f]? =some fb)(hb:fb.body=some c)(hn:(fb.name== "runtime.NumGoroutine")=false)(hm:fb.ntmps=m)(hlen:Nat.ble ds.length m=true)
  (hgo:go tt m fu.n [] (r8 0 ds) [] (.code c [])=⟨vc,fr,own,cf⟩)(k: ∀C:aD,aj prog GB C m (gv C prog fb (jD C (fun v G'=>Is G' rv v))) fr own cf)
  (hv:ah vc:=by first|exact trivial|(simp only[ah];kernel_rfl)|(simp only[ah];omega)|(simp only[ah,aJ,aN,aU];omega)):PF GB prog f ds rv:=by
 intro G vs hg hvs;refine Fn.introR hf hb hn hm (by rw[hvs.len];exact hlen) fun C _ _ hrd hfx=>?_;intro a w rl;refine z7 hrd ?_;have h:=f5 (GB:=GB) (C:=C) (Q0:=gv C prog fb (jD C (fun v G'=>Is G' rv v))) hgo hv (k C);exact h.run (fun _=>⟨none,0,0⟩) G [] a w ⟨hg,rl.h,rl.sz,rl.df,(fun k f e=>Be hvs rl.fr k f e),(fun nm B e=>by cases e),(fun nm nm' B B' e=>by cases e),fun nm p _ _ e=>by rw[hfx] at e;cases e⟩
def aj.cond{c:Operand}{x y:Code}{b:Bool}{f:FX}(hc:aO (bg fr) c=some f)(hb:ue f=some b)(h1:b=true->aj prog GB C n Q0 fr own (.code x K))(h2:b=false->aj prog GB C n Q0 fr own (.code y K)):aj prog GB C n Q0 fr own (.code (.cond c x y) K):=SX.cond hc hb h1 h2
variable {fr1 fr2:aA} {own1 own2:aI} {cf1 cf2:Cf} {vc1 vc2:List Prop}
def br[fu1:Fu][fu2:Fu]{p:Prop}{hp:Decidable p}{c:Operand}{x y:Code}(hc:aO (bg fr) c=some (.pr p hp))(g1:go tt n fu1.n [] fr own (.code x K)=⟨vc1,fr1,own1,cf1⟩)(g2:go tt n fu2.n [] fr own (.code y K)=⟨vc2,fr2,own2,cf2⟩)
  (k1:p->aj prog GB C n Q0 fr1 own1 cf1)(k2: ¬p->aj prog GB C n Q0 fr2 own2 cf2)
  (v1:p->ah vc1:=by intro;first|exact trivial|(simp only[ah];omega)|(simp only[ah,aJ,aN,aU];omega))(v2: ¬p->ah vc2:=by intro;first|exact trivial|(simp only[ah];omega)|(simp only[ah,aJ,aN,aU];omega)):aj prog GB C n Q0 fr own (.code (.cond c x y) K):=
 .cond hc J (fun h=>f5 g1 (v1 (of_decide_eq_true h)) (k1 (of_decide_eq_true h))) (fun h=>f5 g2 (v2 (of_decide_eq_false h)) (k2 (of_decide_eq_false h)))
def bd[fu1:Fu][fu2:Fu]{p:Prop}{hp:Decidable p}{c:Operand}{x y:Code}(hc:aO (bg fr) c=some (.d (.v (.bool (@decide p hp)))))(g1:go tt n fu1.n [] fr own (.code x K)=⟨vc1,fr1,own1,cf1⟩)(g2:go tt n fu2.n [] fr own (.code y K)=⟨vc2,fr2,own2,cf2⟩)
  (k1:p->aj prog GB C n Q0 fr1 own1 cf1)(k2: ¬p->aj prog GB C n Q0 fr2 own2 cf2)
  (v1:p->ah vc1:=by intro;first|exact trivial|(simp only[ah];omega)|(simp only[ah,aJ,aN,aU];omega))(v2: ¬p->ah vc2:=by intro;first|exact trivial|(simp only[ah];omega)|(simp only[ah,aJ,aN,aU];omega)):aj prog GB C n Q0 fr own (.code (.cond c x y) K):=
 .cond hc J (fun h=>f5 g1 (v1 (of_decide_eq_true h)) (k1 (of_decide_eq_true h))) (fun h=>f5 g2 (v2 (of_decide_eq_false h)) (k2 (of_decide_eq_false h)))
def bb[fu1:Fu][fu2:Fu]{b:Bool}{c:Operand}{x y:Code}(hc:aO (bg fr) c=some (.d (.v (.bool b))))(g1:go tt n fu1.n [] fr own (.code x K)=⟨vc1,fr1,own1,cf1⟩)(g2:go tt n fu2.n [] fr own (.code y K)=⟨vc2,fr2,own2,cf2⟩)
  (k1:b=true->aj prog GB C n Q0 fr1 own1 cf1)(k2:b=false->aj prog GB C n Q0 fr2 own2 cf2)
  (v1:b=true->ah vc1:=by intro;first|exact trivial|(simp only[ah];omega)|(simp only[ah,aJ,aN,aU];omega))(v2:b=false->ah vc2:=by intro;first|exact trivial|(simp only[ah];omega)|(simp only[ah,aJ,aN,aU];omega)):aj prog GB C n Q0 fr own (.code (.cond c x y) K):=
 .cond hc J (fun h=>f5 g1 (v1 h) (k1 h)) (fun h=>f5 g2 (v2 h) (k2 h))
def oB{d:Nat}{f g:FX}(hl:bg fr d=some f)(hi: ∀ρ G y,cb ρ G f y->cb ρ G g y){Φ:Act->World->Prop}(h:SX GB C n (bg ((d,g)::fr)) (bi own) Φ):SX GB C n (bg fr) (bi own) Φ:=by
 refine⟨fun ρ G ov a w r=>h.run ρ G ov a w ⟨r.gb,r.h,r.sz,r.df,fun k f' e=>?_,r.bx,r.dj,r.fxd⟩⟩;rw[ju] at e;split at e
 ·cases e;rename_i hk;subst hk
  obtain⟨y,h1,h2⟩:=r.fx _ _ hl;exact⟨y,h1,hi _ _ _ h2⟩
 ·exact r.fx k f' e
def ao(d:Nat){f:FX}(g:FX)(hl:bg fr d=some f)(e:f=g)(h:aj prog GB C n Q0 ((d,g)::fr) own cf):aj prog GB C n Q0 fr own cf:=by
 have hs:bg ((d,g)::fr)=bg fr:=by
  funext k;rw[ju];split
  ·rename_i hk;rw[hk,hl,e]
  ·rfl
 cases cf with
 |dr id ops fr0 own0 us r K=>exact fun D=>h ⟨D.pre,by rw[hs];exact D.st,D.snd⟩
 |_=>unfold aj at h⊢;rw[hs] at h;exact h
def kT(d:Nat){p:Prop}{hp:Decidable p}(hl:bg fr d=some (.pr p hp))(h:p)(k:aj prog GB C n Q0 ((d, .tt)::fr) own (.ops ops r K)):aj prog GB C n Q0 fr own (.ops ops r K):=
 oB hl (fun _ _ _ e=>by rw[show _=_ from e,decide_eq_true h];exact J) k
def kF(d:Nat){p:Prop}{hp:Decidable p}(hl:bg fr d=some (.pr p hp))(h: ¬p)(k:aj prog GB C n Q0 ((d, .ff)::fr) own (.ops ops r K)):aj prog GB C n Q0 fr own (.ops ops r K):=
 oB hl (fun _ _ _ e=>by rw[show _=_ from e,decide_eq_false h];exact J) k
def nlD(d:Nat)(hl:bg fr d=some .nl){e:Exit}(h:aj prog GB C n Q0 ((d, .d (.sl []))::fr) own (.ex e K)):aj prog GB C n Q0 fr own (.ex e K):=
 oB (g:= .d (.sl [])) hl (fun ρ G y hy=>(show Is G (.sl []) y from oy (ρ:=ρ) (f:= .nl) hy J)) h
def PF.to{f:FuncId}{ds:List DV}{r1 r2:DV}{P:Program}(h:PF GB P f ds r1)(e:r1=r2):PF GB P f ds r2:=e▸h
def cs[fu1:Fu][fu2:Fu](d:Nat){p:Prop}{hp:Decidable p}(hl:bg fr d=some (.pr p hp))(g1:go tt n fu1.n [] ((d, .tt)::fr) own (.ops ops r K)=⟨vc1,fr1,own1,cf1⟩)(g2:go tt n fu2.n [] ((d, .ff)::fr) own (.ops ops r K)=⟨vc2,fr2,own2,cf2⟩)
  (k1:p->aj prog GB C n Q0 fr1 own1 cf1)(k2: ¬p->aj prog GB C n Q0 fr2 own2 cf2)
  (v1:p->ah vc1:=by intro;first|exact trivial|(simp only[ah];omega)|(simp only[ah,aJ,aN,aU];omega))(v2: ¬p->ah vc2:=by intro;first|exact trivial|(simp only[ah];omega)|(simp only[ah,aJ,aN,aU];omega)):aj prog GB C n Q0 fr own (.ops ops r K):=by
 by_cases h:p
 ·exact oB hl (fun _ _ _ e=>by rw[show _=_ from e,decide_eq_true h];exact J) (f5 g1 (v1 h) (k1 h))
 ·exact oB hl (fun _ _ _ e=>by rw[show _=_ from e,decide_eq_false h];exact J) (f5 g2 (v2 h) (k2 h))
def ml[fu1:Fu][fu2:Fu](d:Nat){b:Bool}(hl:bg fr d=some (.d (.v (.bool b))))(g1:go tt n fu1.n [] ((d, .tt)::fr) own (.ops ops r K)=⟨vc1,fr1,own1,cf1⟩)(g2:go tt n fu2.n [] ((d, .ff)::fr) own (.ops ops r K)=⟨vc2,fr2,own2,cf2⟩)
  (k1:b=true->aj prog GB C n Q0 fr1 own1 cf1)(k2:b=false->aj prog GB C n Q0 fr2 own2 cf2)
  (v1:b=true->ah vc1:=by intro;first|exact trivial|(simp only[ah];omega)|(simp only[ah,aJ,aN,aU];omega))(v2:b=false->ah vc2:=by intro;first|exact trivial|(simp only[ah];omega)|(simp only[ah,aJ,aN,aU];omega)):aj prog GB C n Q0 fr own (.ops ops r K):=by
 cases h:b with
 |true=>exact oB hl (fun _ G _ e=>by rw[(aH (G:=G)).1 e,h];exact J) (f5 g1 (v1 h) (k1 h))
 |false=>exact oB hl (fun _ G _ e=>by rw[(aH (G:=G)).1 e,h];exact J) (f5 g2 (v2 h) (k2 h))
def HG:Cf->Option (Array Oper×Oper)
 | .ops ops (o::_) _=>some (ops,o)
 | .dr _ ops _ _ _ (o::_) _=>some (ops,o)
 |_=>none
def bE(fr:aA):Cf->LK
 | .dr _ ops _ _ _ (o::_) _=>mp (B4 ops o) (bg fr)
 |_=>bg fr
def gD(fr:aA)(own:aI):Cf->BM
 | .dr _ ops _ _ _ (o::_) _=>mp (Fw o fr (B4 ops o)) (bi own)
 |_=>bi own
def bad:Ar:=⟨[False],[],[], .ex .normal []⟩
def cI(T:TT)(n q:Nat)(fr:aA)(own:aI)(cf:Cf)(f:FX)(bl:List (Nat×Option Bk))(nw:List Nat):Ar:=match cf with
 | .ops ops (o::r) K=>bif vW nw o.dst fr own&&cd n o.dst then rB own bl fun own'=>y5 fr o.dst f fun fr'=>go T n q [] fr' own' (.ops ops r K) else bad
 | .dr id ops fr0 own0 us (o::r) K=>bif cd n o.dst then l9 (B4 ops o) fun rs=>l9 (Fw o fr rs) fun rn=>rB own bl fun own'=>l9 (us++[⟨rs,o.dst,f,rn,bl,nw⟩]) fun us'=>y5 fr o.dst f fun fr'=>go T n q [] fr' own' (.dr id ops fr0 own0 us' r K) else bad
 |_=>bad
def yn(ops:Array Oper)(lk:LK):Option (Nat×Bool)->Bool
 |none=>true
 |some (j,b)=>match ops[j]? with
  |some oj=>match oj.dst with
   |some d=>match lk d with
    |some .tt=>b
    |some .ff=>!b
    |_=>false
   |none=>false
  |none=>false
def D1{lk:LK}{bk:BM}{o:Oper}(h:yn ops lk o.guard=true): ∀ρ G ov a w,bG GB C n lk bk ρ G ov a w->Region.wanted o (yielded ops a.tmps)=true:=fun ρ G ov a w r=>by
 unfold Region.wanted;unfold yn at h;split at h
 ·rename_i e;rw[e]
 ·rename_i j b e
  rw[e];split at h<;>try (cases h;done)
  rename_i oj hj;split at h<;>try (cases h;done)
  rename_i d hd;split at h<;>try (cases h;done)
  ·rename_i hl
   obtain⟨y,h1,h2⟩:=BR r hj hd hl
   cases h1;simp only[h2];subst h;rfl
  ·rename_i hl
   obtain⟨y,h1,h2⟩:=BR r hj hd hl
   cases h1;simp only[h2];cases b<;>first|rfl|(simp at h)
def uo{q:Nat}{f:FX}{bl:List (Nat×Option Bk)}{nw:List Nat}(hh:HG cf=some (ops,o))(hg:yn ops (bE fr cf) o.guard=true)(h:b8 prog GB C n (bE fr cf) (gD fr own cf) o f bl nw)
  (hgo:cI tt n q fr own cf f bl nw=⟨vc,fr',own',cf'⟩)(hv:ah vc)(k:aj prog GB C n Q0 fr' own' cf'):aj prog GB C n Q0 fr own cf:=by
 obtain⟨dst,op,ty,pos,af,gd⟩:=o
 cases cf with
 |ops ops' r K=>
  cases r with
  |nil=>cases hh
  |cons o' r=>
   cases hh
   unfold cI at hgo
   cases hc:(vW nw dst fr own&&cd n dst) with
   |false=>simp only[hc,cond_false,bad] at hgo;cases hgo;exact absurd hv (fun x=>x)
   |true=>
    simp only[hc,cond_true] at hgo;simp only[xq,Ci] at hgo;simp only[aL] at hc;exact SX.op (h.toS hc.2 (D1 hg)) (BH hc.1) (f5 hgo hv k)
 |dr id ops' fr0 own0 us r K=>
  cases r with
  |nil=>cases hh
  |cons o' r=>
   cases hh
   unfold cI at hgo
   cases hc:cd n dst with
   |false=>simp only[hc,cond_false,bad] at hgo;cases hgo;exact absurd hv (fun x=>x)
   |true=>
    simp only[hc,cond_true,tP] at hgo;simp only[xq,Ci] at hgo;intro D;exact f5 hgo hv k (D.push (h.toS hc (D1 hg)))
 |_=>cases hh
def xt(lk:LK)(fo:Operand)(args:Array Operand):Option (FuncId×List DV):=match aO lk fo with
 |some (.d (.v (.func (.func f) ⟨[]⟩ ⟨[]⟩)))=>match evDs lk args.toList with
  |some ds=>some (f,ds)
  |none=>none
 |_=>none
def HU{lk:LK}{fo:Operand}{args:Array Operand}{f:FuncId}{ds:List DV}(h:xt lk fo args=some (f,ds)):aO lk fo=some (.d (.v (.func (.func f) #[] #[])))/\evDs lk args.toList=some ds:=by
 unfold xt at h;split at h<;>try (cases h;done)
 rename_i h1;split at h<;>cases h;rename_i h2;exact⟨h1,h2⟩
def ZU{lk:LK}{bk:BM}{fo:Operand}{args:Array Operand}{tys:Array TypeId}{f:FuncId}{ds:List DV}{rv:DV}{dst:Option Nat}{ty:TypeId}{pos:String}{af:Array Edge}{gd:Option (Nat×Bool)}(ha:xt lk fo args=some (f,ds))(hF:PF GB prog f ds rv):
  b8 prog GB C n lk bk ⟨dst, .call ⟨.value fo,args,tys⟩,ty,pos,af,gd⟩ (.d rv) [] []:=by
 intro hd tl tb K' s1 s2 hf hk;refine⟨fun ρ G ov a w r Q=>?_⟩;obtain⟨h1,h2⟩:=HU ha;obtain⟨y,hy,hy'⟩:=(r.mono s1 s2).ev h1;rw[(aH (G:=G)).1 hy'] at hy;obtain⟨vs,h3,h4⟩:=(r.mono s1 s2).evDs h2;refine zC hy h3 (hF G vs r.gb h4) hd (fun v G' hG hK a' w' rl=>?_) a w Q ⟨r.h,r.sz,c9 a,r.df⟩;exact hk.run ρ G' ov a' w' ⟨r.gb.trans hG.le,rl.h,rl.sz,rl.df,(kG rl).fx (fun k g _ e=>by obtain⟨u,h5,h6⟩:=r.fx k g e;exact⟨u,h5,h6.up hG.le⟩) hK,
  fun nm B e=>by obtain⟨os,h5,h6⟩:=r.bx nm B e;exact⟨os,h5.up hG.le,h6⟩,r.dj,r.fxd⟩
def qh(T:TT)(fr:aA)(own:aI):List ResultVar->Option (List DV)
 |[]=>some []
 | .tmp t::rs=>match bg fr t with
  |some f=>match lh f with
   |some d=>match qh T fr own rs with
    |some l=>some (d::l)
    |none=>none
   |none=>none
  |none=>none
 | .cell a t::rs=>match bg fr a with
  |some (.ov nm 0)=>match dB T t with
   |some i=>match bi own nm with
    |some (.o _ cs _)=>match i.ag with
     |some (some k)=>match takeX cs 0 k with
      |some c=>match js c with
       |some d=>match qh T fr own rs with
        |some l=>some (.ag d::l)
        |none=>none
       |none=>none
      |none=>none
     |some none=>match cs[0]? with
      |some c=>match lh c with
       |some d=>match qh T fr own rs with
        |some l=>some (d::l)
        |none=>none
       |none=>none
      |none=>none
     |none=>none
    |_=>none
   |none=>none
  |_=>none
def BO{ρ:NE}{G:Gh}{ov:List ak}{a:Act}{w:World}(h:bG GB C n (bg fr) (bi own) ρ G ov a w): ∀{rs:List ResultVar} {ds:List DV},qh tt fr own rs=some ds-> ∃vs,kP prog (cG a) ov rs vs/\IsLs G ds vs:=by
 intro rs
 induction rs with
 |nil=>intro ds e;cases e;exact⟨[], .nil, .nil⟩
 |cons x rs ih=>
  intro ds e
  cases x with
  |tmp t=>
   simp only[qh] at e;split at e<;>try (cases e;done)
   rename_i f hf;split at e<;>try (cases e;done)
   rename_i d hd;split at e<;>cases e;rename_i l hl;obtain⟨vs,h1,h2⟩:=ih hl;obtain⟨y,h3,h4⟩:=h.fx t f hf;exact⟨y::vs, .tmp (Ab h3) h1, .cons (oy h4 hd) h2⟩
  |cell t ty=>
   simp only[qh] at e;split at e<;>try (cases e;done)
   rename_i nm hf;split at e<;>try (cases e;done)
   rename_i i hi;split at e<;>try (cases e;done)
   rename_i hb;obtain⟨y,h3,h4⟩:=h.fx t _ hf;obtain⟨b,m,rfl,h5,h6,h7⟩:=h.own h4 hb;have oat:im ov b m _ _:=⟨h7⟩;split at e<;>try (cases e;done)
   ·rename_i k ha
    split at e<;>try (cases e;done)
    rename_i c hc;split at e<;>try (cases e;done)
    rename_i d hd;split at e<;>cases e;rename_i l hl;obtain⟨vs,h1,h2⟩:=ih hl;obtain⟨l',h8,h9⟩:=h6.takeX hc;exact⟨.agg ⟨l'⟩::vs, .agg (Ab h3) oat (Aq (d9 _ _ hi) ha) h8 h1, .cons (c7.2 ⟨l',J,tv h9 hd⟩) h2⟩
   ·rename_i ha
    split at e<;>try (cases e;done)
    rename_i c hc;split at e<;>try (cases e;done)
    rename_i d hd;split at e<;>cases e;rename_i l hl;obtain⟨vs,h1,h2⟩:=ih hl;obtain⟨l',h8,h9⟩:=h6.get hc;exact⟨l'::vs, .sc (Ab h3) oat (A3 (d9 _ _ hi) ha) h8 h1, .cons (oy h9 hd) h2⟩
def Dl:Exit->Bool
 | .ret=>true
 | .normal=>true
 |_=>false
def rz{fb:Func}{e:Exit}{ds:List DV}{rv:DV}(hr:qh tt fr own fb.results.toList=some ds)(hd:ji ds=rv)(he:Dl e=true:=by rfl):aj prog GB C n (gv C prog fb (jD C (fun v G'=>Is G' rv v))) fr own (.ex e []):=by
 refine⟨fun ρ G ov a w r=>?_⟩;obtain⟨vs,h1,h2⟩:=BO r hr;have hk:Is G rv (gI vs):=hd▸Ck h2
 cases e with
 |ret=>exact zD (C:=C) (n:=n) (fr:=cG a) (own:=ov) (G:=G) (K:=fun v G'=>Is G' rv v) h1 hk a w ⟨r.h,r.sz,c9 a,r.df⟩
 |normal=>exact N2 (C:=C) (n:=n) (fr:=cG a) (own:=ov) (G:=G) (K:=fun v G'=>Is G' rv v) h1 hk a w ⟨r.h,r.sz,c9 a,r.df⟩
 |_=>cases he
end
end Go.Sx
end
section
namespace Go.Sx
open Go
section
variable {P:Program} {GB:Gh} {C:aD} {n:Nat} {E:pG} {fr fr':eo} {own own':List dt} {bs bs' bs1:List d4} {ops:Array Oper} {Q:Exit->Act->World->Prop} {r:List Oper} {Φ:Act->World->Prop}
variable {dst:Option Nat} {t t' ty':TypeId} {pos:String} {af:Array Edge} {gd:Option (Nat×Bool)} {x y z:Operand} {e s by_:Nat}
class aKt (P:Program) (t:TypeId) (d:outParam DV):Prop where
 z: ∃z,gh P t z/\Is (fun _=>none) d z/\d.okc=true
abbrev SV.f (w:SV):FV:= .d (.v (.slice w.a w.n w.c))
def ajj(z:Value)(k:Nat):aC (List.replicate k z)=cP z k:=by unfold aC cP;rw[List.map_replicate]
def SI{G:Gh}{d:DV}{y:Value}(h:Is G d y): ∀k:Nat,IsLs G (List.replicate k d) (List.replicate k y)
 |0=> .nil
 |k+1=> .cons h (SI h k)
def US(fr:eo):Nat->List (Nat×Operand)->Option (List DV)
 |_,[]=>some []
 |j,(i,x)::r=>match D8 fr x,US fr (j+1) r with
  |some d,some l=>bif Nat.beq i j then some (d::l) else none
  |_,_=>none
def Qr(pre mid post vs:List Value)(h:vs.length=mid.length):cE (pre++(mid++post)) pre.length vs=pre++(vs++post):=by
 rw[pD _ _ _ (by simp;omega)];simp[h]
def Yv(z:Value)(k:Nat):cP z (k+1)=aF z++cP z k:=by simp[cP,jQ]
def Ej(s:Nat)(ds:List DV):Bool:=ds.all fun d=>d.okc&&Nat.beq d.cells.length s
def IB{ds:List DV}(h:Ej s ds=true):dH s ds:=fun d hd=>by
 have:=fW.1 h d hd;simp only[aL] at this;exact⟨this.1,aT this.2⟩
def Rn{cs:List Value}{off s:Nat}: ∀(es:List Value),(∀i (h:i<es.length),cH cs (off+i*s) s=some (aF es[i]))->off<=cs.length->cH cs off (es.length*s)=some (aC es)
 |[],_,ho=>by
  rw[ma _ _ _ (by simpa using ho)];simp[aC]
 |v::t,h,ho=>by
  have h0:=h 0 (by simp);simp only[kY,fJ,pJ] at h0;obtain⟨k1,k2⟩:=BW h0;have ih:=Rn (off:=off+s) t (fun i hi=>by
   have:=h (i+1) (by simpa using hi);rw[gS,show off+(i*s+s)=off+s+i*s by omega] at this;simpa using this) (by omega)
  obtain⟨k3,k4⟩:=BW ih;rw[ma _ _ _ (by simp only[bV,gS];omega)];congr 1;have e1:aC (v::t)=aF v++aC t:=by simp[aC]
  rw[e1,k2,k4,bV,gS,lX (t.length*s) s,List.take_add,tW]
def Ys{ov:List ak}{G:Gh}{w:SV}{es:List Value}(h:eH G s w es):mO P C ov G s w.n (.slice w.a w.n w.c) (aC es):=by
 rcases h.mem with he|⟨b,off,cs,ha,hg,hc⟩
 ·subst he
  rw[h.len];exact vU
 ·rw[ha]
  by_cases he:es=[]
  ·subst he;rw[h.len];exact vU
  ·have hp:0<es.length:=qU.2 he
   have h0:=hc 0 hp;have:=(BW h0).1;rw[h.len];exact Tf hg (Rn es hc (by omega))
def aJ9(fr:eo)(bs:List d4)(s:Nat)(y:Operand)(ds:List DV):Prop:=
 (∃l,D8 fr y=some (.sl l)/\l=ds/\dH s l)\/ ∃w ty lo,Jw fr y=some w.f/\(⟨w,s,ty,ds,lo⟩:d4)∈bs/\dH s ds
def akw[hT:cv P t e s by_][hN:kj P t']{w:World}{ad2:Option Addr}{cap2:Nat}:(Builtin.append_ #[t,t'] ty' #[.slice none 0 0, .slice ad2 0 cap2]).run P w= .ok (.slice none 0 0) w:=by
 obtain⟨d,hd1⟩:=hN.un;obtain⟨i,hi,his,hib⟩:=hT.info;have h0:(Builtin.firstCells i.size 0 (.slice ad2 0 cap2)).run P w= .ok #[] w:=by
  cases ad2 with
  |none=>rfl
  |some a=>unfold Builtin.firstCells loadCells;simp[loadCellsFrom,run_pure]
 simp[Builtin.append_,run_underlying hT.un,run_underlying hd1,sizeOf,typeInfo,hi,Builtin.lenOf,h0]
def Mk[hT:cv P t e s by_][hN:kj P t']{fr:Fr}{own:List ak}{G:Gh}{ad2:Option Addr}{cap2:Nat}(hx:aw fr x=some (.slice none 0 0))(hy:aw fr y=some (.slice ad2 0 cap2))(hd:cd n dst=true)
  (h:St C n (put fr dst (.slice none 0 0)) own G Φ):Ch P C n fr own G ⟨dst, .call ⟨.builtin .append, #[x,y], #[t,t']⟩,ty',pos,af,gd⟩ Φ:=by
 intro a w Q rl;refine ke (v:= .slice none 0 0) (w':=w) ?_ (h _ _ (rl.put _ hd));simp only[execOp,resolve,gL,bL,fK,bm rl.fr hx,bm rl.fr hy];exact c6 akw
def du.upd{G:Gh}{w:SV}{s:Nat}{ty:TypeId}{ds:List DV}{lo:Bool}{B:List ak}(h:du G ⟨w,s,ty,ds,lo⟩ B){i:Nat}{d:DV}(hi:ds[i]? =some d):
  ∃b vs rest lo',w.a=some ⟨b,0,none⟩/\B=[⟨b,aC vs++rest,ty,lo'⟩]/\IsLs G ds vs/\(∀v∈vs,(aF v).length=s)/\i<vs.length/\
   ∀u d',Is G d' u->(aF u).length=s->du G ⟨w,s,ty,ds.set i d',lo⟩ [⟨b,aC (vs.set i u)++rest,ty,lo'⟩]:=by
 obtain⟨vs,hB,hv,hs,hlo⟩:=h;obtain⟨v,h1,h2⟩:=hv.get hi;obtain⟨hi',_⟩:=aS.1 h1;rcases hB with⟨e,_,_⟩|⟨b,rest,lo',h3,h4,h5,h6,h7⟩
 ·rw[e] at h1;simp at h1
 ·refine⟨b,vs,rest,lo',by simp only[] at h3;rw[h3],h4,hv,hs,hi',fun u d' hu hul=>?_⟩
  have hall: ∀x∈vs.set i u,(aF x).length=s:=fun x hx=>by
   rcases List.mem_or_eq_of_mem_set hx with h'|rfl
   ·exact hs x h'
   ·exact hul
  refine⟨vs.set i u, .inr ⟨b,rest,lo',by simpa using h3,J,ew _ hall,?_,by simpa using h7⟩,hv.set i hu,hall,fun hl o ho=>?_⟩
  ·rw[ew _ hall,aN,<-h5];exact h6
  ·have:=hlo hl
   rw[h4] at this;rw[aV.1 ho];have h9:=this ⟨b,aC vs++rest,ty,lo'⟩ aQ;exact h9
def Ve{s:Nat}{rest:List Value}{u:Value}(vs:List Value)(i:Nat)(h:i<vs.length)(hs: ∀v∈vs,(aF v).length=s)(hu:(aF u).length=s):cE (aC vs++rest) (i*s) (aF u)=aC (vs.set i u)++rest:=by
 have hl:=ew vs hs;have hle:i*s+s<=vs.length*s:=by rw[<-gS];exact bR _ h
 rw[pD _ _ _ (by rw[hu,aR];omega),hu,fV (by omega),jR (by omega),E9 vs i hs (by omega),<-gS,Fo vs (i+1) hs h,
  List.set_eq_take_append_cons_drop,if_pos h,show vs.take i++u::vs.drop (i+1)=vs.take i++([u]++vs.drop (i+1)) from J,nq,nq,wm]
 simp
def reF(ks:List Nat)(f:FV)(fr:eo):eo:=ks.map (fun k=>(k,f))++fr
end
end Go.Sx
end
section
namespace Go.Sx
open Go Go.Proofs Tryz
section
variable {GB:Gh} {C:aD} {n:Nat} {Q0:Exit->Act->World->Prop} {fr fr':aA} {own own':aI} {cf cf':Cf} {vc vc':List Prop} {ops:Array Oper} {r:List Oper} {o:Oper} {K:List Kt}
def pb(row:Bool)(nm:Nat)(l:List DV):FX->FX
 | .rw m=>bif Nat.beq m nm then(bif row then .d (.sl l) else .no) else .rw m
 | .ov m off=>bif Nat.beq m nm then(bif row then .no else(match off with
  |0=> .d (.pt l)
  |_+1=> .no)) else .ov m off
 | .be m s i j=>bif Nat.beq m nm then .no else .be m s i j
 | .rs m s i j=>bif Nat.beq m nm then .no else .rs m s i j
 | .bx tp pre m post=>bif Nat.beq m nm then(bif row then(match tp with
  |true=> .d (.tp (pre++ .sl l::post))
  |false=> .d (.ag (pre++ .sl l::post))) else .no) else .bx tp pre m post
 |f=>f
def Bw{α:Type}(f:FX)(k:FX->α):α:=match f with
 | .d x=>k (.d x)
 | .rw m=>k (.rw m)
 | .ov a b=>k (.ov a b)
 | .be a b c d=>k (.be a b c d)
 | .rs a b c d=>k (.rs a b c d)
 |f=>k f
def EM{α:Type}{f:FX}{k:FX->α}:Bw f k=k f:=by cases f<;>rfl
def Dj{α:Type}(row:Bool)(nm:Nat)(l:List DV):aA->(aA->α)->α
 |[],k=>k []
 |(j,f)::t,k=>Dj row nm l t fun t'=>Bw (pb row nm l f) fun f'=>k ((j,f')::t')
def EV{α:Type}(row:Bool)(nm:Nat)(l:List DV):List FX->(List FX->α)->α
 |[],k=>k []
 |f::t,k=>EV row nm l t fun t'=>Bw (pb row nm l f) fun f'=>k (f'::t')
def CS{α:Type}(row:Bool)(nm:Nat)(l:List DV):aI->(aI->α)->α
 |[],k=>k []
 |(j,B)::t,k=>CS row nm l t fun t'=>bif Nat.beq j nm then k ((j,none)::t') else match B with
  |some (.o ty cs lo)=>EV row nm l cs fun cs'=>k ((j,some (.o ty cs' lo))::t')
  |B=>k ((j,B)::t')
def uZ(row:Bool)(nm:Nat)(l:List DV):Option Bk->Option Bk
 |some (.o ty cs lo)=>some (.o ty (cs.map (pb row nm l)) lo)
 |B=>B
def LL{α:Type}{row:Bool}{nm:Nat}{l:List DV}: ∀{cs:List FX} {k:List FX->α},EV row nm l cs k=k (cs.map (pb row nm l))
 |[],k=>rfl
 |f::t,k=>by simp only[EV,EM];rw[LL];rfl
def Iy{α:Type}{row:Bool}{nm:Nat}{l:List DV}: ∀{fr:aA} {k:aA->α},Dj row nm l fr k=k (fr.map fun e=>(e.1,pb row nm l e.2))
 |[],k=>rfl
 |(j,f)::t,k=>by simp only[Dj,EM];rw[Iy];rfl
def Hw{α:Type}{row:Bool}{nm:Nat}{l:List DV}: ∀{own:aI} {k:aI->α},CS row nm l own k=k (own.map fun e=>(e.1,bif Nat.beq e.1 nm then none else uZ row nm l e.2))
 |[],k=>rfl
 |(j,B)::t,k=>by
  simp only[CS,Hw (own:=t),bL]
  cases Nat.beq j nm with
  |true=>rfl
  |false=>
   cases B with
   |none=>rfl
   |some B=>cases B<;>simp only[cond_false,LL,uZ]
def GP{g:FX->FX}: ∀{fr:aA} {k:Nat},bg (fr.map fun e=>(e.1,g e.2)) k=(bg fr k).map g
 |[],k=>rfl
 |(j,f)::t,k=>by
  simp only[bL];rw[ju,ju,GP (fr:=t)];split<;>rfl
def OP{row:Bool}{nm:Nat}{l:List DV}: ∀{own:aI} {k:Nat},bi (own.map fun e=>(e.1,bif Nat.beq e.1 nm then none else uZ row nm l e.2)) k=if k=nm then none else uZ row nm l (bi own k)
 |[],k=>by simp[bi,uZ]
 |(j,B)::t,k=>by
  simp only[bL];rw[mr,mr,OP (own:=t)];by_cases h:k=j
  ·subst h
   simp only[if_true];by_cases e:k=nm
   ·subst e;simp
   ·have:Nat.beq k nm=false:=by
     cases hb:Nat.beq k nm with
     |false=>rfl
     |true=>exact absurd (aT hb) e
    simp[this,e]
  ·simp[h]
structure Dv where
 fr:aA
 own:aI
def Co(fr:aA)(own:aI)(nm:Nat):Option Dv:=match bi own nm with
 |some (.b _ _ ds true)=>Dj true nm ds fr fun fr'=>CS true nm ds own fun own'=>some ⟨fr',own'⟩
 |some (.o _ cs true)=>match js cs with
  |some l=>Dj false nm l fr fun fr'=>CS false nm l own fun own'=>some ⟨fr',own'⟩
  |none=>none
 |_=>none
def jy.of_mem{o:ak}: ∀{own:List ak},o∈own-> ∃own',jy own o own'/\ ∀x∈own,x.b≠o.b->x∈own'
 |[],h=>by cases h
 |x::t,h=>by
  rcases aW.1 h with rfl|h
  ·exact⟨t, .hd ..,fun y hy hb=>(aW.1 hy).elim (fun e=>absurd (by rw[e]) hb) id⟩
  ·obtain⟨own',h1,h2⟩:=jy.of_mem h
   exact⟨x::own', .tl _ _ _ _ h1,fun y hy hb=>(aW.1 hy).elim (fun e=>by rw[e];exact aQ) (fun e=>aZ _ (h2 y e hb))⟩
def NR{row:Bool}{nm:Nat}{l:List DV}{ρ:NE}{G G':Gh}{f:FX}{y:Value}(hg:bD G G')(h:cb ρ G f y)(hr:row=true-> ∀y,cb ρ G (.rw nm) y->Is G' (.sl l) y)(ho:row=false-> ∀y,cb ρ G (.ov nm 0) y->Is G' (.pt l) y):cb ρ G' (pb row nm l f) y:=by
 cases f with
 |rw m=>
  simp only[pb]
  cases hb:Nat.beq m nm with
  |false=>exact h.up hg
  |true=>
   cases aT hb
   cases row with
   |true=>exact hr J y h
   |false=>trivial
 |ov m off=>
  simp only[pb]
  cases hb:Nat.beq m nm with
  |false=>exact h.up hg
  |true=>
   cases aT hb
   cases row with
   |true=>trivial
   |false=>cases off with
    |zero=>exact ho J y h
    |succ=>trivial
 |be m s i j=>
  simp only[pb]
  cases hb:Nat.beq m nm with
  |false=>exact h.up hg
  |true=>trivial
 |rs m s i j=>
  simp only[pb]
  cases hb:Nat.beq m nm with
  |false=>exact h.up hg
  |true=>trivial
 |bx tp pre m post=>
  simp only[pb]
  cases hb:Nat.beq m nm with
  |false=>exact h.up hg
  |true=>
   cases aT hb
   cases row with
   |false=>trivial
   |true=>
    obtain⟨m1,m2,e,h1,h2⟩:=h;have hl:=(h1.up hg).app (.cons (hr J _ J) (h2.up hg))
    cases tp with
    |true=>exact jv.2 ⟨_,e,hl⟩
    |false=>exact c7.2 ⟨_,e,hl⟩
 |_=>exact h.up hg
def R7{row:Bool}{nm:Nat}{l:List DV}{ρ:NE}{G G':Gh}(hg:bD G G')(hr:row=true-> ∀y,cb ρ G (.rw nm) y->Is G' (.sl l) y)(ho:row=false-> ∀y,cb ρ G (.ov nm 0) y->Is G' (.pt l) y): ∀{cs:List FX} {m:List Value},dC ρ G cs m->dC ρ G' (cs.map (pb row nm l)) m
 |[],m,h=>h
 |f::t,m,⟨y,q,e,h1,h2⟩=>⟨y,q,e,NR hg h1 hr ho,R7 hg hr ho h2⟩
def bG.frz{ρ:NE}{G G':Gh}{ov ov':List ak}{a:Act}{w:World}{row:Bool}{nm:Nat}{l:List DV}(h:bG GB C n (bg fr) (bi own) ρ G ov a w)(hg:bD G G')(hh:bu C ov' G' w)(hv: ∀o∈ov,(ρ nm).a≠some ⟨o.b,0,none⟩->o∈ov'){B0:Bk}(hb:bi own nm=some B0)
  (hr:row=true-> ∀y,cb ρ G (.rw nm) y->Is G' (.sl l) y)(ho:row=false-> ∀y,cb ρ G (.ov nm 0) y->Is G' (.pt l) y):
  bG GB C n (bg (fr.map fun e=>(e.1,pb row nm l e.2))) (bi (own.map fun e=>(e.1,bif Nat.beq e.1 nm then none else uZ row nm l e.2))) ρ G' ov' a w:=by
 have inv: ∀m B,bi (own.map fun e=>(e.1,bif Nat.beq e.1 nm then none else uZ row nm l e.2)) m=some B->m≠nm/\ ∃B1,bi own m=some B1/\uZ row nm l (some B1)=some B:=fun m B e=>by
  rw[OP] at e;split at e
  ·cases e
  ·rename_i hm
   refine⟨hm,?_⟩
   cases hl:bi own m with
   |none=>rw[hl] at e;cases e
   |some B1=>rw[hl] at e;exact⟨B1,J,e⟩
 refine⟨h.gb.trans hg,hh,h.sz,h.df,fun k f e=>?_,fun m B e=>?_,fun m m' B B' e e'=>?_,h.fxd⟩
 ·rw[GP] at e
  cases hf:bg fr k with
  |none=>rw[hf] at e;cases e
  |some g=>
   rw[hf] at e;cases e;obtain⟨y,h1,h2⟩:=h.fx k g hf;exact⟨y,h1,NR hg h2 hr ho⟩
 ·obtain⟨hm,B1,h1,h2⟩:=inv m B e
  obtain⟨os,h3,h4⟩:=h.bx m B1 h1;refine⟨os,?_,fun o ho'=>hv o (h4 o ho') fun hc=>h.dj m nm B1 B0 h1 hb hm _ (h3.blk ho') hc⟩
  cases B1 with
  |b=>cases h2;exact h3.up hg
  |c=>cases h2;exact h3.up hg
  |o ty cs lo=>cases h2;obtain⟨b,q,h5,h6,h7⟩:=h3;exact⟨b,q,h5,h6,R7 hg hr ho h7⟩
 ·obtain⟨_,B1,h1,_⟩:=inv m B e
  obtain⟨_,B2,h2,_⟩:=inv m' B' e';exact h.dj m m' B1 B2 h1 h2
def bG.frzRow{lk:LK}{bk:BM}{ρ:NE}{G:Gh}{ov:List ak}{a:Act}{w:World}{nm:Nat}{ty:TypeId}{s:Nat}{ds:List DV}(r:bG GB C n lk bk ρ G ov a w)(hb:bk nm=some (.b ty s ds true)):
  ∃G' ov',bD G G'/\bu C ov' G' w/\(∀o∈ov,(ρ nm).a≠some ⟨o.b,0,none⟩->o∈ov')/\ ∀y,cb ρ G (.rw nm) y->Is G' (.sl ds) y:=by
 obtain⟨B,⟨vs,hB,hv,hs,hlo⟩,hBo⟩:=r.row (y:= .nilFunc) hb;rcases hB with⟨e1,e2,e3⟩|⟨b,rest,lo',e2,e3,h5,h6,h7⟩
 ·subst e1
  have ed:ds=[]:=bU (by rw[<-hv.len];rfl);subst ed;simp only at e2;refine⟨G,ov,bD.refl _,r.h,fun o ho _=>ho,fun y hy=>?_⟩;rw[show y=_ from hy,e2];exact iu.2 ⟨0,⟨none,0,0⟩,[],J, .nil G 0, .nil⟩
 ·subst e3
  have hl:=hlo J _ aQ;simp only at hl;subst hl;obtain⟨ov',o1,o2⟩:=jy.of_mem (hBo _ aQ);obtain⟨f1,f2⟩:=r.h.freeze o1;simp only at e2;refine⟨_,ov',f2,f1,fun o ho hne=>o2 o ho fun e=>hne (by rw[e2,e]),fun y hy=>?_⟩;rw[show y=_ from hy,e2];exact iu.2 ⟨s,⟨some ⟨b,0,none⟩,vs.length,_⟩,vs,J,eH.of_flat hs (if_pos J) h7,hv.up f2⟩
def bG.frzVar{lk:LK}{bk:BM}{ρ:NE}{G:Gh}{ov:List ak}{a:Act}{w:World}{nm:Nat}{ty:TypeId}{cs:List FX}{l:List DV}(r:bG GB C n lk bk ρ G ov a w)(hb:bk nm=some (.o ty cs true))(hl:js cs=some l):
  ∃G' ov',bD G G'/\bu C ov' G' w/\(∀o∈ov,(ρ nm).a≠some ⟨o.b,0,none⟩->o∈ov')/\ ∀y,cb ρ G (.ov nm 0) y->Is G' (.pt l) y:=by
 obtain⟨os,⟨b,m,h3,rfl,h4⟩,h5⟩:=r.bx _ _ hb;obtain⟨ov',o1,o2⟩:=jy.of_mem (h5 _ aQ);obtain⟨f1,f2⟩:=r.h.freeze o1;refine⟨_,ov',f2,f1,fun o ho hne=>o2 o ho fun e=>hne (by rw[h3,e]),fun y hy=>?_⟩;obtain⟨b',h6,rfl⟩:=hy;rw[h3] at h6;cases h6;exact pH.2 ⟨b,m,J,if_pos J,(tv h4 hl).up f2⟩
def H1{nm:Nat}{Φ:Act->World->Prop}{R:Dv}(h:Co fr own nm=some R)(hk:SX GB C n (bg R.fr) (bi R.own) Φ):SX GB C n (bg fr) (bi own) Φ:=by
 refine⟨fun ρ G ov a w r=>?_⟩;unfold Co at h;split at h<;>try (cases h;done)
 ·rename_i ty s ds hb
  rw[Iy,Hw] at h;cases h;obtain⟨G',ov',h1,h2,h3,h4⟩:=r.frzRow hb;exact hk.run ρ G' ov' a w (r.frz (row:=true) h1 h2 h3 hb (fun _=>h4) (fun e=>by cases e))
 ·rename_i ty cs hb
  split at h<;>try (cases h;done)
  rename_i l hl;rw[Iy,Hw] at h;cases h;obtain⟨G',ov',h1,h2,h3,h4⟩:=r.frzVar hb hl;exact hk.run ρ G' ov' a w (r.frz (row:=false) h1 h2 h3 hb (fun e=>by cases e) (fun _=>h4))
def fz[fu:Fu](nm:Nat){fr1:aA}{own1:aI}(h:Co fr own nm=some ⟨fr1,own1⟩)(hgo:go tt n fu.n [] fr1 own1 (.ops ops r K)=⟨vc,fr',own',cf'⟩)(k:aj prog GB C n Q0 fr' own' cf')(hv:ah vc:=by first|exact trivial|(simp only[ah];kernel_rfl)|(simp only[ah];omega)|(simp only[ah,aJ,aN,aU];omega)):aj prog GB C n Q0 fr own (.ops ops r K):=
 H1 h (f5 hgo hv k)
def mD(nm:Nat){fr1:aA}{own1:aI}{e:Exit}(h:Co fr own nm=some ⟨fr1,own1⟩)(k:aj prog GB C n Q0 fr1 own1 (.ex e K)):aj prog GB C n Q0 fr own (.ex e K):=H1 h k
def uA(nm:Nat){fr1:aA}{own1:aI}{c:Code}(h:Co fr own nm=some ⟨fr1,own1⟩)(k:aj prog GB C n Q0 fr1 own1 (.code c K)):aj prog GB C n Q0 fr own (.code c K):=H1 h k
def u9:aA->aA->Prop
 |[],_=>True
 |(k,v)::t,fr=>bg fr k=some v/\u9 t fr
def Ah:aI->aI->Prop
 |[],_=>True
 |(k,v)::t,own=>bi own k=v/\Ah t own
def ww: ∀{f:aA},u9 f fr->kd (bg f) (bg fr)
 |[],_,k,x,h=>by cases h
 |(j,v)::t,h,k,x,e=>by
  rw[ju] at e;split at e
  ·cases e;rename_i hk;rw[hk];exact h.1
  ·exact ww h.2 k x e
def x8: ∀{f:aI},Ah f own->kd (bi f) (bi own)
 |[],_,k,x,h=>by cases h
 |(j,v)::t,h,k,x,e=>by
  rw[mr] at e;split at e
  ·rename_i hk;rw[hk,h.1,e]
  ·exact x8 h.2 k x e
def pP{k:Nat}{q:IntKind}{a b:Int}(h:bg fr k=some (.d (.v (.int q a))))(e:a=b):bg fr k=some (.d (.v (.int q b))):=e▸h
def Jo(GB:Gh)(C:aD)(n:Nat){X:Type}(F:X->aA)(O:X->aI)(I:X->Prop)(a:Act)(w:World):Prop:=
 ∃x ρ G ov,I x/\bG GB C n (bg (F x)) (bi (O x)) ρ G ov a w
def IY:List Oper->List Nat->List Nat
 |[],l=>l
 |o::r,l=>match o.dst with
  |some d=>d::IY r l
  |none=>IY r l
def vw:Code->List Nat->List Nat
 | .region _ ops _,l=>IY ops.toList l
 | .seq a b,l=>vw a (vw b l)
 | .cond _ a b,l=>vw a (vw b l)
 | .block _ a,l=>vw a l
 | .loop a,l=>vw a l
 | .scope a,l=>vw a l
 |_,l=>l
def JE{α:Type}:List Nat->aA->(aA->α)->α
 |_,[],k=>k []
 |l,(j,f)::t,k=>bif uT l j then JE l t k else JE (j::l) t fun t'=>k ((j,f)::t')
def Eq{α:Type}:List Nat->aI->(aI->α)->α
 |_,[],k=>k []
 |l,(j,B)::t,k=>bif uT l j then Eq l t k else match B with
  |some B=>Eq l t fun t'=>k ((j,some B)::t')
  |none=>Eq l t k
structure Kp where
 fr:aA
 own:aI
def keep(c:Code)(uf uo:List Nat)(fr:aA)(own:aI):Kp:=l9 (vw c uo) fun m=>l9 (uf++m) fun m'=>JE m' fr fun fr'=>Eq m own fun own'=>⟨fr',own'⟩
def lp[fu:Fu]{c:Code}{X:Type}(U:X->aA)(V:X->aI)(I:X->Prop)(μ:X->Nat)(x0:X){kf:aA}{ko:aI}{cf':X->Cf}{fr':X->aA}{own':X->aI}{vc:X->List Prop}(hkp:keep c ((U x0).map (·.1)) ((V x0).map (·.1)) fr own=⟨kf,ko⟩)(hI:I x0)
  (hgo: ∀x,go tt n fu.n [] (U x++kf) (V x++ko) (.code c (.ag (Jo GB C n (fun y=>U y++kf) (fun y=>V y++ko) (fun y=>I y/\μ y<μ x))::K))=⟨vc x,fr' x,own' x,cf' x⟩)
  (round: ∀x,I x->aj prog GB C n Q0 (fr' x) (own' x) (cf' x))(hF:u9 (U x0++kf) fr:=by repeat (first|exact trivial|refine And.intro J ?_|refine And.intro (pP J (by first|omega|(dsimp only;omega))) ?_|refine And.intro (pP J (by simp)) ?_))(hO:Ah (V x0++ko) own:=by repeat (first|exact trivial|refine And.intro J ?_))
  (hv: ∀x,I x->ah (vc x):=by intros;first|exact trivial|(simp only[ah];kernel_rfl)|(simp only[ah];omega)|(simp only[ah,aJ,aN,aU];omega)):aj prog GB C n Q0 fr own (.code (.loop c) K):=by
 refine⟨fun ρ G ov a w r=>?_⟩;have r0:=r.mono (ww hF) (x8 hO);intro b k cs hro hb hrm;have key: ∀m a w,(∃x ρ G ov,I x/\μ x=m/\bG GB C n (bg (U x++kf)) (bi (V x++ko)) ρ G ov a w)->
   ∃e a' w',cQ C.rd prog Q0 K e a' w'/\ArrivesIn (Machine.fenced prog (FW C.rd)) prog (lone (b.atR a (.code c:: .inLoop c::k)) cs w) b k cs e a' w':=by
  intro m
  induction m using Nat.strongRecOn with
  |_ m ih=>
   intro a w ⟨x,ρ,G,ov,hx,hm,hr⟩;have h1:=f5 (GB:=GB) (C:=C) (Q0:=Q0) (hgo x) (hv x hx) (round x hx);obtain⟨e,a₁,w₁,hq,harr⟩:=h1.run ρ G ov a w hr b (.inLoop c::k) cs hro hb hrm
   cases e with
   |normal=>
    obtain⟨x',ρ',G',ov',⟨hx',hlt⟩,hr'⟩:=hq;obtain⟨e₂,a₂,w₂,hq₂,harr₂⟩:=ih (μ x') (hm▸hlt) a₁ w₁ ⟨x',ρ',G',ov',hx',rfl,hr'⟩;exact⟨e₂,a₂,w₂,hq₂, .of_steps (StepsIn.trans harr (.one (fenced_calm hb hrm J) stepR_inLoop)) harr₂⟩
   |exit id=>exact⟨_,a₁,w₁,hq, .pass (x:= .inLoop c) J (fun _ _=> .inl (by simp)) harr⟩
   |goto l=>exact⟨_,a₁,w₁,hq, .pass (x:= .inLoop c) J (fun _ _=> .inl (by simp)) harr⟩
   |ret=>exact⟨_,a₁,w₁,hq, .pass (x:= .inLoop c) J (fun _ _=> .inl (by simp)) harr⟩
   |panic ch=>exact⟨_,a₁,w₁,hq, .pass (x:= .inLoop c) J (fun _ _=> .inl (by simp)) harr⟩
   |outgrown=>exact⟨_,a₁,w₁,hq, .pass (x:= .inLoop c) J (fun _ _=> .inl (by simp)) harr⟩
 obtain⟨e,a',w',q,rr⟩:=key (μ x0) a w ⟨x0,ρ,G,ov,hI,rfl,r0⟩;exact⟨e,a',w',q, .of_steps (.one (fenced_calm hb hrm J) stepR_loop) rr⟩
def at_{X:Type}{F:X->aA}{O:X->aI}{I:X->Prop}(x:X)(hI:I x)(hF:u9 (F x) fr:=by repeat (first|exact trivial|refine And.intro J ?_|refine And.intro (pP J (by first|omega|(dsimp only;omega))) ?_|refine And.intro (pP J (by simp)) ?_))(hO:Ah (O x) own:=by repeat (first|exact trivial|refine And.intro J ?_)):aj prog GB C n Q0 fr own (.ex .normal (.ag (Jo GB C n F O I)::K)):=
 ⟨fun ρ G ov a w r=>⟨x,ρ,G,ov,hI,r.mono (ww hF) (x8 hO)⟩⟩
def mg[fu:Fu]{c d:Code}{X:Type}(U:X->aA)(V:X->aI)(I:X->Prop){kf:aA}{ko:aI}{cf':X->Cf}{fr':X->aA}{own':X->aI}{vc:X->List Prop}(u0 v0:List Nat)(hkp:keep c u0 v0 fr own=⟨kf,ko⟩)
  (h1:aj prog GB C n Q0 fr own (.code c (.ag (Jo GB C n (fun y=>U y++kf) (fun y=>V y++ko) I)::K)))
  (hgo: ∀x,go tt n fu.n [] (U x++kf) (V x++ko) (.code d K)=⟨vc x,fr' x,own' x,cf' x⟩)(k: ∀x,I x->aj prog GB C n Q0 (fr' x) (own' x) (cf' x))(hv: ∀x,I x->ah (vc x):=by intros;first|exact trivial|(simp only[ah];kernel_rfl)|(simp only[ah];omega)|(simp only[ah,aJ,aN,aU];omega)):aj prog GB C n Q0 fr own (.code c (.sq d::K)):=by
 refine SX.imp h1 fun a w h=>axt h ?_;intro e a w h
 cases e with
 |normal=>
  obtain⟨x,ρ,G,ov,hI,hr⟩:=h;have:=f5 (GB:=GB) (C:=C) (Q0:=Q0) (hgo x) (hv x hI) (k x hI);exact this.run ρ G ov a w hr
 |_=>exact h
end
end Go.Sx
end
section
namespace Go.Sx
open Go
section
variable {P:Program} {ops:Array Oper} {Q:Exit->Act->World->Prop} {S:World->Prop} {π₂:List (Nat×Bool)}
abbrev aJK:Nat->Bool:=fun _=>false
def xh(S:World->Prop)(K:(World->Prop)->Act->World->Prop)(a:Act)(w:World):Prop:= ∃S':World->Prop,(∀w,S' w->S w)/\S' w/\K S' a w
def AV(P:Program)(ops:Array Oper)(Q:Exit->Act->World->Prop)(K:(World->Prop)->Act->World->Prop):List Nat->List (Nat×Bool)->(World->Prop)->Act->World->Prop
 |[],[],S,a,w=>K S a w
 |k::ks,[],S,a,w=> ∀j,(h:j∈k::ks)->wpOp P ops Q j (xh S (AV P ops Q K (bH (k::ks) j) [])) a w
 |ks,(i,true)::r,S,a,w=> ∃o v,ops[i]? =some o/\S w/\YieldsIf P ops S o v a/\AV P ops Q K ks r S (a.put o.dst v) w
 |ks,(i,false)::r,S,a,w=>wpOp P ops Q i (xh S (AV P ops Q K ks r)) a w/\
   ∀j,(h:j∈ks)->wpOp P ops Q j (xh S (AV P ops Q K (bH ks j) ((i,false)::r))) a w
termination_by ks π=>ks.length+π.length
decreasing_by
 all_goals (first|(have:=Ja h;simp only[bV,gM] at*;omega)|(simp only[bV];omega))
def aJT(Q:Exit->Act->World->Prop):(World->Prop)->Act->World->Prop:=fun _ a w=>Q .normal a w
end
section
variable {P:Program} {GB:Gh} {C:aD} {n:Nat} {fr fr':eo} {own own' own0 own1 own1':List dt} {bs bs0 bs1 bs1':List d4} {ops:Array Oper} {Q:Exit->Act->World->Prop} {fd:List FD} {π π₂:List (Nat×Bool)}
structure SR (GB:Gh) (C:aD) (n:Nat) (fr:eo) (own0:List dt) (bs0:List d4) (own1:List dt) (bs1:List d4) (fd:List FD) (K:List Nat->(World->Prop)->Act->World->Prop):Prop where
 run: ∀G frv o0 o1,bD GB G->Fb G fr frv->OB G own0 bs0 o0->OB G own1 bs1 o1-> ∀fs:Fs,St C n (frv++Lj fd fs) (o1++(o0++Hs fd fs)) G (K (Jm fd fs) (HS C o0 G))
instance {GB:Gh} {C:aD} {n:Nat} {fr:eo} {own0:List dt} {bs0:List d4} {own1:List dt} {bs1:List d4} {fd:List FD} {K:List Nat->(World->Prop)->Act->World->Prop}:CoeFun (SR GB C n fr own0 bs0 own1 bs1 fd K) (fun _=> ∀G frv o0 o1,bD GB G->Fb G fr frv->OB G own0 bs0 o0->OB G own1 bs1 o1-> ∀fs:Fs,St C n (frv++Lj fd fs) (o1++(o0++Hs fd fs)) G (K (Jm fd fs) (HS C o0 G))):=⟨SR.run⟩
abbrev dwK (P:Program) (ops:Array Oper) (Q:Exit->Act->World->Prop) (K:(World->Prop)->Act->World->Prop) (π:List (Nat×Bool)):List Nat->(World->Prop)->Act->World->Prop:=fun ks S=>AV P ops (fH Q) K ks π S
def Vt:List FD->List Nat->eo
 |f::fd,b::bl=>(f.d, .d (.v (.pointer (some ⟨b,0,none⟩))))::Vt fd bl
 |_,_=>[]
def W1:List FD->List (List DV)->List Nat->List dt
 |f::fd,c::cl,b::bl=>⟨b,c,f.t,true⟩::W1 fd cl bl
 |_,_,_=>[]
def aJy:List FD->List (List DV)->Prop
 |f::fd,c::cl=>IsLs (fun _=>none) c (aF f.z)/\aJy fd cl
 |[],[]=>True
 |_,_=>False
end
def aJG{α:Type}(idx:List Nat)(l:List α):List α:=idx.filterMap (l[·]?)
section
variable {P:Program} {GB:Gh} {C:aD} {n:Nat} {E:pG} {fr fr':eo} {own own':List dt} {bs bs' bs1:List d4} {ops:Array Oper} {Q:Exit->Act->World->Prop} {r:List Oper} {Φ:Act->World->Prop}
variable {dst:Option Nat} {t t' ty':TypeId} {pos:String} {af:Array Edge} {gd:Option (Nat×Bool)} {x y z:Operand} {e s by_:Nat}
def PB(GB:Gh)(P:Program)(f:FuncId)(mk:SV->List DV)(s:Nat)(ty:TypeId)(dsi:List DV)(mkr:SV->DV)(dso:List DV):Prop:=
 ∀G w vs B,bD GB G->du G ⟨w,s,ty,dsi,false⟩ B->IsLs G (mk w) vs->je P f vs B G (fun v own' G'=> ∃w',Is G' (mkr w') v/\du G' ⟨w',s,ty,dso,false⟩ own')
def Zj(fr:eo):List Operand->Option (List DV)
 |[]=>some []
 |x::t=>match Jw fr x,Zj fr t with
  |some (.d d),some l=>some (d::l)
  |_,_=>none
def du.asB{G:Gh}{w:SV}{ty:TypeId}{ds:List DV}{lo:Bool}{B:List ak}(h:du G ⟨w,s,ty,ds,lo⟩ B):du G ⟨w,s,ty,ds,false⟩ (Sx.asB B):=by
 obtain⟨vs,h1,h2,h3,h4⟩:=h;exact⟨vs,h1.asB,h2,h3,fun h=>by cases h⟩
def du.weak{G:Gh}{w:SV}{ty:TypeId}{ds:List DV}{lo:Bool}{B:List ak}(h:du G ⟨w,s,ty,ds,lo⟩ B):du G ⟨w,s,ty,ds,false⟩ B:=by
 obtain⟨vs,h1,h2,h3,h4⟩:=h;exact⟨vs,h1,h2,h3,fun h=>by cases h⟩
inductive JN (fr:eo):List ResultVar->List DV->Prop
 |nil:JN fr [] []
 |tmp {t:Nat} {v:DV} {rs:List ResultVar} {vs:List DV} (h:yv fr t=some (.d v)) (k:JN fr rs vs):JN fr (.tmp t::rs) (v::vs)
end
section
variable {P:Program} {GB:Gh} {C:aD} {n:Nat} {E:pG} {fr fr':eo} {own own':List dt} {bs bs' bs1:List d4} {ops:Array Oper} {Q:Exit->Act->World->Prop} {r:List Oper} {Φ:Act->World->Prop}
variable {dst:Option Nat} {t t' ty':TypeId} {pos:String} {af:Array Edge} {gd:Option (Nat×Bool)} {x y z:Operand} {e s by_:Nat}
def PX(GB:Gh)(P:Program)(f:FuncId)(ds:List DV)(ι:Type)(r:ι->DV):Prop:=
 ∀G vs,bD GB G->IsLs G ds vs->Fn P f vs G (fun v G'=> ∃x,Is G' (r x) v)
def PMX(GB:Gh)(P:Program)(f:FuncId)(ds:List DV)(b:Nat)(ty:TypeId)(cs:List DV)(ι:Type)(r:ι->DV)(cs':ι->List DV):Prop:=
 ∀G vs m lo,bD GB G->IsLs G ds vs->IsLs G cs m->j0 P f vs [⟨b,m,ty,lo⟩] G (fun v css G'=> ∃x,Is G' (r x) v/\ ∃m',css=[m']/\IsLs G' (cs' x) m')
def PN(GB:Gh)(P:Program)(f:FuncId)(ds:List DV)(ty:TypeId)(ι:Type)(cs:ι->List DV):Prop:=
 ∀G vs,bD GB G->IsLs G ds vs->je P f vs [] G (fun v own' G'=> ∃x b m,v= .pointer (some ⟨b,0,none⟩)/\own'=[⟨b,m,ty,true⟩]/\IsLs G' (cs x) m)
inductive J5:List dt->Nat->List DV->TypeId->Bool->List dt->List dt->Prop
 |hd (b:Nat) (cs:List DV) (ty:TypeId) (lo:Bool) (t:List dt):J5 (⟨b,cs,ty,lo⟩::t) b cs ty lo [] t
 |tl (o:dt) (t:List dt) (b:Nat) (cs:List DV) (ty:TypeId) (lo:Bool) (L R:List dt) (h:J5 t b cs ty lo L R):J5 (o::t) b cs ty lo (o::L) R
end
section
variable {P:Program} {GB:Gh} {C:aD} {n:Nat} {fr:eo} {own:List dt} {bs:List d4}
def PMR(GB:Gh)(P:Program)(f:FuncId)(ds:List DV)(b:Nat)(ty:TypeId)(cs:List DV)(s:Nat)(ty2:TypeId)(ι:Type)(rows:ι->List DV)(cs':ι->List DV):Prop:=
 ∀G vs m lo,bD GB G->IsLs G ds vs->IsLs G cs m->je P f vs [⟨b,m,ty,lo⟩] G (fun v own' G'=> ∃x w m' B,v= .slice w.a w.n w.c/\own'=⟨b,m',ty,false⟩::B/\IsLs G' (cs' x) m'/\du G' ⟨w,s,ty2,rows x,true⟩ B/\ ∀o∈B,b≠o.b)
variable {dst:Option Nat} {t t' ty':TypeId} {pos:String} {af:Array Edge} {gd:Option (Nat×Bool)} {x y z:Operand}
def YW{fr:Fr}{own:List ak}{G:Gh}{fn:Func}{K:Value->List ak->Gh->Prop}{vs:List Value}(hr:kP P fr own fn.results.toList vs)(own2 own3:List ak)(hp:own.Perm own2)(hs:own3.Sublist own2)(hk:own3.Pairwise (fun x y=>x.b≠y.b)->K (gI vs) own3 G):St C n fr own G (gv C P fn (sd C K) .ret):=
 fun a w rl hmk=>⟨rl.df.trans hmk,_,tD hr rl.fr rl.h,_,own3,G,J,(rl.h.perm hp).drop hs,hk ((rl.h.perm hp).drop hs).nd⟩
variable {e s by_:Nat}
def Z0{G:Gh}{l:List DV}{w:SV}{es:List Value}{s' nhi mx':Nat}(hsl:eH G s' w es)(hl:IsLs G l es)(ho:dH s l)(h2:nhi<=l.length)(hm1:nhi<=mx')(hm2:mx'<=w.c):Is G (.sl (l.take nhi)) (.slice w.a nhi mx'):=by
 have hn:=hsl.len;have hcap:=hsl.cap;have hll:=hl.len;have e9: ∀s,nn w.a w.n w.c 0 nhi mx' s= .slice w.a nhi mx':=by
  intro s;unfold nn
  cases w.a with
  |none=>simp
  |some ad=>simp[Addr.add]
 rcases C7 hsl hl ho with he|he
 ·subst he
  have:l=[]:=bU (by rw[<-hll];rfl);subst this;have e1:nhi=0:=by simp at h2;exact h2
  subst e1;refine iu.2 ⟨s,⟨_,0,mx'⟩,[],J,⟨J,bT _, .inl J⟩,by simpa using IsLs.nil⟩
 ·subst he
  have k:=hsl.sub 0 nhi mx' (bT _) (by omega) hm1 hm2;have k2:=iu.2 ⟨s',⟨_,_,_⟩,_,J,k,(hl.take nhi).drop 0⟩;rw[jW] at k2;have e:=e9 s';unfold nn at e;revert k2;simp only[] at*;intro k2
  first|exact e▸k2|(simp at e k2⊢;first|exact k2|(cases hw:w.a<;>simp_all [Addr.add]))
end
end Go.Sx
end
