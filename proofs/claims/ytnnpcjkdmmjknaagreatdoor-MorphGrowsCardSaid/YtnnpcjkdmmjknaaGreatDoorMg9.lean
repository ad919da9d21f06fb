import Derived.Test.YtnnpcjkdmmjknaaGreatDoorMg8
set_option linter.all false
set_option maxRecDepth 100000
section
namespace Go.Sx
open Go Go.Proofs Tryz
variable {GB G G' A:Gh}{C:aD}{n b k u by_:Nat}{Q0:Exit->Act->World->Prop}{fr fr' fr1 fr2:aC}{own' own1 own2:aH}{cf cf' cf1 cf2:Cf}{vc vc1 vc2:List Prop}{ops:Array Oper}{o:Oper}{K:List Kt}{r:List Oper}{y fo x1 x2 x3:Operand}{ρ:NE}{v rv v' z:DV}{Φ Ψ:Act->World->Prop}{c:Code}{lk tl:LK}{bk tb:BM}{ov:List av}{a:Act}{w w':World}{P:Program}{args:Array Operand}{tys:Array TypeId}{dst:Option Nat}{ty0 t t' ty':TypeId}{pos:String}{af:Array Edge}{gd:Option (Nat×Bool)}{cs' dsi dso pre post:List DV}{csx cs1:List FX}{fb:Func}{m vs:List Value}{p:Prop}{B:Bk}{q:Int}{ι:Type}{k':IntKind}
section
variable {own:aH}
def r6(x y:Nat):FX->FX
 | .rw m=>bif Nat.beq m x then .rw y else bif Nat.beq m y then .no else .rw m
 | .ov m o=>bif Nat.beq m x then .ov y o else bif Nat.beq m y then .no else .ov m o
 | .be m s i j=>bif Nat.beq m x then .be y s i j else bif Nat.beq m y then .no else .be m s i j
 | .rs m s i j=>bif Nat.beq m x then .rs y s i j else bif Nat.beq m y then .no else .rs m s i j
 | .bx tp pre m post=>bif Nat.beq m x then .bx tp pre y post else bif Nat.beq m y then .no else .bx tp pre m post
 |f=>f
def rI(x y:Nat):Option Bk->Option Bk
 |some (.o ty cs lo)=>some (.o ty (cs.map (r6 x y)) lo)
 |B=>B
def CQ{α:Type}(g:FX->FX):List FX->(List FX->α)->α
 |[],k=>k []
 |f::t,k=>CQ g t fun t'=>AY (g f) fun f'=>k (f'::t')
def Q7{α:Type}{g:FX->FX}: ∀{cs:List FX} {k:List FX->α},CQ g cs k=k (cs.map g)
 |[],k=>rfl
 |f::t,k=>by simp only[CQ,CH];rw[Q7];rfl
def E9{α:Type}(g:FX->FX):aC->(aC->α)->α
 |[],k=>k []
 |(j,f)::t,k=>E9 g t fun t'=>AY (g f) fun f'=>k ((j,f')::t')
def GJ{α:Type}{g:FX->FX}: ∀{fr:aC} {k:aC->α},E9 g fr k=k (fr.map fun e=>(e.1,g e.2))
 |[],k=>rfl
 |(j,f)::t,k=>by simp only[E9,CH];rw[GJ];rfl
def DD{α:Type}(x y:Nat):aH->(aH->α)->α
 |[],k=>k []
 |(j,B)::t,k=>DD x y t fun t'=>bif Nat.beq j y then k ((x,none)::t') else match B with
  |some (.o ty cs lo)=>CQ (r6 x y) cs fun cs'=>bif Nat.beq j x then k ((y,some (.o ty cs' lo))::t') else k ((j,some (.o ty cs' lo))::t')
  |B=>bif Nat.beq j x then k ((y,B)::t') else k ((j,B)::t')
def Ku{α:Type}{x y:Nat}: ∀{own:aH} {k:aH->α},DD x y own k=k (own.map fun e=>(bif Nat.beq e.1 y then x else bif Nat.beq e.1 x then y else e.1,bif Nat.beq e.1 y then none else rI x y e.2))
 |[],k=>rfl
 |(j,B)::t,k=>by
  simp only[DD,Ku (own:=t),bT]
  cases Nat.beq j y with
  |true=>rfl
  |false=>
   cases B with
   |none=>cases Nat.beq j x<;>rfl
   |some B=>cases B<;>cases Nat.beq j x<;>simp only[cond_false,cond_true,Q7,rI]
def FS{x y:Nat}(hxy:x≠y): ∀{own:aH} {k:Nat},bp (own.map fun e=>(bif Nat.beq e.1 y then x else bif Nat.beq e.1 x then y else e.1,bif Nat.beq e.1 y then none else rI x y e.2)) k=if k=x then none else if k=y then rI x y (bp own x) else rI x y (bp own k)
 |[],k=>by simp[bp,rI]
 |(j,B)::t,k=>by
  have bq: ∀a b:Nat,Nat.beq a b=decide (a=b):=fun a b=>by
   by_cases h:a=b
   .subst h;simp
   .rw[decide_eq_false h]
    cases hb:Nat.beq a b with
    |false=>rfl
    |true=>exact absurd (aN hb) h
  simp only[bT];rw[jH,FS hxy (own:=t),jH,jH];by_cases h1:j=y
  .subst h1
   simp only[bq,decide_true,cond_true];by_cases h2:k=x
   .simp[h2]
   .by_cases h3:k=j
    .subst h3;simp[h2,Ne.symm h2,hxy]
    .simp[h2,h3]
  .by_cases h4:j=x
   .subst h4
    simp only[bq,h1,decide_false,cond_false,decide_true,cond_true];by_cases h2:k=y
    .subst h2;simp[Ne.symm h1]
    .by_cases h3:k=j
     .subst h3;simp[h1]
     .simp[h2,h3]
   .simp only[bq,h1,h4,decide_false,cond_false]
    by_cases h2:k=j
    .subst h2;simp[h1,h4]
    .by_cases h3:k=x
     .subst h3;simp[h2]
     .by_cases h5:k=y
      .subst h5;simp[h2,h3,Ne.symm h4]
      .simp[h2,h3,h5]
def J0{x y:Nat}(hxy:x≠y){f:FX}{v:Value}(h:bO ρ G f v):bO (fun k=>if k=y then ρ x else ρ k) G (r6 x y f) v:=by
 have key: ∀m:Nat,Nat.beq m y=false->(fun k=>if k=y then ρ x else ρ k) m=ρ m:=fun m hm=>if_neg fun e=>by subst e;simp at hm
 cases f with
 |rw m=>
  simp only[r6]
  cases hb:Nat.beq m x with
  |true=>cases aN hb;simp only[cond_true];show v=_;simp;exact h
  |false=>
   cases hb':Nat.beq m y with
   |true=>trivial
   |false=>simp only[cond_false];show v=_;rw[key m hb'];exact h
 |ov m off=>
  simp only[r6]
  cases hb:Nat.beq m x with
  |true=>cases aN hb;simp only[cond_true];obtain⟨b,h1,h2⟩:=h;exact⟨b,by simp;exact h1,h2⟩
  |false=>
   cases hb':Nat.beq m y with
   |true=>trivial
   |false=>simp only[cond_false];obtain⟨b,h1,h2⟩:=h;exact⟨b,by rw[key m hb'];exact h1,h2⟩
 |be m s i j=>
  simp only[r6]
  cases hb:Nat.beq m x with
  |true=>cases aN hb;simp only[cond_true];obtain⟨b,h1,h2⟩:=h;exact⟨b,by simp;exact h1,h2⟩
  |false=>
   cases hb':Nat.beq m y with
   |true=>trivial
   |false=>simp only[cond_false];obtain⟨b,h1,h2⟩:=h;exact⟨b,by rw[key m hb'];exact h1,h2⟩
 |rs m s i j=>
  simp only[r6]
  cases hb:Nat.beq m x with
  |true=>cases aN hb;simp only[cond_true];obtain⟨b,c,h1,h2⟩:=h;exact⟨b,c,by simp;exact h1,h2⟩
  |false=>
   cases hb':Nat.beq m y with
   |true=>trivial
   |false=>simp only[cond_false];obtain⟨b,c,h1,h2⟩:=h;exact⟨b,c,by rw[key m hb'];exact h1,h2⟩
 |bx tp pre m post=>
  simp only[r6]
  cases hb:Nat.beq m x with
  |true=>cases aN hb;simp only[cond_true];obtain⟨m1,m2,e,h1,h2⟩:=h;exact⟨m1,m2,by simpa using e,h1,h2⟩
  |false=>
   cases hb':Nat.beq m y with
   |true=>trivial
   |false=>simp only[cond_false];obtain⟨m1,m2,e,h1,h2⟩:=h;exact⟨m1,m2,by rw[key m hb'];exact e,h1,h2⟩
 |_=>exact h
def J'{x y:Nat}(hxy:x≠y){ρ:NE}{G:Gh}: ∀{cs:List FX} {m:List Value},dk ρ G cs m->dk (fun k=>if k=y then ρ x else ρ k) G (cs.map (r6 x y)) m
 |[],m,h=>h
 |f::t,m,⟨v,q,e,h1,h2⟩=>⟨v,q,e,J0 hxy h1,J' hxy h2⟩
def ze(x y:Nat)(fr:aC)(own:aH):Option BR:=bif Nat.beq x y then none else E9 (r6 x y) fr fun fr'=>DD x y own fun own'=>some ⟨fr',own'⟩
def aEG{x y:Nat}{R:BR}(hy:Nat.blt y 2000000=true)(h:ze x y fr own=some R)(hk:SX GB C n (bh R.fr) (bp R.own) Φ):SX GB C n (bh fr) (bp own) Φ:=by
 unfold ze at h;rw[cond_eq_ite] at h;split at h<;>try (cases h;done)
 rename_i hb;have hxy:x≠y:=fun e=>hb (by subst e;simp);rw[GJ,Ku] at h;cases h;refine⟨fun ρ G ov a w r=>hk.run (fun k=>if k=y then ρ x else ρ k) G ov a w ?_⟩;have inv: ∀m B,bp (own.map fun e=>(bif Nat.beq e.1 y then x else bif Nat.beq e.1 x then y else e.1,bif Nat.beq e.1 y then none else rI x y e.2)) m=some B-> ∃m0 B0,bp own m0=some B0/\rI x y (some B0)=some B/\(m=y/\m0=x\/m≠y/\m≠x/\m0=m):=fun m B e=>by
  rw[FS hxy] at e;split at e
  .cases e
  .rename_i hm
   split at e
   .cases hl:bp own x with
    |none=>rw[hl] at e;cases e
    |some B0=>rw[hl] at e;exact⟨x,B0,hl,e, .inl ⟨by assumption,J⟩⟩
   .cases hl:bp own m with
    |none=>rw[hl] at e;cases e
    |some B0=>rw[hl] at e;exact⟨m,B0,hl,e, .inr ⟨by assumption,hm,J⟩⟩
 have rho: ∀m m0,(m=y/\m0=x\/m≠y/\m≠x/\m0=m)->(fun k=>if k=y then ρ x else ρ k) m=ρ m0:=fun m m0 h=>by
  rcases h with⟨h1,h2⟩|⟨h1,_,h2⟩
  .subst h1 h2;simp
  .subst h2;exact if_neg h1
 refine⟨r.gb,r.h,r.sz,r.df,fun k f e=>?_,fun m B e=>?_,fun m m' B B' e e' hne=>?_,fun m p h1 h2 e=>by
  have:y<2000000:=by simpa[mM] using hy
  show(if m=y then ρ x else ρ m).a=_;rw[if_neg (by omega)];exact r.fxd m p h1 h2 e⟩
 .rw[C8] at e
  cases hf:bh fr k with
  |none=>rw[hf] at e;cases e
  |some g=>
   rw[hf] at e;cases e;obtain⟨v,h1,h2⟩:=r.fx k g hf;exact⟨v,h1,J0 hxy h2⟩
 .obtain⟨m0,B0,h1,h2,h3⟩:=inv m B e
  obtain⟨os,h4,h5⟩:=r.bx m0 B0 h1;refine⟨os,?_,h5⟩;have hr:=rho m m0 h3
  cases B0 with
  |b=>cases h2;obtain⟨vs,q1,q2,q3,q4⟩:=h4;exact⟨vs,by rw[hr];exact q1,q2,q3,q4⟩
  |c=>cases h2;obtain⟨vs,q1,q2,q3,q4,q5⟩:=h4;exact⟨vs,by rw[hr];exact q1,q2,q3,q4,by rw[hr];exact q5⟩
  |o ty cs lo=>cases h2;obtain⟨b,q,q1,q2,q3⟩:=h4;exact⟨b,q,by rw[hr];exact q1,q2,J' hxy q3⟩
 .obtain⟨m0,B0,h1,_,h3⟩:=inv m B e
  obtain⟨m1,B1,h4,_,h6⟩:=inv m' B' e';have q1:=rho m m0 h3;have q2:=rho m' m1 h6;simp only at q1 q2;rw[q1,q2];refine r.dj m0 m1 B0 B1 h1 h4 fun e=>?_;rcases h3 with⟨h7,h8⟩|⟨h7,h8,h9⟩<;>rcases h6 with⟨g7,g8⟩|⟨g7,g8,g9⟩
  .exact hne (h7.trans g7.symm)
  .exact g8 (by rw[<-g9,<-e,h8])
  .exact h8 (by rw[<-h9,e,g8])
  .exact hne (by rw[<-h9,e,g9])
def fH(x y:Nat){e:Exit}(h:ze x y fr own=some ⟨fr1,own1⟩)(k:aw prog GB C n Q0 fr1 own1 (.ex e K))(hy:Nat.blt y 2000000=true:=by rfl):aw prog GB C n Q0 fr own (.ex e K):=aEG hy h k
def U9{d nm:Nat}(hnm:Nat.blt nm 2000000=true)(hl:bh fr d=some .nl){ty s:Nat}(hf:lv [nm] none (bh fr) (bp own))(h:SX GB C n (bh ((d, .rw nm)::fr)) (bp (pj own nm (some (.b ty s [] true)))) Φ):SX GB C n (bh fr) (bp own) Φ:=by
 refine⟨fun ρ G ov a w r=>?_⟩;obtain⟨f1,f2⟩:=hf nm aQ;have hset:bp (pj own nm (some (.b ty s [] true)))=upB (bp own) [(nm,some (.b ty s [] true))]:=by funext j;rw[B6];rfl
 rw[hset] at h;refine h.run (fun k=>if k=nm then⟨none,0,0⟩ else ρ k) G ov a w ⟨r.gb,r.h,r.sz,r.df,fun k f e=>?_,fun m B e=>?_,fun m m' B B' e e' hne=>?_,fun m p h1 h2 e=>by
  have:nm<2000000:=by simpa[mM] using hnm
  show(if m=nm then(⟨none,0,0⟩:SV) else ρ m).a=_;rw[if_neg (by omega)];exact r.fxd m p h1 h2 e⟩
 .rw[kn] at e
  split at e
  .cases e;rename_i hk;subst hk
   obtain⟨v,h1,h2⟩:=r.fx _ _ hl;exact⟨v,h1,by rw[show v=_ from h2];show _=_;simp⟩
  .obtain⟨v,h1,h2⟩:=r.fx k f e
   exact⟨v,h1,h2.ren fun m hm=>vS _ fun hc=>f1 k f (by simp) e (by rw[hm,hc])⟩
 .simp only[upB] at e
  by_cases hm:m=nm
  .subst hm;simp only[if_true] at e;cases e
   exact⟨[],⟨[],by simp only[if_true];exact .inl ⟨J,J,J⟩, .nil,by simp,fun _ o ho=>by cases ho⟩,fun o ho=>by cases ho⟩
  .simp only[hm,if_false] at e
   obtain⟨os,h1,h2⟩:=r.bx m B e;exact⟨os,h1.ren (if_neg hm) fun q hq=>vS _ fun hc=>f2 m B hm e (by rw[<-hc];exact hq),h2⟩
 .simp only[upB] at e e'
  intro b hb hb';by_cases hm:m=nm
  .simp[hm] at hb
  .by_cases hm':m'=nm
   .simp[hm'] at hb'
   .simp only[hm,hm',if_false] at e e' hb hb'
    exact r.dj m m' B B' e e' hne b hb hb'
def nr(d nm ty s:Nat)(hl:bh fr d=some .nl)(hf:uN [nm] none fr own=true)(ho:xl own nm (some (.b ty s [] true)) id=own1)(k:aw prog GB C n Q0 ((d, .rw nm)::fr) own1 (.code c K))(hnm:Nat.blt nm 2000000=true:=by rfl):aw prog GB C n Q0 fr own (.code c K):=by
 subst ho;exact U9 hnm hl (Bh hf) k
def lA:List (Option DV)->Nat->List DV
 |[],_=>[]
 |some d::t,b=>d::lA t b
 |none::t,b=> .v (.pointer (some ⟨b,0,none⟩))::lA t b
def CF(lk:LK):List Operand->Option (Option Nat×List (Option DV))
 |[]=>some (none,[])
 |x::t=>match bj lk x,CF lk t with
  |some (.ov nm 0),some (none,l)=>some (some nm,none::l)
  |some f,some (q,l)=>match jO f with
   |some d=>some (q,some d::l)
   |none=>none
  |_,_=>none
def Jo(lk:LK)(fo:Operand)(args:Array Operand):Option (FuncId×Nat×List (Option DV)):=match bj lk fo with
 |some (.d (.v (.func (.func f) ⟨[]⟩ ⟨[]⟩)))=>match CF lk args.toList with
  |some (some nm,l)=>some (f,nm,l)
  |_=>none
 |_=>none
def HD{lk:LK}{bk:BM}{ρ:NE}{G:Gh}{ov:List av}{a:Act}{w:World}(r:bH GB C n lk bk ρ G ov a w){b:Nat}: ∀{x:List Operand} {q:Option Nat} {l:List (Option DV)},CF lk x=some (q,l)->(∀nm,q=some nm->(ρ nm).a=some ⟨b,0,none⟩)->
  ∃y,fy (cx a) x=some y/\IsLs G (lA l b) y
 |[],q,l,e,_=>by cases e;exact⟨[],J, .nil⟩
 |x::t,q,l,e,hb=>by
  simp only[CF] at e;split at e
  .rename_i nm l' h1 h2
   cases e
   obtain⟨y,h3,b',h4,rfl⟩:=r.ev h1;have:=hb nm J;rw[h4] at this;cases this;obtain⟨ys,h5,h6⟩:=HD r (b:=b) h2 (fun nm e=>by cases e);exact⟨_::ys,by simp only[fy,h3,h5], .cons ((aB (G:=G)).2 J) h6⟩
  .rename_i f q' l' _ h1 h2
   cases hd:jO f with
   |none=>rw[hd] at e;cases e
   |some d=>
   rw[hd] at e;cases e;obtain⟨y,h3,h4⟩:=r.ev h1;obtain⟨ys,h5,h6⟩:=HD r (b:=b) h2 hb;exact⟨y::ys,by simp only[fy,h3,h5], .cons (nq h4 hd) h6⟩
  .cases e
def bH.lend{nm:Nat}{ty:TypeId}{cs:List FX}{lo:Bool}{csd:List DV}(r:bH GB C n lk bk ρ G ov a w)(hb:bk nm=some (.o ty cs lo))(hc:jq cs=some csd):
  ∃b m rest,(ρ nm).a=some ⟨b,0,none⟩/\IsLs G csd m/\ov.Perm ([⟨b,m,ty,lo⟩]++rest)/\ ∀o∈ov,o.b≠b->o∈rest:=by
 obtain⟨os,⟨b,m,h1,rfl,h2⟩,h3⟩:=r.bx _ _ hb;obtain⟨l1,l2,rfl⟩:=mK (h3 _ aQ);refine⟨b,m,l1++l2,h1,tf h2 hc,pZ,fun o ho hne=>?_⟩;rcases bW.1 ho with ho|ho
 .exact bU _ ho
 .rcases aW.1 ho with rfl|ho
  .exact absurd J hne
  .exact bK _ ho
def Z7{f:FuncId}{nm:Nat}{l:List (Option DV)}{ty:TypeId}{cs:List FX}{csd:List DV}{lo:Bool}
  (ha:Jo lk fo args=some (f,nm,l))(hb:bk nm=some (.o ty0 cs lo))(hc:jq cs=some csd)(hF: ∀b,PM GB P f (lA l b) b ty0 csd rv cs')(hx:cs'.map .d=csx):bP P GB C n lk bk ⟨dst, .call ⟨.value fo,args,tys⟩,ty,pos,af,gd⟩ (.d rv) [(nm,some (.o ty0 csx lo))] []:=by
 intro hd tl tb K' s1 s2 hf hk;refine⟨fun ρ G ov a w r Q=>?_⟩;subst hx;have r1:=r.mono s1 s2;unfold Jo at ha;split at ha<;>try (cases ha;done)
 rename_i h1;split at ha<;>cases ha;rename_i h2;obtain⟨y,hy,hy'⟩:=r1.ev h1;rw[(aB (G:=G)).1 hy'] at hy;obtain⟨b,m,rest,h3,h4,h5,h6⟩:=r1.lend hb hc;obtain⟨vs,h7,h8⟩:=HD r1 (b:=b) h2 (fun nm e=>by cases e;exact h3);refine uO (M:=[⟨b,m,ty0,lo⟩]) (rest:=rest) hy h7 h5 (hF b G vs m lo r.gb h8 h4) hd (fun v css G' hG hl hK a' w' rl=>?_) a w Q ⟨r.h,r.sz,cC a,r.df⟩;obtain⟨hr,m',rfl,hm'⟩:=hK;have rl':gD C n (Sx.put (cx a) dst v) (⟨b,m',ty0,lo⟩::rest) G' a' w':=rl;have r2:=r.upB (G':=G') (ov':=⟨b,m',ty0,lo⟩::rest) (w':=w') (B':= .o ty0 (cs'.map .d) lo) (os:=[⟨b,m',ty0,lo⟩]) hG.le rl'.h ⟨b,m',h3,J,vK hm'⟩ (fun o ho=>by rw[aS.1 ho];exact aQ)
  (fun o ho hne=>aJ _ (h6 o ho fun e=>hne (by rw[h3,e]))) ⟨_,s2 _ _ hb⟩
 exact hk.run ρ G' _ a' w' (r2.put (f:= .d rv) hr (jG rl'))
structure Wp where
 f:FuncId
 nm:Nat
 l:List (Option DV)
 ty:TypeId
 cs:List DV
 lo:Bool
def Qc(fr:aC)(own:aH)(cf:Cf):Option Wp:=match dd fr cf with
 |some ⟨_, .call ⟨.value fo,args,_⟩,_,_,_,_⟩=>match Jo (b9 fr cf) fo args with
  |some (f,nm,l)=>match jv fr own cf nm with
   |some (.o ty cs lo)=>match jq cs with
    |some csd=>some ⟨f,nm,l,ty,csd,lo⟩
    |none=>none
   |_=>none
  |none=>none
 |_=>none
def AB{α:Type}:List DV->(List FX->α)->α
 |[],k=>k []
 |d::t,k=>AB t fun t'=>k (.d d::t')
def E4{α:Type}: ∀{l:List DV} {k:List FX->α},AB l k=k (l.map .d)
 |[],k=>rfl
 |d::t,k=>by simp only[AB];rw[E4];rfl
def cm[fu:Fu]{f:FuncId}{nm:Nat}{l:List (Option DV)}{ty:TypeId}{cs:List DV}{lo:Bool}(ha:Qc fr own cf=some ⟨f,nm,l,ty,cs,lo⟩)(hF: ∀b,PM GB prog f (lA l b) b ty cs rv cs')
  (hgo:(AB cs' fun csx=>cI tt n fu.n fr own cf (.d rv) [(nm,some (.o ty csx lo))] [])=⟨vc,fr',own',cf'⟩)(k:aw prog GB C n Q0 fr' own' cf')
  (hv:autoParam (aj vc) fn._auto_1):aw prog GB C n Q0 fr own cf:=by
 unfold Qc at ha;split at ha<;>try (cases ha;done)
 rename_i hh;split at ha<;>try (cases ha;done)
 rename_i h1;split at ha<;>try (cases ha;done)
 rename_i h2;split at ha<;>cases ha;rename_i h3;rw[E4] at hgo;exact us hh (Z7 h1 h2 h3 hF J) hgo hv k
abbrev NM:Nat:=1000000
def Av:Nat->List (Option DV)->aC
 |_,[]=>[]
 |i,some v::t=>(i, .d v)::Av (i+1) t
 |i,none::t=>(i, .ov NM 0)::Av (i+1) t
def KI(b:Nat): ∀l:List (Option DV),(lA l b).length=l.length
 |[]=>rfl
 |some d::t=>by simp[lA,KI b t]
 |none::t=>by simp[lA,KI b t]
def JT{b:Nat}{ρ:NE}{G:Gh}(hρ:(ρ NM).a=some ⟨b,0,none⟩): ∀{ds:List (Option DV)} {vs:List Value} (i:Nat),IsLs G (lA ds b) vs-> ∀k f,bh (Av i ds) k=some f-> ∃y,(∃j,k=i+j/\vs[j]? =some y)/\bO ρ G f y
 |[],vs,i,h,k,f,e=>by cases e
 |some d::t,vs,i,h,k,f,e=>by
  obtain⟨y,m,rfl,h1,h2⟩:=aI.1 h;simp only[Av] at e;rw[kn] at e;split at e
  .cases e;rename_i hk;exact⟨y,⟨0,hk,rfl⟩,h1⟩
  .obtain⟨u,⟨j,hj,hu⟩,h3⟩:=JT hρ (i+1) h2 k f e
   exact⟨u,⟨j+1,by omega,by simpa using hu⟩,h3⟩
 |none::t,vs,i,h,k,f,e=>by
  obtain⟨y,m,rfl,h1,h2⟩:=aI.1 h;simp only[Av] at e;rw[kn] at e;split at e
  .cases e;rename_i hk;exact⟨y,⟨0,hk,rfl⟩,b,hρ,(aB (G:=G)).1 h1⟩
  .obtain⟨u,⟨j,hj,hu⟩,h3⟩:=JT hρ (i+1) h2 k f e
   exact⟨u,⟨j+1,by omega,by simpa using hu⟩,h3⟩
def Gc(C:aD)(b:Nat)(m:List Value)(ty:TypeId)(lo:Bool)(rv:DV)(cs':List DV):Ending->World->Prop:=BF C [⟨b,m,ty,lo⟩] (fun v css G'=>Is G' rv v/\ ∃m',css=[m']/\IsLs G' cs' m')
def z'[fu:Fu]{f:FuncId}{l:List (Option DV)}{cs:List DV}{ty:TypeId}(hf:prog.funcs[f]? =some fb)(hb:fb.body=some c)(hn:(fb.name== "runtime.NumGoroutine")=false)(hm:fb.ntmps=k)(hlen:Nat.ble l.length k=true)
  (hgo:(AB cs fun csx=>go tt k fu.n [] (Av 0 l) [(NM,some (.o ty csx false))] (.code c []))=⟨vc,fr,own,cf⟩)(h: ∀C b m lo,C.mb=[b]->aw prog GB C k (fg C prog fb (Gc C b m ty lo rv cs')) fr own cf)
  (hv:autoParam (aj vc) fn._auto_1):PM GB prog f (lA l b) b ty cs rv cs':=by
 intro G vs m lo hg hvs hm';refine iE.introR hf hb hn hm (by rw[hvs.len,KI];exact hlen) fun C _ hmb hrd hfx=>?_;intro a w rl;refine vo hrd ?_;rw[E4] at hgo;have h1:=f7 (GB:=GB) (C:=C) (Q0:=fg C prog fb (Gc C b m ty lo rv cs')) hgo hv (h C b m lo (by simpa using hmb));refine h1.run (fun _=>⟨some ⟨b,0,none⟩,0,0⟩) G [⟨b,m,ty,false⟩] a w ⟨hg,rl.h,rl.sz,rl.df,fun k f e=>?_,fun nm B e=>?_,fun nm nm' B B' e e' hne=>?_,fun nm p _ _ e=>by rw[hfx] at e;cases e⟩
 .obtain⟨y,⟨j,hj,hy⟩,h2⟩:=JT (ρ:=fun _=>⟨some ⟨b,0,none⟩,0,0⟩) (b:=b) rfl 0 hvs k f e
  refine⟨y,rl.fr k y ?_,h2⟩;rw[hj];exact wN vs 0 j y hy
 .rw[jH] at e
  split at e
  .cases e;exact⟨[⟨b,m,ty,false⟩],⟨b,m,J,J,vK hm'⟩,fun o ho=>ho⟩
  .cases e
 .rw[jH] at e e'
  split at e<;>split at e'
  .rename_i h2 h3;exact absurd (h2.trans h3.symm) hne
  .cases e'
  .cases e
  .cases e
def PL(own:aH)(nm:Nat):Option (TypeId×List DV):=match bp own nm with
 |some (.o ty cs false)=>match jq cs with
  |some l=>some (ty,l)
  |none=>none
 |_=>none
def om{ty:TypeId}{lo:Bool}{ds cs1:List DV}(hmb:C.mb=[b])(hr:rG tt fr own fb.results.toList=some ds)(ho:PL own NM=some (ty,cs1))(hd:fh ds=rv)(hc:cs1=cs'):
  aw prog GB C n (fg C prog fb (Gc C b m ty lo rv cs')) fr own (.ex .ret []):=by
 refine⟨fun ρ G ov a w r=>?_⟩;obtain⟨vs,h1,h2⟩:=DM r hr;have hk:Is G rv (gI vs):=hd▸Cx h2;unfold PL at ho;split at ho<;>try (cases ho;done)
 rename_i hb;split at ho<;>cases ho;rename_i hl;obtain⟨b',m',rest,h3,h4,h5,h6⟩:=r.lend hb hl;have hbb:b'=b:=by
  have:=(r.h.hown _ (h5.mem_iff.2 (bU _ aQ))).2.2.2 J;rw[hmb] at this;simpa using this
 subst hbb hc;exact lj (C:=C) (n:=n) (fr:=cx a) (own:=ov) (G:=G) (M:=[⟨b',m,ty,lo⟩]) (css:=[m']) (K:=fun v css G'=>Is G' rv v/\ ∃m',css=[m']/\IsLs G' cs1 m') h1 J ([⟨b',m',ty,false⟩]++rest) h5 (oY _ _) ⟨hk,m',J,h4⟩ a w ⟨r.h,r.sz,cC a,r.df⟩
end
section
variable {own:aH}
def csd[fu1:Fu][fu2:Fu](d:Nat){hp:Decidable p}(hl:bh fr d=some (.d (.v (.bool (@decide p hp)))))(g1:go tt n fu1.n [] ((d, .tt)::fr) own (.ops ops r K)=⟨vc1,fr1,own1,cf1⟩)(g2:go tt n fu2.n [] ((d, .ff)::fr) own (.ops ops r K)=⟨vc2,fr2,own2,cf2⟩)
  (k1:p->aw prog GB C n Q0 fr1 own1 cf1)(k2: ¬p->aw prog GB C n Q0 fr2 own2 cf2)
  (v1:p->aj vc1:=by intro;first|exact trivial|(simp only[aj];omega)|(simp only[aj,aX,bY,aL];omega))(v2: ¬p->aj vc2:=by intro;first|exact trivial|(simp only[aj];omega)|(simp only[aj,aX,bY,aL];omega)):aw prog GB C n Q0 fr own (.ops ops r K):=
 ja (fu1:=fu1) (fu2:=fu2) d hl g1 g2 (fun h=>k1 (of_decide_eq_true h)) (fun h=>k2 (of_decide_eq_false h)) (fun h=>v1 (of_decide_eq_true h)) (fun h=>v2 (of_decide_eq_false h))
def BT(d:Nat)(hl:bh fr d=some .nl)(h:aw prog GB C n Q0 ((d, .d (.sl []))::fr) own (.code c K)):aw prog GB C n Q0 fr own (.code c K):=
 qj (g:= .d (.sl [])) hl (fun ρ G y hy=>(show Is G (.sl []) y from nq (ρ:=ρ) (f:= .nl) hy J)) h
def bP.to{f g:FX}(h:bP prog GB C n lk bk o f [] [])(e: ∀ρ G y,bO ρ G f y->bO ρ G g y):bP prog GB C n lk bk o g [] []:=fun hd tl tb Q h1 h2 hf hk=>
 h hd tl tb Q h1 h2 hf ⟨fun ρ G ov a w r=>hk.run ρ G ov a w ⟨r.gb,r.h,r.sz,r.df,fun k f' e'=>by
  cases ho:o.dst with
  |none=>exact r.fx k f' (by simpa only[ho,ef] using e')
  |some d=>
   have hr:=r.fx;simp only[ho,ef] at e' hr;by_cases q:k=d
   .rw[if_pos q] at e';cases e'
    obtain⟨y,h3,h4⟩:=hr k f (by rw[if_pos q]);exact⟨y,h3,e _ _ _ h4⟩
   .rw[if_neg q] at e'
    exact hr k f' (by rw[if_neg q];exact e'),r.bx,r.dj,r.fxd⟩⟩
def yz(fr:aC)(own:aH)(cf:Cf):Option (Oper×FX):=match dd fr cf with
 |some o=>match zi tt (b9 fr cf) (jv fr own cf) o.dst o.op with
  |some ⟨none,f,[],[]⟩=>some (o,f)
  |_=>none
 |none=>none
def jr[fu1:Fu][fu2:Fu]{f:FX}{hp:Decidable p}(hs:yz fr own cf=some (o,f))(hb:uj f=some (@decide p hp))(g1:cI tt n fu1.n fr own cf .tt [] []=⟨vc1,fr1,own1,cf1⟩)(g2:cI tt n fu2.n fr own cf .ff [] []=⟨vc2,fr2,own2,cf2⟩)
  (k1:p->aw prog GB C n Q0 fr1 own1 cf1)(k2: ¬p->aw prog GB C n Q0 fr2 own2 cf2)
  (v1:p->aj vc1:=by intro;first|exact trivial|(simp only[aj];kernel_rfl)|(simp only[aj];omega)|(simp only[aj,aX,bY,aL];omega))(v2: ¬p->aj vc2:=by intro;first|exact trivial|(simp only[aj];kernel_rfl)|(simp only[aj];omega)|(simp only[aj,aX,bY,aL];omega)):aw prog GB C n Q0 fr own cf:=by
 unfold yz at hs;split at hs<;>try (cases hs;done)
 rename_i o' hh;split at hs<;>cases hs;rename_i hc;obtain⟨dst,op,ty,pos,af,gd⟩:=o;have h0:=Ai (P:=prog) (GB:=GB) (C:=C) (n:=n) (ty':=ty) (pos:=pos) (af:=af) (gd:=gd) eE hc (fun p e=>by cases e);by_cases h:p
 .exact us hh (bP.to h0 fun ρ G y hy=>by rw[wX hy hb,decide_eq_true h];exact J) g1 (v1 h) (k1 h)
 .exact us hh (bP.to h0 fun ρ G y hy=>by rw[wX hy hb,decide_eq_false h];exact J) g2 (v2 h) (k2 h)
def aFl{d:Nat}{f:FX}
  (hz: ∀lk bk ρ G ov a w,bH GB C n lk bk ρ G ov a w->bk d=some B-> ∃G' ov',bI G G'/\bF C ov' G' w/\(∀o∈ov,(ρ d).a≠some ⟨o.b,0,none⟩->o∈ov')/\ ∀y,bO ρ G f y->Is G' v y)(hk:SX GB C n (ef tl (some d) (.d v)) (Sx.upB tb [(d,none)]) Ψ):SX GB C n (ef tl (some d) f) (Sx.upB tb [(d,some B)]) Ψ:=by
 refine⟨fun ρ G ov a w r=>?_⟩;have hbd:Sx.upB tb [(d,some B)] d=some B:=by simp[Sx.upB]
 obtain⟨G',ov',h1,h2,h3,h4⟩:=hz _ _ ρ G ov a w r hbd;refine hk.run ρ G' ov' a w ⟨r.gb.trans h1,h2,r.sz,r.df,fun k g e=>?_,fun m B' e=>?_,fun m m' B1 B2 e e'=>?_,r.fxd⟩
 .by_cases hk:k=d
  .subst hk
   simp only[ef,if_true] at e;cases e;obtain⟨y,g1,g2⟩:=r.fx k f (by simp[ef]);exact⟨y,g1,h4 y g2⟩
  .simp only[ef,hk,if_false] at e
   obtain⟨y,g1,g2⟩:=r.fx k g (by simp[ef,hk,e]);exact⟨y,g1,g2.up h1⟩
 .simp only[Sx.upB] at e
  split at e
  .cases e
  .rename_i hm
   have e':Sx.upB tb [(d,some B)] m=some B':=by simp[Sx.upB,hm,e]
   obtain⟨os,g1,g2⟩:=r.bx m B' e';exact⟨os,g1.up h1,fun o ho=>h3 o (g2 o ho) fun hc=>r.dj m d B' B e' hbd hm _ (g1.blk ho) hc⟩
 .simp only[Sx.upB] at e e'
  split at e
  .cases e
  .rename_i hm
   split at e'
   .cases e'
   .rename_i hm'
    exact r.dj m m' B1 B2 (by simp[Sx.upB,hm,e]) (by simp[Sx.upB,hm',e'])
def bP.frz2{d nm:Nat}{f:FX}(hd:o.dst=some d)(h:bP prog GB C n lk bk o f [(nm,none),(d,some B)] [d])
  (hz: ∀lk bk ρ G ov a w,bH GB C n lk bk ρ G ov a w->bk d=some B-> ∃G' ov',bI G G'/\bF C ov' G' w/\(∀o∈ov,(ρ d).a≠some ⟨o.b,0,none⟩->o∈ov')/\ ∀y,bO ρ G f y->Is G' v y):bP prog GB C n lk bk o (.d v) [(nm,none),(d,none)] [d]:=by
 intro hd' tl tb K s1 s2 hf hk;refine h hd' tl tb K s1 s2 hf ?_;rw[hd] at hk⊢;exact aFl (tb:=Sx.upB tb [(nm,none)]) hz hk
def WY(d:Nat)(nm:Option Nat):List (Nat×Option Bk):=match nm with
 |some nm=>[(nm,none),(d,none)]
 |none=>[(d,none)]
def mc[fu:Fu]{d:Nat}{nm:Option Nat}{e s:Nat}{ds ds2:List DV}(ds':List DV)(h:D2 fr own cf=some ⟨d,nm,e,s,b,ds,ds2⟩)(hds:ds++ds2=ds')(ho2:cP s ds2)(hgo:cI tt n fu.n fr own cf (.d (.sl ds')) (WY d nm) [d]=⟨vc,fr',own',cf'⟩)(k:aw prog GB C n Q0 fr' own' cf')
  (ho:nm.isNone=true->cP s ds/\0<ds2.length:=by intro h;first|(cases h;done)|exact⟨KH rfl,by simp⟩)(hbd:(ds.length+ds2.length)*b<=140737488355328:=by simp;omega)
  (hv:autoParam (aj vc) fn._auto_1):aw prog GB C n Q0 fr own cf:=by
 obtain⟨o,h1,h2,h3⟩:=S5 (GB:=GB) (C:=C) (n:=n) h ds' hds ho ho2 hbd
 cases nm with
 |none=>exact us h1 (h3.frzRow h2) hgo hv k
 |some nm=>exact us h1 (bP.frz2 h2 h3 fun _ _ _ _ _ _ _ r hb=>r.frzRow hb) hgo hv k
def c6[fu:Fu]{f:FX}(hs:yz fr own cf=some (o,f))(hb:uj f=some true)(hgo:cI tt n fu.n fr own cf .tt [] []=⟨vc,fr',own',cf'⟩)(k:aw prog GB C n Q0 fr' own' cf')
  (hv:autoParam (aj vc) fn._auto_1):aw prog GB C n Q0 fr own cf:=by
 unfold yz at hs;split at hs<;>try (cases hs;done)
 rename_i o' hh;split at hs<;>cases hs;rename_i hc;obtain⟨dst,op,ty,pos,af,gd⟩:=o;have h0:=Ai (P:=prog) (GB:=GB) (C:=C) (n:=n) (ty':=ty) (pos:=pos) (af:=af) (gd:=gd) eE hc (fun p e=>by cases e);exact us hh (bP.to h0 fun ρ G y hy=>by rw[wX hy hb];exact J) hgo hv k
def cd[fu:Fu]{f:FX}(hs:yz fr own cf=some (o,f))(hb:uj f=some false)(hgo:cI tt n fu.n fr own cf .ff [] []=⟨vc,fr',own',cf'⟩)(k:aw prog GB C n Q0 fr' own' cf')
  (hv:autoParam (aj vc) fn._auto_1):aw prog GB C n Q0 fr own cf:=by
 unfold yz at hs;split at hs<;>try (cases hs;done)
 rename_i o' hh;split at hs<;>cases hs;rename_i hc;obtain⟨dst,op,ty,pos,af,gd⟩:=o;have h0:=Ai (P:=prog) (GB:=GB) (C:=C) (n:=n) (ty':=ty) (pos:=pos) (af:=af) (gd:=gd) eE hc (fun p e=>by cases e);exact us hh (bP.to h0 fun ρ G y hy=>by rw[wX hy hb];exact J) hgo hv k
def C5(nm:Nat){ty:TypeId}{cs:List FX}{lo:Bool}{ds:List DV}{e:Exit}(hb:bp own nm=some (.o ty cs lo))(hc:jq cs=some ds)(ho:(nm,some (.o ty (ds.map .d) lo))::own=own1)(k:aw prog GB C n Q0 fr own1 (.ex e K)):aw prog GB C n Q0 fr own (.ex e K):=by
 subst ho;have old: ∀m B,bp ((nm,some (.o ty (ds.map .d) lo))::own) m=some B-> ∃B0,bp own m=some B0:=fun m B e=>by
  rw[jH] at e;split at e
  .rename_i h;subst h;exact⟨_,hb⟩
  .exact⟨_,e⟩
 refine⟨fun ρ G ov a w r=>k.run ρ G ov a w ⟨r.gb,r.h,r.sz,r.df,r.fx,fun m B e=>?_,fun m m' B B' e e'=>?_,r.fxd⟩⟩
 .rw[jH] at e
  split at e
  .rename_i h;subst h;cases e
   obtain⟨os,⟨b,m,h1,rfl,h2⟩,h3⟩:=r.bx _ _ hb;exact⟨_,⟨b,m,h1,J,vK (tf h2 hc)⟩,h3⟩
  .exact r.bx _ _ e
 .obtain⟨B0,h0⟩:=old _ _ e
  obtain⟨B1,h1⟩:=old _ _ e';exact r.dj m m' B0 B1 h0 h1
end
section
variable {own:aH}
def Sf(GB:Gh)(C:aD)(n:Nat)(lk:LK)(bk:BM)(o:Oper)(ι:Type)(f:ι->FX)(bl:ι->List (Nat×Option Bk))(nw:List Nat):Prop:=
 b7 n o.dst=true-> ∀(tl:LK) (tb:BM) (K:Act->World->Prop),kD lk tl->kD bk tb->lv nw o.dst tl tb->(∀x,SX GB C n (ef tl o.dst (f x)) (Sx.upB tb (bl x)) K)->SX GB C n tl tb (fun a w=> ∀Q,o.wp prog a w K Q)
def KD(n q:Nat)(fr:aC)(own:aH)(cf:Cf)(f:FX)(bl:List (Nat×Option Bk)):Aa:=match cf with
 | .ops ops (o::r) K=>so own bl fun own'=>xu fr o.dst f fun fr'=>go tt n q [] fr' own' (.ops ops r K)
 |_=>bad
def J2(n:Nat)(fr:aC)(own:aH)(cf:Cf)(nw:List Nat):Bool:=match cf with
 | .ops ops (o::_) _=>uN nw o.dst fr own&&b7 n o.dst&&wW ops (bh fr) o.guard
 |_=>false
def Za{q:Nat}{f:ι->FX}{bl:ι->List (Nat×Option Bk)}{nw:List Nat}{vc:ι->List Prop}{fr':ι->aC}{own':ι->aH}{cf':ι->Cf}(hh:dd fr cf=some o)(ho:J2 n fr own cf nw=true)(h:Sf GB C n (b9 fr cf) (jv fr own cf) o ι f bl nw)
  (hgo: ∀x,KD n q fr own cf (f x) (bl x)=⟨vc x,fr' x,own' x,cf' x⟩)(hv: ∀x,aj (vc x))(k: ∀x,aw prog GB C n Q0 (fr' x) (own' x) (cf' x)):aw prog GB C n Q0 fr own cf:=by
 obtain⟨ops,h1,h2⟩:=JV hh
 cases cf with
 |ops ops' r K=>
  cases r with
  |nil=>cases h1
  |cons o' r=>
   cases h1
   simp only[J2,cZ] at ho;refine⟨fun ρ G ov a w rl=>?_⟩;show wpListIn _ _ _ _ _ (o::r) a w;unfold wpListIn;rw[if_pos (Dh ho.2 ρ G ov a w rl)];refine HY ((h ho.1.2 _ _ (fun a w=>a.defers=C.mks/\wpListIn (FW C.rd) 0 prog ops (cQ C.rd prog Q0 K) r a w) (kD.refl _) (kD.refl _) (Bh ho.1.1) (fun x=>?_)).run ρ G ov a w rl) fun a' w' k=>⟨k.1.trans rl.df.symm,k.2⟩;refine⟨fun ρ G ov a w r0=>⟨r0.df,SX.run (GB:=GB) (C:=C) (n:=n) ?_ ρ G ov a w r0⟩⟩;have hx:=hgo x;unfold KD at hx;simp only[wn,BD] at hx;have:=f7 (GB:=GB) (C:=C) (Q0:=Q0) hx (hv x) (k x);show SX GB C n (ef (bh fr) o.dst (f x)) (Sx.upB (bp own) (bl x)) _;rw[<-HB,<-Fh];exact this
 |_=>cases ho
def Vz{f:FuncId}{d:Nat}{ds:List DV}{ty:TypeId}{cs':ι->List DV}
  (ha:vj lk fo args=some (f,ds))(hF:PN GB prog f ds ty0 ι cs'):Sf GB C n lk bk ⟨some d, .call ⟨.value fo,args,tys⟩,ty,pos,af,gd⟩ ι (fun _=> .ov d 0) (fun x=>[(d,some (.o ty0 ((cs' x).map .d) true))]) [d]:=by
 intro hd tl tb K' s1 s2 hf hk;refine⟨fun ρ G ov a w r Q=>?_⟩;have r1:=r.mono s1 s2;obtain⟨h1,h2⟩:=E3 ha;obtain⟨y,hy,hy'⟩:=r1.ev h1;rw[(aB (G:=G)).1 hy'] at hy;obtain⟨vs,h3,h4⟩:=r1.evDs h2;refine wY (M:=[]) (rest:=ov) hy h3 (List.Perm.refl _) (hF G vs r.gb h4) hd (fun v own1 G' hG hK a' w' rl=>?_) a w Q ⟨r.h,r.sz,cC a,r.df⟩;obtain⟨x,b,m,rfl,rfl,hm⟩:=hK;have rl':gD C n (Sx.put (cx a) (some d) (.pointer (some ⟨b,0,none⟩))) (⟨b,m,ty0,true⟩::ov) G' a' w':=by simpa[relo,im] using rl
 have hnd:=(cV.1 rl'.h.nd).1;exact(hk x).run _ G' _ a' w' (r.new (x:=⟨some ⟨b,0,none⟩,0,0⟩) (B':= .o ty0 ((cs' x).map .d) true) (os:=[⟨b,m,ty0,true⟩]) hf hG.le rl'.h ⟨b,m,by simp,J,vK hm⟩ (fun o ho=>by rw[aS.1 ho];exact aQ)
  (fun o ho=>aJ _ ho) (fun o ho e=>by cases e;exact hnd o ho J) (f:= .ov d 0) (y:= .pointer (some ⟨b,0,none⟩)) ⟨b,by simp,J⟩ (jG rl'))
def Li(fr:aC)(cf:Cf):Option (FuncId×List DV×Nat):=match dd fr cf with
 |some ⟨some d, .call ⟨.value fo,args,_⟩,_,_,_,_⟩=>match vj (b9 fr cf) fo args with
  |some (f,ds)=>some (f,ds,d)
  |none=>none
 |_=>none
def cn[fu:Fu]{f:FuncId}{d:Nat}{ds:List DV}{ty:TypeId}{cs':ι->List DV}{vc:ι->List Prop}{fr':ι->aC}{own':ι->aH}{cf':ι->Cf}(ha:Li fr cf=some (f,ds,d))(hF:PN GB prog f ds ty ι cs')
  (hgo: ∀x,(AB (cs' x) fun csx=>KD n fu.n fr own cf (.ov d 0) [(d,some (.o ty csx true))])=⟨vc x,fr' x,own' x,cf' x⟩)(k: ∀x,aw prog GB C n Q0 (fr' x) (own' x) (cf' x))(ho:J2 n fr own cf [d]=true:=by rfl)
  (hv: ∀x,aj (vc x):=by intro;first|exact trivial|(simp only[aj];kernel_rfl)|(simp only[aj];omega)|(simp only[aj,aX,bY,aL];omega)):aw prog GB C n Q0 fr own cf:=by
 unfold Li at ha;split at ha<;>try (cases ha;done)
 rename_i hh;split at ha<;>cases ha;rename_i h1;simp only[E4] at hgo;exact Za hh ho (Vz h1 hF) hgo hv k
end
section
variable {own:aH}
end
section
variable {own:aH}
def JJ(C:aD)(ty:TypeId)(ι:Type)(cs:ι->List DV):Ending->World->Prop:=sE C (fun v own' G'=> ∃x b m,v= .pointer (some ⟨b,0,none⟩)/\own'=[⟨b,m,ty,true⟩]/\IsLs G' (cs x) m)
def YB[fu:Fu]{f:FuncId}{m:Nat}{ds:List DV}{ty:TypeId}{cs:ι->List DV}(hf:prog.funcs[f]? =some fb)(hb:fb.body=some c)(hn:(fb.name== "runtime.NumGoroutine")=false)(hm:fb.ntmps=m)(hlen:Nat.ble ds.length m=true)
  (hgo:go tt m fu.n [] (rP 0 ds) [] (.code c [])=⟨vc,fr,own,cf⟩)(k: ∀C:aD,C.mb=[]->aw prog GB C m (fg C prog fb (JJ C ty ι cs)) fr own cf)
  (hv:autoParam (aj vc) fn._auto_1):PN GB prog f ds ty ι cs:=by
 intro G vs hg hvs;refine iu.introR hf hb hn hm (by rw[hvs.len];exact hlen) fun C _ hmb hrd hfx=>?_;intro a w rl;refine vo hrd ?_;have h:=f7 (GB:=GB) (C:=C) (Q0:=fg C prog fb (JJ C ty ι cs)) hgo hv (k C (by simpa using hmb));exact h.run (fun _=>⟨none,0,0⟩) G [] a w ⟨hg,rl.h,rl.sz,rl.df,(fun k f e=>An hvs rl.fr k f e),(fun nm B e=>by cases e),(fun nm nm' B B' e=>by cases e),fun nm p _ _ e=>by rw[hfx] at e;cases e⟩
def VL{t d:Nat}{ty:TypeId}{cs:ι->List DV}{l:List DV}(x:ι)(hr:fb.results.toList=[.tmp t])(hl:bh fr t=some (.ov d 0))(hw:bp own d=some (.o ty cs1 true))(hc:jq cs1=some l)(hd:l=cs x):
  aw prog GB C n (fg C prog fb (JJ C ty ι cs)) fr own (.ex .ret []):=by
 refine⟨fun ρ G ov a w r=>?_⟩;subst hd;obtain⟨b,m,rest,h3,h4,h5,h6⟩:=r.lend hw hc;obtain⟨y,hy,b',hb',hy'⟩:=r.ev (x:= .tmp t) (f:= .ov d 0) hl;rw[h3] at hb';cases hb';subst hy';exact Yz (C:=C) (n:=n) (fr:=cx a) (own:=ov) (G:=G) (vs:=[.pointer (some ⟨b,0,none⟩)]) (by rw[hr];exact .tmp hy .nil) (⟨b,m,ty,true⟩::rest) [⟨b,m,ty,true⟩] (by simpa using h5) (.cons_cons _ (fM _)) (fun _=>⟨x,b,m,J,J,h4⟩) a w ⟨r.h,r.sz,cC a,r.df⟩
def Ec[fu:Fu]{d:Nat}{l:List DV}(h:QB fr cf=some (d,l))(hgo:cI tt n fu.n fr own cf (.d (.pt l)) [(d,none)] [d]=⟨vc,fr',own',cf'⟩)(k:aw prog GB C n Q0 fr' own' cf')
  (hv:autoParam (aj vc) fn._auto_1):aw prog GB C n Q0 fr own cf:=by
 unfold QB at h;split at h<;>try (cases h;done)
 rename_i hh;split at h<;>try (cases h;done)
 rename_i g hx;rw[cond_eq_ite] at h;split at h<;>try (cases h;done)
 rename_i hc;simp only[cZ] at hc;split at h<;>cases h;rename_i hl;exact us hh (aDh hx hc.1 hc.2 hl) hgo hv k
end
section
variable {own:aH}
def fG:List (Option DV)->SV->List DV
 |[],_=>[]
 |some d::t,w=>d::fG t w
 |none::t,w=> .v (.slice w.a w.n w.c)::fG t w
def DJ(lk:LK):List Operand->Option (Option Nat×List (Option DV))
 |[]=>some (none,[])
 |x::t=>match bj lk x,DJ lk t with
  |some (.rw nm),some (none,l)=>some (some nm,none::l)
  |some f,some (q,l)=>match jO f with
   |some d=>some (q,some d::l)
   |none=>none
  |_,_=>none
def Cs(lk:LK)(fo:Operand)(args:Array Operand):Option (FuncId×Nat×List (Option DV)):=match bj lk fo with
 |some (.d (.v (.func (.func f) ⟨[]⟩ ⟨[]⟩)))=>match DJ lk args.toList with
  |some (some nm,l)=>some (f,nm,l)
  |_=>none
 |_=>none
def Ev{lk:LK}{bk:BM}{ρ:NE}{G:Gh}{ov:List av}{a:Act}{w:World}(r:bH GB C n lk bk ρ G ov a w){z:SV}: ∀{x:List Operand} {q:Option Nat} {l:List (Option DV)},DJ lk x=some (q,l)->(∀nm,q=some nm->ρ nm=z)->
  ∃y,fy (cx a) x=some y/\IsLs G (fG l z) y
 |[],q,l,e,_=>by cases e;exact⟨[],J, .nil⟩
 |x::t,q,l,e,hb=>by
  simp only[DJ] at e;split at e
  .rename_i nm l' h1 h2
   cases e
   obtain⟨y,h3,h4⟩:=r.ev h1
   cases (show y=_ from h4)
   obtain⟨ys,h5,h6⟩:=Ev r (z:=z) h2 (fun nm e=>by cases e);have hz:=hb nm J;subst hz;exact⟨Value.slice (ρ nm).a (ρ nm).n (ρ nm).c::ys,by simp only[fy,h3,h5], .cons ((aB (G:=G)).2 J) h6⟩
  .rename_i f q' l' _ h1 h2
   cases hd:jO f with
   |none=>rw[hd] at e;cases e
   |some d=>
   rw[hd] at e;cases e;obtain⟨y,h3,h4⟩:=r.ev h1;obtain⟨ys,h5,h6⟩:=Ev r (z:=z) h2 hb;exact⟨y::ys,by simp only[fy,h3,h5], .cons (nq h4 hd) h6⟩
  .cases e
def We{f:FuncId}{nm d:Nat}{l:List (Option DV)}{s:Nat}{ty:TypeId}{lo:Bool}(hne:Nat.beq nm d=false)
  (ha:Cs lk fo args=some (f,nm,l))(hb:bk nm=some (.b ty0 s dsi lo))(hF:PB GB prog f (fG l) s ty0 dsi (fun w=> .tp (pre++ .v (.slice w.a w.n w.c)::post)) dso):bP prog GB C n lk bk ⟨some d, .call ⟨.value fo,args,tys⟩,ty,pos,af,gd⟩ (.bx true pre d post) [(nm,none),(d,some (.b ty0 s dso lo))] [d]:=by
 intro hd tl tb K' s1 s2 hf hk;refine⟨fun ρ G ov a w r Q=>?_⟩;have r1:=r.mono s1 s2;unfold Cs at ha;split at ha<;>try (cases ha;done)
 rename_i h1;split at ha<;>cases ha;rename_i h2;obtain⟨y,hy,hy'⟩:=r1.ev h1;rw[(aB (G:=G)).1 hy'] at hy;obtain⟨B,g1,g2⟩:=r1.bx _ _ hb;have hB:eh G ⟨ρ nm,s,ty0,dsi,lo⟩ B:=g1;obtain⟨vs,h7,h8⟩:=Ev r1 (z:=ρ nm) h2 (fun nm e=>by cases e;rfl);have hp: ∃rest,ov.Perm (B++rest)/\ ∀o∈ov,(∀o'∈B,o.b≠o'.b)->o∈rest:=by
  rcases hB with⟨vs',⟨_,_,e⟩|⟨b0,r0,lo0,_,e,_⟩,_⟩
  .rw[e];exact⟨ov,List.Perm.refl _,fun o ho _=>ho⟩
  .rw[e] at g2⊢
   obtain⟨l1,l2,e2⟩:=mK (g2 _ aQ);rw[e2];refine⟨l1++l2,pZ,fun o ho hno=>?_⟩;rcases bW.1 ho with ho|ho
   .exact bU _ ho
   .rcases aW.1 ho with rfl|ho
    .exact absurd J (hno _ aQ)
    .exact bK _ ho
 obtain⟨rest,h5,h6⟩:=hp;refine wY (M:=B) (rest:=rest) hy h7 h5 (hF G (ρ nm) vs B r.gb hB.weak h8) hd (fun v own1 G' hG hK a' w' rl=>?_) a w Q ⟨r.h,r.sz,cC a,r.df⟩;obtain⟨z,hr,vs',k1,k2,k3,k4⟩:=hK;have k1':=k1.relo (im B);have e2:lo=true-> ∀o∈own1.map (relo (im B)),o.lo=true:=fun hl o ho=>by
  obtain⟨o',_,rfl⟩:=aT.1 ho;obtain⟨_,_,_,_,hlo⟩:=hB;exact Dq _ (hlo hl)
 generalize own1.map (relo (im B))=B' at rl e2 k1';have rl':gD C n (Sx.put (cx a) (some d) v) (B'++rest) G' a' w':=rl;have hdis:=(gM.1 rl'.h.nd).2.2;have r2:=r.dropB nm;have hnn:nm≠d:=fun e=>by subst e;rw[pW] at hne;cases hne
 have hf2:lv [d] (some d) tl (Sx.upB tb [(nm,none)]):=fun q hq=>by
  obtain⟨f1,f2⟩:=hf q hq;refine⟨f1,fun k B e1 e=>?_⟩;simp only[Sx.upB] at e;split at e
  .cases e
  .exact f2 k B e1 e
 have hsep: ∀q B0,Sx.upB tb [(nm,none)] q=some B0-> ∀o∈ov,(ρ q).a=some ⟨o.b,0,none⟩->o∈rest:=fun q B0 e o ho hbq=>by
  simp only[Sx.upB] at e;split at e
  .cases e
  .rename_i hqn
   refine h6 o ho fun o' ho' he=>?_;exact r.dj nm q _ _ (s2 _ _ hb) e (Ne.symm hqn) o'.b (g1.blk ho') (by rw[hbq,he])
 obtain⟨m,rfl,hm⟩:=jj.1 hr;obtain⟨m1,m2',rfl,c1,c2⟩: ∃m1 m2',m=m1++m2'/\IsLs G' pre m1/\IsLs G' (.v (.slice z.a z.n z.c)::post) m2':=IsLs.unapp hm;obtain⟨u,m2,rfl,c3,c4⟩:=aI.1 c2;rw[aB.1 c3] at rl';have r3:=r2.new' (x:=z) (B':= .b ty0 s dso lo) (os:=B') (ov':=B'++rest) (f:= .bx true pre d post) (y:= .tuple ⟨m1++Value.slice z.a z.n z.c::m2⟩) hf2 hG.le rl'.h ⟨vs',by simpa using k1',k2,k3,e2⟩ (fun o ho=>bU _ ho)
  (fun q B0 hq e o ho hbq=>⟨bK _ (hsep q B0 e o ho hbq),fun hc=>by
   have hx: ∃o1∈B',o1.b=o.b:=by
    rcases k1' with⟨_,h,_⟩|⟨b0,rest0,lo0,h,hB,_⟩
    .rw[show z=_ from h] at hc;cases hc
    .rw[show z=_ from h] at hc;cases hc;exact⟨⟨_,aF vs'++rest0,_,lo0⟩,by rw[hB];exact aQ,J⟩
   obtain⟨o1,ho1,he1⟩:=hx;exact hdis o1 ho1 o (hsep q B0 e o ho hbq) he1⟩) ⟨m1,m2,by simp,c1,c4⟩ (jG rl')
 exact hk.run _ G' _ a' w' r3
structure UM where
 f:FuncId
 nm:Nat
 l:List (Option DV)
 ty:TypeId
 s:Nat
 ds:List DV
 lo:Bool
 d:Nat
def CB(fr:aC)(own:aH)(cf:Cf):Option UM:=match dd fr cf with
 |some ⟨some d, .call ⟨.value fo,args,_⟩,_,_,_,_⟩=>match Cs (b9 fr cf) fo args with
  |some (f,nm,l)=>match jv fr own cf nm with
   |some (.b ty s ds lo)=>bif Nat.beq nm d then none else some ⟨f,nm,l,ty,s,ds,lo,d⟩
   |_=>none
  |none=>none
 |_=>none
def cb[fu:Fu]{f:FuncId}{nm d:Nat}{l:List (Option DV)}{ty:TypeId}{s:Nat}{lo:Bool}(dso':List DV)(ha:CB fr own cf=some ⟨f,nm,l,ty,s,dsi,lo,d⟩)(hF:PB GB prog f (fG l) s ty dsi (fun w=> .tp (pre++ .v (.slice w.a w.n w.c)::post)) dso)(he:dso=dso')
  (hgo:cI tt n fu.n fr own cf (.bx true pre d post) [(nm,none),(d,some (.b ty s dso' lo))] [d]=⟨vc,fr',own',cf'⟩)(k:aw prog GB C n Q0 fr' own' cf')
  (hv:autoParam (aj vc) fn._auto_1):aw prog GB C n Q0 fr own cf:=by
 subst he;unfold CB at ha;split at ha<;>try (cases ha;done)
 rename_i hh;split at ha<;>try (cases ha;done)
 rename_i h1;split at ha<;>try (cases ha;done)
 rename_i h2;rw[cond_eq_ite] at ha;split at ha<;>cases ha;rename_i h3;exact us hh (We (by cases hq:Nat.beq nm d with|false=>rfl|true=>exact absurd hq h3) h1 h2 hF) hgo hv k
def wG:Nat->List (Option DV)->aC
 |_,[]=>[]
 |i,some v::t=>(i, .d v)::wG (i+1) t
 |i,none::t=>(i, .rw NM)::wG (i+1) t
def Er(w:SV): ∀l:List (Option DV),(fG l w).length=l.length
 |[]=>rfl
 |some d::t=>by simp[fG,Er w t]
 |none::t=>by simp[fG,Er w t]
def Dl{w:SV}{ρ:NE}{G:Gh}(hρ:ρ NM=w): ∀{ds:List (Option DV)} {vs:List Value} (i:Nat),IsLs G (fG ds w) vs-> ∀k f,bh (wG i ds) k=some f-> ∃y,(∃j,k=i+j/\vs[j]? =some y)/\bO ρ G f y
 |[],vs,i,h,k,f,e=>by cases e
 |some d::t,vs,i,h,k,f,e=>by
  obtain⟨y,m,rfl,h1,h2⟩:=aI.1 h;simp only[wG] at e;rw[kn] at e;split at e
  .cases e;rename_i hk;exact⟨y,⟨0,hk,rfl⟩,h1⟩
  .obtain⟨u,⟨j,hj,hu⟩,h3⟩:=Dl hρ (i+1) h2 k f e
   exact⟨u,⟨j+1,by omega,by simpa using hu⟩,h3⟩
 |none::t,vs,i,h,k,f,e=>by
  obtain⟨y,m,rfl,h1,h2⟩:=aI.1 h;simp only[wG] at e;rw[kn] at e;split at e
  .cases e;rename_i hk;exact⟨y,⟨0,hk,rfl⟩,by show y=_;rw[hρ];exact aB.1 h1⟩
  .obtain⟨u,⟨j,hj,hu⟩,h3⟩:=Dl hρ (i+1) h2 k f e
   exact⟨u,⟨j+1,by omega,by simpa using hu⟩,h3⟩
def KK(C:aD)(s:Nat)(ty:TypeId)(pre post dso:List DV):Ending->World->Prop:=sE C (fun v own' G'=> ∃w',Is G' (.tp (pre++ .v (.slice w'.a w'.n w'.c)::post)) v/\eh G' ⟨w',s,ty,dso,false⟩ own')
def JB[fu:Fu]{f:FuncId}{s:Nat}{l:List (Option DV)}{ty:TypeId}(hf:prog.funcs[f]? =some fb)(hb:fb.body=some c)(hn:(fb.name== "runtime.NumGoroutine")=false)(hm:fb.ntmps=k)(hlen:Nat.ble l.length k=true)
  (hgo:go tt k fu.n [] (wG 0 l) [(NM,some (.b ty s dsi false))] (.code c [])=⟨vc,fr,own,cf⟩)(h: ∀C,aw prog GB C k (fg C prog fb (KK C s ty pre post dso)) fr own cf)
  (hv:autoParam (aj vc) fn._auto_1):PB GB prog f (fG l) s ty dsi (fun w=> .tp (pre++ .v (.slice w.a w.n w.c)::post)) dso:=by
 intro G w vs B hg hB hvs;refine iu.introR hf hb hn hm (by rw[hvs.len,Er];exact hlen) fun C _ hmb hrd hfx=>?_;intro a wd rl;refine vo hrd ?_;have h1:=f7 (GB:=GB) (C:=C) (Q0:=fg C prog fb (KK C s ty pre post dso)) hgo hv (h C);refine h1.run (fun _=>w) G (Sx.asB B) a wd ⟨hg,rl.h,rl.sz,rl.df,fun k f e=>?_,fun nm B' e=>?_,fun nm nm' B' B2 e e' hne=>?_,fun nm p _ _ e=>by rw[hfx] at e;cases e⟩
 .obtain⟨y,⟨j,hj,hy⟩,h2⟩:=Dl (ρ:=fun _=>w) (w:=w) rfl 0 hvs k f e
  refine⟨y,rl.fr k y ?_,h2⟩;rw[hj];exact wN vs 0 j y hy
 .rw[jH] at e
  split at e
  .cases e;exact⟨Sx.asB B,hB.asB,fun o ho=>ho⟩
  .cases e
 .rw[jH] at e e'
  split at e<;>split at e'
  .rename_i h2 h3;exact absurd (h2.trans h3.symm) hne
  .cases e'
  .cases e
  .cases e
def IL{B:List av}{w:SV}{s:Nat}{ty:TypeId}{ds:List DV}{lo:Bool}(h:eh G ⟨w,s,ty,ds,lo⟩ B)(g: ∀o∈B,o∈ov): ∃rest,ov.Perm (B++rest):=by
 rcases h with⟨vs',⟨_,_,e⟩|⟨b0,r0,lo0,_,e,_⟩,_⟩
 .rw[e];exact⟨ov,List.Perm.refl _⟩
 .rw[e] at g⊢
  obtain⟨l1,l2,e2⟩:=mK (g _ aQ);rw[e2];exact⟨l1++l2,pZ⟩
def HL{t d s:Nat}{ty:TypeId}{ds:List DV}{f:FX}(hr:fb.results.toList=[.tmp t, .tmp u])(hl:bh fr t=some (.rw d))(hu:bh fr u=some f)(hd:jO f=some v)(hw:bp own d=some (.b ty s ds false))(ed:ds=dso)(ev:v=v'):
  aw prog GB C n (fg C prog fb (KK C s ty [] [v'] dso)) fr own (.ex .ret []):=by
 subst ed ev;refine⟨fun ρ G ov a w r=>?_⟩;obtain⟨B,g1,g2⟩:=r.bx _ _ hw;have hB:eh G ⟨ρ d,s,ty,ds,false⟩ B:=g1;obtain⟨rest,hp⟩:=IL hB g2;obtain⟨y,hy,hy'⟩:=r.ev (x:= .tmp t) (f:= .rw d) hl
 cases (show y=_ from hy')
 obtain⟨z,hz,hz'⟩:=r.ev (x:= .tmp u) (f:=f) hu;exact wK (C:=C) (n:=n) (fr:=cx a) (own:=ov) (G:=G) (vs:=[.slice (ρ d).a (ρ d).n (ρ d).c,z]) (by rw[hr];exact .tmp hy (.tmp hz .nil)) (B++rest) B hp (oY _ _)
  ⟨ρ d,jj.2 ⟨_,J, .cons (aB.2 J) (.cons (nq hz' hd) .nil)⟩,hB⟩ a w ⟨r.h,r.sz,cC a,r.df⟩
def EO(lk:LK):List Operand->Option (List (Option DV))
 |[]=>some []
 |x::t=>match bj lk x,EO lk t with
  |some .nl,some l=>some (none::l)
  |some f,some l=>match jO f with
   |some d=>some (some d::l)
   |none=>none
  |_,_=>none
def J4(lk:LK)(fo:Operand)(args:Array Operand):Option (FuncId×List (Option DV)):=match bj lk fo with
 |some (.d (.v (.func (.func f) ⟨[]⟩ ⟨[]⟩)))=>match EO lk args.toList with
  |some l=>some (f,l)
  |_=>none
 |_=>none
def HQ{lk:LK}{bk:BM}{ρ:NE}{G:Gh}{ov:List av}{a:Act}{w:World}(r:bH GB C n lk bk ρ G ov a w): ∀{x:List Operand} {l:List (Option DV)},EO lk x=some l-> ∃y,fy (cx a) x=some y/\IsLs G (fG l ⟨none,0,0⟩) y
 |[],l,e=>by cases e;exact⟨[],J, .nil⟩
 |x::t,l,e=>by
  simp only[EO] at e;split at e
  .rename_i l' h1 h2
   cases e
   obtain⟨y,h3,h4⟩:=r.ev h1
   cases (show y=_ from h4)
   obtain⟨ys,h5,h6⟩:=HQ r h2;exact⟨Value.slice none 0 0::ys,by simp only[fy,h3,h5], .cons ((aB (G:=G)).2 J) h6⟩
  .rename_i f l' _ h1 h2
   cases hd:jO f with
   |none=>rw[hd] at e;cases e
   |some d=>
   rw[hd] at e;cases e;obtain⟨y,h3,h4⟩:=r.ev h1;obtain⟨ys,h5,h6⟩:=HQ r h2;exact⟨y::ys,by simp only[fy,h3,h5], .cons (nq h4 hd) h6⟩
  .cases e
def Wn{f:FuncId}{d:Nat}{l:List (Option DV)}{s:Nat}{ty:TypeId}
  (ha:J4 lk fo args=some (f,l))(hF:PB GB prog f (fG l) s ty0 [] (fun w=> .tp (pre++ .v (.slice w.a w.n w.c)::post)) dso):bP prog GB C n lk bk ⟨some d, .call ⟨.value fo,args,tys⟩,ty,pos,af,gd⟩ (.bx true pre d post) [(d,some (.b ty0 s dso true))] [d]:=by
 intro hd tl tb K' s1 s2 hf hk;refine⟨fun ρ G ov a w r Q=>?_⟩;have r1:=r.mono s1 s2;unfold J4 at ha;split at ha<;>try (cases ha;done)
 rename_i h1;split at ha<;>cases ha;rename_i h2;obtain⟨y,hy,hy'⟩:=r1.ev h1;rw[(aB (G:=G)).1 hy'] at hy;obtain⟨vs,h7,h8⟩:=HQ r1 h2;refine wY (M:=[]) (rest:=ov) hy h7 (List.Perm.refl _) (hF G ⟨none,0,0⟩ vs [] r.gb ⟨[], .nil _ _, .nil,by simp,fun h=>by cases h⟩ h8) hd (fun v own1 G' hG hK a' w' rl=>?_) a w Q ⟨r.h,r.sz,cC a,r.df⟩;obtain⟨z,hr,vs',k1,k2,k3,k4⟩:=hK;have k1':=k1.relo (im []);have e2: ∀o∈own1.map (relo (im [])),o.lo=true:=fun o ho=>by
  obtain⟨o',_,rfl⟩:=aT.1 ho;rfl
 generalize own1.map (relo (im []))=B' at rl e2 k1';have rl':gD C n (Sx.put (cx a) (some d) v) (B'++ov) G' a' w':=rl;have hdis:=(gM.1 rl'.h.nd).2.2;obtain⟨m,rfl,hm⟩:=jj.1 hr;obtain⟨m1,m2',rfl,c1,c2⟩: ∃m1 m2',m=m1++m2'/\IsLs G' pre m1/\IsLs G' (.v (.slice z.a z.n z.c)::post) m2':=IsLs.unapp hm;obtain⟨u,m2,rfl,c3,c4⟩:=aI.1 c2;rw[aB.1 c3] at rl';have r3:=r.new (x:=z) (B':= .b ty0 s dso true) (os:=B') (ov':=B'++ov) (f:= .bx true pre d post) (y:= .tuple ⟨m1++Value.slice z.a z.n z.c::m2⟩) hf hG.le rl'.h ⟨vs',by simpa using k1',k2,k3,fun _=>e2⟩ (fun o ho=>bU _ ho) (fun o ho=>bK _ ho)
  (fun o ho hc=>by
   have hx: ∃o1∈B',o1.b=o.b:=by
    rcases k1' with⟨_,h,_⟩|⟨b0,rest0,lo0,h,hB,_⟩
    .rw[show z=_ from h] at hc;cases hc
    .rw[show z=_ from h] at hc;cases hc;exact⟨⟨_,aF vs'++rest0,_,lo0⟩,by rw[hB];exact aQ,J⟩
   obtain⟨o1,ho1,he1⟩:=hx;exact hdis o1 ho1 o ho he1) ⟨m1,m2,by simp,c1,c4⟩ (jG rl')
 exact hk.run _ G' _ a' w' r3
def Om(fr:aC)(cf:Cf):Option (FuncId×List (Option DV)×Nat):=match dd fr cf with
 |some ⟨some d, .call ⟨.value fo,args,_⟩,_,_,_,_⟩=>match J4 (b9 fr cf) fo args with
  |some (f,l)=>some (f,l,d)
  |none=>none
 |_=>none
def Y'[fu:Fu]{f:FuncId}{d:Nat}{l:List (Option DV)}{ty:TypeId}{s:Nat}(dso':List DV)(ha:Om fr cf=some (f,l,d))(hF:PB GB prog f (fG l) s ty [] (fun w=> .tp (pre++ .v (.slice w.a w.n w.c)::post)) dso)(he:dso=dso')
  (hgo:cI tt n fu.n fr own cf (.bx true pre d post) [(d,some (.b ty s dso' true))] [d]=⟨vc,fr',own',cf'⟩)(k:aw prog GB C n Q0 fr' own' cf')
  (hv:autoParam (aj vc) fn._auto_1):aw prog GB C n Q0 fr own cf:=by
 subst he;unfold Om at ha;split at ha<;>try (cases ha;done)
 rename_i hh;split at ha<;>cases ha;rename_i h1;exact us hh (Wn h1 hF) hgo hv k
end
section
variable {fr:Fr}{own own':List av}
variable {x:Operand}{e s:Nat}
def Xl[hT:cv P t e s by_]{z:Value}[hz:gq P e z]{k k':IntKind}{l:Int}(hx:aA fr x=some (.int k 0))(hy:aA fr y=some (.int k' l))(h0:0<=l)(hb:by_*l<=2^47)(hl:l<=2^60)(hs:(aE z).length=s)(hd:b7 n dst=true)
  (h: ∀b,St C n (put fr dst (.slice (some ⟨b,0,none⟩) 0 l.toNat)) (⟨b,de z l.toNat,e,true⟩::own) G Φ):
  Ch P C n fr own G ⟨dst, .makeSlice t x y,ty',pos,af,gd⟩ Φ:=by
 intro a w Q rl;have h1:(Instr.makeSlice t (a.eval x) (a.eval y)).run P w= .ok (.slice (some ⟨w.heap.size,0,none⟩) 0 l.toNat) (w.alloc (.cells ⟨de z l.toNat⟩ e)):=by
  obtain⟨i,hi,hib⟩:=SP (P:=P) (t:=t) (e:=e) (s:=s) (by_:=by_) w;rw[bw rl.fr hx,bw rl.fr hy];unfold Instr.makeSlice;rw[aP (hT.u w)];simp only[asInt,asIntOf];rw[aP (a:=0) (w':=w) J,aP (a:=l) (w':=w) J,aP hi,hib];have hw:IntKind.i64.wrap l=l:=tk (by simp[IntKind.min,IntKind.max,IntKind.signed,IntKind.bits];omega);have hw0:IntKind.i64.wrap 0=0:=J;simp only[hw,hw0];have c1: ¬((by_:Int)*l>2^48):=by
   have:(2:Int)^47<=2^48:=by decide
   omega
  have c5:decide ((by_:Int)*l>2^48)=false:=decide_eq_false c1;have c2:decide (l<0)=false:=decide_eq_false (by omega);have c4:decide ((0:Int)>l)=false:=by simp;omega
  simp only[c2,c4,c5,Bool.false_or,Int.lt_irrefl,decide_false,Bool.or_false,kZ,if_false];have hr: ¬(l.toNat*by_>roomBytes):=by
   unfold roomBytes;have:((l.toNat*by_:Nat):Int)=by_*l:=by rw[jU,qN h0,sZ]
   have h47:((2^47:Nat):Int)=2^47:=by decide
   omega
  unfold askRoom;simp only[hr,if_false];rw[aP (run_pure _ _ _),aP (hT.siz w)];have hn:l.toNat*s=l.toNat*(aE z).length:=by rw[hs]
  by_cases h00:l.toNat*s=0
  .rw[if_pos h00,aP (run_pure _ _ _)]
   have e0:de z l.toNat=[]:=bM (by rw[pc,hs];exact h00);rw[h00,e0,show(Array.range 0)= #[] from J,Array.map_empty];rfl
  .rw[if_neg h00,aP (hz.zero w),pz]
   rw[aP (run_pure _ _ _),A7 hn];rfl
 refine mi (v:= .slice (some ⟨w.heap.size,0,none⟩) 0 l.toNat) (cE h1) (h w.heap.size _ _ ((rl.heap (rl.h.alloc _ _)).put _ hd))
def sd(G:Gh)(ov:List av):Gh:=fun b=>match G b with
 |some cs=>some cs
 |none=>(ov.find? fun o=>Nat.beq o.b b).map (·.cs)
def Jc:bI G (sd G ov):=fun b cs h=>by unfold sd;rw[h]
def Qn{o:av}: ∀{ov:List av},o∈ov->ov.Pairwise (fun x y=>x.b≠y.b)->ov.find? (fun u=>Nat.beq u.b o.b)=some o
 |u::t,ho,nd=>by
  rcases aW.1 ho with rfl|ho
  .rw[List.find?_cons_of_pos (by simp)]
  .have:=(cV.1 nd).1 o ho
   rw[List.find?_cons_of_neg (by simpa using this)];exact Qn ho (cV.1 nd).2
def azu{o:av}(ho:o∈ov)(hn:G o.b=none)(nd:ov.Pairwise (fun x y=>x.b≠y.b)):sd G ov o.b=some o.cs:=by
 unfold sd;rw[hn,Qn ho nd];rfl
def bF.lendSub(h:bF C ov G w)(b:Nat)(cs:List Value)(hb:sd G ov b=some cs): ∃ty fz,w.heap[b]? =some (.cells ⟨cs⟩ ty fz):=by
 unfold sd at hb;split at hb
 .rename_i hg;cases hb;exact h.sub _ _ hg
 .cases hf:ov.find? (fun o=>Nat.beq o.b b) with
  |none=>rw[hf] at hb;cases hb
  |some o=>
   rw[hf] at hb;cases hb;have e:o.b=b:=aN (by simpa using List.find?_some hf);subst e;exact⟨_,_,(h.hown o (List.mem_of_find?_eq_some hf)).1⟩
def bF.lent(h:bF C ov G w)(k:bF ⟨w,sd G ov,[],[],[],none,fun _=>none⟩ [] G' w'):bF C ov G w':=by
 have same: ∀b o,w.heap[b]? =some o->w'.heap[b]? =some o:=fun b o hb=>by rw[k.keep b (iG hb) (by simp)];exact hb
 have hsz:w.heap.size<=w'.heap.size:=k.size;refine⟨k.os.trans h.os,k.tape.trans h.tape,k.output.trans h.output,cS h.size hsz,fun b hb hm=>?_,fun b cs hb=>?_,h.gle,h.gold,fun o ho=>?_,h.nd,cS h.dr k.dr,fun p hp=>⟨(h.ext p hp).1,same _ _ (h.ext p hp).2⟩⟩
 .have:=h.size;rw[k.keep b (by show b<w.heap.size;omega) (by simp)];exact h.keep b hb hm
 .obtain⟨ty,fz,h1⟩:=h.sub b cs hb;exact⟨ty,fz,same _ _ h1⟩
 .obtain⟨h1,h2⟩:=h.hown o ho;exact⟨same _ _ h1,h2⟩
def Ue{f:FuncId}{K:Value->Gh->Prop}(ho:aA fr fo=some (.func (.func f) #[] #[]))(hv:fy fr args.toList=some vs)
  (hF:Fn P f vs (sd G own) K)(hd:b7 n dst=true)(h: ∀v (G':Gh),K v G'->St C n (put fr dst v) own G Φ):Ch P C n fr own G ⟨dst, .call ⟨.value fo,args,tys⟩,ty',pos,af,gd⟩ Φ:=by
 intro a w Q rl;have h2:=EZ (c1:=[]) (c2:=[]) (P:=P) (dst:=dst) (ty':=ty') (pos:=pos) (af:=af) (gd:=gd) (tys:=tys) (w:=w) hF.able rl.fr ho hv;rw[jN,gK] at h2;simp only[Oper.wp,h2,Oper.upon];refine(hF.run w rl.h.lendSub).mono ?_;rintro e w' ⟨v,G',rfl,hh,hK⟩;exact h v G' hK _ _ ((rl.heap (rl.h.lent hh)).put _ hd)
end
def DV.np:DV->Bool
 | .v _=>true
 | .tp l=>l.all fun d=>match d with
  | .v _=>true
  |_=>false
 |_=>false
def Qs{A G:Gh}: ∀{l:List DV} {m:List Value},(l.all fun d=>match d with| .v _=>true|_=>false)=true->IsLs A l m->IsLs G l m
 |[],m,_,k=>dE.2 (dE.1 k)
 |d::t,m,h,k=>by
  obtain⟨y,n,rfl,k1,k2⟩:=aI.1 k;simp only[List.all_cons,cZ] at h;refine .cons ?_ (Qs h.2 k2)
  cases d with
  |v x=>exact aB.2 (aB.1 k1)
  |_=>simp at h
def Is.np{d:DV}{y:Value}(h:d.np=true)(k:Is A d y):Is G d y:=by
 cases d with
 |v x=>exact aB.2 (aB.1 k)
 |tp l=>obtain⟨m,e,k⟩:=jj.1 k;exact jj.2 ⟨m,e,Qs h k⟩
 |_=>cases h
section
variable {own:aH}
variable {x:Operand}{e s:Nat}
def Sb:Option Bk->Option (List DV)
 |some (.b _ _ ds _)=>some ds
 |some (.c _ _ ds _)=>some ds
 |_=>none
def Ko(lk:LK)(bk:BM)(x:Operand):Option DV:=match bj lk x with
 |some (.rw nm)=>match Sb (bk nm) with
  |some ds=>some (.sl ds)
  |none=>none
 |some f=>jO f
 |none=>none
def Df(lk:LK)(bk:BM):List Operand->Option (List DV)
 |[]=>some []
 |x::t=>match Ko lk bk x,Df lk bk t with
  |some d,some l=>some (d::l)
  |_,_=>none
def Vl(r:bH GB C n lk bk ρ G ov a w){d:DV}(h:Ko lk bk x=some d): ∃y,aA (cx a) x=some y/\Is (sd G ov) d y:=by
 unfold Ko at h;split at h
 .rename_i nm h1
  obtain⟨y,h2,h3⟩:=r.ev h1
  cases (show y=_ from h3)
  refine⟨_,h2,?_⟩;split at h<;>cases h;rename_i ds hr;obtain⟨ty,s,vs,B,hB,hv,hs,hBo⟩: ∃ty s vs B,jI s ty (ρ nm) vs B/\IsLs G ds vs/\(∀v∈vs,(aE v).length=s)/\ ∀o∈B,o∈ov:=by
   unfold Sb at hr;split at hr<;>cases hr
   .rename_i hb;obtain⟨B,⟨vs,h4,h5,h6,_⟩,h7⟩:=r.bx _ _ hb;exact⟨_,_,vs,B,h4,h5,h6,h7⟩
   .rename_i hb;obtain⟨B,⟨vs,h4,h5,h6,_⟩,h7⟩:=r.bx _ _ hb;exact⟨_,_,vs,B,h4,h5,h6,h7⟩
  rcases hB with⟨e1,e2,e3⟩|⟨b,rest,lo',e2,e3,h5,h6,h7⟩
  .subst e1
   have ed:ds=[]:=bM (by rw[<-hv.len];rfl);subst ed;rw[e2];exact gw.2 ⟨0,⟨none,0,0⟩,[],J, .nil _ 0, .nil⟩
  .subst e3
   have ho:=hBo _ aQ;have hg:=azu ho (r.h.hown _ ho).2.1 r.h.nd;rw[e2];exact gw.2 ⟨s,⟨some ⟨b,0,none⟩,vs.length,_⟩,vs,J,fw.of_flat hs hg h7,hv.up Jc⟩
 .rename_i h1
  obtain⟨y,h2,h3⟩:=r.ev h1;exact⟨y,h2,(nq h3 h).up Jc⟩
 .cases h
def O2(r:bH GB C n lk bk ρ G ov a w): ∀{l:List Operand} {ds:List DV},Df lk bk l=some ds-> ∃vs,fy (cx a) l=some vs/\IsLs (sd G ov) ds vs
 |[],ds,e=>by cases e;exact⟨[],J, .nil⟩
 |x::t,ds,e=>by
  simp only[Df] at e;split at e<;>cases e;rename_i h1 h2;obtain⟨y,h3,h4⟩:=Vl r h1;obtain⟨vs,h5,h6⟩:=O2 r h2;exact⟨y::vs,by simp only[fy,h3,h5], .cons h4 h6⟩
def Jy(lk:LK)(bk:BM)(fo:Operand)(args:Array Operand):Option (FuncId×List DV):=match bj lk fo with
 |some (.d (.v (.func (.func f) ⟨[]⟩ ⟨[]⟩)))=>match Df lk bk args.toList with
  |some ds=>some (f,ds)
  |none=>none
 |_=>none
def ayk{f:FuncId}{ds:List DV}(ha:Jy lk bk fo args=some (f,ds))(hnp:rv.np=true)(hF:PF GB prog f ds rv):bP prog GB C n lk bk ⟨dst, .call ⟨.value fo,args,tys⟩,ty',pos,af,gd⟩ (.d rv) [] []:=by
 intro hd tl tb K' s1 s2 hf hk;refine⟨fun ρ G ov a w r Q=>?_⟩;have r1:=r.mono s1 s2;unfold Jy at ha;split at ha<;>try (cases ha;done)
 rename_i h1;split at ha<;>cases ha;rename_i h2;obtain⟨y,hy,hy'⟩:=r1.ev h1;rw[(aB (G:=G)).1 hy'] at hy;obtain⟨vs,h3,h4⟩:=O2 r1 h2;refine Ue hy h3 (hF _ vs (r.gb.trans Jc) h4) hd (fun v G' hK a' w' rl=>?_) a w Q ⟨r.h,r.sz,cC a,r.df⟩;exact hk.run ρ G ov a' w' ⟨r.gb,rl.h,rl.sz,rl.df,(jG rl).fx (fun k g _ e=>r.fx k g e) (Is.np hnp hK),r.bx,r.dj,r.fxd⟩
def S3(fr:aC)(own:aH)(cf:Cf):Option (FuncId×List DV):=match dd fr cf with
 |some ⟨_, .call ⟨.value fo,args,_⟩,_,_,_,_⟩=>Jy (b9 fr cf) (jv fr own cf) fo args
 |_=>none
def cL[fu:Fu]{f:FuncId}{ds:List DV}(ha:S3 fr own cf=some (f,ds))(hF:PF GB prog f ds rv)(hnp:rv.np=true)(hgo:cI tt n fu.n fr own cf (.d rv) [] []=⟨vc,fr',own',cf'⟩)(k:aw prog GB C n Q0 fr' own' cf')
  (hv:aj vc:=by first|exact trivial|(simp only[aj];kernel_rfl)|(simp only[aj];omega)):aw prog GB C n Q0 fr own cf:=by
 unfold S3 at ha;split at ha<;>try (cases ha;done)
 rename_i hh;exact us hh (ayk ha hnp hF) hgo hv k
def Vv{d cap:Nat}{i:TI}{k:IntKind}[hT:cv prog t e s by_](hi:e7 prog e=some i)(hz:pe i=some z)(hs:Nat.beq z.cells.length s=true)(hx:bj lk x=some (.d (.v (.int k 0))))(hy:bj lk y=some (.d (.v (.int k' (cap:Nat)))))(hb:by_*cap<=140737488355328)(hl:cap<=1152921504606846976):
  bP prog GB C n lk bk ⟨some d, .makeSlice t x y,ty',pos,af,gd⟩ (.rw d) [(d,some (.c e s [] cap))] [d]:=by
 intro hd tl tb K s1 s2 hf hk;refine⟨fun ρ G ov a w r Q=>?_⟩;obtain⟨v,hz1,hz2,hz3⟩:=y8 hi hz;obtain⟨q1,p1,p2⟩:=(r.mono s1 s2).ev hx;obtain⟨q2,p3,p4⟩:=(r.mono s1 s2).ev hy;rw[dq] at p2 p4;subst p2 p4;have c1:=((hz2 G).cells hz3).1.len;replace hs:=aN hs;refine Xl p1 p3 (by omega) (by have:((by_*cap:Nat):Int)=by_*cap:=jU ..;omega) (by omega) (by rw[c1,hs]) hd (fun b a' w' rl=>?_) a w Q ⟨r.h,r.sz,cC a,r.df⟩;rw[aR] at rl;have hnd:=(cV.1 rl.h.nd).1;refine hk.run _ _ _ a' w' (r.new' (x:=⟨some ⟨b,0,none⟩,0,cap⟩) (B':= .c e s [] cap) (os:=[⟨b,de v cap,e,true⟩]) (f:= .rw d) (y:= .slice (some ⟨b,0,none⟩) 0 cap) hf (bI.refl _) rl.h ⟨[], .inr ⟨b,de v cap,true,by simp,J,by simp[aF],?_,by simp⟩, .nil,by simp,fun o ho=>by rw[aS.1 ho],by simp⟩
  (fun o ho=>by rw[aS.1 ho];exact aQ) (fun m B' _ _ o ho _=>⟨aJ _ ho,fun e'=>by cases e';exact hnd o ho J⟩) (by show _=_;simp) (jG rl))
 rw[pc,c1,hs];simp[aF]
def Wf{d nm cap:Nat}{ds ds2:List DV}[hT:cv prog t e s by_][hN:ke prog t'](hx:bj lk x=some (.rw nm))(hb:bk nm=some (.c e s ds cap))(hy:rB lk bk s y=some ds2)(hk2:cP s ds2)(hc:ds.length+ds2.length<=cap)(hp:0<ds2.length)(hnd:Nat.beq nm d=false):
  bP prog GB C n lk bk ⟨some d, .call ⟨.builtin .append, #[x,y], #[t,t']⟩,ty',pos,af,gd⟩ (.rw d) [(nm,none),(d,some (.c e s (ds++ds2) cap))] [d]:=by
 intro hd tl tb K s1 s2 hf hk;refine⟨fun ρ G ov a w r Q=>?_⟩;have r1:=r.mono s1 s2;have hne:nm≠d:=fun e=>by subst e;simp at hnd
 obtain⟨u,hx',hx2⟩:=r1.ev hx
 cases hx2
 obtain⟨B,⟨vs,hB,hv,hvs,hlo,hcap⟩,hBo⟩:=r1.bx _ _ hb;obtain⟨w2,us,hy',h2,h3,h4,h5,h6⟩:=BH (P:=prog) (C:=C) r1 hy hk2;have hus:(aF us).length=us.length*s:=eG us h4;have hl1:=hv.len;have hl2:=h3.len;have rd:=r.dropB nm;have hf':lv [d] (some d) tl (Sx.upB tb [(nm,none)]):=fun m hm=>by
  obtain⟨g1,g2⟩:=hf m hm;refine⟨g1,fun k B' hk e=>g2 k B' hk ?_⟩;simp only[Sx.upB] at e;split at e
  .cases e
  .exact e
 rcases hB with⟨e1,e2,e3⟩|⟨b,rest,lo',k3,k4,k5,k6,k7⟩
 .rw[e2] at hcap;simp at hcap;omega
 subst k4;have hl':=hlo _ aQ;simp only at hl';subst hl';have ha:(ρ nm).a=some ⟨b,0,none⟩:=by rw[k3]
 have hn:(ρ nm).n=vs.length:=by rw[k3]
 rw[ha,hn] at hx';rw[h2] at hy' h6;have hin:=hBo _ aQ;obtain⟨l1,l2,e5⟩:=mK hin;have hperm:ov.Perm (⟨b,aF vs++rest,e,true⟩::(l1++l2)):=by rw[e5];exact pZ
 have hall: ∀v∈vs++us,(aE v).length=s:=fun v hv=>by
  rcases bW.1 hv with hv|hv
  .exact hvs v hv
  .exact h4 v hv
 have hcs:(aF vs++rest).length=(ρ nm).c*s:=by rw[aU];exact k6
 have hroom:vs.length+us.length<=(ρ nm).c:=by omega
 have hmul:(vs.length+us.length)*s<=(ρ nm).c*s:=bL _ hroom;rw[dJ] at hmul;have hrest:us.length*s<=rest.length:=by rw[k5] at k6;omega
 have hovw:cA (aF vs++rest) (vs.length*s) (aF us)=aF (vs++us)++rest.drop (us.length*s):=by
  rw[q9 _ _ _ (by rw[hus,aU];omega),qp,<-k5];simp[hus,nJ,dW]
 refine LP (P:=prog) (own:=⟨b,aF vs++rest,e,true⟩::(l1++l2)) (m:=us.length) (ys:=aF us) hx' hy' (.hd ..) hcs (fun w hh=>h6 w (hh.perm hperm.symm)) hus h5 hroom hd (fun a' w' rl=>?_) a w Q ⟨r.h.perm hperm,r.sz,cC a,r.df⟩;rw[hovw] at rl;have hnd':=(cV.1 rl.h.nd).1;refine hk.run _ _ _ a' w' (rd.new' (x:=⟨some ⟨b,0,none⟩,vs.length+us.length,(ρ nm).c⟩) (B':= .c e s (ds++ds2) cap) (os:=[⟨b,aF (vs++us)++rest.drop (us.length*s),e,true⟩]) (f:= .rw d) (y:= .slice (some ⟨b,0,none⟩) (vs.length+us.length) (ρ nm).c) hf' (bI.refl _) rl.h
  ⟨vs++us, .inr ⟨b,rest.drop (us.length*s),true,by simp,J,eG _ hall,?_,by simpa using hroom⟩,hv.app h3,hall,fun o ho=>by rw[aS.1 ho],by simpa using hcap⟩ (fun o ho=>by rw[aS.1 ho];exact aQ)
  (fun m B' hm e' o ho hmo=>?_) (by show _=_;simp) (jG rl))
 .rw[eG _ hall,aU,gL,dJ]
  simp only[if_true];rw[k5] at k6;omega
 .have hmn:m≠nm/\tb m=some B':=by
   simp only[Sx.upB] at e';split at e'
   .cases e'
   .exact⟨by assumption,e'⟩
  have hob:o.b≠b:=fun e6=>r.dj m nm B' _ hmn.2 (s2 _ _ hb) hmn.1 b (by rw[hmo,e6]) ha;refine⟨?_,fun e6=>by cases e6;exact hob J⟩;rcases aW.1 (hperm.mem_iff.1 ho) with rfl|ho
  .exact absurd J hob
  .exact aJ _ ho
end
section
variable {own:aH}
def mkc[fu:Fu]{d e s:Nat}(cap:Nat)(h:Fb fr cf=some ⟨d,e,s,b,z,0⟩)(hy:(match dd fr cf with|some ⟨_, .makeSlice _ _ y,_,_,_,_⟩=>bj (b9 fr cf) y|_=>none)=some (.d (.v (.int k' (cap:Nat)))))
  (hgo:cI tt n fu.n fr own cf (.rw d) [(d,some (.c e s [] cap))] [d]=⟨vc,fr',own',cf'⟩)(k:aw prog GB C n Q0 fr' own' cf')(hb:b*cap<=140737488355328:=by omega)(hl:cap<=1152921504606846976:=by omega)
  (hv:autoParam (aj vc) cL._auto_1):aw prog GB C n Q0 fr own cf:=by
 unfold Fb at h;split at h<;>try (cases h;done)
 rename_i hh;split at h<;>try (cases h;done)
 rename_i hx;split at h<;>try (cases h;done)
 rename_i hT;split at h<;>try (cases h;done)
 rename_i hi;split at h<;>try (cases h;done)
 rename_i hz;rw[cond_eq_ite] at h;split at h<;>cases h;rename_i hs;rw[hh] at hy;have:=lP (eE _ _ hT) J;exact us hh (Vv (eE _ _ hi) hz hs hx hy hb hl) hgo hv k
structure Ye where
 d:Nat
 nm:Nat
 e:Nat
 s:Nat
 ds:List DV
 ds2:List DV
 cap:Nat
def PY(fr:aC)(own:aH)(cf:Cf):Option Ye:=match dd fr cf with
 |some ⟨some d, .call ⟨.builtin .append,⟨[x,y]⟩,⟨[t,t']⟩⟩,_,_,_,_⟩=>match d8 tt t,d8 tt t' with
  |some ⟨.sl e s _,_,_,_⟩,some ⟨.sl _ _ _,_,_,_⟩=>match bj (b9 fr cf) x with
   |some (.rw nm)=>match jv fr own cf nm,rB (b9 fr cf) (jv fr own cf) s y with
    |some (.c e' s' ds cap),some ds2=>bif (Nat.beq e' e&&Nat.beq s' s)&&!Nat.beq nm d then some ⟨d,nm,e,s,ds,ds2,cap⟩ else none
    |_,_=>none
   |_=>none
  |_,_=>none
 |_=>none
def apc[fu:Fu]{d nm e s cap:Nat}{ds ds2:List DV}(ds':List DV)(h:PY fr own cf=some ⟨d,nm,e,s,ds,ds2,cap⟩)(hds:ds++ds2=ds')(ho2:cP s ds2)(hc:ds.length+ds2.length<=cap)(hgo:cI tt n fu.n fr own cf (.rw d) [(nm,none),(d,some (.c e s ds' cap))] [d]=⟨vc,fr',own',cf'⟩)(k:aw prog GB C n Q0 fr' own' cf')
  (hp:0<ds2.length:=by simp)(hv:autoParam (aj vc) cL._auto_1):aw prog GB C n Q0 fr own cf:=by
 subst hds;unfold PY at h;split at h<;>try (cases h;done)
 rename_i hh;split at h<;>try (cases h;done)
 rename_i hT hT';split at h<;>try (cases h;done)
 rename_i hx;split at h<;>try (cases h;done)
 rename_i hb hy;rw[cond_eq_ite] at h;split at h<;>cases h;rename_i h2;simp only[cZ,iM] at h2
 cases aN h2.1.1
 cases aN h2.1.2
 have:=lP (eE _ _ hT) J;have hN:ke prog _:=⟨_,(lP (eE _ _ hT') J).un⟩;exact us hh (Wf hx hb hy ho2 hc hp h2.2) hgo hv k
def PI(GB:Gh)(P:Program)(f:FuncId)(i:Int)(s:Nat)(ty ty2:TypeId)(ds:List DV)(x:DV)(cap:Nat)(dso:List DV):Prop:=
 ∀G w w2 B B2,bI GB G->eh G ⟨w,s,ty,ds,false⟩ B->cap<=w.c->eh G ⟨w2,s,ty2,[x],false⟩ B2->iu P f [.slice w.a w.n w.c, .int .i64 i, .slice w2.a w2.n w2.c] (B++B2) G fun v own' G'=> ∃w',v= .slice w'.a w'.n w'.c/\eh G' ⟨w',s,ty,dso,false⟩ own'
structure XO where
 f:FuncId
 nm:Nat
 nm2:Nat
 i:Int
 ty:TypeId
 ty2:TypeId
 s:Nat
 ds:List DV
 x:DV
 cap:Nat
 d:Nat
def QJ(fr:aC)(own:aH)(cf:Cf):Option XO:=match dd fr cf with
 |some ⟨some d, .call ⟨.value fo,⟨[x1,x2,x3]⟩,_⟩,_,_,_,_⟩=>match bj (b9 fr cf) fo,bj (b9 fr cf) x1 with
  |some (.d (.v (.func (.func f) ⟨[]⟩ ⟨[]⟩))),some (.rw nm)=>match bj (b9 fr cf) x2,bj (b9 fr cf) x3 with
   |some (.d (.v (.int .i64 i))),some (.rw nm2)=>match jv fr own cf nm,jv fr own cf nm2 with
    |some (.c ty s ds cap),some (.b ty2 s2 [x] true)=>bif (!Nat.beq nm d&&!Nat.beq nm2 d)&&(!Nat.beq nm nm2&&(Nat.beq s2 s&&Nat.blt 0 cap)) then some ⟨f,nm,nm2,i,ty,ty2,s,ds,x,cap,d⟩ else none
    |_,_=>none
   |_,_=>none
  |_,_=>none
 |_=>none
def YM{f:FuncId}{nm nm2 d cap s:Nat}{i:Int}{ty2:TypeId}{ty:TypeId}{ds:List DV}{x:DV}(hne:Nat.beq nm d=false)(hne2:Nat.beq nm2 d=false)(hn2:Nat.beq nm nm2=false)(hcp:0<cap)
  (h0:bj lk fo=some (.d (.v (.func (.func f) ⟨[]⟩ ⟨[]⟩))))(h1:bj lk x1=some (.rw nm))(h2:bj lk x2=some (.d (.v (.int .i64 i))))(h3:bj lk x3=some (.rw nm2))(hb:bk nm=some (.c ty0 s ds cap))(hb2:bk nm2=some (.b ty2 s [x] true))(hF:PI GB prog f i s ty0 ty2 ds x cap dso):
  bP prog GB C n lk bk ⟨some d, .call ⟨.value fo,⟨[x1,x2,x3]⟩,tys⟩,ty,pos,af,gd⟩ (.rw d) [(nm,none),(nm2,none),(d,some (.b ty0 s dso true))] [d]:=by
 intro hd tl tb K' s1 s2 hf hk;refine⟨fun ρ G ov a w r Q=>?_⟩;have r1:=r.mono s1 s2;obtain⟨y,hy,hy'⟩:=r1.ev h0;rw[(aB (G:=G)).1 hy'] at hy;obtain⟨y1,p1,p1'⟩:=r1.ev h1
 cases (show y1=_ from p1')
 obtain⟨y2,p2,p2'⟩:=r1.ev h2;rw[dq] at p2';subst p2';obtain⟨y3,p3,p3'⟩:=r1.ev h3
 cases (show y3=_ from p3')
 have hnn:nm≠d:=fun e=>by subst e;rw[pW] at hne;cases hne
 have hnn2:nm2≠d:=fun e=>by subst e;rw[pW] at hne2;cases hne2
 have hnm:nm≠nm2:=fun e=>by subst e;rw[pW] at hn2;cases hn2
 obtain⟨B,g1,g2⟩:=r1.bx _ _ hb;obtain⟨B2,k1,k2⟩:=r1.bx _ _ hb2;obtain⟨vs,q1,q2,q3,q4,q5⟩:=g1;have hB:eh G ⟨ρ nm,s,ty0,ds,false⟩ B:=⟨vs,q1,q2,q3,fun h=>by cases h⟩;have hB2:eh G ⟨ρ nm2,s,ty2,[x],false⟩ B2:=eh.weak (lo:=true) k1;have e1: ∃o,B=[o]/\(ρ nm).a=some ⟨o.b,0,none⟩:=by
  rcases q1 with⟨_,e,_⟩|⟨b,rest,lo',e,rfl,_⟩
  .rw[e] at q5;simp at q5;omega
  .exact⟨_,J,by rw[e]⟩
 have e2: ∃o,B2=[o]/\(ρ nm2).a=some ⟨o.b,0,none⟩:=by
  obtain⟨vs2,c1,c2,_⟩:=k1;rcases c1 with⟨e,_,_⟩|⟨b,rest,lo',e,rfl,_⟩
  .subst e;have:=c2.len;simp at this
  .exact⟨_,J,by rw[e]⟩
 obtain⟨o1,rfl,a1⟩:=e1;obtain⟨o2,rfl,a2⟩:=e2;have hob:o1.b≠o2.b:=fun e=>r.dj nm nm2 _ _ (s2 _ _ hb) (s2 _ _ hb2) hnm _ a1 (by rw[a2,e]);have hp: ∃rest,ov.Perm ([o1]++[o2]++rest):=by
  obtain⟨l1,l2,e3⟩:=mK (g2 _ aQ);have hm:=k2 _ aQ;rw[e3] at hm⊢;have hm2:o2∈l1++l2:=by
   rcases bW.1 hm with h|h
   .exact bU _ h
   .rcases aW.1 h with h|h
    .exact absurd (by rw[h]) hob
    .exact bK _ h
  obtain⟨l3,l4,e4⟩:=mK hm2;refine⟨l3++l4,List.perm_middle.trans ?_⟩;rw[e4];exact(pZ (l₁:=l3) (l₂:=l4) (a:=o2)).cons o1
 obtain⟨rest,h5⟩:=hp;have h6: ∀o∈ov,o.b≠o1.b->o.b≠o2.b->o∈rest:=fun o ho n1 n2=>by
  have:=h5.mem_iff.1 ho;simp only[iJ,jN,aW] at this;rcases this with rfl|rfl|h
  .exact absurd J n1
  .exact absurd J n2
  .exact h
 have hlo2: ∀o∈[o2],o.lo=true:=by obtain⟨_,_,_,_,h⟩:=k1;exact h rfl
 have hall: ∀o∈[o1]++[o2],o.lo=true:=fun o ho=>by
  rcases bW.1 ho with h|h
  .exact q4 o h
  .exact hlo2 o h
 refine wY (M:=[o1]++[o2]) (rest:=rest) (vs:=[.slice (ρ nm).a (ρ nm).n (ρ nm).c, .int .i64 i, .slice (ρ nm2).a (ρ nm2).n (ρ nm2).c]) hy (by simp only[fy,p1,p2,p3]) h5 (hF G (ρ nm) (ρ nm2) [o1] [o2] r.gb hB q5 hB2) hd (fun v own1 G' hG hK a' w' rl=>?_) a w Q ⟨r.h,r.sz,cC a,r.df⟩;obtain⟨z,rfl,vs',k1',k2',k3',k4'⟩:=hK;have hs1:=k1'.relo (im ([o1]++[o2]));have e3: ∀o∈own1.map (relo (im ([o1]++[o2]))),o.lo=true:=fun o ho=>by
  obtain⟨o',_,rfl⟩:=aT.1 ho;exact Dq _ hall
 generalize own1.map (relo (im ([o1]++[o2])))=B' at rl e3 hs1;have rl':gD C n (Sx.put (cx a) (some d) (.slice z.a z.n z.c)) (B'++rest) G' a' w':=rl;have hdis:=(gM.1 rl'.h.nd).2.2;have rd:=(r.dropB nm).dropB nm2;have hin: ∀q B0,Sx.upB (Sx.upB tb [(nm,none)]) [(nm2,none)] q=some B0->q≠nm/\q≠nm2/\tb q=some B0:=fun q B0 e=>by
  simp only[Sx.upB] at e;split at e
  .cases e
  .split at e
   .cases e
   .exact⟨by assumption,by assumption,e⟩
 have hf2:lv [d] (some d) tl (Sx.upB (Sx.upB tb [(nm,none)]) [(nm2,none)]):=fun q hq=>by
  obtain⟨f1,f2⟩:=hf q hq;exact⟨f1,fun k B e1 e=>f2 k B e1 (hin k B e).2.2⟩
 have hsep: ∀q B0,Sx.upB (Sx.upB tb [(nm,none)]) [(nm2,none)] q=some B0-> ∀o∈ov,(ρ q).a=some ⟨o.b,0,none⟩->o∈rest:=fun q B0 e o ho hbq=>by
  obtain⟨n1,n2,n3⟩:=hin q B0 e;exact h6 o ho (fun e'=>r.dj nm q _ _ (s2 _ _ hb) n3 (Ne.symm n1) _ a1 (by rw[hbq,e'])) (fun e'=>r.dj nm2 q _ _ (s2 _ _ hb2) n3 (Ne.symm n2) _ a2 (by rw[hbq,e']))
 have r3:=rd.new' (x:=z) (B':= .b ty0 s dso true) (os:=B') (ov':=B'++rest) (f:= .rw d) (y:= .slice z.a z.n z.c) hf2 hG.le rl'.h ⟨vs',by simpa using hs1,k2',k3',fun _=>e3⟩ (fun o ho=>bU _ ho)
  (fun q B0 hq e o ho hbq=>⟨bK _ (hsep q B0 e o ho hbq),fun hc=>by
   have hx: ∃o1∈B',o1.b=o.b:=by
    rcases hs1 with⟨_,h,_⟩|⟨b0,rest0,lo0,h,hB,_⟩
    .rw[show z=_ from h] at hc;cases hc
    .rw[show z=_ from h] at hc;cases hc;exact⟨⟨_,aF vs'++rest0,_,lo0⟩,by rw[hB];exact aQ,J⟩
   obtain⟨o3,ho3,he3⟩:=hx;exact hdis o3 ho3 o (hsep q B0 e o ho hbq) he3⟩) (by show _=_;simp) (jG rl')
 exact hk.run _ G' _ a' w' r3
def ci[fu:Fu]{f:FuncId}{nm nm2 d cap s:Nat}{i:Int}{ty ty2:TypeId}{ds:List DV}{x:DV}(dso':List DV)(ha:QJ fr own cf=some ⟨f,nm,nm2,i,ty,ty2,s,ds,x,cap,d⟩)(hF:PI GB prog f i s ty ty2 ds x cap dso)(he:dso=dso')
  (hgo:cI tt n fu.n fr own cf (.rw d) [(nm,none),(nm2,none),(d,some (.b ty s dso' true))] [d]=⟨vc,fr',own',cf'⟩)(k:aw prog GB C n Q0 fr' own' cf')
  (hv:autoParam (aj vc) cL._auto_1):aw prog GB C n Q0 fr own cf:=by
 subst he;unfold QJ at ha;split at ha<;>try (cases ha;done)
 rename_i hh;split at ha<;>try (cases ha;done)
 rename_i h0 h1;split at ha<;>try (cases ha;done)
 rename_i h2 h3;split at ha<;>try (cases ha;done)
 rename_i hb hb2;rw[cond_eq_ite] at ha;split at ha<;>cases ha;rename_i hc;simp only[cZ,iM,mM] at hc;obtain⟨⟨c1,c2⟩,c3,c4,c5⟩:=hc
 cases aN c4
 exact us hh (YM c1 c2 c3 c5 h0 h1 h2 h3 hb hb2 hF) hgo hv k
def kG(d:Nat)(hl:bh fr d=some (.d (.v (.bool true))))(k:aw prog GB C n Q0 ((d, .tt)::fr) own (.ops ops r K)):aw prog GB C n Q0 fr own (.ops ops r K):=qj (g:= .tt) hl (fun _ G _ e=>(aB (G:=G)).1 e) k
def r5(d:Nat)(hl:bh fr d=some (.d (.v (.bool false))))(k:aw prog GB C n Q0 ((d, .ff)::fr) own (.ops ops r K)):aw prog GB C n Q0 fr own (.ops ops r K):=qj (g:= .ff) hl (fun _ G _ e=>(aB (G:=G)).1 e) k
end
section
variable {own:aH}
def Lr(fr:aC)(cf:Cf):Option (Int×Int):=match dd fr cf with
 |some ⟨_, .binOp .xor _ x y _,_,_,_,_⟩=>match bj (b9 fr cf) x,bj (b9 fr cf) y with
  |some (.d (.v (.int .u32 p))),some (.d (.v (.int .u32 q)))=>some (p,q)
  |_,_=>none
 |_=>none
def xr[fu:Fu]{p:Int}(u:Int)(h:Lr fr cf=some (p,q))(e:(((BitVec.ofInt 32 p^^^BitVec.ofInt 32 q).toNat:Nat):Int)=u)(hgo:cI tt n fu.n fr own cf (.d (.v (.int .u32 u))) [] []=⟨vc,fr',own',cf'⟩)(k:aw prog GB C n Q0 fr' own' cf')
  (hv:autoParam (aj vc) cL._auto_1):aw prog GB C n Q0 fr own cf:=by
 unfold Lr at h;split at h<;>try (cases h;done)
 rename_i hh;split at h<;>cases h;rename_i h1 h2;subst e;exact us hh (.yd fun ρ G ov a w r=>by
  obtain⟨y1,h3,h4⟩:=r.ev h1;obtain⟨y2,h5,h6⟩:=r.ev h2;rw[dq] at h4 h6;subst h4 h6;exact⟨_,dq.2 J,jc h3 h5 fun w=>by
   show(pure (Value.int .u32 (IntKind.u32.wrap ((BitVec.ofInt 32 p^^^BitVec.ofInt 32 q).toNat:Int))):Sem Value).run prog w=_;rw[Fg];rfl⟩) hgo hv k
def Qb(fr:aC)(cf:Cf):Option (Int×Int):=match dd fr cf with
 |some ⟨_, .binOp .sub _ x y _,_,_,_,_⟩=>match bj (b9 fr cf) x,bj (b9 fr cf) y with
  |some (.d (.v (.int .u32 p))),some (.d (.v (.int .u32 q)))=>some (p,q)
  |_,_=>none
 |_=>none
def sw[fu:Fu]{p:Int}(u:Int)(h:Qb fr cf=some (p,q))(e:(p-q)%4294967296=u)(hgo:cI tt n fu.n fr own cf (.d (.v (.int .u32 u))) [] []=⟨vc,fr',own',cf'⟩)(k:aw prog GB C n Q0 fr' own' cf')
  (hv:autoParam (aj vc) cL._auto_1):aw prog GB C n Q0 fr own cf:=by
 unfold Qb at h;split at h<;>try (cases h;done)
 rename_i hh;split at h<;>cases h;rename_i h1 h2;subst e;exact us hh (.yd fun ρ G ov a w r=>by
  obtain⟨y1,h3,h4⟩:=r.ev h1;obtain⟨y2,h5,h6⟩:=r.ev h2;rw[dq] at h4 h6;subst h4 h6;exact⟨_,dq.2 J,by rw[<-qC];exact wP h3 h5⟩) hgo hv k
def P8(fr:aC)(cf:Cf):Option Int:=match dd fr cf with
 |some ⟨_, .unOp .xor _ x,_,_,_,_⟩=>match bj (b9 fr cf) x with
  |some (.d (.v (.int .u32 p)))=>some p
  |_=>none
 |_=>none
def nt[fu:Fu]{p:Int}(u:Int)(h:P8 fr cf=some p)(e:(((BitVec.ofInt 32 IntKind.u32.max^^^BitVec.ofInt 32 p).toNat:Nat):Int)=u)(hgo:cI tt n fu.n fr own cf (.d (.v (.int .u32 u))) [] []=⟨vc,fr',own',cf'⟩)(k:aw prog GB C n Q0 fr' own' cf')
  (hv:autoParam (aj vc) cL._auto_1):aw prog GB C n Q0 fr own cf:=by
 unfold P8 at h;split at h<;>try (cases h;done)
 rename_i hh;split at h<;>cases h;rename_i hx;subst e;refine us hh (.x1 hx fun ρ G ov a w y _ r h1 h2=>?_) hgo hv k;rw[dq] at h2;subst h2;refine⟨_,dq.2 J,fun a w hf hh=>?_⟩;simp only[execOp,bw hf h1];refine cE (w':=w) ?_;show(pure (Value.int .u32 (IntKind.u32.wrap ((BitVec.ofInt 32 IntKind.u32.max^^^BitVec.ofInt 32 p).toNat:Int))):Sem Value).run prog w=_;rw[Fg];rfl
end

end Go.Sx
end
