import Derived.Test.YthhjilnhmkheeaaGreatDoorMr6
set_option linter.all false
set_option maxRecDepth 100000
section
namespace Go.Sx
open Go Go.Proofs Tryz
section
variable {GB:Gh} {C:aH} {n:Nat} {Q0:Exit->Act->World->Prop} {fr fr':aD} {own own':aO} {cf cf':Cf} {vc:List Prop} {ops:Array Oper} {o:Oper} {K:List Kt} {r:List Oper}
def tE(x y:Nat):FX->FX
 | .rw m=>bif Nat.beq m x then .rw y else bif Nat.beq m y then .no else .rw m
 | .ov m o=>bif Nat.beq m x then .ov y o else bif Nat.beq m y then .no else .ov m o
 | .be m s i j=>bif Nat.beq m x then .be y s i j else bif Nat.beq m y then .no else .be m s i j
 | .rs m s i j=>bif Nat.beq m x then .rs y s i j else bif Nat.beq m y then .no else .rs m s i j
 | .bx tp pre m post=>bif Nat.beq m x then .bx tp pre y post else bif Nat.beq m y then .no else .bx tp pre m post
 |f=>f
def s5(x y:Nat):Option Bk->Option Bk
 |some (.o ty cs lo)=>some (.o ty (cs.map (tE x y)) lo)
 |B=>B
def EO{α:Type}(g:FX->FX):List FX->(List FX->α)->α
 |[],k=>k []
 |f::t,k=>EO g t fun t'=>Ca (g f) fun f'=>k (f'::t')
def SG{α:Type}{g:FX->FX}: ∀{cs:List FX} {k:List FX->α},EO g cs k=k (cs.map g)
 |[],k=>rfl
 |f::t,k=>by simp only[EO,Fb];rw[SG];rfl
def Dn{α:Type}(g:FX->FX):aD->(aD->α)->α
 |[],k=>k []
 |(j,f)::t,k=>Dn g t fun t'=>Ca (g f) fun f'=>k ((j,f')::t')
def GP{α:Type}{g:FX->FX}: ∀{fr:aD} {k:aD->α},Dn g fr k=k (fr.map fun e=>(e.1,g e.2))
 |[],k=>rfl
 |(j,f)::t,k=>by simp only[Dn,Fb];rw[GP];rfl
def E6{α:Type}(x y:Nat):aO->(aO->α)->α
 |[],k=>k []
 |(j,B)::t,k=>E6 x y t fun t'=>bif Nat.beq j y then k ((x,none)::t') else match B with
  |some (.o ty cs lo)=>EO (tE x y) cs fun cs'=>bif Nat.beq j x then k ((y,some (.o ty cs' lo))::t') else k ((j,some (.o ty cs' lo))::t')
  |B=>bif Nat.beq j x then k ((y,B)::t') else k ((j,B)::t')
def Hs{α:Type}{x y:Nat}: ∀{own:aO} {k:aO->α},E6 x y own k=k (own.map fun e=>(bif Nat.beq e.1 y then x else bif Nat.beq e.1 x then y else e.1,bif Nat.beq e.1 y then none else s5 x y e.2))
 |[],k=>rfl
 |(j,B)::t,k=>by
  simp only[E6,Hs (own:=t),cJ]
  cases Nat.beq j y with
  |true=>rfl
  |false=>
   cases B with
   |none=>cases Nat.beq j x<;>rfl
   |some B=>cases B<;>cases Nat.beq j x<;>simp only[cond_false,cond_true,SG,s5]
def GX{x y:Nat}(hxy:x≠y): ∀{own:aO} {k:Nat},bj (own.map fun e=>(bif Nat.beq e.1 y then x else bif Nat.beq e.1 x then y else e.1,bif Nat.beq e.1 y then none else s5 x y e.2)) k=if k=x then none else if k=y then s5 x y (bj own x) else s5 x y (bj own k)
 |[],k=>by simp[bj,s5]
 |(j,B)::t,k=>by
  have bq: ∀a b:Nat,Nat.beq a b=decide (a=b):=fun a b=>by
   by_cases h:a=b
   .subst h;simp
   .rw[decide_eq_false h]
    cases hb:Nat.beq a b with
    |false=>rfl
    |true=>exact absurd (aL hb) h
  simp only[cJ];rw[ks,GX hxy (own:=t),ks,ks];by_cases h1:j=y
  .subst h1
   simp only[bq,decide_true,cond_true];by_cases h2:k=x
   .simp[h2]
   .by_cases h3:k=j
    .subst h3;simp[h2,Ne.symm h2,hxy]
    .simp[h2,h3]
  .by_cases h4:j=x
   .subst h4
    simp only[bq,h1,decide_false,cond_false,decide_true,cond_true];by_cases h2:k=y
    .subst h2;simp[Ne.symm h1]
    .by_cases h3:k=j
     .subst h3;simp[h1]
     .simp[h2,h3]
   .simp only[bq,h1,h4,decide_false,cond_false]
    by_cases h2:k=j
    .subst h2;simp[h1,h4]
    .by_cases h3:k=x
     .subst h3;simp[h2]
     .by_cases h5:k=y
      .subst h5;simp[h2,h3,Ne.symm h4]
      .simp[h2,h3,h5]
def Jt{x y:Nat}(hxy:x≠y){ρ:NE}{G:Gh}{f:FX}{v:Value}(h:ce ρ G f v):ce (fun k=>if k=y then ρ x else ρ k) G (tE x y f) v:=by
 have key: ∀m:Nat,Nat.beq m y=false->(fun k=>if k=y then ρ x else ρ k) m=ρ m:=fun m hm=>if_neg fun e=>by subst e;simp at hm
 cases f with
 |rw m=>
  simp only[tE]
  cases hb:Nat.beq m x with
  |true=>cases aL hb;simp only[cond_true];show v=_;simp;exact h
  |false=>
   cases hb':Nat.beq m y with
   |true=>trivial
   |false=>simp only[cond_false];show v=_;rw[key m hb'];exact h
 |ov m off=>
  simp only[tE]
  cases hb:Nat.beq m x with
  |true=>cases aL hb;simp only[cond_true];obtain⟨b,h1,h2⟩:=h;exact⟨b,by simp;exact h1,h2⟩
  |false=>
   cases hb':Nat.beq m y with
   |true=>trivial
   |false=>simp only[cond_false];obtain⟨b,h1,h2⟩:=h;exact⟨b,by rw[key m hb'];exact h1,h2⟩
 |be m s i j=>
  simp only[tE]
  cases hb:Nat.beq m x with
  |true=>cases aL hb;simp only[cond_true];obtain⟨b,h1,h2⟩:=h;exact⟨b,by simp;exact h1,h2⟩
  |false=>
   cases hb':Nat.beq m y with
   |true=>trivial
   |false=>simp only[cond_false];obtain⟨b,h1,h2⟩:=h;exact⟨b,by rw[key m hb'];exact h1,h2⟩
 |rs m s i j=>
  simp only[tE]
  cases hb:Nat.beq m x with
  |true=>cases aL hb;simp only[cond_true];obtain⟨b,c,h1,h2⟩:=h;exact⟨b,c,by simp;exact h1,h2⟩
  |false=>
   cases hb':Nat.beq m y with
   |true=>trivial
   |false=>simp only[cond_false];obtain⟨b,c,h1,h2⟩:=h;exact⟨b,c,by rw[key m hb'];exact h1,h2⟩
 |bx tp pre m post=>
  simp only[tE]
  cases hb:Nat.beq m x with
  |true=>cases aL hb;simp only[cond_true];obtain⟨m1,m2,e,h1,h2⟩:=h;exact⟨m1,m2,by simpa using e,h1,h2⟩
  |false=>
   cases hb':Nat.beq m y with
   |true=>trivial
   |false=>simp only[cond_false];obtain⟨m1,m2,e,h1,h2⟩:=h;exact⟨m1,m2,by rw[key m hb'];exact e,h1,h2⟩
 |_=>exact h
def Iw{x y:Nat}(hxy:x≠y){ρ:NE}{G:Gh}: ∀{cs:List FX} {m:List Value},eh ρ G cs m->eh (fun k=>if k=y then ρ x else ρ k) G (cs.map (tE x y)) m
 |[],m,h=>h
 |f::t,m,⟨v,q,e,h1,h2⟩=>⟨v,q,e,Jt hxy h1,Iw hxy h2⟩
def yN(x y:Nat)(fr:aD)(own:aO):Option A7:=bif Nat.beq x y then none else Dn (tE x y) fr fun fr'=>E6 x y own fun own'=>some ⟨fr',own'⟩
def aIu{x y:Nat}{Φ:Act->World->Prop}{R:A7}(hy:Nat.blt y 2000000=true)(h:yN x y fr own=some R)(hk:SX GB C n (bh R.fr) (bj R.own) Φ):SX GB C n (bh fr) (bj own) Φ:=by
 unfold yN at h;rw[cond_eq_ite] at h;split at h<;>try (cases h;done)
 rename_i hb;have hxy:x≠y:=fun e=>hb (by subst e;simp);rw[GP,Hs] at h;cases h;refine⟨fun ρ G ov a w r=>hk.run (fun k=>if k=y then ρ x else ρ k) G ov a w ?_⟩;have inv: ∀m B,bj (own.map fun e=>(bif Nat.beq e.1 y then x else bif Nat.beq e.1 x then y else e.1,bif Nat.beq e.1 y then none else s5 x y e.2)) m=some B-> ∃m0 B0,bj own m0=some B0/\s5 x y (some B0)=some B/\(m=y/\m0=x\/m≠y/\m≠x/\m0=m):=fun m B e=>by
  rw[GX hxy] at e;split at e
  .cases e
  .rename_i hm
   split at e
   .cases hl:bj own x with
    |none=>rw[hl] at e;cases e
    |some B0=>rw[hl] at e;exact⟨x,B0,hl,e, .inl ⟨ome,J⟩⟩
   .cases hl:bj own m with
    |none=>rw[hl] at e;cases e
    |some B0=>rw[hl] at e;exact⟨m,B0,hl,e, .inr ⟨ome,hm,J⟩⟩
 have rho: ∀m m0,(m=y/\m0=x\/m≠y/\m≠x/\m0=m)->(fun k=>if k=y then ρ x else ρ k) m=ρ m0:=fun m m0 h=>by
  rcases h with⟨h1,h2⟩|⟨h1,_,h2⟩
  .subst h1 h2;simp
  .subst h2;exact if_neg h1
 refine⟨r.gb,r.h,r.sz,r.df,fun k f e=>?_,fun m B e=>?_,fun m m' B B' e e' hne=>?_,fun m p h1 h2 e=>by
  have:y<2000000:=by simpa[lJ] using hy
  show(if m=y then ρ x else ρ m).a=_;rw[if_neg we];exact r.fxd m p h1 h2 e⟩
 .rw[Dv] at e
  cases hf:bh fr k with
  |none=>rw[hf] at e;cases e
  |some g=>
   rw[hf] at e;cases e;obtain⟨v,h1,h2⟩:=r.fx k g hf;exact⟨v,h1,Jt hxy h2⟩
 .obtain⟨m0,B0,h1,h2,h3⟩:=inv m B e
  obtain⟨os,h4,h5⟩:=r.bx m0 B0 h1;refine⟨os,?_,h5⟩;have hr:=rho m m0 h3
  cases B0 with
  |b=>cases h2;obtain⟨vs,q1,q2,q3,q4⟩:=h4;exact⟨vs,by rw[hr];exact q1,q2,q3,q4⟩
  |c=>cases h2;obtain⟨vs,q1,q2,q3,q4,q5⟩:=h4;exact⟨vs,by rw[hr];exact q1,q2,q3,q4,by rw[hr];exact q5⟩
  |p=>cases h2;obtain⟨q0,vs,q1,q2,q3,q4⟩:=h4;exact⟨by rw[hr];exact q0,vs,q1,q2,q3,q4⟩
  |o ty cs lo=>cases h2;obtain⟨b,q,q1,q2,q3⟩:=h4;exact⟨b,q,by rw[hr];exact q1,q2,Iw hxy q3⟩
 .obtain⟨m0,B0,h1,_,h3⟩:=inv m B e
  obtain⟨m1,B1,h4,_,h6⟩:=inv m' B' e';have q1:=rho m m0 h3;have q2:=rho m' m1 h6;simp only at q1 q2;rw[q1,q2];refine r.dj m0 m1 B0 B1 h1 h4 fun e=>?_;rcases h3 with⟨h7,h8⟩|⟨h7,h8,h9⟩<;>rcases h6 with⟨g7,g8⟩|⟨g7,g8,g9⟩
  .exact hne (h7.trans g7.symm)
  .exact g8 (by rw[<-g9,<-e,h8])
  .exact h8 (by rw[<-h9,e,g8])
  .exact hne (by rw[<-h9,e,g9])
def iE(x y:Nat){fr1:aD}{own1:aO}{e:Exit}(h:yN x y fr own=some ⟨fr1,own1⟩)(k:ao prog GB C n Q0 fr1 own1 (.ex e K))(hy:Nat.blt y 2000000=true:=by rfl):ao prog GB C n Q0 fr own (.ex e K):=aIu hy h k
def Zd{d nm:Nat}(hnm:Nat.blt nm 2000000=true)(hl:bh fr d=some .nl){Φ:Act->World->Prop}{ty s:Nat}(hf:kO [nm] none (bh fr) (bj own))(h:SX GB C n (bh ((d, .rw nm)::fr)) (bj (kP own nm (some (.b ty s [] true)))) Φ):SX GB C n (bh fr) (bj own) Φ:=by
 refine⟨fun ρ G ov a w r=>?_⟩;obtain⟨f1,f2⟩:=hf nm aQ;have hset:bj (kP own nm (some (.b ty s [] true)))=upB (bj own) [(nm,some (.b ty s [] true))]:=by funext j;rw[uU];rfl
 rw[hset] at h;refine h.run (fun k=>if k=nm then⟨none,0,0⟩ else ρ k) G ov a w ⟨r.gb,r.h,r.sz,r.df,fun k f e=>?_,fun m B e=>?_,fun m m' B B' e e' hne=>?_,fun m p h1 h2 e=>by
  have:nm<2000000:=by simpa[lJ] using hnm
  show(if m=nm then(⟨none,0,0⟩:SV) else ρ m).a=_;rw[if_neg we];exact r.fxd m p h1 h2 e⟩
 .rw[kH] at e
  split at e
  .cases e;rename_i hk;subst hk
   obtain⟨v,h1,h2⟩:=r.fx _ _ hl;exact⟨v,h1,by rw[show v=_ from h2];show _=_;simp⟩
  .obtain⟨v,h1,h2⟩:=r.fx k f e
   exact⟨v,h1,h2.ren fun m hm=>vn _ fun hc=>f1 k f omc e (by rw[hm,hc])⟩
 .simp only[upB] at e
  by_cases hm:m=nm
  .subst hm;simp only[if_true] at e;cases e
   exact⟨[],⟨[],by simp only[if_true];exact .inl ⟨J,J,J⟩, .nil,omc,fun _ o ho=>by cases ho⟩,fun o ho=>by cases ho⟩
  .simp only[hm,if_false] at e
   obtain⟨os,h1,h2⟩:=r.bx m B e;exact⟨os,h1.ren (if_neg hm) fun q hq=>vn _ fun hc=>f2 m B hm e oza,h2⟩
 .simp only[upB] at e e'
  intro b hb hb';by_cases hm:m=nm
  .simp[hm] at hb
  .by_cases hm':m'=nm
   .simp[hm'] at hb'
   .simp only[hm,hm',if_false] at e e' hb hb'
    exact r.dj m m' B B' e e' hne b hb hb'
def nr(d nm ty s:Nat){own1:aO}{c:Code}(hl:bh fr d=some .nl)(hf:wi [nm] none fr own=true)(ho:uS own nm (some (.b ty s [] true)) id=own1)(k:ao prog GB C n Q0 ((d, .rw nm)::fr) own1 (.code c K))(hnm:Nat.blt nm 2000000=true:=by rfl):ao prog GB C n Q0 fr own (.code c K):=by
 subst ho;exact Zd hnm hl (Ao hf) k
def mO:List (Option DV)->Nat->List DV
 |[],_=>[]
 |some d::t,b=>d::mO t b
 |none::t,b=> .v (.pointer (some ⟨b,0,none⟩))::mO t b
def FA(lk:LK):List Operand->Option (Option Nat×List (Option DV))
 |[]=>some (none,[])
 |x::t=>match ba lk x,FA lk t with
  |some (.ov nm 0),some (none,l)=>some (some nm,none::l)
  |some f,some (q,l)=>match ki f with
   |some d=>some (q,some d::l)
   |none=>none
  |_,_=>none
def HW(lk:LK)(fo:Operand)(args:Array Operand):Option (FuncId×Nat×List (Option DV)):=match ba lk fo with
 |some (.d (.v (.func (.func f) ⟨[]⟩ ⟨[]⟩)))=>match FA lk args.toList with
  |some (some nm,l)=>some (f,nm,l)
  |_=>none
 |_=>none
def HM{lk:LK}{bk:BM}{ρ:NE}{G:Gh}{ov:List az}{a:Act}{w:World}(r:bH GB C n lk bk ρ G ov a w){b:Nat}: ∀{x:List Operand} {q:Option Nat} {l:List (Option DV)},FA lk x=some (q,l)->(∀nm,q=some nm->(ρ nm).a=some ⟨b,0,none⟩)->
  ∃y,gH (de a) x=some y/\IsLs G (mO l b) y
 |[],q,l,e,_=>by cases e;exact⟨[],J, .nil⟩
 |x::t,q,l,e,hb=>by
  simp only[FA] at e;split at e
  .rename_i nm l' h1 h2
   cases e
   obtain⟨y,h3,b',h4,rfl⟩:=r.ev h1;have:=hb nm J;rw[h4] at this;cases this;obtain⟨ys,h5,h6⟩:=HM r (b:=b) h2 (fun nm e=>by cases e);exact⟨_::ys,by simp only[gH,h3,h5], .cons ((bE (G:=G)).2 J) h6⟩
  .rename_i f q' l' _ h1 h2
   cases hd:ki f with
   |none=>rw[hd] at e;cases e
   |some d=>
   rw[hd] at e;cases e;obtain⟨y,h3,h4⟩:=r.ev h1;obtain⟨ys,h5,h6⟩:=HM r (b:=b) h2 hb;exact⟨y::ys,by simp only[gH,h3,h5], .cons (og h4 hd) h6⟩
  .cases e
def bH.lend{lk:LK}{bk:BM}{ρ:NE}{G:Gh}{ov:List az}{a:Act}{w:World}{nm:Nat}{ty:TypeId}{cs:List FX}{lo:Bool}{csd:List DV}(r:bH GB C n lk bk ρ G ov a w)(hb:bk nm=some (.o ty cs lo))(hc:jy cs=some csd):
  ∃b m rest,(ρ nm).a=some ⟨b,0,none⟩/\IsLs G csd m/\ov.Perm ([⟨b,m,ty,lo⟩]++rest)/\ ∀o∈ov,o.b≠b->o∈rest:=by
 obtain⟨os,⟨b,m,h1,rfl,h2⟩,h3⟩:=r.bx _ _ hb;obtain⟨l1,l2,rfl⟩:=lV (h3 _ aQ);refine⟨b,m,l1++l2,h1,rF h2 hc,nJ,fun o ho hne=>?_⟩;rcases bJ.1 ho with ho|ho
 .exact bK _ ho
 .rcases aW.1 ho with rfl|ho
  .exact absurd J hne
  .exact bW _ ho
def Z2{P:Program}{lk:LK}{bk:BM}{fo:Operand}{args:Array Operand}{tys:Array TypeId}{f:FuncId}{nm:Nat}{l:List (Option DV)}{rv:DV}{dst:Option Nat}{ty ty0:TypeId}{pos:String}{af:Array Edge}{gd:Option (Nat×Bool)}{cs:List FX}{csd cs':List DV}{lo:Bool}
  (ha:HW lk fo args=some (f,nm,l))(hb:bk nm=some (.o ty0 cs lo))(hc:jy cs=some csd)(hF: ∀b,PM GB P f (mO l b) b ty0 csd rv cs'){csx:List FX}(hx:cs'.map .d=csx):cg P GB C n lk bk ⟨dst, .call ⟨.value fo,args,tys⟩,ty,pos,af,gd⟩ (.d rv) [(nm,some (.o ty0 csx lo))] []:=by
 intro hd tl tb K' s1 s2 hf hk;refine⟨fun ρ G ov a w r Q=>?_⟩;subst hx;have r1:=r.mono s1 s2;unfold HW at ha;split at ha<;>try (cases ha;done)
 rename_i h1;split at ha<;>cases ha;rename_i h2;obtain⟨y,hy,hy'⟩:=r1.ev h1;rw[(bE (G:=G)).1 hy'] at hy;obtain⟨b,m,rest,h3,h4,h5,h6⟩:=r1.lend hb hc;obtain⟨vs,h7,h8⟩:=HM r1 (b:=b) h2 (fun nm e=>by cases e;exact h3);refine Ew (M:=[⟨b,m,ty0,lo⟩]) (rest:=rest) hy h7 h5 (hF b G vs m lo r.gb h8 h4) hd (fun v css G' hG hl hK a' w' rl=>?_) a w Q ⟨r.h,r.sz,dt a,r.df⟩;obtain⟨hr,m',rfl,hm'⟩:=hK;have rl':jg C n (Sx.put (de a) dst v) (⟨b,m',ty0,lo⟩::rest) G' a' w':=rl;have r2:=r.upB (G':=G') (ov':=⟨b,m',ty0,lo⟩::rest) (w':=w') (B':= .o ty0 (cs'.map .d) lo) (os:=[⟨b,m',ty0,lo⟩]) hG.le rl'.h ⟨b,m',h3,J,t7 hm'⟩ (fun o ho=>by rw[aV.1 ho];exact aQ)
  (fun o ho hne=>aX _ (h6 o ho fun e=>hne (by rw[h3,e]))) ⟨_,s2 _ _ hb⟩
 exact hk.run ρ G' _ a' w' (r2.put (f:= .d rv) hr (ld rl'))
structure CmA where
 f:FuncId
 nm:Nat
 l:List (Option DV)
 ty:TypeId
 cs:List DV
 lo:Bool
def TM(fr:aD)(own:aO)(cf:Cf):Option CmA:=match dw fr cf with
 |some ⟨_, .call ⟨.value fo,args,_⟩,_,_,_,_⟩=>match HW (co fr cf) fo args with
  |some (f,nm,l)=>match i6 fr own cf nm with
   |some (.o ty cs lo)=>match jy cs with
    |some csd=>some ⟨f,nm,l,ty,csd,lo⟩
    |none=>none
   |_=>none
  |none=>none
 |_=>none
def zX{α:Type}:List DV->(List FX->α)->α
 |[],k=>k []
 |d::t,k=>zX t fun t'=>k (.d d::t')
def Cz{α:Type}: ∀{l:List DV} {k:List FX->α},zX l k=k (l.map .d)
 |[],k=>rfl
 |d::t,k=>by simp only[zX];rw[Cz];rfl
def cm[fu:Fu]{f:FuncId}{nm:Nat}{l:List (Option DV)}{ty:TypeId}{cs cs':List DV}{lo:Bool}{rv:DV}(ha:TM fr own cf=some ⟨f,nm,l,ty,cs,lo⟩)(hF: ∀b,PM GB prog f (mO l b) b ty cs rv cs')
  (hgo:(zX cs' fun csx=>dl tt n fu.n fr own cf (.d rv) [(nm,some (.o ty csx lo))] [])=⟨vc,fr',own',cf'⟩)(k:ao prog GB C n Q0 fr' own' cf')
  (hv:autoParam (ae vc) fn._auto_1):ao prog GB C n Q0 fr own cf:=by
 unfold TM at ha;split at ha<;>try (cases ha;done)
 rename_i hh;split at ha<;>try (cases ha;done)
 rename_i h1;split at ha<;>try (cases ha;done)
 rename_i h2;split at ha<;>cases ha;rename_i h3;rw[Cz] at hgo;exact us hh (Z2 h1 h2 h3 hF J) hgo hv k
abbrev NM:Nat:=1000000
def yw:Nat->List (Option DV)->aD
 |_,[]=>[]
 |i,some v::t=>(i, .d v)::yw (i+1) t
 |i,none::t=>(i, .ov NM 0)::yw (i+1) t
def HG(b:Nat): ∀l:List (Option DV),(mO l b).length=l.length
 |[]=>rfl
 |some d::t=>by simp[mO,HG b t]
 |none::t=>by simp[mO,HG b t]
def FQ{b:Nat}{ρ:NE}{G:Gh}(hρ:(ρ NM).a=some ⟨b,0,none⟩): ∀{ds:List (Option DV)} {vs:List Value} (i:Nat),IsLs G (mO ds b) vs-> ∀k f,bh (yw i ds) k=some f-> ∃y,(∃j,k=i+j/\vs[j]? =some y)/\ce ρ G f y
 |[],vs,i,h,k,f,e=>by cases e
 |some d::t,vs,i,h,k,f,e=>by
  obtain⟨y,m,rfl,h1,h2⟩:=bO.1 h;simp only[yw] at e;rw[kH] at e;split at e
  .cases e;rename_i hk;exact⟨y,⟨0,hk,rfl⟩,h1⟩
  .obtain⟨u,⟨j,hj,hu⟩,h3⟩:=FQ hρ (i+1) h2 k f e
   exact⟨u,⟨j+1,we,by simpa using hu⟩,h3⟩
 |none::t,vs,i,h,k,f,e=>by
  obtain⟨y,m,rfl,h1,h2⟩:=bO.1 h;simp only[yw] at e;rw[kH] at e;split at e
  .cases e;rename_i hk;exact⟨y,⟨0,hk,rfl⟩,b,hρ,(bE (G:=G)).1 h1⟩
  .obtain⟨u,⟨j,hj,hu⟩,h3⟩:=FQ hρ (i+1) h2 k f e
   exact⟨u,⟨j+1,we,by simpa using hu⟩,h3⟩
def JC(C:aH)(b:Nat)(m:List Value)(ty:TypeId)(lo:Bool)(rv:DV)(cs':List DV):Ending->World->Prop:=Bs C [⟨b,m,ty,lo⟩] (fun v css G'=>Is G' rv v/\ ∃m',css=[m']/\IsLs G' cs' m')
def AC[fu:Fu]{b:Nat}{f:FuncId}{fb:Func}{c:Code}{k:Nat}{l:List (Option DV)}{cs cs':List DV}{ty:TypeId}{rv:DV}(hf:prog.funcs[f]? =some fb)(hb:fb.body=some c)(hn:(fb.name== "runtime.NumGoroutine")=false)(hm:fb.ntmps=k)(hlen:Nat.ble l.length k=true)
  (hgo:(zX cs fun csx=>go tt k fu.n [] (yw 0 l) [(NM,some (.o ty csx false))] (.code c []))=⟨vc,fr,own,cf⟩)(h: ∀C b m lo,C.mb=[b]->ao prog GB C k (gu C prog fb (JC C b m ty lo rv cs')) fr own cf)
  (hv:autoParam (ae vc) fn._auto_1):PM GB prog f (mO l b) b ty cs rv cs':=by
 intro G vs m lo hg hvs hm';refine nv.introR hf hb hn hm (by rw[hvs.len,HG];exact hlen) fun C _ hmb hrd hfx=>?_;intro a w rl;refine vR hrd ?_;rw[Cz] at hgo;have h1:=gD (GB:=GB) (C:=C) (Q0:=gu C prog fb (JC C b m ty lo rv cs')) hgo hv (h C b m lo (by simpa using hmb));refine h1.run (fun _=>⟨some ⟨b,0,none⟩,0,0⟩) G [⟨b,m,ty,false⟩] a w ⟨hg,rl.h,rl.sz,rl.df,fun k f e=>?_,fun nm B e=>?_,fun nm nm' B B' e e' hne=>?_,fun nm p _ _ e=>by rw[hfx] at e;cases e⟩
 .obtain⟨y,⟨j,hj,hy⟩,h2⟩:=FQ (ρ:=fun _=>⟨some ⟨b,0,none⟩,0,0⟩) (b:=b) rfl 0 hvs k f e
  refine⟨y,rl.fr k y ?_,h2⟩;rw[hj];exact wV vs 0 j y hy
 .rw[ks] at e
  split at e
  .cases e;exact⟨[⟨b,m,ty,false⟩],⟨b,m,J,J,t7 hm'⟩,fun o ho=>ho⟩
  .cases e
 .rw[ks] at e e'
  split at e<;>split at e'
  .rename_i h2 h3;exact absurd (h2.trans h3.symm) hne
  .cases e'
  .cases e
  .cases e
def Q6(own:aO)(nm:Nat):Option (TypeId×List DV):=match bj own nm with
 |some (.o ty cs false)=>match jy cs with
  |some l=>some (ty,l)
  |none=>none
 |_=>none
def nH{fb:Func}{b:Nat}{m:List Value}{ty:TypeId}{lo:Bool}{ds cs1 cs':List DV}{rv:DV}(hmb:C.mb=[b])(hr:sO tt fr own fb.results.toList=some ds)(ho:Q6 own NM=some (ty,cs1))(hd:jH ds=rv)(hc:cs1=cs'):
  ao prog GB C n (gu C prog fb (JC C b m ty lo rv cs')) fr own (.ex .ret []):=by
 refine⟨fun ρ G ov a w r=>?_⟩;obtain⟨vs,h1,h2⟩:=DT r hr;have hk:Is G rv (qo vs):=hd▸Fq h2;unfold Q6 at ho;split at ho<;>try (cases ho;done)
 rename_i hb;split at ho<;>cases ho;rename_i hl;obtain⟨b',m',rest,h3,h4,h5,h6⟩:=r.lend hb hl;have hbb:b'=b:=by
  have:=(r.h.hown _ (h5.mem_iff.2 (bK _ aQ))).2.2.2 J;rw[hmb] at this;simpa using this
 subst hbb hc;exact zn (C:=C) (n:=n) (fr:=de a) (own:=ov) (G:=G) (M:=[⟨b',m,ty,lo⟩]) (css:=[m']) (K:=fun v css G'=>Is G' rv v/\ ∃m',css=[m']/\IsLs G' cs1 m') h1 J ([⟨b',m',ty,false⟩]++rest) h5 (oV _ _) ⟨hk,m',J,h4⟩ a w ⟨r.h,r.sz,dt a,r.df⟩
end
section
variable {GB:Gh} {C:aH} {n:Nat} {fr1 fr2:aD} {own1 own2:aO} {cf1 cf2:Cf} {vc1 vc2:List Prop} {Q0:Exit->Act->World->Prop} {fr fr':aD} {own own':aO} {cf cf':Cf} {vc:List Prop} {ops:Array Oper} {o:Oper} {K:List Kt} {r:List Oper}
def csd[fu1:Fu][fu2:Fu](d:Nat){p:Prop}{hp:Decidable p}(hl:bh fr d=some (.d (.v (.bool (@decide p hp)))))(g1:go tt n fu1.n [] ((d, .tt)::fr) own (.ops ops r K)=⟨vc1,fr1,own1,cf1⟩)(g2:go tt n fu2.n [] ((d, .ff)::fr) own (.ops ops r K)=⟨vc2,fr2,own2,cf2⟩)
  (k1:p->ao prog GB C n Q0 fr1 own1 cf1)(k2: ¬p->ao prog GB C n Q0 fr2 own2 cf2)
  (v1:p->ae vc1:=by intro;first|exact trivial|(simp only[ae];omega)|(simp only[ae,aK,aM,aU];omega))(v2: ¬p->ae vc2:=by intro;first|exact trivial|(simp only[ae];omega)|(simp only[ae,aK,aM,aU];omega)):ao prog GB C n Q0 fr own (.ops ops r K):=
 j' (fu1:=fu1) (fu2:=fu2) d hl g1 g2 (fun h=>k1 (of_decide_eq_true h)) (fun h=>k2 (of_decide_eq_false h)) (fun h=>v1 (of_decide_eq_true h)) (fun h=>v2 (of_decide_eq_false h))
def CZ(d:Nat)(hl:bh fr d=some .nl){c:Code}(h:ao prog GB C n Q0 ((d, .d (.sl []))::fr) own (.code c K)):ao prog GB C n Q0 fr own (.code c K):=
 qO (g:= .d (.sl [])) hl (fun ρ G y hy=>(show Is G (.sl []) y from og (ρ:=ρ) (f:= .nl) hy J)) h
def cg.to{lk:LK}{bk:BM}{o:Oper}{f g:FX}(h:cg prog GB C n lk bk o f [] [])(e: ∀ρ G y,ce ρ G f y->ce ρ G g y):cg prog GB C n lk bk o g [] []:=fun hd tl tb Q h1 h2 hf hk=>
 h hd tl tb Q h1 h2 hf ⟨fun ρ G ov a w r=>hk.run ρ G ov a w ⟨r.gb,r.h,r.sz,r.df,fun k f' e'=>by
  cases ho:o.dst with
  |none=>exact r.fx k f' (by simpa only[ho,fB] using e')
  |some d=>
   have hr:=r.fx;simp only[ho,fB] at e' hr;by_cases q:k=d
   .rw[if_pos q] at e';cases e'
    obtain⟨y,h3,h4⟩:=hr k f (by rw[if_pos q]);exact⟨y,h3,e _ _ _ h4⟩
   .rw[if_neg q] at e'
    exact hr k f' (by rw[if_neg q];exact e'),r.bx,r.dj,r.fxd⟩⟩
def yq(fr:aD)(own:aO)(cf:Cf):Option (Oper×FX):=match dw fr cf with
 |some o=>match yK tt (co fr cf) (i6 fr own cf) o.dst o.op with
  |some ⟨none,f,[],[]⟩=>some (o,f)
  |_=>none
 |none=>none
def ji[fu1:Fu][fu2:Fu]{f:FX}{p:Prop}{hp:Decidable p}(hs:yq fr own cf=some (o,f))(hb:ug f=some (@decide p hp))(g1:dl tt n fu1.n fr own cf .tt [] []=⟨vc1,fr1,own1,cf1⟩)(g2:dl tt n fu2.n fr own cf .ff [] []=⟨vc2,fr2,own2,cf2⟩)
  (k1:p->ao prog GB C n Q0 fr1 own1 cf1)(k2: ¬p->ao prog GB C n Q0 fr2 own2 cf2)
  (v1:p->ae vc1:=by intro;first|exact trivial|(simp only[ae];kernel_rfl)|(simp only[ae];omega)|(simp only[ae,aK,aM,aU];omega))(v2: ¬p->ae vc2:=by intro;first|exact trivial|(simp only[ae];kernel_rfl)|(simp only[ae];omega)|(simp only[ae,aK,aM,aU];omega)):ao prog GB C n Q0 fr own cf:=by
 unfold yq at hs;split at hs<;>try (cases hs;done)
 rename_i o' hh;split at hs<;>cases hs;rename_i hc;obtain⟨dst,op,ty,pos,af,gd⟩:=o;have h0:=z7 (P:=prog) (GB:=GB) (C:=C) (n:=n) (ty':=ty) (pos:=pos) (af:=af) (gd:=gd) fp hc (fun p e=>by cases e);by_cases h:p
 .exact us hh (cg.to h0 fun ρ G y hy=>by rw[xB hy hb,decide_eq_true h];exact J) g1 (v1 h) (k1 h)
 .exact us hh (cg.to h0 fun ρ G y hy=>by rw[xB hy hb,decide_eq_false h];exact J) g2 (v2 h) (k2 h)
def Xw{tl:LK}{tb:BM}{Ψ:Act->World->Prop}{d:Nat}{B:Bk}{f:FX}{v:DV}
  (hz: ∀lk bk ρ G ov a w,bH GB C n lk bk ρ G ov a w->bk d=some B-> ∃G' ov',cc G G'/\bC C ov' G' w/\(∀o∈ov,(ρ d).a≠some ⟨o.b,0,none⟩->o∈ov')/\ ∀y,ce ρ G f y->Is G' v y)(hk:SX GB C n (fB tl (some d) (.d v)) (Sx.upB tb [(d,none)]) Ψ):SX GB C n (fB tl (some d) f) (Sx.upB tb [(d,some B)]) Ψ:=by
 refine⟨fun ρ G ov a w r=>?_⟩;have hbd:Sx.upB tb [(d,some B)] d=some B:=by simp[Sx.upB]
 obtain⟨G',ov',h1,h2,h3,h4⟩:=hz _ _ ρ G ov a w r hbd;refine hk.run ρ G' ov' a w ⟨r.gb.trans h1,h2,r.sz,r.df,fun k g e=>?_,fun m B' e=>?_,fun m m' B1 B2 e e'=>?_,r.fxd⟩
 .by_cases hk:k=d
  .subst hk
   simp only[fB,if_true] at e;cases e;obtain⟨y,g1,g2⟩:=r.fx k f (by simp[fB]);exact⟨y,g1,h4 y g2⟩
  .simp only[fB,hk,if_false] at e
   obtain⟨y,g1,g2⟩:=r.fx k g (by simp[fB,hk,e]);exact⟨y,g1,g2.up h1⟩
 .simp only[Sx.upB] at e
  split at e
  .cases e
  .rename_i hm
   have e':Sx.upB tb [(d,some B)] m=some B':=by simp[Sx.upB,hm,e]
   obtain⟨os,g1,g2⟩:=r.bx m B' e';exact⟨os,g1.up h1,fun o ho=>h3 o (g2 o ho) fun hc=>r.dj m d B' B e' hbd hm _ (g1.blk ho) hc⟩
 .simp only[Sx.upB] at e e'
  split at e
  .cases e
  .rename_i hm
   split at e'
   .cases e'
   .rename_i hm'
    exact r.dj m m' B1 B2 (by simp[Sx.upB,hm,e]) (by simp[Sx.upB,hm',e'])
def cg.frz2{lk:LK}{bk:BM}{o:Oper}{d nm:Nat}{B:Bk}{f:FX}{v:DV}(hd:o.dst=some d)(h:cg prog GB C n lk bk o f [(nm,none),(d,some B)] [d])
  (hz: ∀lk bk ρ G ov a w,bH GB C n lk bk ρ G ov a w->bk d=some B-> ∃G' ov',cc G G'/\bC C ov' G' w/\(∀o∈ov,(ρ d).a≠some ⟨o.b,0,none⟩->o∈ov')/\ ∀y,ce ρ G f y->Is G' v y):cg prog GB C n lk bk o (.d v) [(nm,none),(d,none)] [d]:=by
 intro hd' tl tb K s1 s2 hf hk;refine h hd' tl tb K s1 s2 hf ?_;rw[hd] at hk⊢;exact Xw (tb:=Sx.upB tb [(nm,none)]) hz hk
def aL3(d:Nat)(nm:Option Nat):List (Nat×Option Bk):=match nm with
 |some nm=>[(nm,none),(d,none)]
 |none=>[(d,none)]
def mH[fu:Fu]{d:Nat}{nm:Option Nat}{e s b:Nat}{ds ds2:List DV}(ds':List DV)(h:ET fr own cf=some ⟨d,nm,e,s,b,ds,ds2⟩)(hds:ds++ds2=ds')(ho2:dH s ds2)(hgo:dl tt n fu.n fr own cf (.d (.sl ds')) (aL3 d nm) [d]=⟨vc,fr',own',cf'⟩)(k:ao prog GB C n Q0 fr' own' cf')
  (ho:nm.isNone=true->dH s ds/\0<ds2.length:=by intro h;first|(cases h;done)|exact⟨yo rfl,omc⟩)(hbd:(ds.length+ds2.length)*b<=140737488355328:=by simp;omega)
  (hv:autoParam (ae vc) fn._auto_1):ao prog GB C n Q0 fr own cf:=by
 obtain⟨o,h1,h2,h3⟩:=R5 (GB:=GB) (C:=C) (n:=n) h ds' hds ho ho2 hbd
 cases nm with
 |none=>exact us h1 (h3.frzRow h2) hgo hv k
 |some nm=>exact us h1 (cg.frz2 h2 h3 fun _ _ _ _ _ _ _ r hb=>r.frzRow hb) hgo hv k
def d9[fu:Fu]{f:FX}(hs:yq fr own cf=some (o,f))(hb:ug f=some true)(hgo:dl tt n fu.n fr own cf .tt [] []=⟨vc,fr',own',cf'⟩)(k:ao prog GB C n Q0 fr' own' cf')
  (hv:autoParam (ae vc) fn._auto_1):ao prog GB C n Q0 fr own cf:=by
 unfold yq at hs;split at hs<;>try (cases hs;done)
 rename_i o' hh;split at hs<;>cases hs;rename_i hc;obtain⟨dst,op,ty,pos,af,gd⟩:=o;have h0:=z7 (P:=prog) (GB:=GB) (C:=C) (n:=n) (ty':=ty) (pos:=pos) (af:=af) (gd:=gd) fp hc (fun p e=>by cases e);exact us hh (cg.to h0 fun ρ G y hy=>by rw[xB hy hb];exact J) hgo hv k
def ew[fu:Fu]{f:FX}(hs:yq fr own cf=some (o,f))(hb:ug f=some false)(hgo:dl tt n fu.n fr own cf .ff [] []=⟨vc,fr',own',cf'⟩)(k:ao prog GB C n Q0 fr' own' cf')
  (hv:autoParam (ae vc) fn._auto_1):ao prog GB C n Q0 fr own cf:=by
 unfold yq at hs;split at hs<;>try (cases hs;done)
 rename_i o' hh;split at hs<;>cases hs;rename_i hc;obtain⟨dst,op,ty,pos,af,gd⟩:=o;have h0:=z7 (P:=prog) (GB:=GB) (C:=C) (n:=n) (ty':=ty) (pos:=pos) (af:=af) (gd:=gd) fp hc (fun p e=>by cases e);exact us hh (cg.to h0 fun ρ G y hy=>by rw[xB hy hb];exact J) hgo hv k
def DU(nm:Nat){ty:TypeId}{cs:List FX}{lo:Bool}{ds:List DV}{own1:aO}{e:Exit}(hb:bj own nm=some (.o ty cs lo))(hc:jy cs=some ds)(ho:(nm,some (.o ty (ds.map .d) lo))::own=own1)(k:ao prog GB C n Q0 fr own1 (.ex e K)):ao prog GB C n Q0 fr own (.ex e K):=by
 subst ho;have old: ∀m B,bj ((nm,some (.o ty (ds.map .d) lo))::own) m=some B-> ∃B0,bj own m=some B0:=fun m B e=>by
  rw[ks] at e;split at e
  .rename_i h;subst h;exact⟨_,hb⟩
  .exact⟨_,e⟩
 refine⟨fun ρ G ov a w r=>k.run ρ G ov a w ⟨r.gb,r.h,r.sz,r.df,r.fx,fun m B e=>?_,fun m m' B B' e e'=>?_,r.fxd⟩⟩
 .rw[ks] at e
  split at e
  .rename_i h;subst h;cases e
   obtain⟨os,⟨b,m,h1,rfl,h2⟩,h3⟩:=r.bx _ _ hb;exact⟨_,⟨b,m,h1,J,t7 (rF h2 hc)⟩,h3⟩
  .exact r.bx _ _ e
 .obtain⟨B0,h0⟩:=old _ _ e
  obtain⟨B1,h1⟩:=old _ _ e';exact r.dj m m' B0 B1 h0 h1
end
section
variable {GB:Gh} {C:aH} {n:Nat} {Q0:Exit->Act->World->Prop} {fr fr':aD} {own own':aO} {cf cf':Cf} {vc:List Prop} {ops:Array Oper} {o:Oper} {K:List Kt} {r:List Oper}
def Qb(GB:Gh)(C:aH)(n:Nat)(lk:LK)(bk:BM)(o:Oper)(ι:Type)(f:ι->FX)(bl:ι->List (Nat×Option Bk))(nw:List Nat):Prop:=
 cA n o.dst=true-> ∀(tl:LK) (tb:BM) (K:Act->World->Prop),lc lk tl->lc bk tb->kO nw o.dst tl tb->(∀x,SX GB C n (fB tl o.dst (f x)) (Sx.upB tb (bl x)) K)->SX GB C n tl tb (fun a w=> ∀Q,o.wp prog a w K Q)
def J0(n q:Nat)(fr:aD)(own:aO)(cf:Cf)(f:FX)(bl:List (Nat×Option Bk)):x7:=match cf with
 | .ops ops (o::r) K=>s6 own bl fun own'=>yn fr o.dst f fun fr'=>go tt n q [] fr' own' (.ops ops r K)
 |_=>qi
def F2(n:Nat)(fr:aD)(own:aO)(cf:Cf)(nw:List Nat):Bool:=match cf with
 | .ops ops (o::_) _=>wi nw o.dst fr own&&cA n o.dst&&xW ops (bh fr) o.guard
 |_=>false
def U8{q:Nat}{ι:Type}{f:ι->FX}{bl:ι->List (Nat×Option Bk)}{nw:List Nat}{vc:ι->List Prop}{fr':ι->aD}{own':ι->aO}{cf':ι->Cf}(hh:dw fr cf=some o)(ho:F2 n fr own cf nw=true)(h:Qb GB C n (co fr cf) (i6 fr own cf) o ι f bl nw)
  (hgo: ∀x,J0 n q fr own cf (f x) (bl x)=⟨vc x,fr' x,own' x,cf' x⟩)(hv: ∀x,ae (vc x))(k: ∀x,ao prog GB C n Q0 (fr' x) (own' x) (cf' x)):ao prog GB C n Q0 fr own cf:=by
 obtain⟨ops,h1,h2⟩:=IM hh
 cases cf with
 |ops ops' r K=>
  cases r with
  |nil=>cases h1
  |cons o' r=>
   cases h1
   simp only[F2,bT] at ho;refine⟨fun ρ G ov a w rl=>?_⟩;show wpListIn _ _ _ _ _ (o::r) a w;unfold wpListIn;rw[if_pos (CY ho.2 ρ G ov a w rl)];refine JF ((h ho.1.2 _ _ (fun a w=>a.defers=C.mks/\wpListIn (FW C.rd) 0 prog ops (cQ C.rd prog Q0 K) r a w) (lc.refl _) (lc.refl _) (Ao ho.1.1) (fun x=>?_)).run ρ G ov a w rl) fun a' w' k=>⟨k.1.trans rl.df.symm,k.2⟩;refine⟨fun ρ G ov a w r0=>⟨r0.df,SX.run (GB:=GB) (C:=C) (n:=n) ?_ ρ G ov a w r0⟩⟩;have hx:=hgo x;unfold J0 at hx;simp only[wZ,AZ] at hx;have:=gD (GB:=GB) (C:=C) (Q0:=Q0) hx (hv x) (k x);show SX GB C n (fB (bh fr) o.dst (f x)) (Sx.upB (bj own) (bl x)) _;rw[<-Kx,<-DZ];exact this
 |_=>cases ho
def aBr{lk:LK}{bk:BM}{fo:Operand}{args:Array Operand}{tys:Array TypeId}{f:FuncId}{d:Nat}{ds:List DV}{ι:Type}{ty ty0:TypeId}{pos:String}{af:Array Edge}{gd:Option (Nat×Bool)}{cs':ι->List DV}
  (ha:ve lk fo args=some (f,ds))(hF:PN GB prog f ds ty0 ι cs'):Qb GB C n lk bk ⟨some d, .call ⟨.value fo,args,tys⟩,ty,pos,af,gd⟩ ι (fun _=> .ov d 0) (fun x=>[(d,some (.o ty0 ((cs' x).map .d) true))]) [d]:=by
 intro hd tl tb K' s1 s2 hf hk;refine⟨fun ρ G ov a w r Q=>?_⟩;have r1:=r.mono s1 s2;obtain⟨h1,h2⟩:=Dr ha;obtain⟨y,hy,hy'⟩:=r1.ev h1;rw[(bE (G:=G)).1 hy'] at hy;obtain⟨vs,h3,h4⟩:=r1.evDs h2;refine wn (M:=[]) (rest:=ov) hy h3 (List.Perm.refl _) (hF G vs r.gb h4) hd (fun v own1 G' hG hK a' w' rl=>?_) a w Q ⟨r.h,r.sz,dt a,r.df⟩;obtain⟨x,b,m,rfl,rfl,hm⟩:=hK;have rl':jg C n (Sx.put (de a) (some d) (.pointer (some ⟨b,0,none⟩))) (⟨b,m,ty0,true⟩::ov) G' a' w':=by simpa[relo,iB] using rl
 have hnd:=(bM.1 rl'.h.nd).1;exact(hk x).run _ G' _ a' w' (r.new (x:=⟨some ⟨b,0,none⟩,0,0⟩) (B':= .o ty0 ((cs' x).map .d) true) (os:=[⟨b,m,ty0,true⟩]) hf hG.le rl'.h ⟨b,m,omc,J,t7 hm⟩ (fun o ho=>by rw[aV.1 ho];exact aQ)
  (fun o ho=>aX _ ho) (fun o ho e=>by cases e;exact hnd o ho J) (f:= .ov d 0) (y:= .pointer (some ⟨b,0,none⟩)) ⟨b,omc,J⟩ (ld rl'))
def QJ(fr:aD)(cf:Cf):Option (FuncId×List DV×Nat):=match dw fr cf with
 |some ⟨some d, .call ⟨.value fo,args,_⟩,_,_,_,_⟩=>match ve (co fr cf) fo args with
  |some (f,ds)=>some (f,ds,d)
  |none=>none
 |_=>none
def cn[fu:Fu]{f:FuncId}{d:Nat}{ds:List DV}{ty:TypeId}{ι:Type}{cs':ι->List DV}{vc:ι->List Prop}{fr':ι->aD}{own':ι->aO}{cf':ι->Cf}(ha:QJ fr cf=some (f,ds,d))(hF:PN GB prog f ds ty ι cs')
  (hgo: ∀x,(zX (cs' x) fun csx=>J0 n fu.n fr own cf (.ov d 0) [(d,some (.o ty csx true))])=⟨vc x,fr' x,own' x,cf' x⟩)(k: ∀x,ao prog GB C n Q0 (fr' x) (own' x) (cf' x))(ho:F2 n fr own cf [d]=true:=by rfl)
  (hv: ∀x,ae (vc x):=by intro;first|exact trivial|(simp only[ae];kernel_rfl)|(simp only[ae];omega)|(simp only[ae,aK,aM,aU];omega)):ao prog GB C n Q0 fr own cf:=by
 unfold QJ at ha;split at ha<;>try (cases ha;done)
 rename_i hh;split at ha<;>cases ha;rename_i h1;simp only[Cz] at hgo;exact U8 hh ho (aBr h1 hF) hgo hv k
end
section
variable {GB:Gh} {C:aH} {n:Nat} {Q0:Exit->Act->World->Prop} {fr fr':aD} {own own':aO} {cf cf':Cf} {vc:List Prop} {ops:Array Oper} {o:Oper} {K:List Kt} {r:List Oper}
end
section
variable {GB:Gh} {C:aH} {n:Nat} {Q0:Exit->Act->World->Prop} {fr fr':aD} {own own':aO} {cf cf':Cf} {vc:List Prop} {ops:Array Oper} {o:Oper} {K:List Kt} {r:List Oper}
def HQ(C:aH)(ty:TypeId)(ι:Type)(cs:ι->List DV):Ending->World->Prop:=vE C (fun v own' G'=> ∃x b m,v= .pointer (some ⟨b,0,none⟩)/\own'=[⟨b,m,ty,true⟩]/\IsLs G' (cs x) m)
def fnN[fu:Fu]{f:FuncId}{fb:Func}{c:Code}{m:Nat}{ds:List DV}{ty:TypeId}{ι:Type}{cs:ι->List DV}(hf:prog.funcs[f]? =some fb)(hb:fb.body=some c)(hn:(fb.name== "runtime.NumGoroutine")=false)(hm:fb.ntmps=m)(hlen:Nat.ble ds.length m=true)
  (hgo:go tt m fu.n [] (th 0 ds) [] (.code c [])=⟨vc,fr,own,cf⟩)(k: ∀C:aH,C.mb=[]->ao prog GB C m (gu C prog fb (HQ C ty ι cs)) fr own cf)
  (hv:autoParam (ae vc) fn._auto_1):PN GB prog f ds ty ι cs:=by
 intro G vs hg hvs;refine oO.introR hf hb hn hm okD fun C _ hmb hrd hfx=>?_;intro a w rl;refine vR hrd ?_;have h:=gD (GB:=GB) (C:=C) (Q0:=gu C prog fb (HQ C ty ι cs)) hgo hv (k C (by simpa using hmb));exact h.run (fun _=>⟨none,0,0⟩) G [] a w ⟨hg,rl.h,rl.sz,rl.df,(fun k f e=>yG hvs rl.fr k f e),(fun nm B e=>by cases e),(fun nm nm' B B' e=>by cases e),fun nm p _ _ e=>by rw[hfx] at e;cases e⟩
theorem oku{p:Prop}(h:p:=by rw[hr];exact .tmp hy .nil):p:=h
def rzN{fb:Func}{t d:Nat}{ty:TypeId}{ι:Type}{cs:ι->List DV}{cs1:List FX}{l:List DV}(x:ι)(hr:fb.results.toList=[.tmp t])(hl:bh fr t=some (.ov d 0))(hw:bj own d=some (.o ty cs1 true))(hc:jy cs1=some l)(hd:l=cs x):
  ao prog GB C n (gu C prog fb (HQ C ty ι cs)) fr own (.ex .ret []):=by
 refine⟨fun ρ G ov a w r=>?_⟩;subst hd;obtain⟨b,m,rest,h3,h4,h5,h6⟩:=r.lend hw hc;obtain⟨y,hy,b',hb',hy'⟩:=r.ev (x:= .tmp t) (f:= .ov d 0) hl;rw[h3] at hb';cases hb';subst hy';exact axk (C:=C) (n:=n) (fr:=de a) (own:=ov) (G:=G) (vs:=[.pointer (some ⟨b,0,none⟩)]) oku (⟨b,m,ty,true⟩::rest) [⟨b,m,ty,true⟩] (by simpa using h5) (.cons_cons _ (lN _)) (fun _=>⟨x,b,m,J,J,h4⟩) a w ⟨r.h,r.sz,dt a,r.df⟩
def RJ[fu:Fu]{d:Nat}{l:List DV}(h:Pj fr cf=some (d,l))(hgo:dl tt n fu.n fr own cf (.d (.pt l)) [(d,none)] [d]=⟨vc,fr',own',cf'⟩)(k:ao prog GB C n Q0 fr' own' cf')
  (hv:autoParam (ae vc) fn._auto_1):ao prog GB C n Q0 fr own cf:=by
 unfold Pj at h;split at h<;>try (cases h;done)
 rename_i hh;split at h<;>try (cases h;done)
 rename_i g hx;rw[cond_eq_ite] at h;split at h<;>try (cases h;done)
 rename_i hc;simp only[bT] at hc;split at h<;>cases h;rename_i hl;exact us hh (aEM hx hc.1 hc.2 hl) hgo hv k
end
section
variable {GB:Gh} {C:aH} {n:Nat} {Q0:Exit->Act->World->Prop} {fr fr':aD} {own own':aO} {cf cf':Cf} {vc:List Prop} {ops:Array Oper} {o:Oper} {K:List Kt} {r:List Oper}
def e8:List (Option DV)->SV->List DV
 |[],_=>[]
 |some d::t,w=>d::e8 t w
 |none::t,w=> .v (.slice w.a w.n w.c)::e8 t w
def Ej(lk:LK):List Operand->Option (Option Nat×List (Option DV))
 |[]=>some (none,[])
 |x::t=>match ba lk x,Ej lk t with
  |some (.rw nm),some (none,l)=>some (some nm,none::l)
  |some f,some (q,l)=>match ki f with
   |some d=>some (q,some d::l)
   |none=>none
  |_,_=>none
def wz(lk:LK)(fo:Operand)(args:Array Operand):Option (FuncId×Nat×List (Option DV)):=match ba lk fo with
 |some (.d (.v (.func (.func f) ⟨[]⟩ ⟨[]⟩)))=>match Ej lk args.toList with
  |some (some nm,l)=>some (f,nm,l)
  |_=>none
 |_=>none
def Bg{lk:LK}{bk:BM}{ρ:NE}{G:Gh}{ov:List az}{a:Act}{w:World}(r:bH GB C n lk bk ρ G ov a w){z:SV}: ∀{x:List Operand} {q:Option Nat} {l:List (Option DV)},Ej lk x=some (q,l)->(∀nm,q=some nm->ρ nm=z)->
  ∃y,gH (de a) x=some y/\IsLs G (e8 l z) y
 |[],q,l,e,_=>by cases e;exact⟨[],J, .nil⟩
 |x::t,q,l,e,hb=>by
  simp only[Ej] at e;split at e
  .rename_i nm l' h1 h2
   cases e
   obtain⟨y,h3,h4⟩:=r.ev h1
   cases (show y=_ from h4)
   obtain⟨ys,h5,h6⟩:=Bg r (z:=z) h2 (fun nm e=>by cases e);have hz:=hb nm J;subst hz;exact⟨Value.slice (ρ nm).a (ρ nm).n (ρ nm).c::ys,by simp only[gH,h3,h5], .cons ((bE (G:=G)).2 J) h6⟩
  .rename_i f q' l' _ h1 h2
   cases hd:ki f with
   |none=>rw[hd] at e;cases e
   |some d=>
   rw[hd] at e;cases e;obtain⟨y,h3,h4⟩:=r.ev h1;obtain⟨ys,h5,h6⟩:=Bg r (z:=z) h2 hb;exact⟨y::ys,by simp only[gH,h3,h5], .cons (og h4 hd) h6⟩
  .cases e
def aAX{lk:LK}{bk:BM}{fo:Operand}{args:Array Operand}{tys:Array TypeId}{f:FuncId}{nm d:Nat}{l:List (Option DV)}{s:Nat}{ty ty0:TypeId}{pos:String}{af:Array Edge}{gd:Option (Nat×Bool)}{dsi dso pre post:List DV}{lo:Bool}(hne:Nat.beq nm d=false)
  (ha:wz lk fo args=some (f,nm,l))(hb:bk nm=some (.b ty0 s dsi lo))(hF:PB GB prog f (e8 l) s ty0 dsi (fun w=> .tp (pre++ .v (.slice w.a w.n w.c)::post)) dso):cg prog GB C n lk bk ⟨some d, .call ⟨.value fo,args,tys⟩,ty,pos,af,gd⟩ (.bx true pre d post) [(nm,none),(d,some (.b ty0 s dso lo))] [d]:=by
 intro hd tl tb K' s1 s2 hf hk;refine⟨fun ρ G ov a w r Q=>?_⟩;have r1:=r.mono s1 s2;unfold wz at ha;split at ha<;>try (cases ha;done)
 rename_i h1;split at ha<;>cases ha;rename_i h2;obtain⟨y,hy,hy'⟩:=r1.ev h1;rw[(bE (G:=G)).1 hy'] at hy;obtain⟨B,g1,g2⟩:=r1.bx _ _ hb;have hB:eB G ⟨ρ nm,s,ty0,dsi,lo⟩ B:=g1;obtain⟨vs,h7,h8⟩:=Bg r1 (z:=ρ nm) h2 (fun nm e=>by cases e;rfl);have hp: ∃rest,ov.Perm (B++rest)/\ ∀o∈ov,(∀o'∈B,o.b≠o'.b)->o∈rest:=by
  rcases hB with⟨vs',⟨_,_,e⟩|⟨b0,r0,lo0,_,e,_⟩,_⟩
  .rw[e];exact⟨ov,List.Perm.refl _,fun o ho _=>ho⟩
  .rw[e] at g2⊢
   obtain⟨l1,l2,e2⟩:=lV (g2 _ aQ);rw[e2];refine⟨l1++l2,nJ,fun o ho hno=>?_⟩;rcases bJ.1 ho with ho|ho
   .exact bK _ ho
   .rcases aW.1 ho with rfl|ho
    .exact absurd J (hno _ aQ)
    .exact bW _ ho
 obtain⟨rest,h5,h6⟩:=hp;refine wn (M:=B) (rest:=rest) hy h7 h5 (hF G (ρ nm) vs B r.gb hB.weak h8) hd (fun v own1 G' hG hK a' w' rl=>?_) a w Q ⟨r.h,r.sz,dt a,r.df⟩;obtain⟨z,hr,vs',k1,k2,k3,k4⟩:=hK;have k1':=k1.relo (iB B);have e2:lo=true-> ∀o∈own1.map (relo (iB B)),o.lo=true:=fun hl o ho=>by
  obtain⟨o',_,rfl⟩:=aS.1 ho;obtain⟨_,_,_,_,hlo⟩:=hB;exact C0 _ (hlo hl)
 generalize own1.map (relo (iB B))=B' at rl e2 k1';have rl':jg C n (Sx.put (de a) (some d) v) (B'++rest) G' a' w':=rl;have hdis:=(gK.1 rl'.h.nd).2.2;have r2:=r.dropB nm;have hnn:nm≠d:=fun e=>by subst e;rw[nN] at hne;cases hne
 have hf2:kO [d] (some d) tl (Sx.upB tb [(nm,none)]):=fun q hq=>by
  obtain⟨f1,f2⟩:=hf q hq;refine⟨f1,fun k B e1 e=>?_⟩;simp only[Sx.upB] at e;split at e
  .cases e
  .exact f2 k B e1 e
 have hsep: ∀q B0,Sx.upB tb [(nm,none)] q=some B0-> ∀o∈ov,(ρ q).a=some ⟨o.b,0,none⟩->o∈rest:=fun q B0 e o ho hbq=>by
  simp only[Sx.upB] at e;split at e
  .cases e
  .rename_i hqn
   refine h6 o ho fun o' ho' he=>?_;exact r.dj nm q _ _ (s2 _ _ hb) e (Ne.symm hqn) o'.b (g1.blk ho') (by rw[hbq,he])
 obtain⟨m,rfl,hm⟩:=mm.1 hr;obtain⟨m1,m2',rfl,c1,c2⟩: ∃m1 m2',m=m1++m2'/\IsLs G' pre m1/\IsLs G' (.v (.slice z.a z.n z.c)::post) m2':=IsLs.unapp hm;obtain⟨u,m2,rfl,c3,c4⟩:=bO.1 c2;rw[bE.1 c3] at rl';have r3:=r2.new' (x:=z) (B':= .b ty0 s dso lo) (os:=B') (ov':=B'++rest) (f:= .bx true pre d post) (y:= .tuple ⟨m1++Value.slice z.a z.n z.c::m2⟩) hf2 hG.le rl'.h ⟨vs',by simpa using k1',k2,k3,e2⟩ (fun o ho=>bK _ ho)
  (fun q B0 hq e o ho hbq=>⟨bW _ (hsep q B0 e o ho hbq),fun hc=>by
   have hx: ∃o1∈B',o1.b=o.b:=by
    rcases k1' with⟨_,h,_⟩|⟨b0,rest0,lo0,h,hB,_⟩
    .rw[show z=_ from h] at hc;cases hc
    .rw[show z=_ from h] at hc;cases hc;exact⟨⟨_,aG vs'++rest0,_,lo0⟩,by rw[hB];exact aQ,J⟩
   obtain⟨o1,ho1,he1⟩:=hx;exact hdis o1 ho1 o (hsep q B0 e o ho hbq) he1⟩) ⟨m1,m2,omc,c1,c4⟩ (ld rl')
 exact hk.run _ G' _ a' w' r3
structure CbA where
 f:FuncId
 nm:Nat
 l:List (Option DV)
 ty:TypeId
 s:Nat
 ds:List DV
 lo:Bool
 d:Nat
def EL(fr:aD)(own:aO)(cf:Cf):Option CbA:=match dw fr cf with
 |some ⟨some d, .call ⟨.value fo,args,_⟩,_,_,_,_⟩=>match wz (co fr cf) fo args with
  |some (f,nm,l)=>match i6 fr own cf nm with
   |some (.b ty s ds lo)=>bif Nat.beq nm d then none else some ⟨f,nm,l,ty,s,ds,lo,d⟩
   |_=>none
  |none=>none
 |_=>none
theorem okL{p:Prop}(h:p:=by cases hq:Nat.beq nm d with|false=>rfl|true=>exact absurd hq h3):p:=h
def cb[fu:Fu]{f:FuncId}{nm d:Nat}{l:List (Option DV)}{ty:TypeId}{s:Nat}{dsi dso pre post:List DV}{lo:Bool}(dso':List DV)(ha:EL fr own cf=some ⟨f,nm,l,ty,s,dsi,lo,d⟩)(hF:PB GB prog f (e8 l) s ty dsi (fun w=> .tp (pre++ .v (.slice w.a w.n w.c)::post)) dso)(he:dso=dso')
  (hgo:dl tt n fu.n fr own cf (.bx true pre d post) [(nm,none),(d,some (.b ty s dso' lo))] [d]=⟨vc,fr',own',cf'⟩)(k:ao prog GB C n Q0 fr' own' cf')
  (hv:autoParam (ae vc) fn._auto_1):ao prog GB C n Q0 fr own cf:=by
 subst he;unfold EL at ha;split at ha<;>try (cases ha;done)
 rename_i hh;split at ha<;>try (cases ha;done)
 rename_i h1;split at ha<;>try (cases ha;done)
 rename_i h2;rw[cond_eq_ite] at ha;split at ha<;>cases ha;rename_i h3;exact us hh (aAX okL h1 h2 hF) hgo hv k
def xX:Nat->List (Option DV)->aD
 |_,[]=>[]
 |i,some v::t=>(i, .d v)::xX (i+1) t
 |i,none::t=>(i, .rw NM)::xX (i+1) t
def E7(w:SV): ∀l:List (Option DV),(e8 l w).length=l.length
 |[]=>rfl
 |some d::t=>by simp[e8,E7 w t]
 |none::t=>by simp[e8,E7 w t]
def Da{w:SV}{ρ:NE}{G:Gh}(hρ:ρ NM=w): ∀{ds:List (Option DV)} {vs:List Value} (i:Nat),IsLs G (e8 ds w) vs-> ∀k f,bh (xX i ds) k=some f-> ∃y,(∃j,k=i+j/\vs[j]? =some y)/\ce ρ G f y
 |[],vs,i,h,k,f,e=>by cases e
 |some d::t,vs,i,h,k,f,e=>by
  obtain⟨y,m,rfl,h1,h2⟩:=bO.1 h;simp only[xX] at e;rw[kH] at e;split at e
  .cases e;rename_i hk;exact⟨y,⟨0,hk,rfl⟩,h1⟩
  .obtain⟨u,⟨j,hj,hu⟩,h3⟩:=Da hρ (i+1) h2 k f e
   exact⟨u,⟨j+1,we,by simpa using hu⟩,h3⟩
 |none::t,vs,i,h,k,f,e=>by
  obtain⟨y,m,rfl,h1,h2⟩:=bO.1 h;simp only[xX] at e;rw[kH] at e;split at e
  .cases e;rename_i hk;exact⟨y,⟨0,hk,rfl⟩,by show y=_;rw[hρ];exact bE.1 h1⟩
  .obtain⟨u,⟨j,hj,hu⟩,h3⟩:=Da hρ (i+1) h2 k f e
   exact⟨u,⟨j+1,we,by simpa using hu⟩,h3⟩
def Gj(C:aH)(s:Nat)(ty:TypeId)(pre post dso:List DV):Ending->World->Prop:=vE C (fun v own' G'=> ∃w',Is G' (.tp (pre++ .v (.slice w'.a w'.n w'.c)::post)) v/\eB G' ⟨w',s,ty,dso,false⟩ own')
def Iu[fu:Fu]{f:FuncId}{fb:Func}{c:Code}{k s:Nat}{l:List (Option DV)}{dsi dso pre post:List DV}{ty:TypeId}(hf:prog.funcs[f]? =some fb)(hb:fb.body=some c)(hn:(fb.name== "runtime.NumGoroutine")=false)(hm:fb.ntmps=k)(hlen:Nat.ble l.length k=true)
  (hgo:go tt k fu.n [] (xX 0 l) [(NM,some (.b ty s dsi false))] (.code c [])=⟨vc,fr,own,cf⟩)(h: ∀C,ao prog GB C k (gu C prog fb (Gj C s ty pre post dso)) fr own cf)
  (hv:autoParam (ae vc) fn._auto_1):PB GB prog f (e8 l) s ty dsi (fun w=> .tp (pre++ .v (.slice w.a w.n w.c)::post)) dso:=by
 intro G w vs B hg hB hvs;refine oO.introR hf hb hn hm (by rw[hvs.len,E7];exact hlen) fun C _ hmb hrd hfx=>?_;intro a wd rl;refine vR hrd ?_;have h1:=gD (GB:=GB) (C:=C) (Q0:=gu C prog fb (Gj C s ty pre post dso)) hgo hv (h C);refine h1.run (fun _=>w) G (Sx.asB B) a wd ⟨hg,rl.h,rl.sz,rl.df,fun k f e=>?_,fun nm B' e=>?_,fun nm nm' B' B2 e e' hne=>?_,fun nm p _ _ e=>by rw[hfx] at e;cases e⟩
 .obtain⟨y,⟨j,hj,hy⟩,h2⟩:=Da (ρ:=fun _=>w) (w:=w) rfl 0 hvs k f e
  refine⟨y,rl.fr k y ?_,h2⟩;rw[hj];exact wV vs 0 j y hy
 .rw[ks] at e
  split at e
  .cases e;exact⟨Sx.asB B,hB.asB,fun o ho=>ho⟩
  .cases e
 .rw[ks] at e e'
  split at e<;>split at e'
  .rename_i h2 h3;exact absurd (h2.trans h3.symm) hne
  .cases e'
  .cases e
  .cases e
def H4{B:List az}{G:Gh}{w:SV}{s:Nat}{ty:TypeId}{ds:List DV}{lo:Bool}{ov:List az}(h:eB G ⟨w,s,ty,ds,lo⟩ B)(g: ∀o∈B,o∈ov): ∃rest,ov.Perm (B++rest):=by
 rcases h with⟨vs',⟨_,_,e⟩|⟨b0,r0,lo0,_,e,_⟩,_⟩
 .rw[e];exact⟨ov,List.Perm.refl _⟩
 .rw[e] at g⊢
  obtain⟨l1,l2,e2⟩:=lV (g _ aQ);rw[e2];exact⟨l1++l2,nJ⟩
def GR{fb:Func}{t u d s:Nat}{ty:TypeId}{ds dso:List DV}{f:FX}{v v':DV}(hr:fb.results.toList=[.tmp t, .tmp u])(hl:bh fr t=some (.rw d))(hu:bh fr u=some f)(hd:ki f=some v)(hw:bj own d=some (.b ty s ds false))(ed:ds=dso)(ev:v=v'):
  ao prog GB C n (gu C prog fb (Gj C s ty [] [v'] dso)) fr own (.ex .ret []):=by
 subst ed ev;refine⟨fun ρ G ov a w r=>?_⟩;obtain⟨B,g1,g2⟩:=r.bx _ _ hw;have hB:eB G ⟨ρ d,s,ty,ds,false⟩ B:=g1;obtain⟨rest,hp⟩:=H4 hB g2;obtain⟨y,hy,hy'⟩:=r.ev (x:= .tmp t) (f:= .rw d) hl
 cases (show y=_ from hy')
 obtain⟨z,hz,hz'⟩:=r.ev (x:= .tmp u) (f:=f) hu;exact H6 (C:=C) (n:=n) (fr:=de a) (own:=ov) (G:=G) (vs:=[.slice (ρ d).a (ρ d).n (ρ d).c,z]) (by rw[hr];exact .tmp hy (.tmp hz .nil)) (B++rest) B hp (oV _ _)
  ⟨ρ d,mm.2 ⟨_,J, .cons (bE.2 J) (.cons (og hz' hd) .nil)⟩,hB⟩ a w ⟨r.h,r.sz,dt a,r.df⟩
def CG(lk:LK):List Operand->Option (List (Option DV))
 |[]=>some []
 |x::t=>match ba lk x,CG lk t with
  |some .nl,some l=>some (none::l)
  |some f,some l=>match ki f with
   |some d=>some (some d::l)
   |none=>none
  |_,_=>none
def FK(lk:LK)(fo:Operand)(args:Array Operand):Option (FuncId×List (Option DV)):=match ba lk fo with
 |some (.d (.v (.func (.func f) ⟨[]⟩ ⟨[]⟩)))=>match CG lk args.toList with
  |some l=>some (f,l)
  |_=>none
 |_=>none
def KA{lk:LK}{bk:BM}{ρ:NE}{G:Gh}{ov:List az}{a:Act}{w:World}(r:bH GB C n lk bk ρ G ov a w): ∀{x:List Operand} {l:List (Option DV)},CG lk x=some l-> ∃y,gH (de a) x=some y/\IsLs G (e8 l ⟨none,0,0⟩) y
 |[],l,e=>by cases e;exact⟨[],J, .nil⟩
 |x::t,l,e=>by
  simp only[CG] at e;split at e
  .rename_i l' h1 h2
   cases e
   obtain⟨y,h3,h4⟩:=r.ev h1
   cases (show y=_ from h4)
   obtain⟨ys,h5,h6⟩:=KA r h2;exact⟨Value.slice none 0 0::ys,by simp only[gH,h3,h5], .cons ((bE (G:=G)).2 J) h6⟩
  .rename_i f l' _ h1 h2
   cases hd:ki f with
   |none=>rw[hd] at e;cases e
   |some d=>
   rw[hd] at e;cases e;obtain⟨y,h3,h4⟩:=r.ev h1;obtain⟨ys,h5,h6⟩:=KA r h2;exact⟨y::ys,by simp only[gH,h3,h5], .cons (og h4 hd) h6⟩
  .cases e
def ayw{lk:LK}{bk:BM}{fo:Operand}{args:Array Operand}{tys:Array TypeId}{f:FuncId}{d:Nat}{l:List (Option DV)}{s:Nat}{ty ty0:TypeId}{pos:String}{af:Array Edge}{gd:Option (Nat×Bool)}{dso pre post:List DV}
  (ha:FK lk fo args=some (f,l))(hF:PB GB prog f (e8 l) s ty0 [] (fun w=> .tp (pre++ .v (.slice w.a w.n w.c)::post)) dso):cg prog GB C n lk bk ⟨some d, .call ⟨.value fo,args,tys⟩,ty,pos,af,gd⟩ (.bx true pre d post) [(d,some (.b ty0 s dso true))] [d]:=by
 intro hd tl tb K' s1 s2 hf hk;refine⟨fun ρ G ov a w r Q=>?_⟩;have r1:=r.mono s1 s2;unfold FK at ha;split at ha<;>try (cases ha;done)
 rename_i h1;split at ha<;>cases ha;rename_i h2;obtain⟨y,hy,hy'⟩:=r1.ev h1;rw[(bE (G:=G)).1 hy'] at hy;obtain⟨vs,h7,h8⟩:=KA r1 h2;refine wn (M:=[]) (rest:=ov) hy h7 (List.Perm.refl _) (hF G ⟨none,0,0⟩ vs [] r.gb ⟨[], .nil _ _, .nil,omc,fun h=>by cases h⟩ h8) hd (fun v own1 G' hG hK a' w' rl=>?_) a w Q ⟨r.h,r.sz,dt a,r.df⟩;obtain⟨z,hr,vs',k1,k2,k3,k4⟩:=hK;have k1':=k1.relo (iB []);have e2: ∀o∈own1.map (relo (iB [])),o.lo=true:=fun o ho=>by
  obtain⟨o',_,rfl⟩:=aS.1 ho;rfl
 generalize own1.map (relo (iB []))=B' at rl e2 k1';have rl':jg C n (Sx.put (de a) (some d) v) (B'++ov) G' a' w':=rl;have hdis:=(gK.1 rl'.h.nd).2.2;obtain⟨m,rfl,hm⟩:=mm.1 hr;obtain⟨m1,m2',rfl,c1,c2⟩: ∃m1 m2',m=m1++m2'/\IsLs G' pre m1/\IsLs G' (.v (.slice z.a z.n z.c)::post) m2':=IsLs.unapp hm;obtain⟨u,m2,rfl,c3,c4⟩:=bO.1 c2;rw[bE.1 c3] at rl';have r3:=r.new (x:=z) (B':= .b ty0 s dso true) (os:=B') (ov':=B'++ov) (f:= .bx true pre d post) (y:= .tuple ⟨m1++Value.slice z.a z.n z.c::m2⟩) hf hG.le rl'.h ⟨vs',by simpa using k1',k2,k3,fun _=>e2⟩ (fun o ho=>bK _ ho) (fun o ho=>bW _ ho)
  (fun o ho hc=>by
   have hx: ∃o1∈B',o1.b=o.b:=by
    rcases k1' with⟨_,h,_⟩|⟨b0,rest0,lo0,h,hB,_⟩
    .rw[show z=_ from h] at hc;cases hc
    .rw[show z=_ from h] at hc;cases hc;exact⟨⟨_,aG vs'++rest0,_,lo0⟩,by rw[hB];exact aQ,J⟩
   obtain⟨o1,ho1,he1⟩:=hx;exact hdis o1 ho1 o ho he1) ⟨m1,m2,omc,c1,c4⟩ (ld rl')
 exact hk.run _ G' _ a' w' r3
def Ls(fr:aD)(cf:Cf):Option (FuncId×List (Option DV)×Nat):=match dw fr cf with
 |some ⟨some d, .call ⟨.value fo,args,_⟩,_,_,_,_⟩=>match FK (co fr cf) fo args with
  |some (f,l)=>some (f,l,d)
  |none=>none
 |_=>none
def cbn[fu:Fu]{f:FuncId}{d:Nat}{l:List (Option DV)}{ty:TypeId}{s:Nat}{dso pre post:List DV}(dso':List DV)(ha:Ls fr cf=some (f,l,d))(hF:PB GB prog f (e8 l) s ty [] (fun w=> .tp (pre++ .v (.slice w.a w.n w.c)::post)) dso)(he:dso=dso')
  (hgo:dl tt n fu.n fr own cf (.bx true pre d post) [(d,some (.b ty s dso' true))] [d]=⟨vc,fr',own',cf'⟩)(k:ao prog GB C n Q0 fr' own' cf')
  (hv:autoParam (ae vc) fn._auto_1):ao prog GB C n Q0 fr own cf:=by
 subst he;unfold Ls at ha;split at ha<;>try (cases ha;done)
 rename_i hh;split at ha<;>cases ha;rename_i h1;exact us hh (ayw h1 hF) hgo hv k
end
section
variable {P:Program} {C:aH} {n:Nat} {fr:Fr} {own own':List az} {G:Gh} {Φ:Act->World->Prop}
variable {dst:Option Nat} {t t' ty':TypeId} {pos:String} {af:Array Edge} {gd:Option (Nat×Bool)} {x y:Operand} {e s by_:Nat}
def aHO[hT:cO P t e s by_]{z:Value}[hz:jC P e z]{k k':IntKind}{l:Int}(hx:aF fr x=some (.int k 0))(hy:aF fr y=some (.int k' l))(h0:0<=l)(hb:by_*l<=2^47)(hl:l<=2^60)(hs:(aP z).length=s)(hd:cA n dst=true)
  (h: ∀b,St C n (put fr dst (.slice (some ⟨b,0,none⟩) 0 l.toNat)) (⟨b,fe z l.toNat,e,true⟩::own) G Φ):
  Ch P C n fr own G ⟨dst, .makeSlice t x y,ty',pos,af,gd⟩ Φ:=by
 intro a w Q rl;have h1:(Instr.makeSlice t (a.eval x) (a.eval y)).run P w= .ok (.slice (some ⟨w.heap.size,0,none⟩) 0 l.toNat) (w.alloc (.cells ⟨fe z l.toNat⟩ e)):=by
  obtain⟨i,hi,hib⟩:=MV (P:=P) (t:=t) (e:=e) (s:=s) (by_:=by_) w;rw[bu rl.fr hx,bu rl.fr hy];unfold Instr.makeSlice;rw[bc (hT.u w)];simp only[asInt,asIntOf];rw[bc (a:=0) (w':=w) J,bc (a:=l) (w':=w) J,bc hi,hib];have hw:IntKind.i64.wrap l=l:=ud okJ;have hw0:IntKind.i64.wrap 0=0:=J;simp only[hw,hw0];have c1: ¬((by_:Int)*l>2^48):=by
   have:(2:Int)^47<=2^48:=by decide
   omega
  have c5:decide ((by_:Int)*l>2^48)=false:=decide_eq_false c1;have c2:decide (l<0)=false:=decide_eq_false we;have c4:decide ((0:Int)>l)=false:=by simp;omega
  simp only[c2,c4,c5,sW,Int.lt_irrefl,decide_false,sY,fT,if_false];have hr: ¬(l.toNat*by_>roomBytes):=by
   unfold roomBytes;have:((l.toNat*by_:Nat):Int)=by_*l:=by rw[iY,qW h0,Int.mul_comm]
   have h47:((2^47:Nat):Int)=2^47:=by decide
   omega
  unfold askRoom;simp only[hr,if_false];rw[bc (run_pure _ _ _),bc (hT.siz w)];have hn:l.toNat*s=l.toNat*(aP z).length:=by rw[hs]
  by_cases h00:l.toNat*s=0
  .rw[if_pos h00,bc (run_pure _ _ _)]
   have e0:fe z l.toNat=[]:=cW (by rw[qy,hs];exact h00);rw[h00,e0,show(Array.range 0)= #[] from J,Array.map_empty];rfl
  .rw[if_neg h00,bc (hz.zero w),ry]
   rw[bc (run_pure _ _ _),D9 hn];rfl
 refine ly (v:= .slice (some ⟨w.heap.size,0,none⟩) 0 l.toNat) (dC h1) (h w.heap.size _ _ ((rl.heap (rl.h.alloc _ _)).put _ hd))
def tP(G:Gh)(ov:List az):Gh:=fun b=>match G b with
 |some cs=>some cs
 |none=>(ov.find? fun o=>Nat.beq o.b b).map (·.cs)
def Ip{ov:List az}:cc G (tP G ov):=fun b cs h=>by unfold tP;rw[h]
def L1{o:az}: ∀{ov:List az},o∈ov->ov.Pairwise (fun x y=>x.b≠y.b)->ov.find? (fun u=>Nat.beq u.b o.b)=some o
 |u::t,ho,nd=>by
  rcases aW.1 ho with rfl|ho
  .rw[List.find?_cons_of_pos omc]
  .have:=(bM.1 nd).1 o ho
   rw[List.find?_cons_of_neg (by simpa using this)];exact L1 ho (bM.1 nd).2
def aBc{ov:List az}{o:az}(ho:o∈ov)(hn:G o.b=none)(nd:ov.Pairwise (fun x y=>x.b≠y.b)):tP G ov o.b=some o.cs:=by
 unfold tP;rw[hn,L1 ho nd];rfl
def bC.lendSub{ov:List az}{w:World}(h:bC C ov G w)(b:Nat)(cs:List Value)(hb:tP G ov b=some cs): ∃ty fz,w.heap[b]? =some (.cells ⟨cs⟩ ty fz):=by
 unfold tP at hb;split at hb
 .rename_i hg;cases hb;exact h.sub _ _ hg
 .cases hf:ov.find? (fun o=>Nat.beq o.b b) with
  |none=>rw[hf] at hb;cases hb
  |some o=>
   rw[hf] at hb;cases hb;have e:o.b=b:=aL (by simpa using List.find?_some hf);subst e;exact⟨_,_,(h.hown o (List.mem_of_find?_eq_some hf)).1⟩
def bC.lent{ov:List az}{G':Gh}{w w':World}(h:bC C ov G w)(k:bC ⟨w,tP G ov,[],[],[],none,fun _=>none⟩ [] G' w'):bC C ov G w':=by
 have same: ∀b o,w.heap[b]? =some o->w'.heap[b]? =some o:=fun b o hb=>by rw[k.keep b (i5 hb) omc];exact hb
 have hsz:w.heap.size<=w'.heap.size:=k.size;refine⟨k.os.trans h.os,k.tape.trans h.tape,k.output.trans h.output,dJ h.size hsz,fun b hb hm=>?_,fun b cs hb=>?_,h.gle,h.gold,fun o ho=>?_,h.nd,dJ h.dr k.dr,fun p hp=>⟨(h.ext p hp).1,same _ _ (h.ext p hp).2⟩⟩
 .have:=h.size;rw[k.keep b omI omc];exact h.keep b hb hm
 .obtain⟨ty,fz,h1⟩:=h.sub b cs hb;exact⟨ty,fz,same _ _ h1⟩
 .obtain⟨h1,h2⟩:=h.hown o ho;exact⟨same _ _ h1,h2⟩
def X4{f:FuncId}{fo:Operand}{args:Array Operand}{tys:Array TypeId}{vs:List Value}{K:Value->Gh->Prop}(ho:aF fr fo=some (.func (.func f) #[] #[]))(hv:gH fr args.toList=some vs)
  (hF:Fn P f vs (tP G own) K)(hd:cA n dst=true)(h: ∀v (G':Gh),K v G'->St C n (put fr dst v) own G Φ):Ch P C n fr own G ⟨dst, .call ⟨.value fo,args,tys⟩,ty',pos,af,gd⟩ Φ:=by
 intro a w Q rl;have h2:=EI (c1:=[]) (c2:=[]) (P:=P) (dst:=dst) (ty':=ty') (pos:=pos) (af:=af) (gd:=gd) (tys:=tys) (w:=w) hF.able rl.fr ho hv;rw[lQ,lZ] at h2;simp only[Oper.wp,h2,Oper.upon];refine(hF.run w rl.h.lendSub).mono ?_;rintro e w' ⟨v,G',rfl,hh,hK⟩;exact h v G' hK _ _ ((rl.heap (rl.h.lent hh)).put _ hd)
end
def DV.np:DV->Bool
 | .v _=>true
 | .tp l=>l.all fun d=>match d with
  | .v _=>true
  |_=>false
 |_=>false
def SS{A G:Gh}: ∀{l:List DV} {m:List Value},(l.all fun d=>match d with| .v _=>true|_=>false)=true->IsLs A l m->IsLs G l m
 |[],m,_,k=>gw.2 (gw.1 k)
 |d::t,m,h,k=>by
  obtain⟨y,n,rfl,k1,k2⟩:=bO.1 k;simp only[List.all_cons,bT] at h;refine .cons ?_ (SS h.2 k2)
  cases d with
  |v x=>exact bE.2 (bE.1 k1)
  |_=>simp at h
def Is.np{A G:Gh}{d:DV}{y:Value}(h:d.np=true)(k:Is A d y):Is G d y:=by
 cases d with
 |v x=>exact bE.2 (bE.1 k)
 |tp l=>obtain⟨m,e,k⟩:=mm.1 k;exact mm.2 ⟨m,e,SS h k⟩
 |_=>cases h
section
variable {GB:Gh} {C:aH} {n:Nat} {Q0:Exit->Act->World->Prop} {fr fr':aD} {own own':aO} {cf cf':Cf} {vc:List Prop} {lk:LK} {bk:BM} {ρ:NE} {G:Gh} {ov:List az} {a:Act} {w:World}
variable {dst:Option Nat} {t t' ty':TypeId} {pos:String} {af:Array Edge} {gd:Option (Nat×Bool)} {x y:Operand} {e s by_:Nat}
def SJ:Option Bk->Option (List DV)
 |some (.b _ _ ds _)=>some ds
 |some (.c _ _ ds _)=>some ds
 |_=>none
def Jp(lk:LK)(bk:BM)(x:Operand):Option DV:=match ba lk x with
 |some (.rw nm)=>match SJ (bk nm) with
  |some ds=>some (.sl ds)
  |none=>none
 |some f=>ki f
 |none=>none
def CM(lk:LK)(bk:BM):List Operand->Option (List DV)
 |[]=>some []
 |x::t=>match Jp lk bk x,CM lk bk t with
  |some d,some l=>some (d::l)
  |_,_=>none
def aDl(r:bH GB C n lk bk ρ G ov a w){d:DV}(h:Jp lk bk x=some d): ∃y,aF (de a) x=some y/\Is (tP G ov) d y:=by
 unfold Jp at h;split at h
 .rename_i nm h1
  obtain⟨y,h2,h3⟩:=r.ev h1
  cases (show y=_ from h3)
  refine⟨_,h2,?_⟩;split at h<;>cases h;rename_i ds hr;obtain⟨ty,s,vs,B,hB,hv,hs,hBo⟩: ∃ty s vs B,kG s ty (ρ nm) vs B/\IsLs G ds vs/\(∀v∈vs,(aP v).length=s)/\ ∀o∈B,o∈ov:=by
   unfold SJ at hr;split at hr<;>cases hr
   .rename_i hb;obtain⟨B,⟨vs,h4,h5,h6,_⟩,h7⟩:=r.bx _ _ hb;exact⟨_,_,vs,B,h4,h5,h6,h7⟩
   .rename_i hb;obtain⟨B,⟨vs,h4,h5,h6,_⟩,h7⟩:=r.bx _ _ hb;exact⟨_,_,vs,B,h4,h5,h6,h7⟩
  rcases hB with⟨e1,e2,e3⟩|⟨b,rest,lo',e2,e3,h5,h6,h7⟩
  .subst e1
   have ed:ds=[]:=cW (by rw[<-hv.len];rfl);subst ed;rw[e2];exact je.2 ⟨0,⟨none,0,0⟩,[],J, .nil _ 0, .nil⟩
  .subst e3
   have ho:=hBo _ aQ;have hg:=aBc ho (r.h.hown _ ho).2.1 r.h.nd;rw[e2];exact je.2 ⟨s,⟨some ⟨b,0,none⟩,vs.length,_⟩,vs,J,jl.of_flat hs hg h7,hv.up Ip⟩
 .rename_i h1
  obtain⟨y,h2,h3⟩:=r.ev h1;exact⟨y,h2,(og h3 h).up Ip⟩
 .cases h
def Mc(r:bH GB C n lk bk ρ G ov a w): ∀{l:List Operand} {ds:List DV},CM lk bk l=some ds-> ∃vs,gH (de a) l=some vs/\IsLs (tP G ov) ds vs
 |[],ds,e=>by cases e;exact⟨[],J, .nil⟩
 |x::t,ds,e=>by
  simp only[CM] at e;split at e<;>cases e;rename_i h1 h2;obtain⟨y,h3,h4⟩:=aDl r h1;obtain⟨vs,h5,h6⟩:=Mc r h2;exact⟨y::vs,by simp only[gH,h3,h5], .cons h4 h6⟩
def Hq(lk:LK)(bk:BM)(fo:Operand)(args:Array Operand):Option (FuncId×List DV):=match ba lk fo with
 |some (.d (.v (.func (.func f) ⟨[]⟩ ⟨[]⟩)))=>match CM lk bk args.toList with
  |some ds=>some (f,ds)
  |none=>none
 |_=>none
def aAZ{fo:Operand}{args:Array Operand}{tys:Array TypeId}{f:FuncId}{ds:List DV}{rv:DV}(ha:Hq lk bk fo args=some (f,ds))(hnp:rv.np=true)(hF:PF GB prog f ds rv):cg prog GB C n lk bk ⟨dst, .call ⟨.value fo,args,tys⟩,ty',pos,af,gd⟩ (.d rv) [] []:=by
 intro hd tl tb K' s1 s2 hf hk;refine⟨fun ρ G ov a w r Q=>?_⟩;have r1:=r.mono s1 s2;unfold Hq at ha;split at ha<;>try (cases ha;done)
 rename_i h1;split at ha<;>cases ha;rename_i h2;obtain⟨y,hy,hy'⟩:=r1.ev h1;rw[(bE (G:=G)).1 hy'] at hy;obtain⟨vs,h3,h4⟩:=Mc r1 h2;refine X4 hy h3 (hF _ vs (r.gb.trans Ip) h4) hd (fun v G' hK a' w' rl=>?_) a w Q ⟨r.h,r.sz,dt a,r.df⟩;exact hk.run ρ G ov a' w' ⟨r.gb,rl.h,rl.sz,rl.df,(ld rl).fx (fun k g _ e=>r.fx k g e) (Is.np hnp hK),r.bx,r.dj,r.fxd⟩
def Sn(fr:aD)(own:aO)(cf:Cf):Option (FuncId×List DV):=match dw fr cf with
 |some ⟨_, .call ⟨.value fo,args,_⟩,_,_,_,_⟩=>Hq (co fr cf) (i6 fr own cf) fo args
 |_=>none
def cL[fu:Fu]{f:FuncId}{ds:List DV}{rv:DV}(ha:Sn fr own cf=some (f,ds))(hF:PF GB prog f ds rv)(hnp:rv.np=true)(hgo:dl tt n fu.n fr own cf (.d rv) [] []=⟨vc,fr',own',cf'⟩)(k:ao prog GB C n Q0 fr' own' cf')
  (hv:ae vc:=by first|exact trivial|(simp only[ae];kernel_rfl)|(simp only[ae];omega)):ao prog GB C n Q0 fr own cf:=by
 unfold Sn at ha;split at ha<;>try (cases ha;done)
 rename_i hh;exact us hh (aAZ ha hnp hF) hgo hv k
def aHm{d cap:Nat}{i:TI}{z:DV}{k k':IntKind}[hT:cO prog t e s by_](hi:gh prog e=some i)(hz:om i=some z)(hs:Nat.beq z.cells.length s=true)(hx:ba lk x=some (.d (.v (.int k 0))))(hy:ba lk y=some (.d (.v (.int k' (cap:Nat)))))(hb:by_*cap<=140737488355328)(hl:cap<=1152921504606846976):
  cg prog GB C n lk bk ⟨some d, .makeSlice t x y,ty',pos,af,gd⟩ (.rw d) [(d,some (.c e s [] cap))] [d]:=by
 intro hd tl tb K s1 s2 hf hk;refine⟨fun ρ G ov a w r Q=>?_⟩;obtain⟨v,hz1,hz2,hz3⟩:=xG hi hz;obtain⟨q1,p1,p2⟩:=(r.mono s1 s2).ev hx;obtain⟨q2,p3,p4⟩:=(r.mono s1 s2).ev hy;rw[dq] at p2 p4;subst p2 p4;have c1:=((hz2 G).cells hz3).1.len;replace hs:=aL hs;refine aHO p1 p3 we (by have:((by_*cap:Nat):Int)=by_*cap:=iY ..;omega) we (by rw[c1,hs]) hd (fun b a' w' rl=>?_) a w Q ⟨r.h,r.sz,dt a,r.df⟩;rw[dR] at rl;have hnd:=(bM.1 rl.h.nd).1;refine hk.run _ _ _ a' w' (r.new' (x:=⟨some ⟨b,0,none⟩,0,cap⟩) (B':= .c e s [] cap) (os:=[⟨b,fe v cap,e,true⟩]) (f:= .rw d) (y:= .slice (some ⟨b,0,none⟩) 0 cap) hf (cc.refl _) rl.h ⟨[], .inr ⟨b,fe v cap,true,omc,J,by simp[aG],?_,omc⟩, .nil,omc,fun o ho=>by rw[aV.1 ho],omc⟩
  (fun o ho=>by rw[aV.1 ho];exact aQ) (fun m B' _ _ o ho _=>⟨aX _ ho,fun e'=>by cases e';exact hnd o ho J⟩) okW (ld rl))
 rw[qy,c1,hs];simp[aG]
def aJk{d nm cap:Nat}{ds ds2:List DV}[hT:cO prog t e s by_][hN:mA prog t'](hx:ba lk x=some (.rw nm))(hb:bk nm=some (.c e s ds cap))(hy:r7 lk bk s y=some ds2)(hk2:dH s ds2)(hc:ds.length+ds2.length<=cap)(hp:0<ds2.length)(hnd:Nat.beq nm d=false):
  cg prog GB C n lk bk ⟨some d, .call ⟨.builtin .append, #[x,y], #[t,t']⟩,ty',pos,af,gd⟩ (.rw d) [(nm,none),(d,some (.c e s (ds++ds2) cap))] [d]:=by
 intro hd tl tb K s1 s2 hf hk;refine⟨fun ρ G ov a w r Q=>?_⟩;have r1:=r.mono s1 s2;have hne:nm≠d:=fun e=>by subst e;simp at hnd
 obtain⟨u,hx',hx2⟩:=r1.ev hx
 cases hx2
 obtain⟨B,⟨vs,hB,hv,hvs,hlo,hcap⟩,hBo⟩:=r1.bx _ _ hb;obtain⟨w2,us,hy',h2,h3,h4,h5,h6⟩:=Bc (P:=prog) (C:=C) r1 hy hk2;have hus:(aG us).length=us.length*s:=f7 us h4;have hl1:=hv.len;have hl2:=h3.len;have rd:=r.dropB nm;have hf':kO [d] (some d) tl (Sx.upB tb [(nm,none)]):=fun m hm=>by
  obtain⟨g1,g2⟩:=hf m hm;refine⟨g1,fun k B' hk e=>g2 k B' hk ?_⟩;simp only[Sx.upB] at e;split at e
  .cases e
  .exact e
 rcases hB with⟨e1,e2,e3⟩|⟨b,rest,lo',k3,k4,k5,k6,k7⟩
 .rw[e2] at hcap;simp at hcap;omega
 subst k4;have hl':=hlo _ aQ;simp only at hl';subst hl';have ha:(ρ nm).a=some ⟨b,0,none⟩:=by rw[k3]
 have hn:(ρ nm).n=vs.length:=by rw[k3]
 rw[ha,hn] at hx';rw[h2] at hy' h6;have hin:=hBo _ aQ;obtain⟨l1,l2,e5⟩:=lV hin;have hperm:ov.Perm (⟨b,aG vs++rest,e,true⟩::(l1++l2)):=by rw[e5];exact nJ
 have hall: ∀v∈vs++us,(aP v).length=s:=fun v hv=>by
  rcases bJ.1 hv with hv|hv
  .exact hvs v hv
  .exact h4 v hv
 have hcs:(aG vs++rest).length=(ρ nm).c*s:=by rw[aR];exact k6
 have hroom:vs.length+us.length<=(ρ nm).c:=by omega
 have hmul:(vs.length+us.length)*s<=(ρ nm).c*s:=bR _ hroom;rw[dW] at hmul;have hrest:us.length*s<=rest.length:=by rw[k5] at k6;omega
 have hovw:dd (aG vs++rest) (vs.length*s) (aG us)=aG (vs++us)++rest.drop (us.length*s):=by
  rw[qg _ _ _ (by rw[hus,aR];omega),rB,<-k5];simp[hus,nZ,gX]
 refine OW (P:=prog) (own:=⟨b,aG vs++rest,e,true⟩::(l1++l2)) (m:=us.length) (ys:=aG us) hx' hy' (.hd ..) hcs (fun w hh=>h6 w (hh.perm hperm.symm)) hus h5 hroom hd (fun a' w' rl=>?_) a w Q ⟨r.h.perm hperm,r.sz,dt a,r.df⟩;rw[hovw] at rl;have hnd':=(bM.1 rl.h.nd).1;refine hk.run _ _ _ a' w' (rd.new' (x:=⟨some ⟨b,0,none⟩,vs.length+us.length,(ρ nm).c⟩) (B':= .c e s (ds++ds2) cap) (os:=[⟨b,aG (vs++us)++rest.drop (us.length*s),e,true⟩]) (f:= .rw d) (y:= .slice (some ⟨b,0,none⟩) (vs.length+us.length) (ρ nm).c) hf' (cc.refl _) rl.h
  ⟨vs++us, .inr ⟨b,rest.drop (us.length*s),true,omc,J,f7 _ hall,?_,by simpa using hroom⟩,hv.app h3,hall,fun o ho=>by rw[aV.1 ho],by simpa using hcap⟩ (fun o ho=>by rw[aV.1 ho];exact aQ)
  (fun m B' hm e' o ho hmo=>?_) okW (ld rl))
 .rw[f7 _ hall,aR,gN,dW]
  simp only[if_true];rw[k5] at k6;omega
 .have hmn:m≠nm/\tb m=some B':=by
   simp only[Sx.upB] at e';split at e'
   .cases e'
   .exact⟨ome,e'⟩
  have hob:o.b≠b:=fun e6=>r.dj m nm B' _ hmn.2 (s2 _ _ hb) hmn.1 b (by rw[hmo,e6]) ha;refine⟨?_,fun e6=>by cases e6;exact hob J⟩;rcases aW.1 (hperm.mem_iff.1 ho) with rfl|ho
  .exact absurd J hob
  .exact aX _ ho
end
section
variable {GB:Gh} {C:aH} {n:Nat} {Q0:Exit->Act->World->Prop} {fr fr':aD} {own own':aO} {cf cf':Cf} {vc:List Prop}
def Xp[fu:Fu]{d e s b:Nat}{z:DV}{k':IntKind}(cap:Nat)(h:CH fr cf=some ⟨d,e,s,b,z,0⟩)(hy:(match dw fr cf with|some ⟨_, .makeSlice _ _ y,_,_,_,_⟩=>ba (co fr cf) y|_=>none)=some (.d (.v (.int k' (cap:Nat)))))
  (hgo:dl tt n fu.n fr own cf (.rw d) [(d,some (.c e s [] cap))] [d]=⟨vc,fr',own',cf'⟩)(k:ao prog GB C n Q0 fr' own' cf')(hb:b*cap<=140737488355328:=by omega)(hl:cap<=1152921504606846976:=by omega)
  (hv:autoParam (ae vc) cL._auto_1):ao prog GB C n Q0 fr own cf:=by
 unfold CH at h;split at h<;>try (cases h;done)
 rename_i hh;split at h<;>try (cases h;done)
 rename_i hx;split at h<;>try (cases h;done)
 rename_i hT;split at h<;>try (cases h;done)
 rename_i hi;split at h<;>try (cases h;done)
 rename_i hz;rw[cond_eq_ite] at h;split at h<;>cases h;rename_i hs;rw[hh] at hy;have:=jD (fp _ _ hT) J;exact us hh (aHm (fp _ _ hi) hz hs hx hy hb hl) hgo hv k
structure UZ where
 d:Nat
 nm:Nat
 e:Nat
 s:Nat
 ds:List DV
 ds2:List DV
 cap:Nat
def Oh(fr:aD)(own:aO)(cf:Cf):Option UZ:=match dw fr cf with
 |some ⟨some d, .call ⟨.builtin .append,⟨[x,y]⟩,⟨[t,t']⟩⟩,_,_,_,_⟩=>match eH tt t,eH tt t' with
  |some ⟨.sl e s _,_,_,_⟩,some ⟨.sl _ _ _,_,_,_⟩=>match ba (co fr cf) x with
   |some (.rw nm)=>match i6 fr own cf nm,r7 (co fr cf) (i6 fr own cf) s y with
    |some (.c e' s' ds cap),some ds2=>bif (Nat.beq e' e&&Nat.beq s' s)&&!Nat.beq nm d then some ⟨d,nm,e,s,ds,ds2,cap⟩ else none
    |_,_=>none
   |_=>none
  |_,_=>none
 |_=>none
def apc[fu:Fu]{d nm e s cap:Nat}{ds ds2:List DV}(ds':List DV)(h:Oh fr own cf=some ⟨d,nm,e,s,ds,ds2,cap⟩)(hds:ds++ds2=ds')(ho2:dH s ds2)(hc:ds.length+ds2.length<=cap)(hgo:dl tt n fu.n fr own cf (.rw d) [(nm,none),(d,some (.c e s ds' cap))] [d]=⟨vc,fr',own',cf'⟩)(k:ao prog GB C n Q0 fr' own' cf')
  (hp:0<ds2.length:=by simp)(hv:autoParam (ae vc) cL._auto_1):ao prog GB C n Q0 fr own cf:=by
 subst hds;unfold Oh at h;split at h<;>try (cases h;done)
 rename_i hh;split at h<;>try (cases h;done)
 rename_i hT hT';split at h<;>try (cases h;done)
 rename_i hx;split at h<;>try (cases h;done)
 rename_i hb hy;rw[cond_eq_ite] at h;split at h<;>cases h;rename_i h2;simp only[bT,fM] at h2
 cases aL h2.1.1
 cases aL h2.1.2
 have:=jD (fp _ _ hT) J;have hN:mA prog _:=⟨_,(jD (fp _ _ hT') J).un⟩;exact us hh (aJk hx hb hy ho2 hc hp h2.2) hgo hv k
def PI(GB:Gh)(P:Program)(f:FuncId)(i:Int)(s:Nat)(ty ty2:TypeId)(ds:List DV)(x:DV)(cap:Nat)(dso:List DV):Prop:=
 ∀G w w2 B B2,cc GB G->eB G ⟨w,s,ty,ds,false⟩ B->cap<=w.c->eB G ⟨w2,s,ty2,[x],false⟩ B2->oO P f [.slice w.a w.n w.c, .int .i64 i, .slice w2.a w2.n w2.c] (B++B2) G fun v own' G'=> ∃w',v= .slice w'.a w'.n w'.c/\eB G' ⟨w',s,ty,dso,false⟩ own'
structure CiA where
 f:FuncId
 nm:Nat
 nm2:Nat
 i:Int
 ty:TypeId
 ty2:TypeId
 s:Nat
 ds:List DV
 x:DV
 cap:Nat
 d:Nat
def MG(fr:aD)(own:aO)(cf:Cf):Option CiA:=match dw fr cf with
 |some ⟨some d, .call ⟨.value fo,⟨[x1,x2,x3]⟩,_⟩,_,_,_,_⟩=>match ba (co fr cf) fo,ba (co fr cf) x1 with
  |some (.d (.v (.func (.func f) ⟨[]⟩ ⟨[]⟩))),some (.rw nm)=>match ba (co fr cf) x2,ba (co fr cf) x3 with
   |some (.d (.v (.int .i64 i))),some (.rw nm2)=>match i6 fr own cf nm,i6 fr own cf nm2 with
    |some (.c ty s ds cap),some (.b ty2 s2 [x] true)=>bif (!Nat.beq nm d&&!Nat.beq nm2 d)&&(!Nat.beq nm nm2&&(Nat.beq s2 s&&Nat.blt 0 cap)) then some ⟨f,nm,nm2,i,ty,ty2,s,ds,x,cap,d⟩ else none
    |_,_=>none
   |_,_=>none
  |_,_=>none
 |_=>none
def US{lk:LK}{bk:BM}{fo x1 x2 x3:Operand}{tys:Array TypeId}{f:FuncId}{nm nm2 d cap s:Nat}{i:Int}{ty0 ty2:TypeId}{ty:TypeId}{pos:String}{af:Array Edge}{gd:Option (Nat×Bool)}{ds dso:List DV}{x:DV}(hne:Nat.beq nm d=false)(hne2:Nat.beq nm2 d=false)(hn2:Nat.beq nm nm2=false)(hcp:0<cap)
  (h0:ba lk fo=some (.d (.v (.func (.func f) ⟨[]⟩ ⟨[]⟩))))(h1:ba lk x1=some (.rw nm))(h2:ba lk x2=some (.d (.v (.int .i64 i))))(h3:ba lk x3=some (.rw nm2))(hb:bk nm=some (.c ty0 s ds cap))(hb2:bk nm2=some (.b ty2 s [x] true))(hF:PI GB prog f i s ty0 ty2 ds x cap dso):
  cg prog GB C n lk bk ⟨some d, .call ⟨.value fo,⟨[x1,x2,x3]⟩,tys⟩,ty,pos,af,gd⟩ (.rw d) [(nm,none),(nm2,none),(d,some (.b ty0 s dso true))] [d]:=by
 intro hd tl tb K' s1 s2 hf hk;refine⟨fun ρ G ov a w r Q=>?_⟩;have r1:=r.mono s1 s2;obtain⟨y,hy,hy'⟩:=r1.ev h0;rw[(bE (G:=G)).1 hy'] at hy;obtain⟨y1,p1,p1'⟩:=r1.ev h1
 cases (show y1=_ from p1')
 obtain⟨y2,p2,p2'⟩:=r1.ev h2;rw[dq] at p2';subst p2';obtain⟨y3,p3,p3'⟩:=r1.ev h3
 cases (show y3=_ from p3')
 have hnn:nm≠d:=fun e=>by subst e;rw[nN] at hne;cases hne
 have hnn2:nm2≠d:=fun e=>by subst e;rw[nN] at hne2;cases hne2
 have hnm:nm≠nm2:=fun e=>by subst e;rw[nN] at hn2;cases hn2
 obtain⟨B,g1,g2⟩:=r1.bx _ _ hb;obtain⟨B2,k1,k2⟩:=r1.bx _ _ hb2;obtain⟨vs,q1,q2,q3,q4,q5⟩:=g1;have hB:eB G ⟨ρ nm,s,ty0,ds,false⟩ B:=⟨vs,q1,q2,q3,fun h=>by cases h⟩;have hB2:eB G ⟨ρ nm2,s,ty2,[x],false⟩ B2:=eB.weak (lo:=true) k1;have e1: ∃o,B=[o]/\(ρ nm).a=some ⟨o.b,0,none⟩:=by
  rcases q1 with⟨_,e,_⟩|⟨b,rest,lo',e,rfl,_⟩
  .rw[e] at q5;simp at q5;omega
  .exact⟨_,J,by rw[e]⟩
 have e2: ∃o,B2=[o]/\(ρ nm2).a=some ⟨o.b,0,none⟩:=by
  obtain⟨vs2,c1,c2,_⟩:=k1;rcases c1 with⟨e,_,_⟩|⟨b,rest,lo',e,rfl,_⟩
  .subst e;have:=c2.len;simp at this
  .exact⟨_,J,by rw[e]⟩
 obtain⟨o1,rfl,a1⟩:=e1;obtain⟨o2,rfl,a2⟩:=e2;have hob:o1.b≠o2.b:=fun e=>r.dj nm nm2 _ _ (s2 _ _ hb) (s2 _ _ hb2) hnm _ a1 (by rw[a2,e]);have hp: ∃rest,ov.Perm ([o1]++[o2]++rest):=by
  obtain⟨l1,l2,e3⟩:=lV (g2 _ aQ);have hm:=k2 _ aQ;rw[e3] at hm⊢;have hm2:o2∈l1++l2:=by
   rcases bJ.1 hm with h|h
   .exact bK _ h
   .rcases aW.1 h with h|h
    .exact absurd (by rw[h]) hob
    .exact bW _ h
  obtain⟨l3,l4,e4⟩:=lV hm2;refine⟨l3++l4,List.perm_middle.trans ?_⟩;rw[e4];exact(nJ (l₁:=l3) (l₂:=l4) (a:=o2)).cons o1
 obtain⟨rest,h5⟩:=hp;have h6: ∀o∈ov,o.b≠o1.b->o.b≠o2.b->o∈rest:=fun o ho n1 n2=>by
  have:=h5.mem_iff.1 ho;simp only[jW,lQ,aW] at this;rcases this with rfl|rfl|h
  .exact absurd J n1
  .exact absurd J n2
  .exact h
 have hlo2: ∀o∈[o2],o.lo=true:=by obtain⟨_,_,_,_,h⟩:=k1;exact h rfl
 have hall: ∀o∈[o1]++[o2],o.lo=true:=fun o ho=>by
  rcases bJ.1 ho with h|h
  .exact q4 o h
  .exact hlo2 o h
 refine wn (M:=[o1]++[o2]) (rest:=rest) (vs:=[.slice (ρ nm).a (ρ nm).n (ρ nm).c, .int .i64 i, .slice (ρ nm2).a (ρ nm2).n (ρ nm2).c]) hy (by simp only[gH,p1,p2,p3]) h5 (hF G (ρ nm) (ρ nm2) [o1] [o2] r.gb hB q5 hB2) hd (fun v own1 G' hG hK a' w' rl=>?_) a w Q ⟨r.h,r.sz,dt a,r.df⟩;obtain⟨z,rfl,vs',k1',k2',k3',k4'⟩:=hK;have hs1:=k1'.relo (iB ([o1]++[o2]));have e3: ∀o∈own1.map (relo (iB ([o1]++[o2]))),o.lo=true:=fun o ho=>by
  obtain⟨o',_,rfl⟩:=aS.1 ho;exact C0 _ hall
 generalize own1.map (relo (iB ([o1]++[o2])))=B' at rl e3 hs1;have rl':jg C n (Sx.put (de a) (some d) (.slice z.a z.n z.c)) (B'++rest) G' a' w':=rl;have hdis:=(gK.1 rl'.h.nd).2.2;have rd:=(r.dropB nm).dropB nm2;have hin: ∀q B0,Sx.upB (Sx.upB tb [(nm,none)]) [(nm2,none)] q=some B0->q≠nm/\q≠nm2/\tb q=some B0:=fun q B0 e=>by
  simp only[Sx.upB] at e;split at e
  .cases e
  .split at e
   .cases e
   .exact⟨ome,ome,e⟩
 have hf2:kO [d] (some d) tl (Sx.upB (Sx.upB tb [(nm,none)]) [(nm2,none)]):=fun q hq=>by
  obtain⟨f1,f2⟩:=hf q hq;exact⟨f1,fun k B e1 e=>f2 k B e1 (hin k B e).2.2⟩
 have hsep: ∀q B0,Sx.upB (Sx.upB tb [(nm,none)]) [(nm2,none)] q=some B0-> ∀o∈ov,(ρ q).a=some ⟨o.b,0,none⟩->o∈rest:=fun q B0 e o ho hbq=>by
  obtain⟨n1,n2,n3⟩:=hin q B0 e;exact h6 o ho (fun e'=>r.dj nm q _ _ (s2 _ _ hb) n3 (Ne.symm n1) _ a1 (by rw[hbq,e'])) (fun e'=>r.dj nm2 q _ _ (s2 _ _ hb2) n3 (Ne.symm n2) _ a2 (by rw[hbq,e']))
 have r3:=rd.new' (x:=z) (B':= .b ty0 s dso true) (os:=B') (ov':=B'++rest) (f:= .rw d) (y:= .slice z.a z.n z.c) hf2 hG.le rl'.h ⟨vs',by simpa using hs1,k2',k3',fun _=>e3⟩ (fun o ho=>bK _ ho)
  (fun q B0 hq e o ho hbq=>⟨bW _ (hsep q B0 e o ho hbq),fun hc=>by
   have hx: ∃o1∈B',o1.b=o.b:=by
    rcases hs1 with⟨_,h,_⟩|⟨b0,rest0,lo0,h,hB,_⟩
    .rw[show z=_ from h] at hc;cases hc
    .rw[show z=_ from h] at hc;cases hc;exact⟨⟨_,aG vs'++rest0,_,lo0⟩,by rw[hB];exact aQ,J⟩
   obtain⟨o3,ho3,he3⟩:=hx;exact hdis o3 ho3 o (hsep q B0 e o ho hbq) he3⟩) okW (ld rl')
 exact hk.run _ G' _ a' w' r3
def ci[fu:Fu]{f:FuncId}{nm nm2 d cap s:Nat}{i:Int}{ty ty2:TypeId}{ds dso:List DV}{x:DV}(dso':List DV)(ha:MG fr own cf=some ⟨f,nm,nm2,i,ty,ty2,s,ds,x,cap,d⟩)(hF:PI GB prog f i s ty ty2 ds x cap dso)(he:dso=dso')
  (hgo:dl tt n fu.n fr own cf (.rw d) [(nm,none),(nm2,none),(d,some (.b ty s dso' true))] [d]=⟨vc,fr',own',cf'⟩)(k:ao prog GB C n Q0 fr' own' cf')
  (hv:autoParam (ae vc) cL._auto_1):ao prog GB C n Q0 fr own cf:=by
 subst he;unfold MG at ha;split at ha<;>try (cases ha;done)
 rename_i hh;split at ha<;>try (cases ha;done)
 rename_i h0 h1;split at ha<;>try (cases ha;done)
 rename_i h2 h3;split at ha<;>try (cases ha;done)
 rename_i hb hb2;rw[cond_eq_ite] at ha;split at ha<;>cases ha;rename_i hc;simp only[bT,fM,lJ] at hc;obtain⟨⟨c1,c2⟩,c3,c4,c5⟩:=hc
 cases aL c4
 exact us hh (US c1 c2 c3 c5 h0 h1 h2 h3 hb hb2 hF) hgo hv k
def rk(d:Nat){ops:Array Oper}{r:List Oper}{K:List Kt}(hl:bh fr d=some (.d (.v (.bool true))))(k:ao prog GB C n Q0 ((d, .tt)::fr) own (.ops ops r K)):ao prog GB C n Q0 fr own (.ops ops r K):=qO (g:= .tt) hl (fun _ G _ e=>(bE (G:=G)).1 e) k
def xM(d:Nat){ops:Array Oper}{r:List Oper}{K:List Kt}(hl:bh fr d=some (.d (.v (.bool false))))(k:ao prog GB C n Q0 ((d, .ff)::fr) own (.ops ops r K)):ao prog GB C n Q0 fr own (.ops ops r K):=qO (g:= .ff) hl (fun _ G _ e=>(bE (G:=G)).1 e) k
end
section
variable {GB:Gh} {C:aH} {n:Nat} {Q0:Exit->Act->World->Prop} {fr fr':aD} {own own':aO} {cf cf':Cf} {vc:List Prop}
def MQ(fr:aD)(cf:Cf):Option (Int×Int):=match dw fr cf with
 |some ⟨_, .binOp .xor _ x y _,_,_,_,_⟩=>match ba (co fr cf) x,ba (co fr cf) y with
  |some (.d (.v (.int .u32 p))),some (.d (.v (.int .u32 q)))=>some (p,q)
  |_,_=>none
 |_=>none
def xr[fu:Fu]{p q:Int}(u:Int)(h:MQ fr cf=some (p,q))(e:(((BitVec.ofInt 32 p^^^BitVec.ofInt 32 q).toNat:Nat):Int)=u)(hgo:dl tt n fu.n fr own cf (.d (.v (.int .u32 u))) [] []=⟨vc,fr',own',cf'⟩)(k:ao prog GB C n Q0 fr' own' cf')
  (hv:autoParam (ae vc) cL._auto_1):ao prog GB C n Q0 fr own cf:=by
 unfold MQ at h;split at h<;>try (cases h;done)
 rename_i hh;split at h<;>cases h;rename_i h1 h2;subst e;exact us hh (.yd fun ρ G ov a w r=>by
  obtain⟨y1,h3,h4⟩:=r.ev h1;obtain⟨y2,h5,h6⟩:=r.ev h2;rw[dq] at h4 h6;subst h4 h6;exact⟨_,dq.2 J,mj h3 h5 fun w=>by
   show(pure (Value.int .u32 (IntKind.u32.wrap ((BitVec.ofInt 32 p^^^BitVec.ofInt 32 q).toNat:Int))):Sem Value).run prog w=_;rw[Eb];rfl⟩) hgo hv k
def RB(fr:aD)(cf:Cf):Option (Int×Int):=match dw fr cf with
 |some ⟨_, .binOp .sub _ x y _,_,_,_,_⟩=>match ba (co fr cf) x,ba (co fr cf) y with
  |some (.d (.v (.int .u32 p))),some (.d (.v (.int .u32 q)))=>some (p,q)
  |_,_=>none
 |_=>none
def sw[fu:Fu]{p q:Int}(u:Int)(h:RB fr cf=some (p,q))(e:(p-q)%4294967296=u)(hgo:dl tt n fu.n fr own cf (.d (.v (.int .u32 u))) [] []=⟨vc,fr',own',cf'⟩)(k:ao prog GB C n Q0 fr' own' cf')
  (hv:autoParam (ae vc) cL._auto_1):ao prog GB C n Q0 fr own cf:=by
 unfold RB at h;split at h<;>try (cases h;done)
 rename_i hh;split at h<;>cases h;rename_i h1 h2;subst e;exact us hh (.yd fun ρ G ov a w r=>by
  obtain⟨y1,h3,h4⟩:=r.ev h1;obtain⟨y2,h5,h6⟩:=r.ev h2;rw[dq] at h4 h6;subst h4 h6;exact⟨_,dq.2 J,by rw[<-u7];exact aEo h3 h5⟩) hgo hv k
def RG(fr:aD)(cf:Cf):Option Int:=match dw fr cf with
 |some ⟨_, .unOp .xor _ x,_,_,_,_⟩=>match ba (co fr cf) x with
  |some (.d (.v (.int .u32 p)))=>some p
  |_=>none
 |_=>none
def nt[fu:Fu]{p:Int}(u:Int)(h:RG fr cf=some p)(e:(((BitVec.ofInt 32 IntKind.u32.max^^^BitVec.ofInt 32 p).toNat:Nat):Int)=u)(hgo:dl tt n fu.n fr own cf (.d (.v (.int .u32 u))) [] []=⟨vc,fr',own',cf'⟩)(k:ao prog GB C n Q0 fr' own' cf')
  (hv:autoParam (ae vc) cL._auto_1):ao prog GB C n Q0 fr own cf:=by
 unfold RG at h;split at h<;>try (cases h;done)
 rename_i hh;split at h<;>cases h;rename_i hx;subst e;refine us hh (.x1 hx fun ρ G ov a w y _ r h1 h2=>?_) hgo hv k;rw[dq] at h2;subst h2;refine⟨_,dq.2 J,fun a w hf hh=>?_⟩;simp only[execOp,bu hf h1];refine dC (w':=w) ?_;show(pure (Value.int .u32 (IntKind.u32.wrap ((BitVec.ofInt 32 IntKind.u32.max^^^BitVec.ofInt 32 p).toNat:Int))):Sem Value).run prog w=_;rw[Eb];rfl
end

end Go.Sx
end
