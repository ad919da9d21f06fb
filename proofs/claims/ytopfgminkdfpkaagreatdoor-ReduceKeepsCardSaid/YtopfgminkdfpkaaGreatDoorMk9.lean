/- Part 9 of a proof. -/
import Derived.Test.YtopfgminkdfpkaaGreatDoorMk8
set_option linter.unusedSimpArgs false
set_option maxRecDepth 100000
set_option linter.unusedVariables false
section
namespace Go.Sx
open Go Go.Proofs Tryz
section
variable {GB:Gh} {C:Ctx} {n:Nat} {Q0:Exit→Act→World→Prop} {fr fr':FrX} {own own':OwX} {cf cf':Cf} {vc:List Prop} {ops:Array Oper} {o:Oper} {K:List Kt} {r:List Oper}
/-! ### names anew -/
def rnN(x y m:Nat)(k:Option Nat):Option Nat:=bif Nat.beq m x then some y else bif Nat.beq m y then none else k
def rnX(x y:Nat):FX→FX
 | .rw m=>bif Nat.beq m x then .rw y else bif Nat.beq m y then .no else .rw m
 | .ov m o=>bif Nat.beq m x then .ov y o else bif Nat.beq m y then .no else .ov m o
 | .be m s i j=>bif Nat.beq m x then .be y s i j else bif Nat.beq m y then .no else .be m s i j
 | .rs m s i j=>bif Nat.beq m x then .rs y s i j else bif Nat.beq m y then .no else .rs m s i j
 | .bx tp pre m post=>bif Nat.beq m x then .bx tp pre y post else bif Nat.beq m y then .no else .bx tp pre m post
 |f=>f
def rnB(x y:Nat):Option Bk→Option Bk
 |some (.o ty cs lo)=>some (.o ty (cs.map (rnX x y)) lo)
 |B=>B
def rnK(x y k:Nat):Nat:=bif Nat.beq k x then y else bif Nat.beq k y then x else k
def ayJ{α:Type}(g:FX→FX):List FX→(List FX→α)→α
 |[],k=>k []
 |f::t,k=>ayJ g t fun t'=>fcX (g f) fun f'=>k (f'::t')
theorem apE{α:Type}{g:FX→FX}: ∀{cs:List FX} {k:List FX→α},ayJ g cs k=k (cs.map g)
 |[],k=>rfl
 |f::t,k=>by simp only[ayJ,amb];rw[apE];rfl
def ayP{α:Type}(g:FX→FX):FrX→(FrX→α)→α
 |[],k=>k []
 |(j,f)::t,k=>ayP g t fun t'=>fcX (g f) fun f'=>k ((j,f')::t')
theorem aos{α:Type}{g:FX→FX}: ∀{fr:FrX} {k:FrX→α},ayP g fr k=k (fr.map fun e=>(e.1,g e.2))
 |[],k=>rfl
 |(j,f)::t,k=>by simp only[ayP,amb];rw[aos];rfl
def rnO{α:Type}(x y:Nat):OwX→(OwX→α)→α
 |[],k=>k []
 |(j,B)::t,k=>rnO x y t fun t'=>bif Nat.beq j y then k ((x,none)::t') else match B with
  |some (.o ty cs lo)=>ayJ (rnX x y) cs fun cs'=>bif Nat.beq j x then k ((y,some (.o ty cs' lo))::t') else k ((j,some (.o ty cs' lo))::t')
  |B=>bif Nat.beq j x then k ((y,B)::t') else k ((j,B)::t')
theorem aty{α:Type}{x y:Nat}: ∀{own:OwX} {k:OwX→α},rnO x y own k=k (own.map fun e=>(bif Nat.beq e.1 y then x else bif Nat.beq e.1 x then y else e.1,bif Nat.beq e.1 y then none else rnB x y e.2))
 |[],k=>rfl
 |(j,B)::t,k=>by
  simp only[rnO,aty (own:=t),bL]
  cases Nat.beq j y with
  |true=>rfl
  |false=>
   cases B with
   |none=>cases Nat.beq j x<;>rfl
   |some B=>cases B<;>cases Nat.beq j x<;>simp only[cond_false,cond_true,apE,rnB]
theorem al4{x y:Nat}(hxy:x≠y): ∀{own:OwX} {k:Nat},aaA (own.map fun e=>(bif Nat.beq e.1 y then x else bif Nat.beq e.1 x then y else e.1,bif Nat.beq e.1 y then none else rnB x y e.2)) k=if k=x then none else if k=y then rnB x y (aaA own x) else rnB x y (aaA own k)
 |[],k=>by simp[aaA,rnB]
 |(j,B)::t,k=>by
  have bq: ∀a b:Nat,Nat.beq a b=decide (a=b):=fun a b=>by
   by_cases h:a=b
   ·subst h;simp
   ·rw[decide_eq_false h]
    cases hb:Nat.beq a b with
    |false=>rfl
    |true=>exact absurd (aW hb) h
  simp only[bL]
  rw[aaL,al4 hxy (own:=t),aaL,aaL]
  by_cases h1:j=y
  ·subst h1
   simp only[bq,decide_true,cond_true]
   by_cases h2:k=x
   ·simp[h2]
   ·by_cases h3:k=j
    ·subst h3;simp[h2,Ne.symm h2,hxy]
    ·simp[h2,h3]
  ·by_cases h4:j=x
   ·subst h4
    simp only[bq,h1,decide_false,cond_false,decide_true,cond_true]
    by_cases h2:k=y
    ·subst h2;simp[Ne.symm h1]
    ·by_cases h3:k=j
     ·subst h3;simp[h1]
     ·simp[h2,h3]
   ·simp only[bq,h1,h4,decide_false,cond_false]
    by_cases h2:k=j
    ·subst h2;simp[h1,h4]
    ·by_cases h3:k=x
     ·subst h3;simp[h2]
     ·by_cases h5:k=y
      ·subst h5;simp[h2,h3,Ne.symm h4]
      ·simp[h2,h3,h5]
theorem asO{x y:Nat}(hxy:x≠y){ρ:NE}{G:Gh}{f:FX}{v:Value}(h:IsX ρ G f v):IsX (fun k=>if k=y then ρ x else ρ k) G (rnX x y f) v:=by
 have key: ∀m:Nat,Nat.beq m y=false→(fun k=>if k=y then ρ x else ρ k) m=ρ m:=fun m hm=>if_neg fun e=>by subst e;simp at hm
 cases f with
 |rw m=>
  simp only[rnX]
  cases hb:Nat.beq m x with
  |true=>cases aW hb;simp only[cond_true];show v=_;simp;exact h
  |false=>
   cases hb':Nat.beq m y with
   |true=>trivial
   |false=>simp only[cond_false];show v=_;rw[key m hb'];exact h
 |ov m off=>
  simp only[rnX]
  cases hb:Nat.beq m x with
  |true=>cases aW hb;simp only[cond_true];obtain⟨b,h1,h2⟩:=h;exact⟨b,by simp;exact h1,h2⟩
  |false=>
   cases hb':Nat.beq m y with
   |true=>trivial
   |false=>simp only[cond_false];obtain⟨b,h1,h2⟩:=h;exact⟨b,by rw[key m hb'];exact h1,h2⟩
 |be m s i j=>
  simp only[rnX]
  cases hb:Nat.beq m x with
  |true=>cases aW hb;simp only[cond_true];obtain⟨b,h1,h2⟩:=h;exact⟨b,by simp;exact h1,h2⟩
  |false=>
   cases hb':Nat.beq m y with
   |true=>trivial
   |false=>simp only[cond_false];obtain⟨b,h1,h2⟩:=h;exact⟨b,by rw[key m hb'];exact h1,h2⟩
 |rs m s i j=>
  simp only[rnX]
  cases hb:Nat.beq m x with
  |true=>cases aW hb;simp only[cond_true];obtain⟨b,c,h1,h2⟩:=h;exact⟨b,c,by simp;exact h1,h2⟩
  |false=>
   cases hb':Nat.beq m y with
   |true=>trivial
   |false=>simp only[cond_false];obtain⟨b,c,h1,h2⟩:=h;exact⟨b,c,by rw[key m hb'];exact h1,h2⟩
 |bx tp pre m post=>
  simp only[rnX]
  cases hb:Nat.beq m x with
  |true=>cases aW hb;simp only[cond_true];obtain⟨m1,m2,e,h1,h2⟩:=h;exact⟨m1,m2,by simpa using e,h1,h2⟩
  |false=>
   cases hb':Nat.beq m y with
   |true=>trivial
   |false=>simp only[cond_false];obtain⟨m1,m2,e,h1,h2⟩:=h;exact⟨m1,m2,by rw[key m hb'];exact e,h1,h2⟩
 |_=>exact h
theorem aoB{x y:Nat}(hxy:x≠y){ρ:NE}{G:Gh}: ∀{cs:List FX} {m:List Value},ac5 ρ G cs m→ac5 (fun k=>if k=y then ρ x else ρ k) G (cs.map (rnX x y)) m
 |[],m,h=>h
 |f::t,m,⟨v,q,e,h1,h2⟩=>⟨v,q,e,asO hxy h1,aoB hxy h2⟩
def rnA(x y:Nat)(fr:FrX)(own:OwX):Option FzR:=bif Nat.beq x y then none else ayP (rnX x y) fr fun fr'=>rnO x y own fun own'=>some ⟨fr',own'⟩
theorem ayv{x y:Nat}{Φ:Act→World→Prop}{R:FzR}(h:rnA x y fr own=some R)(hk:SX GB C n (aau R.fr) (aaA R.own) Φ):SX GB C n (aau fr) (aaA own) Φ:=by
 unfold rnA at h
 rw[cond_eq_ite] at h
 split at h<;>try (cases h;done)
 rename_i hb
 have hxy:x≠y:=fun e=>hb (by subst e;simp)
 rw[aos,aty] at h;cases h
 refine⟨fun ρ G ov a w r=>hk.run (fun k=>if k=y then ρ x else ρ k) G ov a w ?_⟩
 have inv: ∀m B,aaA (own.map fun e=>(bif Nat.beq e.1 y then x else bif Nat.beq e.1 x then y else e.1,bif Nat.beq e.1 y then none else rnB x y e.2)) m=some B→ ∃m0 B0,aaA own m0=some B0∧rnB x y (some B0)=some B∧(m=y∧m0=x∨m≠y∧m≠x∧m0=m):=fun m B e=>by
  rw[al4 hxy] at e
  split at e
  ·cases e
  ·rename_i hm
   split at e
   ·cases hl:aaA own x with
    |none=>rw[hl] at e;cases e
    |some B0=>rw[hl] at e;exact⟨x,B0,hl,e, .inl ⟨by assumption,rfl⟩⟩
   ·cases hl:aaA own m with
    |none=>rw[hl] at e;cases e
    |some B0=>rw[hl] at e;exact⟨m,B0,hl,e, .inr ⟨by assumption,hm,rfl⟩⟩
 have rho: ∀m m0,(m=y∧m0=x∨m≠y∧m≠x∧m0=m)→(fun k=>if k=y then ρ x else ρ k) m=ρ m0:=fun m m0 h=>by
  rcases h with⟨h1,h2⟩|⟨h1,_,h2⟩
  ·subst h1 h2;simp
  ·subst h2;exact if_neg h1
 refine⟨r.gb,r.h,r.sz,r.df,fun k f e=>?_,fun m B e=>?_,fun m m' B B' e e' hne=>?_⟩
 ·rw[aiP] at e
  cases hf:aau fr k with
  |none=>rw[hf] at e;cases e
  |some g=>
   rw[hf] at e;cases e
   obtain⟨v,h1,h2⟩:=r.fx k g hf
   exact⟨v,h1,asO hxy h2⟩
 ·obtain⟨m0,B0,h1,h2,h3⟩:=inv m B e
  obtain⟨os,h4,h5⟩:=r.bx m0 B0 h1
  refine⟨os,?_,h5⟩
  have hr:=rho m m0 h3
  cases B0 with
  |b=>cases h2;obtain⟨vs,q1,q2,q3,q4⟩:=h4;exact⟨vs,by rw[hr];exact q1,q2,q3,q4⟩
  |c=>cases h2;obtain⟨vs,q1,q2,q3,q4,q5⟩:=h4;exact⟨vs,by rw[hr];exact q1,q2,q3,q4,by rw[hr];exact q5⟩
  |o ty cs lo=>cases h2;obtain⟨b,q,q1,q2,q3⟩:=h4;exact⟨b,q,by rw[hr];exact q1,q2,aoB hxy q3⟩
 ·obtain⟨m0,B0,h1,_,h3⟩:=inv m B e
  obtain⟨m1,B1,h4,_,h6⟩:=inv m' B' e'
  have q1:=rho m m0 h3
  have q2:=rho m' m1 h6
  simp only at q1 q2
  rw[q1,q2]
  refine r.dj m0 m1 B0 B1 h1 h4 fun e=>?_
  rcases h3 with⟨h7,h8⟩|⟨h7,h8,h9⟩<;>rcases h6 with⟨g7,g8⟩|⟨g7,g8,g9⟩
  ·exact hne (h7.trans g7.symm)
  ·exact g8 (by rw[←g9,←e,h8])
  ·exact h8 (by rw[←h9,e,g8])
  ·exact hne (by rw[←h9,e,g9])
theorem rnE(x y:Nat){fr1:FrX}{own1:OwX}{e:Exit}(h:rnA x y fr own=some ⟨fr1,own1⟩)(k:CfS prog GB C n Q0 fr1 own1 (.ex e K)):CfS prog GB C n Q0 fr own (.ex e K):=ayv h k
theorem arj{d nm:Nat}(hl:aau fr d=some .nl){Φ:Act→World→Prop}{ty s:Nat}(hf:acg [nm] none (aau fr) (aaA own))(h:SX GB C n (aau ((d, .rw nm)::fr)) (aaA (auS own nm (some (.b ty s [] true)))) Φ):SX GB C n (aau fr) (aaA own) Φ:=by
 refine⟨fun ρ G ov a w r=>?_⟩
 obtain⟨f1,f2⟩:=hf nm aQ
 have hset:aaA (auS own nm (some (.b ty s [] true)))=upB (aaA own) [(nm,some (.b ty s [] true))]:=by funext j;rw[ahb];rfl
 rw[hset] at h
 refine h.run (fun k=>if k=nm then⟨none,0,0⟩ else ρ k) G ov a w ⟨r.gb,r.h,r.sz,r.df,fun k f e=>?_,fun m B e=>?_,fun m m' B B' e e' hne=>?_⟩
 ·rw[aa1] at e
  split at e
  ·cases e;rename_i hk;subst hk
   obtain⟨v,h1,h2⟩:=r.fx _ _ hl
   exact⟨v,h1,by rw[show v=_ from h2];show _=_;simp⟩
  ·obtain⟨v,h1,h2⟩:=r.fx k f e
   exact⟨v,h1,h2.ren fun m hm=>neN _ fun hc=>f1 k f (by simp) e (by rw[hm,hc])⟩
 ·simp only[upB] at e
  by_cases hm:m=nm
  ·subst hm;simp only[if_true] at e;cases e
   exact⟨[],⟨[],by simp only[if_true];exact .inl ⟨rfl,rfl,rfl⟩, .nil,by simp,fun _ o ho=>by cases ho⟩,fun o ho=>by cases ho⟩
  ·simp only[hm,if_false] at e
   obtain⟨os,h1,h2⟩:=r.bx m B e
   exact⟨os,h1.ren (if_neg hm) fun q hq=>neN _ fun hc=>f2 m B hm e (by rw[←hc];exact hq),h2⟩
 ·simp only[upB] at e e'
  intro b hb hb'
  by_cases hm:m=nm
  ·simp[hm] at hb
  ·by_cases hm':m'=nm
   ·simp[hm'] at hb'
   ·simp only[hm,hm',if_false] at e e' hb hb'
    exact r.dj m m' B B' e e' hne b hb hb'
theorem nr(d nm ty s:Nat){own1:OwX}{c:Code}(hl:aau fr d=some .nl)(hf:agu [nm] none fr own=true)(ho:atT own nm (some (.b ty s [] true)) id=own1)(k:CfS prog GB C n Q0 ((d, .rw nm)::fr) own1 (.code c K)):CfS prog GB C n Q0 fr own (.code c K):=by
 subst ho
 exact arj hl (ae6 hf) k
/-! ### calls that borrow a variable -/
def mkP:List (Option DV)→Nat→List DV
 |[],_=>[]
 |some d::t,b=>d::mkP t b
 |none::t,b=> .v (.pointer (some ⟨b,0,none⟩))::mkP t b
def ayF(lk:LK):List Operand→Option (Option Nat×List (Option DV))
 |[]=>some (none,[])
 |x::t=>match evX lk x,ayF lk t with
  |some (.ov nm 0),some (none,l)=>some (some nm,none::l)
  |some f,some (q,l)=>match ahU f with
   |some d=>some (q,some d::l)
   |none=>none
  |_,_=>none
def auo(lk:LK)(fo:Operand)(args:Array Operand):Option (FuncId×Nat×List (Option DV)):=match evX lk fo with
 |some (.d (.v (.func (.func f) ⟨[]⟩ ⟨[]⟩)))=>match ayF lk args.toList with
  |some (some nm,l)=>some (f,nm,l)
  |_=>none
 |_=>none
theorem aky{lk:LK}{bk:BM}{ρ:NE}{G:Gh}{ov:List Own}{a:Act}{w:World}(r:RlX GB C n lk bk ρ G ov a w){b:Nat}: ∀{x:List Operand} {q:Option Nat} {l:List (Option DV)},ayF lk x=some (q,l)→(∀nm,q=some nm→(ρ nm).a=some ⟨b,0,none⟩)→
  ∃y,aeM (frA a) x=some y∧IsLs G (mkP l b) y
 |[],q,l,e,_=>by cases e;exact⟨[],rfl, .nil⟩
 |x::t,q,l,e,hb=>by
  simp only[ayF] at e
  split at e
  ·rename_i nm l' h1 h2
   cases e
   obtain⟨y,h3,b',h4,rfl⟩:=r.ev h1
   have:=hb nm rfl
   rw[h4] at this;cases this
   obtain⟨ys,h5,h6⟩:=aky r (b:=b) h2 (fun nm e=>by cases e)
   exact⟨_::ys,by simp only[aeM,h3,h5], .cons ((aaM (G:=G)).2 rfl) h6⟩
  ·rename_i f q' l' _ h1 h2
   cases hd:ahU f with
   |none=>rw[hd] at e;cases e
   |some d=>
   rw[hd] at e;cases e
   obtain⟨y,h3,h4⟩:=r.ev h1
   obtain⟨ys,h5,h6⟩:=aky r (b:=b) h2 hb
   exact⟨y::ys,by simp only[aeM,h3,h5], .cons (aca h4 hd) h6⟩
  ·cases e
theorem RlX.lend{lk:LK}{bk:BM}{ρ:NE}{G:Gh}{ov:List Own}{a:Act}{w:World}{nm:Nat}{ty:TypeId}{cs:List FX}{lo:Bool}{csd:List DV}(r:RlX GB C n lk bk ρ G ov a w)(hb:bk nm=some (.o ty cs lo))(hc:aey cs=some csd):
  ∃b m rest,(ρ nm).a=some ⟨b,0,none⟩∧IsLs G csd m∧ov.Perm ([⟨b,m,ty,lo⟩]++rest)∧ ∀o∈ov,o.b≠b→o∈rest:=by
 obtain⟨os,⟨b,m,h1,rfl,h2⟩,h3⟩:=r.bx _ _ hb
 obtain⟨l1,l2,rfl⟩:=jQ (h3 _ aQ)
 refine⟨b,m,l1++l2,h1,adD h2 hc,kW,fun o ho hne=>?_⟩
 rcases bS.1 ho with ho|ho
 ·exact bW _ ho
 ·rcases aS.1 ho with rfl|ho
  ·exact absurd rfl hne
  ·exact bR _ ho
theorem asC{P:Program}{lk:LK}{bk:BM}{fo:Operand}{args:Array Operand}{tys:Array TypeId}{f:FuncId}{nm:Nat}{l:List (Option DV)}{rv:DV}{dst:Option Nat}{ty ty0:TypeId}{pos:String}{af:Array Edge}{gd:Option (Nat×Bool)}{cs:List FX}{csd cs':List DV}{lo:Bool}
  (ha:auo lk fo args=some (f,nm,l))(hb:bk nm=some (.o ty0 cs lo))(hc:aey cs=some csd)(hF: ∀b,PM GB P f (mkP l b) b ty0 csd rv cs'){csx:List FX}(hx:cs'.map .d=csx):OpR P GB C n lk bk ⟨dst, .call ⟨.value fo,args,tys⟩,ty,pos,af,gd⟩ (.d rv) [(nm,some (.o ty0 csx lo))] []:=by
 intro hd tl tb K' s1 s2 hf hk
 refine⟨fun ρ G ov a w r Q=>?_⟩
 subst hx
 have r1:=r.mono s1 s2
 unfold auo at ha
 split at ha<;>try (cases ha;done)
 rename_i h1
 split at ha<;>cases ha
 rename_i h2
 obtain⟨y,hy,hy'⟩:=r1.ev h1
 rw[(aaM (G:=G)).1 hy'] at hy
 obtain⟨b,m,rest,h3,h4,h5,h6⟩:=r1.lend hb hc
 obtain⟨vs,h7,h8⟩:=aky r1 (b:=b) h2 (fun nm e=>by cases e;exact h3)
 refine agq (M:=[⟨b,m,ty0,lo⟩]) (rest:=rest) hy h7 h5 (hF b G vs m lo r.gb h8 h4) hd (fun v css G' hG hl hK a' w' rl=>?_) a w Q ⟨r.h,r.sz,aaK a,r.df⟩
 obtain⟨hr,m',rfl,hm'⟩:=hK
 have rl':Rel C n (Sx.put (frA a) dst v) (⟨b,m',ty0,lo⟩::rest) G' a' w':=rl
 have r2:=r.upB (G':=G') (ov':=⟨b,m',ty0,lo⟩::rest) (w':=w') (B':= .o ty0 (cs'.map .d) lo) (os:=[⟨b,m',ty0,lo⟩]) hG.le rl'.h ⟨b,m',h3,rfl,agJ hm'⟩ (fun o ho=>by rw[aN.1 ho];exact aQ)
  (fun o ho hne=>aZ _ (h6 o ho fun e=>hne (by rw[h3,e]))) ⟨_,s2 _ _ hb⟩
 exact hk.run ρ G' _ a' w' (r2.put (f:= .d rv) hr (aa8 rl'))
structure CmA where
 f:FuncId
 nm:Nat
 l:List (Option DV)
 ty:TypeId
 cs:List DV
 lo:Bool
def aAL(fr:FrX)(own:OwX)(cf:Cf):Option CmA:=match opC fr cf with
 |some ⟨_, .call ⟨.value fo,args,_⟩,_,_,_,_⟩=>match auo (lkC fr cf) fo args with
  |some (f,nm,l)=>match bkC fr own cf nm with
   |some (.o ty cs lo)=>match aey cs with
    |some csd=>some ⟨f,nm,l,ty,csd,lo⟩
    |none=>none
   |_=>none
  |none=>none
 |_=>none
def av8{α:Type}:List DV→(List FX→α)→α
 |[],k=>k []
 |d::t,k=>av8 t fun t'=>k (.d d::t')
theorem ai8{α:Type}: ∀{l:List DV} {k:List FX→α},av8 l k=k (l.map .d)
 |[],k=>rfl
 |d::t,k=>by simp only[av8];rw[ai8];rfl
theorem cm[fu:Fu]{f:FuncId}{nm:Nat}{l:List (Option DV)}{ty:TypeId}{cs cs':List DV}{lo:Bool}{rv:DV}(ha:aAL fr own cf=some ⟨f,nm,l,ty,cs,lo⟩)(hF: ∀b,PM GB prog f (mkP l b) b ty cs rv cs')
  (hgo:(av8 cs' fun csx=>goA tt n fu.n fr own cf (.d rv) [(nm,some (.o ty csx lo))] [])=⟨vc,fr',own',cf'⟩)(k:CfS prog GB C n Q0 fr' own' cf')
  (hv:aag vc:=by first|exact trivial|(simp only[aag];kernel_rfl)|(simp only[aag];omega)|(simp only[aag,aX,aY,aV];omega)):CfS prog GB C n Q0 fr own cf:=by
 unfold aAL at ha
 split at ha<;>try (cases ha;done)
 rename_i hh
 split at ha<;>try (cases ha;done)
 rename_i h1
 split at ha<;>try (cases ha;done)
 rename_i h2
 split at ha<;>cases ha
 rename_i h3
 rw[ai8] at hgo
 exact us hh (asC h1 h2 h3 hF rfl) hgo hv k
abbrev NM:Nat:=1000000
def ahC:Nat→List (Option DV)→FrX
 |_,[]=>[]
 |i,some v::t=>(i, .d v)::ahC (i+1) t
 |i,none::t=>(i, .ov NM 0)::ahC (i+1) t
theorem akV(b:Nat): ∀l:List (Option DV),(mkP l b).length=l.length
 |[]=>rfl
 |some d::t=>by simp[mkP,akV b t]
 |none::t=>by simp[mkP,akV b t]
theorem aeN{b:Nat}{ρ:NE}{G:Gh}(hρ:(ρ NM).a=some ⟨b,0,none⟩): ∀{ds:List (Option DV)} {vs:List Value} (i:Nat),IsLs G (mkP ds b) vs→ ∀k f,aau (ahC i ds) k=some f→ ∃y,(∃j,k=i+j∧vs[j]? =some y)∧IsX ρ G f y
 |[],vs,i,h,k,f,e=>by cases e
 |some d::t,vs,i,h,k,f,e=>by
  obtain⟨y,m,rfl,h1,h2⟩:=aab.1 h
  simp only[ahC] at e
  rw[aa1] at e
  split at e
  ·cases e;rename_i hk;exact⟨y,⟨0,hk,rfl⟩,h1⟩
  ·obtain⟨u,⟨j,hj,hu⟩,h3⟩:=aeN hρ (i+1) h2 k f e
   exact⟨u,⟨j+1,by omega,by simpa using hu⟩,h3⟩
 |none::t,vs,i,h,k,f,e=>by
  obtain⟨y,m,rfl,h1,h2⟩:=aab.1 h
  simp only[ahC] at e
  rw[aa1] at e
  split at e
  ·cases e;rename_i hk;exact⟨y,⟨0,hk,rfl⟩,b,hρ,(aaM (G:=G)).1 h1⟩
  ·obtain⟨u,⟨j,hj,hu⟩,h3⟩:=aeN hρ (i+1) h2 k f e
   exact⟨u,⟨j+1,by omega,by simpa using hu⟩,h3⟩
def aoi(C:Ctx)(b:Nat)(m:List Value)(ty:TypeId)(lo:Bool)(rv:DV)(cs':List DV):Ending→World→Prop:=ajE C [⟨b,m,ty,lo⟩] (fun v css G'=>Is G' rv v∧ ∃m',css=[m']∧IsLs G' cs' m')
theorem fnM[fu:Fu]{b:Nat}{f:FuncId}{fb:Func}{c:Code}{k:Nat}{l:List (Option DV)}{cs cs':List DV}{ty:TypeId}{rv:DV}(hf:prog.funcs[f]? =some fb)(hb:fb.body=some c)(hn:(fb.name== "runtime.NumGoroutine")=false)(hm:fb.ntmps=k)(hlen:Nat.ble l.length k=true)
  (hgo:(av8 cs fun csx=>go tt k fu.n [] (ahC 0 l) [(NM,some (.o ty csx false))] (.code c []))=⟨vc,fr,own,cf⟩)(h: ∀C b m lo,C.mb=[b]→CfS prog GB C k (bodyPost prog fb (aoi C b m ty lo rv cs')) fr own cf)
  (hv:aag vc:=by first|exact trivial|(simp only[aag];kernel_rfl)|(simp only[aag];omega)|(simp only[aag,aX,aY,aV];omega)):PM GB prog f (mkP l b) b ty cs rv cs':=by
 intro G vs m lo hg hvs hm'
 refine FnM.intro hf hb hn hm (by rw[hvs.len,akV];exact hlen) fun C _ hmb=>?_
 intro a w rl
 rw[ai8] at hgo
 have h1:=gx' (GB:=GB) (C:=C) (Q0:=bodyPost prog fb (aoi C b m ty lo rv cs')) hgo hv (h C b m lo (by simpa using hmb))
 refine h1.run (fun _=>⟨some ⟨b,0,none⟩,0,0⟩) G [⟨b,m,ty,false⟩] a w ⟨hg,rl.h,rl.sz,rl.df,fun k f e=>?_,fun nm B e=>?_,fun nm nm' B B' e e' hne=>?_⟩
 ·obtain⟨y,⟨j,hj,hy⟩,h2⟩:=aeN (ρ:=fun _=>⟨some ⟨b,0,none⟩,0,0⟩) (b:=b) rfl 0 hvs k f e
  refine⟨y,rl.fr k y ?_,h2⟩
  rw[hj];exact ab3 vs 0 j y hy
 ·rw[aaL] at e
  split at e
  ·cases e;exact⟨[⟨b,m,ty,false⟩],⟨b,m,rfl,rfl,agJ hm'⟩,fun o ho=>ho⟩
  ·cases e
 ·rw[aaL] at e e'
  split at e<;>split at e'
  ·rename_i h2 h3;exact absurd (h2.trans h3.symm) hne
  ·cases e'
  ·cases e
  ·cases e
def aAS(own:OwX)(nm:Nat):Option (TypeId×List DV):=match aaA own nm with
 |some (.o ty cs false)=>match aey cs with
  |some l=>some (ty,l)
  |none=>none
 |_=>none
theorem rzM{fb:Func}{b:Nat}{m:List Value}{ty:TypeId}{lo:Bool}{ds cs1 cs':List DV}{rv:DV}(hmb:C.mb=[b])(hr:arG tt fr own fb.results.toList=some ds)(ho:aAS own NM=some (ty,cs1))(hd:ahX ds=rv)(hc:cs1=cs'):
  CfS prog GB C n (bodyPost prog fb (aoi C b m ty lo rv cs')) fr own (.ex .ret []):=by
 refine⟨fun ρ G ov a w r=>?_⟩
 obtain⟨vs,h1,h2⟩:=alc r hr
 have hk:Is G rv (abE vs):=hd▸akZ h2
 unfold aAS at ho
 split at ho<;>try (cases ho;done)
 rename_i hb
 split at ho<;>cases ho
 rename_i hl
 obtain⟨b',m',rest,h3,h4,h5,h6⟩:=r.lend hb hl
 have hbb:b'=b:=by
  have:=(r.h.hown _ (h5.mem_iff.2 (bW _ aQ))).2.2.2 rfl
  rw[hmb] at this;simpa using this
 subst hbb hc
 exact acq (C:=C) (n:=n) (fr:=frA a) (own:=ov) (G:=G) (M:=[⟨b',m,ty,lo⟩]) (css:=[m']) (K:=fun v css G'=>Is G' rv v∧ ∃m',css=[m']∧IsLs G' cs1 m') h1 rfl ([⟨b',m',ty,false⟩]++rest) h5 (lV _ _) ⟨hk,m',rfl,h4⟩ a w ⟨r.h,r.sz,aaK a,r.df⟩
end
section
variable {GB:Gh} {C:Ctx} {n:Nat} {fr1 fr2:FrX} {own1 own2:OwX} {cf1 cf2:Cf} {vc1 vc2:List Prop} {Q0:Exit→Act→World→Prop} {fr fr':FrX} {own own':OwX} {cf cf':Cf} {vc:List Prop} {ops:Array Oper} {o:Oper} {K:List Kt} {r:List Oper}
theorem csd[fu1:Fu][fu2:Fu](d:Nat){p:Prop}{hp:Decidable p}(hl:aau fr d=some (.d (.v (.bool (@decide p hp)))))(g1:go tt n fu1.n [] ((d, .tt)::fr) own (.ops ops r K)=⟨vc1,fr1,own1,cf1⟩)(g2:go tt n fu2.n [] ((d, .ff)::fr) own (.ops ops r K)=⟨vc2,fr2,own2,cf2⟩)
  (k1:p→CfS prog GB C n Q0 fr1 own1 cf1)(k2: ¬p→CfS prog GB C n Q0 fr2 own2 cf2)
  (v1:p→aag vc1:=by intro;first|exact trivial|(simp only[aag];omega)|(simp only[aag,aX,aY,aV];omega))(v2: ¬p→aag vc2:=by intro;first|exact trivial|(simp only[aag];omega)|(simp only[aag,aX,aY,aV];omega)):CfS prog GB C n Q0 fr own (.ops ops r K):=
 csb (fu1:=fu1) (fu2:=fu2) d hl g1 g2 (fun h=>k1 (of_decide_eq_true h)) (fun h=>k2 (of_decide_eq_false h)) (fun h=>v1 (of_decide_eq_true h)) (fun h=>v2 (of_decide_eq_false h))
theorem OpR.to{lk:LK}{bk:BM}{o:Oper}{f g:FX}(h:OpR prog GB C n lk bk o f [] [])(e: ∀ρ G y,IsX ρ G f y→IsX ρ G g y):OpR prog GB C n lk bk o g [] []:=fun hd tl tb Q h1 h2 hf hk=>
 h hd tl tb Q h1 h2 hf ⟨fun ρ G ov a w r=>hk.run ρ G ov a w ⟨r.gb,r.h,r.sz,r.df,fun k f' e'=>by
  cases ho:o.dst with
  |none=>exact r.fx k f' (by simpa only[ho,upL] using e')
  |some d=>
   have hr:=r.fx
   simp only[ho,upL] at e' hr
   by_cases q:k=d
   ·rw[if_pos q] at e';cases e'
    obtain⟨y,h3,h4⟩:=hr k f (by rw[if_pos q])
    exact⟨y,h3,e _ _ _ h4⟩
   ·rw[if_neg q] at e'
    exact hr k f' (by rw[if_neg q];exact e'),r.bx,r.dj⟩⟩
def opS(fr:FrX)(own:OwX)(cf:Cf):Option (Oper×FX):=match opC fr cf with
 |some o=>match awe tt (lkC fr cf) (bkC fr own cf) o.dst o.op with
  |some ⟨none,f,[],[]⟩=>some (o,f)
  |_=>none
 |none=>none
theorem csS[fu1:Fu][fu2:Fu]{f:FX}{p:Prop}{hp:Decidable p}(hs:opS fr own cf=some (o,f))(hb:toB f=some (@decide p hp))(g1:goA tt n fu1.n fr own cf .tt [] []=⟨vc1,fr1,own1,cf1⟩)(g2:goA tt n fu2.n fr own cf .ff [] []=⟨vc2,fr2,own2,cf2⟩)
  (k1:p→CfS prog GB C n Q0 fr1 own1 cf1)(k2: ¬p→CfS prog GB C n Q0 fr2 own2 cf2)
  (v1:p→aag vc1:=by intro;first|exact trivial|(simp only[aag];kernel_rfl)|(simp only[aag];omega)|(simp only[aag,aX,aY,aV];omega))(v2: ¬p→aag vc2:=by intro;first|exact trivial|(simp only[aag];kernel_rfl)|(simp only[aag];omega)|(simp only[aag,aX,aY,aV];omega)):CfS prog GB C n Q0 fr own cf:=by
 unfold opS at hs
 split at hs<;>try (cases hs;done)
 rename_i o' hh
 split at hs<;>cases hs
 rename_i hc
 obtain⟨dst,op,ty,pos,af,gd⟩:=o
 have h0:=afO (P:=prog) (GB:=GB) (C:=C) (n:=n) (ty':=ty) (pos:=pos) (af:=af) (gd:=gd) abt hc (fun p e=>by cases e)
 by_cases h:p
 ·exact us hh (OpR.to h0 fun ρ G y hy=>by rw[ag1 hy hb,decide_eq_true h];exact rfl) g1 (v1 h) (k1 h)
 ·exact us hh (OpR.to h0 fun ρ G y hy=>by rw[ag1 hy hb,decide_eq_false h];exact rfl) g2 (v2 h) (k2 h)
def aCw(d:Nat)(nm:Option Nat):List (Nat×Option Bk):=match nm with
 |some nm=>[(nm,none),(d,none)]
 |none=>[(d,none)]
theorem knT[fu:Fu]{f:FX}(hs:opS fr own cf=some (o,f))(hb:toB f=some true)(hgo:goA tt n fu.n fr own cf .tt [] []=⟨vc,fr',own',cf'⟩)(k:CfS prog GB C n Q0 fr' own' cf')
  (hv:aag vc:=by first|exact trivial|(simp only[aag];kernel_rfl)|(simp only[aag];omega)|(simp only[aag,aX,aY,aV];omega)):CfS prog GB C n Q0 fr own cf:=by
 unfold opS at hs
 split at hs<;>try (cases hs;done)
 rename_i o' hh
 split at hs<;>cases hs
 rename_i hc
 obtain⟨dst,op,ty,pos,af,gd⟩:=o
 have h0:=afO (P:=prog) (GB:=GB) (C:=C) (n:=n) (ty':=ty) (pos:=pos) (af:=af) (gd:=gd) abt hc (fun p e=>by cases e)
 exact us hh (OpR.to h0 fun ρ G y hy=>by rw[ag1 hy hb];exact rfl) hgo hv k
theorem knF[fu:Fu]{f:FX}(hs:opS fr own cf=some (o,f))(hb:toB f=some false)(hgo:goA tt n fu.n fr own cf .ff [] []=⟨vc,fr',own',cf'⟩)(k:CfS prog GB C n Q0 fr' own' cf')
  (hv:aag vc:=by first|exact trivial|(simp only[aag];kernel_rfl)|(simp only[aag];omega)|(simp only[aag,aX,aY,aV];omega)):CfS prog GB C n Q0 fr own cf:=by
 unfold opS at hs
 split at hs<;>try (cases hs;done)
 rename_i o' hh
 split at hs<;>cases hs
 rename_i hc
 obtain⟨dst,op,ty,pos,af,gd⟩:=o
 have h0:=afO (P:=prog) (GB:=GB) (C:=C) (n:=n) (ty':=ty) (pos:=pos) (af:=af) (gd:=gd) abt hc (fun p e=>by cases e)
 exact us hh (OpR.to h0 fun ρ G y hy=>by rw[ag1 hy hb];exact rfl) hgo hv k
end
section
variable {GB:Gh} {C:Ctx} {n:Nat} {Q0:Exit→Act→World→Prop} {fr fr':FrX} {own own':OwX} {cf cf':Cf} {vc:List Prop} {ops:Array Oper} {o:Oper} {K:List Kt} {r:List Oper}
def OpF(GB:Gh)(C:Ctx)(n:Nat)(lk:LK)(bk:BM)(o:Oper)(ι:Type)(f:ι→FX)(bl:ι→List (Nat×Option Bk))(nw:List Nat):Prop:=
 aaJ n o.dst=true→ ∀(tl:LK) (tb:BM) (K:Act→World→Prop),aiZ lk tl→aiZ bk tb→acg nw o.dst tl tb→(∀x,SX GB C n (upL tl o.dst (f x)) (Sx.upB tb (bl x)) K)→SX GB C n tl tb (fun a w=> ∀Q,o.wp prog a w K Q)
def hdO:Cf→Option (Array Oper×Oper×List Oper×List Kt)
 | .ops ops (o::r) K=>some (ops,o,r,K)
 |_=>none
def goF(n q:Nat)(fr:FrX)(own:OwX)(cf:Cf)(f:FX)(bl:List (Nat×Option Bk)):Res:=match cf with
 | .ops ops (o::r) K=>ahu own bl fun own'=>av6 fr o.dst f fun fr'=>go tt n q [] fr' own' (.ops ops r K)
 |_=>bad
def okF(n:Nat)(fr:FrX)(own:OwX)(cf:Cf)(nw:List Nat):Bool:=match cf with
 | .ops ops (o::_) _=>agu nw o.dst fr own&&aaJ n o.dst&&grd ops (aau fr) o.guard
 |_=>false
theorem usF{q:Nat}{ι:Type}{f:ι→FX}{bl:ι→List (Nat×Option Bk)}{nw:List Nat}{vc:ι→List Prop}{fr':ι→FrX}{own':ι→OwX}{cf':ι→Cf}(hh:opC fr cf=some o)(ho:okF n fr own cf nw=true)(h:OpF GB C n (lkC fr cf) (bkC fr own cf) o ι f bl nw)
  (hgo: ∀x,goF n q fr own cf (f x) (bl x)=⟨vc x,fr' x,own' x,cf' x⟩)(hv: ∀x,aag (vc x))(k: ∀x,CfS prog GB C n Q0 (fr' x) (own' x) (cf' x)):CfS prog GB C n Q0 fr own cf:=by
 obtain⟨ops,h1,h2⟩:=atN hh
 cases cf with
 |ops ops' r K=>
  cases r with
  |nil=>cases h1
  |cons o' r=>
   cases h1
   simp only[okF,bK] at ho
   refine⟨fun ρ G ov a w rl=>?_⟩
   show wpL _ _ _ (o::r) a w
   unfold wpL
   rw[if_pos (aod ho.2 ρ G ov a w rl)]
   refine(h ho.1.2 _ _ (wpL prog ops (cQ prog Q0 K) r) (aiZ.refl _) (aiZ.refl _) (ae6 ho.1.1) (fun x=>?_)).run ρ G ov a w rl _
   have hx:=hgo x
   unfold goF at hx
   simp only[adB,agN] at hx
   have:=gx' (GB:=GB) (C:=C) (Q0:=Q0) hx (hv x) (k x)
   show SX GB C n (upL (aau fr) o.dst (f x)) (Sx.upB (aaA own) (bl x)) _
   rw[←agY,←ael]
   exact this
 |_=>cases ho
theorem arx{lk:LK}{bk:BM}{fo:Operand}{args:Array Operand}{tys:Array TypeId}{f:FuncId}{d:Nat}{ds:List DV}{ι:Type}{ty ty0:TypeId}{pos:String}{af:Array Edge}{gd:Option (Nat×Bool)}{cs':ι→List DV}
  (ha:aiH lk fo args=some (f,ds))(hF:PN GB prog f ds ty0 ι cs'):OpF GB C n lk bk ⟨some d, .call ⟨.value fo,args,tys⟩,ty,pos,af,gd⟩ ι (fun _=> .ov d 0) (fun x=>[(d,some (.o ty0 ((cs' x).map .d) true))]) [d]:=by
 intro hd tl tb K' s1 s2 hf hk
 refine⟨fun ρ G ov a w r Q=>?_⟩
 have r1:=r.mono s1 s2
 obtain⟨h1,h2⟩:=aiq ha
 obtain⟨y,hy,hy'⟩:=r1.ev h1
 rw[(aaM (G:=G)).1 hy'] at hy
 obtain⟨vs,h3,h4⟩:=r1.evDs h2
 refine ac3 (M:=[]) (rest:=ov) hy h3 (List.Perm.refl _) (hF G vs r.gb h4) hd (fun v own1 G' hG hK a' w' rl=>?_) a w Q ⟨r.h,r.sz,aaK a,r.df⟩
 obtain⟨x,b,m,rfl,rfl,hm⟩:=hK
 have rl':Rel C n (Sx.put (frA a) (some d) (.pointer (some ⟨b,0,none⟩))) (⟨b,m,ty0,true⟩::ov) G' a' w':=by simpa[relo,flM] using rl
 have hnd:=(bU.1 rl'.h.nd).1
 exact(hk x).run _ G' _ a' w' (r.new (x:=⟨some ⟨b,0,none⟩,0,0⟩) (B':= .o ty0 ((cs' x).map .d) true) (os:=[⟨b,m,ty0,true⟩]) hf hG.le rl'.h ⟨b,m,by simp,rfl,agJ hm⟩ (fun o ho=>by rw[aN.1 ho];exact aQ)
  (fun o ho=>aZ _ ho) (fun o ho e=>by cases e;exact hnd o ho rfl) (f:= .ov d 0) (y:= .pointer (some ⟨b,0,none⟩)) ⟨b,by simp,rfl⟩ (aa8 rl'))
def aAN(fr:FrX)(cf:Cf):Option (FuncId×List DV×Nat):=match opC fr cf with
 |some ⟨some d, .call ⟨.value fo,args,_⟩,_,_,_,_⟩=>match aiH (lkC fr cf) fo args with
  |some (f,ds)=>some (f,ds,d)
  |none=>none
 |_=>none
theorem cn[fu:Fu]{f:FuncId}{d:Nat}{ds:List DV}{ty:TypeId}{ι:Type}{cs':ι→List DV}{vc:ι→List Prop}{fr':ι→FrX}{own':ι→OwX}{cf':ι→Cf}(ha:aAN fr cf=some (f,ds,d))(hF:PN GB prog f ds ty ι cs')
  (hgo: ∀x,(av8 (cs' x) fun csx=>goF n fu.n fr own cf (.ov d 0) [(d,some (.o ty csx true))])=⟨vc x,fr' x,own' x,cf' x⟩)(k: ∀x,CfS prog GB C n Q0 (fr' x) (own' x) (cf' x))(ho:okF n fr own cf [d]=true:=by rfl)
  (hv: ∀x,aag (vc x):=by intro;first|exact trivial|(simp only[aag];kernel_rfl)|(simp only[aag];omega)|(simp only[aag,aX,aY,aV];omega)):CfS prog GB C n Q0 fr own cf:=by
 unfold aAN at ha
 split at ha<;>try (cases ha;done)
 rename_i hh
 split at ha<;>cases ha
 rename_i h1
 simp only[ai8] at hgo
 exact usF hh ho (arx h1 hF) hgo hv k
def az8(C:Ctx)(b:Nat)(m:List Value)(ty:TypeId)(lo:Bool)(ι:Type)(rv:ι→DV)(cs':ι→List DV):Ending→World→Prop:=ajE C [⟨b,m,ty,lo⟩] (fun v css G'=> ∃x,Is G' (rv x) v∧ ∃m',css=[m']∧IsLs G' (cs' x) m')
end
section
variable {GB:Gh} {C:Ctx} {n:Nat} {Q0:Exit→Act→World→Prop} {fr fr':FrX} {own own':OwX} {cf cf':Cf} {vc:List Prop} {ops:Array Oper} {o:Oper} {K:List Kt} {r:List Oper}
/-! ### a row handed back beside the borrowed variable -/
def aCx(fr:FrX)(cf:Cf):Option Nat:=match opC fr cf with
 |some o=>o.dst
 |none=>none
def ayY(C:Ctx)(b:Nat)(ty:TypeId)(s:Nat)(ty2:TypeId)(ι:Type)(rows cs':ι→List DV):Ending→World→Prop:=afw C (fun v own' G'=> ∃x w m' B,v= .slice w.a w.n w.c∧own'=⟨b,m',ty,false⟩::B∧IsLs G' (cs' x) m'∧aaX G' ⟨w,s,ty2,rows x,true⟩ B∧ ∀o∈B,b≠o.b)
end
section
variable {GB:Gh} {C:Ctx} {n:Nat} {Q0:Exit→Act→World→Prop} {fr fr':FrX} {own own':OwX} {cf cf':Cf} {vc:List Prop} {ops:Array Oper} {o:Oper} {K:List Kt} {r:List Oper}
def aoT(C:Ctx)(ty:TypeId)(ι:Type)(cs:ι→List DV):Ending→World→Prop:=afw C (fun v own' G'=> ∃x b m,v= .pointer (some ⟨b,0,none⟩)∧own'=[⟨b,m,ty,true⟩]∧IsLs G' (cs x) m)
theorem fnN[fu:Fu]{f:FuncId}{fb:Func}{c:Code}{m:Nat}{ds:List DV}{ty:TypeId}{ι:Type}{cs:ι→List DV}(hf:prog.funcs[f]? =some fb)(hb:fb.body=some c)(hn:(fb.name== "runtime.NumGoroutine")=false)(hm:fb.ntmps=m)(hlen:Nat.ble ds.length m=true)
  (hgo:go tt m fu.n [] (ahm 0 ds) [] (.code c [])=⟨vc,fr,own,cf⟩)(k: ∀C:Ctx,C.mb=[]→CfS prog GB C m (bodyPost prog fb (aoT C ty ι cs)) fr own cf)
  (hv:aag vc:=by first|exact trivial|(simp only[aag];kernel_rfl)|(simp only[aag];omega)|(simp only[aag,aX,aY,aV];omega)):PN GB prog f ds ty ι cs:=by
 intro G vs hg hvs
 refine FnO.intro hf hb hn hm (by rw[hvs.len];exact hlen) fun C _ hmb=>?_
 intro a w rl
 have h:=gx' (GB:=GB) (C:=C) (Q0:=bodyPost prog fb (aoT C ty ι cs)) hgo hv (k C (by simpa using hmb))
 exact h.run (fun _=>⟨none,0,0⟩) G [] a w ⟨hg,rl.h,rl.sz,rl.df,(fun k f e=>ak9 hvs rl.fr k f e),(fun nm B e=>by cases e),(fun nm nm' B B' e=>by cases e)⟩
theorem rzN{fb:Func}{t d:Nat}{ty:TypeId}{ι:Type}{cs:ι→List DV}{cs1:List FX}{l:List DV}(x:ι)(hr:fb.results.toList=[.tmp t])(hl:aau fr t=some (.ov d 0))(hw:aaA own d=some (.o ty cs1 true))(hc:aey cs1=some l)(hd:l=cs x):
  CfS prog GB C n (bodyPost prog fb (aoT C ty ι cs)) fr own (.ex .ret []):=by
 refine⟨fun ρ G ov a w r=>?_⟩
 subst hd
 obtain⟨b,m,rest,h3,h4,h5,h6⟩:=r.lend hw hc
 obtain⟨y,hy,b',hb',hy'⟩:=r.ev (x:= .tmp t) (f:= .ov d 0) hl
 rw[h3] at hb';cases hb';subst hy'
 exact aqk (C:=C) (n:=n) (fr:=frA a) (own:=ov) (G:=G) (vs:=[.pointer (some ⟨b,0,none⟩)]) (by rw[hr];exact .tmp hy .nil) (⟨b,m,ty,true⟩::rest) [⟨b,m,ty,true⟩] (by simpa using h5) (.cons_cons _ (jY _)) (fun _=>⟨x,b,m,rfl,rfl,h4⟩) a w ⟨r.h,r.sz,aaK a,r.df⟩
theorem bxf[fu:Fu]{d:Nat}{l:List DV}(h:aAE fr cf=some (d,l))(hgo:goA tt n fu.n fr own cf (.d (.pt l)) [(d,none)] [d]=⟨vc,fr',own',cf'⟩)(k:CfS prog GB C n Q0 fr' own' cf')
  (hv:aag vc:=by first|exact trivial|(simp only[aag];kernel_rfl)|(simp only[aag];omega)|(simp only[aag,aX,aY,aV];omega)):CfS prog GB C n Q0 fr own cf:=by
 unfold aAE at h
 split at h<;>try (cases h;done)
 rename_i hh
 split at h<;>try (cases h;done)
 rename_i g hx
 rw[cond_eq_ite] at h
 split at h<;>try (cases h;done)
 rename_i hc
 simp only[bK] at hc
 split at h<;>cases h
 rename_i hl
 exact us hh (auC hx hc.1 hc.2 hl) hgo hv k
end
section
variable {GB:Gh} {C:Ctx} {n:Nat} {Q0:Exit→Act→World→Prop} {fr fr':FrX} {own own':OwX} {cf cf':Cf} {vc:List Prop} {ops:Array Oper} {o:Oper} {K:List Kt} {r:List Oper}
def mkB:List (Option DV)→SV→List DV
 |[],_=>[]
 |some d::t,w=>d::mkB t w
 |none::t,w=> .v (.slice w.a w.n w.c)::mkB t w
def ayT(lk:LK):List Operand→Option (Option Nat×List (Option DV))
 |[]=>some (none,[])
 |x::t=>match evX lk x,ayT lk t with
  |some (.rw nm),some (none,l)=>some (some nm,none::l)
  |some f,some (q,l)=>match ahU f with
   |some d=>some (q,some d::l)
   |none=>none
  |_,_=>none
def ajg(lk:LK)(fo:Operand)(args:Array Operand):Option (FuncId×Nat×List (Option DV)):=match evX lk fo with
 |some (.d (.v (.func (.func f) ⟨[]⟩ ⟨[]⟩)))=>match ayT lk args.toList with
  |some (some nm,l)=>some (f,nm,l)
  |_=>none
 |_=>none
theorem ag7{lk:LK}{bk:BM}{ρ:NE}{G:Gh}{ov:List Own}{a:Act}{w:World}(r:RlX GB C n lk bk ρ G ov a w){z:SV}: ∀{x:List Operand} {q:Option Nat} {l:List (Option DV)},ayT lk x=some (q,l)→(∀nm,q=some nm→ρ nm=z)→
  ∃y,aeM (frA a) x=some y∧IsLs G (mkB l z) y
 |[],q,l,e,_=>by cases e;exact⟨[],rfl, .nil⟩
 |x::t,q,l,e,hb=>by
  simp only[ayT] at e
  split at e
  ·rename_i nm l' h1 h2
   cases e
   obtain⟨y,h3,h4⟩:=r.ev h1
   cases (show y=_ from h4)
   obtain⟨ys,h5,h6⟩:=ag7 r (z:=z) h2 (fun nm e=>by cases e)
   have hz:=hb nm rfl
   subst hz
   exact⟨Value.slice (ρ nm).a (ρ nm).n (ρ nm).c::ys,by simp only[aeM,h3,h5], .cons ((aaM (G:=G)).2 rfl) h6⟩
  ·rename_i f q' l' _ h1 h2
   cases hd:ahU f with
   |none=>rw[hd] at e;cases e
   |some d=>
   rw[hd] at e;cases e
   obtain⟨y,h3,h4⟩:=r.ev h1
   obtain⟨ys,h5,h6⟩:=ag7 r (z:=z) h2 hb
   exact⟨y::ys,by simp only[aeM,h3,h5], .cons (aca h4 hd) h6⟩
  ·cases e
theorem aqI{lk:LK}{bk:BM}{fo:Operand}{args:Array Operand}{tys:Array TypeId}{f:FuncId}{nm d:Nat}{l:List (Option DV)}{s:Nat}{ty ty0:TypeId}{pos:String}{af:Array Edge}{gd:Option (Nat×Bool)}{dsi dso pre post:List DV}{lo:Bool}(hne:Nat.beq nm d=false)
  (ha:ajg lk fo args=some (f,nm,l))(hb:bk nm=some (.b ty0 s dsi lo))(hF:PB GB prog f (mkB l) s ty0 dsi (fun w=> .tp (pre++ .v (.slice w.a w.n w.c)::post)) dso):OpR prog GB C n lk bk ⟨some d, .call ⟨.value fo,args,tys⟩,ty,pos,af,gd⟩ (.bx true pre d post) [(nm,none),(d,some (.b ty0 s dso lo))] [d]:=by
 intro hd tl tb K' s1 s2 hf hk
 refine⟨fun ρ G ov a w r Q=>?_⟩
 have r1:=r.mono s1 s2
 unfold ajg at ha
 split at ha<;>try (cases ha;done)
 rename_i h1
 split at ha<;>cases ha
 rename_i h2
 obtain⟨y,hy,hy'⟩:=r1.ev h1
 rw[(aaM (G:=G)).1 hy'] at hy
 obtain⟨B,g1,g2⟩:=r1.bx _ _ hb
 have hB:aaX G ⟨ρ nm,s,ty0,dsi,lo⟩ B:=g1
 obtain⟨vs,h7,h8⟩:=ag7 r1 (z:=ρ nm) h2 (fun nm e=>by cases e;rfl)
 have hp: ∃rest,ov.Perm (B++rest)∧ ∀o∈ov,(∀o'∈B,o.b≠o'.b)→o∈rest:=by
  rcases hB with⟨vs',⟨_,_,e⟩|⟨b0,r0,lo0,_,e,_⟩,_⟩
  ·rw[e];exact⟨ov,List.Perm.refl _,fun o ho _=>ho⟩
  ·rw[e] at g2⊢
   obtain⟨l1,l2,e2⟩:=jQ (g2 _ aQ)
   rw[e2]
   refine⟨l1++l2,kW,fun o ho hno=>?_⟩
   rcases bS.1 ho with ho|ho
   ·exact bW _ ho
   ·rcases aS.1 ho with rfl|ho
    ·exact absurd rfl (hno _ aQ)
    ·exact bR _ ho
 obtain⟨rest,h5,h6⟩:=hp
 refine ac3 (M:=B) (rest:=rest) hy h7 h5 (hF G (ρ nm) vs B r.gb hB.weak h8) hd (fun v own1 G' hG hK a' w' rl=>?_) a w Q ⟨r.h,r.sz,aaK a,r.df⟩
 obtain⟨z,hr,vs',k1,k2,k3,k4⟩:=hK
 have k1':=k1.relo (flM B)
 have e2:lo=true→ ∀o∈own1.map (relo (flM B)),o.lo=true:=fun hl o ho=>by
  obtain⟨o',_,rfl⟩:=bM.1 ho
  obtain⟨_,_,_,_,hlo⟩:=hB
  exact afb _ (hlo hl)
 generalize own1.map (relo (flM B))=B' at rl e2 k1'
 have rl':Rel C n (Sx.put (frA a) (some d) v) (B'++rest) G' a' w':=rl
 have hdis:=(fV.1 rl'.h.nd).2.2
 have r2:=r.dropB nm
 have hnn:nm≠d:=fun e=>by subst e;rw[mX] at hne;cases hne
 have hf2:acg [d] (some d) tl (Sx.upB tb [(nm,none)]):=fun q hq=>by
  obtain⟨f1,f2⟩:=hf q hq
  refine⟨f1,fun k B e1 e=>?_⟩
  simp only[Sx.upB] at e
  split at e
  ·cases e
  ·exact f2 k B e1 e
 have hsep: ∀q B0,Sx.upB tb [(nm,none)] q=some B0→ ∀o∈ov,(ρ q).a=some ⟨o.b,0,none⟩→o∈rest:=fun q B0 e o ho hbq=>by
  simp only[Sx.upB] at e
  split at e
  ·cases e
  ·rename_i hqn
   refine h6 o ho fun o' ho' he=>?_
   exact r.dj nm q _ _ (s2 _ _ hb) e (Ne.symm hqn) o'.b (g1.blk ho') (by rw[hbq,he])
 obtain⟨m,rfl,hm⟩:=acQ.1 hr
 obtain⟨m1,m2',rfl,c1,c2⟩: ∃m1 m2',m=m1++m2'∧IsLs G' pre m1∧IsLs G' (.v (.slice z.a z.n z.c)::post) m2':=hm.unapp
 obtain⟨u,m2,rfl,c3,c4⟩:=aab.1 c2
 rw[aaM.1 c3] at rl'
 have r3:=r2.new' (x:=z) (B':= .b ty0 s dso lo) (os:=B') (ov':=B'++rest) (f:= .bx true pre d post) (y:= .tuple ⟨m1++Value.slice z.a z.n z.c::m2⟩) hf2 hG.le rl'.h ⟨vs',by simpa using k1',k2,k3,e2⟩ (fun o ho=>bW _ ho)
  (fun q B0 hq e o ho hbq=>⟨bR _ (hsep q B0 e o ho hbq),fun hc=>by
   have hx: ∃o1∈B',o1.b=o.b:=by
    rcases k1' with⟨_,h,_⟩|⟨b0,rest0,lo0,h,hB,_⟩
    ·rw[show z=_ from h] at hc;cases hc
    ·rw[show z=_ from h] at hc;cases hc;exact⟨⟨_,aaf vs'++rest0,_,lo0⟩,by rw[hB];exact aQ,rfl⟩
   obtain⟨o1,ho1,he1⟩:=hx
   exact hdis o1 ho1 o (hsep q B0 e o ho hbq) he1⟩) ⟨m1,m2,by simp,c1,c4⟩ (aa8 rl')
 exact hk.run _ G' _ a' w' r3
structure CbA where
 f:FuncId
 nm:Nat
 l:List (Option DV)
 ty:TypeId
 s:Nat
 ds:List DV
 lo:Bool
 d:Nat
def ayK(fr:FrX)(own:OwX)(cf:Cf):Option CbA:=match opC fr cf with
 |some ⟨some d, .call ⟨.value fo,args,_⟩,_,_,_,_⟩=>match ajg (lkC fr cf) fo args with
  |some (f,nm,l)=>match bkC fr own cf nm with
   |some (.b ty s ds lo)=>bif Nat.beq nm d then none else some ⟨f,nm,l,ty,s,ds,lo,d⟩
   |_=>none
  |none=>none
 |_=>none
theorem cb[fu:Fu]{f:FuncId}{nm d:Nat}{l:List (Option DV)}{ty:TypeId}{s:Nat}{dsi dso pre post:List DV}{lo:Bool}(dso':List DV)(ha:ayK fr own cf=some ⟨f,nm,l,ty,s,dsi,lo,d⟩)(hF:PB GB prog f (mkB l) s ty dsi (fun w=> .tp (pre++ .v (.slice w.a w.n w.c)::post)) dso)(he:dso=dso')
  (hgo:goA tt n fu.n fr own cf (.bx true pre d post) [(nm,none),(d,some (.b ty s dso' lo))] [d]=⟨vc,fr',own',cf'⟩)(k:CfS prog GB C n Q0 fr' own' cf')
  (hv:aag vc:=by first|exact trivial|(simp only[aag];kernel_rfl)|(simp only[aag];omega)|(simp only[aag,aX,aY,aV];omega)):CfS prog GB C n Q0 fr own cf:=by
 subst he
 unfold ayK at ha
 split at ha<;>try (cases ha;done)
 rename_i hh
 split at ha<;>try (cases ha;done)
 rename_i h1
 split at ha<;>try (cases ha;done)
 rename_i h2
 rw[cond_eq_ite] at ha
 split at ha<;>cases ha
 rename_i h3
 exact us hh (aqI (by cases hq:Nat.beq nm d with|false=>rfl|true=>exact absurd hq h3) h1 h2 hF) hgo hv k
def ahe:Nat→List (Option DV)→FrX
 |_,[]=>[]
 |i,some v::t=>(i, .d v)::ahe (i+1) t
 |i,none::t=>(i, .rw NM)::ahe (i+1) t
theorem aiX(w:SV): ∀l:List (Option DV),(mkB l w).length=l.length
 |[]=>rfl
 |some d::t=>by simp[mkB,aiX w t]
 |none::t=>by simp[mkB,aiX w t]
theorem adG{w:SV}{ρ:NE}{G:Gh}(hρ:ρ NM=w): ∀{ds:List (Option DV)} {vs:List Value} (i:Nat),IsLs G (mkB ds w) vs→ ∀k f,aau (ahe i ds) k=some f→ ∃y,(∃j,k=i+j∧vs[j]? =some y)∧IsX ρ G f y
 |[],vs,i,h,k,f,e=>by cases e
 |some d::t,vs,i,h,k,f,e=>by
  obtain⟨y,m,rfl,h1,h2⟩:=aab.1 h
  simp only[ahe] at e
  rw[aa1] at e
  split at e
  ·cases e;rename_i hk;exact⟨y,⟨0,hk,rfl⟩,h1⟩
  ·obtain⟨u,⟨j,hj,hu⟩,h3⟩:=adG hρ (i+1) h2 k f e
   exact⟨u,⟨j+1,by omega,by simpa using hu⟩,h3⟩
 |none::t,vs,i,h,k,f,e=>by
  obtain⟨y,m,rfl,h1,h2⟩:=aab.1 h
  simp only[ahe] at e
  rw[aa1] at e
  split at e
  ·cases e;rename_i hk;exact⟨y,⟨0,hk,rfl⟩,by show y=_;rw[hρ];exact aaM.1 h1⟩
  ·obtain⟨u,⟨j,hj,hu⟩,h3⟩:=adG hρ (i+1) h2 k f e
   exact⟨u,⟨j+1,by omega,by simpa using hu⟩,h3⟩
def ao6(C:Ctx)(s:Nat)(ty:TypeId)(pre post dso:List DV):Ending→World→Prop:=afw C (fun v own' G'=> ∃w',Is G' (.tp (pre++ .v (.slice w'.a w'.n w'.c)::post)) v∧aaX G' ⟨w',s,ty,dso,false⟩ own')
theorem fnB[fu:Fu]{f:FuncId}{fb:Func}{c:Code}{k s:Nat}{l:List (Option DV)}{dsi dso pre post:List DV}{ty:TypeId}(hf:prog.funcs[f]? =some fb)(hb:fb.body=some c)(hn:(fb.name== "runtime.NumGoroutine")=false)(hm:fb.ntmps=k)(hlen:Nat.ble l.length k=true)
  (hgo:go tt k fu.n [] (ahe 0 l) [(NM,some (.b ty s dsi false))] (.code c [])=⟨vc,fr,own,cf⟩)(h: ∀C,CfS prog GB C k (bodyPost prog fb (ao6 C s ty pre post dso)) fr own cf)
  (hv:aag vc:=by first|exact trivial|(simp only[aag];kernel_rfl)|(simp only[aag];omega)|(simp only[aag,aX,aY,aV];omega)):PB GB prog f (mkB l) s ty dsi (fun w=> .tp (pre++ .v (.slice w.a w.n w.c)::post)) dso:=by
 intro G w vs B hg hB hvs
 refine FnO.intro hf hb hn hm (by rw[hvs.len,aiX];exact hlen) fun C _ hmb=>?_
 intro a wd rl
 have h1:=gx' (GB:=GB) (C:=C) (Q0:=bodyPost prog fb (ao6 C s ty pre post dso)) hgo hv (h C)
 refine h1.run (fun _=>w) G (Sx.asB B) a wd ⟨hg,rl.h,rl.sz,rl.df,fun k f e=>?_,fun nm B' e=>?_,fun nm nm' B' B2 e e' hne=>?_⟩
 ·obtain⟨y,⟨j,hj,hy⟩,h2⟩:=adG (ρ:=fun _=>w) (w:=w) rfl 0 hvs k f e
  refine⟨y,rl.fr k y ?_,h2⟩
  rw[hj];exact ab3 vs 0 j y hy
 ·rw[aaL] at e
  split at e
  ·cases e;exact⟨Sx.asB B,hB.asB,fun o ho=>ho⟩
  ·cases e
 ·rw[aaL] at e e'
  split at e<;>split at e'
  ·rename_i h2 h3;exact absurd (h2.trans h3.symm) hne
  ·cases e'
  ·cases e
  ·cases e
theorem ai2{B:List Own}{G:Gh}{w:SV}{s:Nat}{ty:TypeId}{ds:List DV}{lo:Bool}{ov:List Own}(h:aaX G ⟨w,s,ty,ds,lo⟩ B)(g: ∀o∈B,o∈ov): ∃rest,ov.Perm (B++rest):=by
 rcases h with⟨vs',⟨_,_,e⟩|⟨b0,r0,lo0,_,e,_⟩,_⟩
 ·rw[e];exact⟨ov,List.Perm.refl _⟩
 ·rw[e] at g⊢
  obtain⟨l1,l2,e2⟩:=jQ (g _ aQ)
  rw[e2]
  exact⟨l1++l2,kW⟩
theorem rzB{fb:Func}{t u d s:Nat}{ty:TypeId}{ds dso:List DV}{f:FX}{v v':DV}(hr:fb.results.toList=[.tmp t, .tmp u])(hl:aau fr t=some (.rw d))(hu:aau fr u=some f)(hd:ahU f=some v)(hw:aaA own d=some (.b ty s ds false))(ed:ds=dso)(ev:v=v'):
  CfS prog GB C n (bodyPost prog fb (ao6 C s ty [] [v'] dso)) fr own (.ex .ret []):=by
 subst ed ev
 refine⟨fun ρ G ov a w r=>?_⟩
 obtain⟨B,g1,g2⟩:=r.bx _ _ hw
 have hB:aaX G ⟨ρ d,s,ty,ds,false⟩ B:=g1
 obtain⟨rest,hp⟩:=ai2 hB g2
 obtain⟨y,hy,hy'⟩:=r.ev (x:= .tmp t) (f:= .rw d) hl
 cases (show y=_ from hy')
 obtain⟨z,hz,hz'⟩:=r.ev (x:= .tmp u) (f:=f) hu
 exact adL (C:=C) (n:=n) (fr:=frA a) (own:=ov) (G:=G) (vs:=[.slice (ρ d).a (ρ d).n (ρ d).c,z]) (by rw[hr];exact .tmp hy (.tmp hz .nil)) (B++rest) B hp (lV _ _)
  ⟨ρ d,acQ.2 ⟨_,rfl, .cons (aaM.2 rfl) (.cons (aca hz' hd) .nil)⟩,hB⟩ a w ⟨r.h,r.sz,aaK a,r.df⟩
/-! the same with nil as the row of nothing -/
def ayG(lk:LK):List Operand→Option (List (Option DV))
 |[]=>some []
 |x::t=>match evX lk x,ayG lk t with
  |some .nl,some l=>some (none::l)
  |some f,some l=>match ahU f with
   |some d=>some (some d::l)
   |none=>none
  |_,_=>none
def auF(lk:LK)(fo:Operand)(args:Array Operand):Option (FuncId×List (Option DV)):=match evX lk fo with
 |some (.d (.v (.func (.func f) ⟨[]⟩ ⟨[]⟩)))=>match ayG lk args.toList with
  |some l=>some (f,l)
  |_=>none
 |_=>none
theorem ak5{lk:LK}{bk:BM}{ρ:NE}{G:Gh}{ov:List Own}{a:Act}{w:World}(r:RlX GB C n lk bk ρ G ov a w): ∀{x:List Operand} {l:List (Option DV)},ayG lk x=some l→ ∃y,aeM (frA a) x=some y∧IsLs G (mkB l ⟨none,0,0⟩) y
 |[],l,e=>by cases e;exact⟨[],rfl, .nil⟩
 |x::t,l,e=>by
  simp only[ayG] at e
  split at e
  ·rename_i l' h1 h2
   cases e
   obtain⟨y,h3,h4⟩:=r.ev h1
   cases (show y=_ from h4)
   obtain⟨ys,h5,h6⟩:=ak5 r h2
   exact⟨Value.slice none 0 0::ys,by simp only[aeM,h3,h5], .cons ((aaM (G:=G)).2 rfl) h6⟩
  ·rename_i f l' _ h1 h2
   cases hd:ahU f with
   |none=>rw[hd] at e;cases e
   |some d=>
   rw[hd] at e;cases e
   obtain⟨y,h3,h4⟩:=r.ev h1
   obtain⟨ys,h5,h6⟩:=ak5 r h2
   exact⟨y::ys,by simp only[aeM,h3,h5], .cons (aca h4 hd) h6⟩
  ·cases e
theorem an8{lk:LK}{bk:BM}{fo:Operand}{args:Array Operand}{tys:Array TypeId}{f:FuncId}{d:Nat}{l:List (Option DV)}{s:Nat}{ty ty0:TypeId}{pos:String}{af:Array Edge}{gd:Option (Nat×Bool)}{dso pre post:List DV}
  (ha:auF lk fo args=some (f,l))(hF:PB GB prog f (mkB l) s ty0 [] (fun w=> .tp (pre++ .v (.slice w.a w.n w.c)::post)) dso):OpR prog GB C n lk bk ⟨some d, .call ⟨.value fo,args,tys⟩,ty,pos,af,gd⟩ (.bx true pre d post) [(d,some (.b ty0 s dso true))] [d]:=by
 intro hd tl tb K' s1 s2 hf hk
 refine⟨fun ρ G ov a w r Q=>?_⟩
 have r1:=r.mono s1 s2
 unfold auF at ha
 split at ha<;>try (cases ha;done)
 rename_i h1
 split at ha<;>cases ha
 rename_i h2
 obtain⟨y,hy,hy'⟩:=r1.ev h1
 rw[(aaM (G:=G)).1 hy'] at hy
 obtain⟨vs,h7,h8⟩:=ak5 r1 h2
 refine ac3 (M:=[]) (rest:=ov) hy h7 (List.Perm.refl _) (hF G ⟨none,0,0⟩ vs [] r.gb ⟨[], .nil _ _, .nil,by simp,fun h=>by cases h⟩ h8) hd (fun v own1 G' hG hK a' w' rl=>?_) a w Q ⟨r.h,r.sz,aaK a,r.df⟩
 obtain⟨z,hr,vs',k1,k2,k3,k4⟩:=hK
 have k1':=k1.relo (flM [])
 have e2: ∀o∈own1.map (relo (flM [])),o.lo=true:=fun o ho=>by
  obtain⟨o',_,rfl⟩:=bM.1 ho
  rfl
 generalize own1.map (relo (flM []))=B' at rl e2 k1'
 have rl':Rel C n (Sx.put (frA a) (some d) v) (B'++ov) G' a' w':=rl
 have hdis:=(fV.1 rl'.h.nd).2.2
 obtain⟨m,rfl,hm⟩:=acQ.1 hr
 obtain⟨m1,m2',rfl,c1,c2⟩: ∃m1 m2',m=m1++m2'∧IsLs G' pre m1∧IsLs G' (.v (.slice z.a z.n z.c)::post) m2':=hm.unapp
 obtain⟨u,m2,rfl,c3,c4⟩:=aab.1 c2
 rw[aaM.1 c3] at rl'
 have r3:=r.new (x:=z) (B':= .b ty0 s dso true) (os:=B') (ov':=B'++ov) (f:= .bx true pre d post) (y:= .tuple ⟨m1++Value.slice z.a z.n z.c::m2⟩) hf hG.le rl'.h ⟨vs',by simpa using k1',k2,k3,fun _=>e2⟩ (fun o ho=>bW _ ho) (fun o ho=>bR _ ho)
  (fun o ho hc=>by
   have hx: ∃o1∈B',o1.b=o.b:=by
    rcases k1' with⟨_,h,_⟩|⟨b0,rest0,lo0,h,hB,_⟩
    ·rw[show z=_ from h] at hc;cases hc
    ·rw[show z=_ from h] at hc;cases hc;exact⟨⟨_,aaf vs'++rest0,_,lo0⟩,by rw[hB];exact aQ,rfl⟩
   obtain⟨o1,ho1,he1⟩:=hx
   exact hdis o1 ho1 o ho he1) ⟨m1,m2,by simp,c1,c4⟩ (aa8 rl')
 exact hk.run _ G' _ a' w' r3
def axS(fr:FrX)(cf:Cf):Option (FuncId×List (Option DV)×Nat):=match opC fr cf with
 |some ⟨some d, .call ⟨.value fo,args,_⟩,_,_,_,_⟩=>match auF (lkC fr cf) fo args with
  |some (f,l)=>some (f,l,d)
  |none=>none
 |_=>none
theorem cbn[fu:Fu]{f:FuncId}{d:Nat}{l:List (Option DV)}{ty:TypeId}{s:Nat}{dso pre post:List DV}(dso':List DV)(ha:axS fr cf=some (f,l,d))(hF:PB GB prog f (mkB l) s ty [] (fun w=> .tp (pre++ .v (.slice w.a w.n w.c)::post)) dso)(he:dso=dso')
  (hgo:goA tt n fu.n fr own cf (.bx true pre d post) [(d,some (.b ty s dso' true))] [d]=⟨vc,fr',own',cf'⟩)(k:CfS prog GB C n Q0 fr' own' cf')
  (hv:aag vc:=by first|exact trivial|(simp only[aag];kernel_rfl)|(simp only[aag];omega)|(simp only[aag,aX,aY,aV];omega)):CfS prog GB C n Q0 fr own cf:=by
 subst he
 unfold axS at ha
 split at ha<;>try (cases ha;done)
 rename_i hh
 split at ha<;>cases ha
 rename_i h1
 exact us hh (an8 h1 hF) hgo hv k
end
section
variable {P:Program} {C:Ctx} {n:Nat} {fr:Fr} {own own':List Own} {G:Gh} {Φ:Act→World→Prop}
variable {dst:Option Nat} {t t' ty':TypeId} {pos:String} {af:Array Edge} {gd:Option (Nat×Bool)} {x y:Operand} {e s by_:Nat}
theorem aym[hT:ab7 P t e s by_]{z:Value}[hz:TyZ P e z]{k k':IntKind}{l:Int}(hx:opv fr x=some (.int k 0))(hy:opv fr y=some (.int k' l))(h0:0≤l)(hb:by_*l≤2^47)(hl:l≤2^60)(hs:(aad z).length=s)(hd:aaJ n dst=true)
  (h: ∀b,St C n (put fr dst (.slice (some ⟨b,0,none⟩) 0 l.toNat)) (⟨b,aaT z l.toNat,e,true⟩::own) G Φ):
  Ch P C n fr own G ⟨dst, .makeSlice t x y,ty',pos,af,gd⟩ Φ:=by
 intro a w Q rl
 have h1:(Instr.makeSlice t (a.eval x) (a.eval y)).run P w= .ok (.slice (some ⟨w.heap.size,0,none⟩) 0 l.toNat) (w.alloc (.cells ⟨aaT z l.toNat⟩ e)):=by
  obtain⟨i,hi,hib⟩:=ajO (P:=P) (t:=t) (e:=e) (s:=s) (by_:=by_) w
  rw[aac rl.fr hx,aac rl.fr hy]
  unfold Instr.makeSlice
  rw[aaa (hT.u w)]
  simp only[asInt,asIntOf]
  rw[aaa (a:=0) (w':=w) rfl,aaa (a:=l) (w':=w) rfl,aaa hi,hib]
  have hw:IntKind.i64.wrap l=l:=adU (by simp[IntKind.min,IntKind.max,IntKind.signed,IntKind.bits];omega)
  have hw0:IntKind.i64.wrap 0=0:=rfl
  simp only[hw,hw0]
  have c1: ¬((by_:Int)*l>2^48):=by
   have:(2:Int)^47≤2^48:=by decide
   omega
  have c5:decide ((by_:Int)*l>2^48)=false:=decide_eq_false c1
  have c2:decide (l<0)=false:=decide_eq_false (by omega)
  have c4:decide ((0:Int)>l)=false:=by simp;omega
  simp only[c2,c4,c5,Bool.false_or,Int.lt_irrefl,decide_false,Bool.or_false,iN,if_false]
  have hr: ¬(l.toNat*by_>roomBytes):=by
   unfold roomBytes
   have:((l.toNat*by_:Nat):Int)=by_*l:=by rw[gK,kZ h0,Int.mul_comm]
   have h47:((2^47:Nat):Int)=2^47:=by decide
   omega
  unfold askRoom
  simp only[hr,if_false]
  rw[aaa (aan _ _ _),aaa (hT.siz w)]
  have hn:l.toNat*s=l.toNat*(aad z).length:=by rw[hs]
  by_cases h00:l.toNat*s=0
  ·rw[if_pos h00,aaa (aan _ _ _)]
   have e0:aaT z l.toNat=[]:=bV (by rw[abe,hs];exact h00)
   rw[h00,e0,show(Array.range 0)= #[] from rfl,Array.map_empty]
   rfl
  ·rw[if_neg h00,aaa (hz.zero w),ab1]
   rw[aaa (aan _ _ _),acX hn]
   rfl
 refine aa6 (v:= .slice (some ⟨w.heap.size,0,none⟩) 0 l.toNat) (aal h1) (h w.heap.size _ _ ((rl.heap (rl.h.alloc _ _)).put _ hd))
def aht(G:Gh)(ov:List Own):Gh:=fun b=>match G b with
 |some cs=>some cs
 |none=>(ov.find? fun o=>Nat.beq o.b b).map (·.cs)
theorem akC{ov:List Own}:GLe G (aht G ov):=fun b cs h=>by unfold aht;rw[h]
theorem amK{o:Own}: ∀{ov:List Own},o∈ov→ov.Pairwise (fun x y=>x.b≠y.b)→ov.find? (fun u=>Nat.beq u.b o.b)=some o
 |u::t,ho,nd=>by
  rcases aS.1 ho with rfl|ho
  ·rw[List.find?_cons_of_pos (by simp)]
  ·have:=(bU.1 nd).1 o ho
   rw[List.find?_cons_of_neg (by simpa using this)]
   exact amK ho (bU.1 nd).2
theorem ar2{ov:List Own}{o:Own}(ho:o∈ov)(hn:G o.b=none)(nd:ov.Pairwise (fun x y=>x.b≠y.b)):aht G ov o.b=some o.cs:=by
 unfold aht;rw[hn,amK ho nd];rfl
theorem abR.lendSub{ov:List Own}{w:World}(h:abR C ov G w)(b:Nat)(cs:List Value)(hb:aht G ov b=some cs): ∃ty fz,w.heap[b]? =some (.cells ⟨cs⟩ ty fz):=by
 unfold aht at hb
 split at hb
 ·rename_i hg;cases hb;exact h.sub _ _ hg
 ·cases hf:ov.find? (fun o=>Nat.beq o.b b) with
  |none=>rw[hf] at hb;cases hb
  |some o=>
   rw[hf] at hb;cases hb
   have e:o.b=b:=aW (by simpa using List.find?_some hf)
   subst e
   exact⟨_,_,(h.hown o (List.mem_of_find?_eq_some hf)).1⟩
theorem abR.lent{ov:List Own}{G':Gh}{w w':World}(h:abR C ov G w)(k:abR ⟨w,aht G ov,[]⟩ [] G' w'):abR C ov G w':=by
 have same: ∀b o,w.heap[b]? =some o→w'.heap[b]? =some o:=fun b o hb=>by rw[k.keep b (ach hb) (by simp)];exact hb
 have hsz:w.heap.size≤w'.heap.size:=k.size
 refine⟨k.os.trans h.os,k.tape.trans h.tape,k.output.trans h.output,dK h.size hsz,fun b hb hm=>?_,fun b cs hb=>?_,h.gle,h.gold,fun o ho=>?_,h.nd,dK h.dr k.dr⟩
 ·have:=h.size;rw[k.keep b (by show b<w.heap.size;omega) (by simp)];exact h.keep b hb hm
 ·obtain⟨ty,fz,h1⟩:=h.sub b cs hb;exact⟨ty,fz,same _ _ h1⟩
 ·obtain⟨h1,h2⟩:=h.hown o ho;exact⟨same _ _ h1,h2⟩
theorem arr{f:FuncId}{fo:Operand}{args:Array Operand}{tys:Array TypeId}{vs:List Value}{K:Value→Gh→Prop}(ho:opv fr fo=some (.func (.func f) #[] #[]))(hv:aeM fr args.toList=some vs)
  (hF:Fn P f vs (aht G own) K)(hd:aaJ n dst=true)(h: ∀v (G':Gh),K v G'→St C n (put fr dst v) own G Φ):Ch P C n fr own G ⟨dst, .call ⟨.value fo,args,tys⟩,ty',pos,af,gd⟩ Φ:=by
 intro a w Q rl
 have h2:=agl (c1:=[]) (c2:=[]) (P:=P) (dst:=dst) (ty':=ty') (pos:=pos) (af:=af) (gd:=gd) (tys:=tys) (w:=w) hF.able rl.fr ho hv
 rw[gN,gV] at h2
 simp only[Oper.wp,h2,Oper.upon]
 refine(hF.run w rl.h.lendSub).mono ?_
 rintro e w' ⟨v,G',rfl,hh,hK⟩
 exact h v G' hK _ _ ((rl.heap (rl.h.lent hh)).put _ hd)
end
def DV.np:DV→Bool
 | .v _=>true
 | .tp l=>l.all fun d=>match d with
  | .v _=>true
  |_=>false
 |_=>false
theorem atK{A G:Gh}: ∀{l:List DV} {m:List Value},(l.all fun d=>match d with| .v _=>true|_=>false)=true→IsLs A l m→IsLs G l m
 |[],m,_,k=>aaz.2 (aaz.1 k)
 |d::t,m,h,k=>by
  obtain⟨y,n,rfl,k1,k2⟩:=aab.1 k
  simp only[List.all_cons,bK] at h
  refine .cons ?_ (atK h.2 k2)
  cases d with
  |v x=>exact aaM.2 (aaM.1 k1)
  |_=>simp at h
theorem Is.np{A G:Gh}{d:DV}{y:Value}(h:d.np=true)(k:Is A d y):Is G d y:=by
 cases d with
 |v x=>exact aaM.2 (aaM.1 k)
 |tp l=>obtain⟨m,e,k⟩:=acQ.1 k;exact acQ.2 ⟨m,e,atK h k⟩
 |_=>cases h
section
variable {GB:Gh} {C:Ctx} {n:Nat} {Q0:Exit→Act→World→Prop} {fr fr':FrX} {own own':OwX} {cf cf':Cf} {vc:List Prop} {lk:LK} {bk:BM} {ρ:NE} {G:Gh} {ov:List Own} {a:Act} {w:World}
variable {dst:Option Nat} {t t' ty':TypeId} {pos:String} {af:Array Edge} {gd:Option (Nat×Bool)} {x y:Operand} {e s by_:Nat}
/-! ### rows lent -/
def axJ:Option Bk→Option (List DV)
 |some (.b _ _ ds _)=>some ds
 |some (.c _ _ ds _)=>some ds
 |_=>none
def ay2(lk:LK)(bk:BM)(x:Operand):Option DV:=match evX lk x with
 |some (.rw nm)=>match axJ (bk nm) with
  |some ds=>some (.sl ds)
  |none=>none
 |some f=>ahU f
 |none=>none
def ayI(lk:LK)(bk:BM):List Operand→Option (List DV)
 |[]=>some []
 |x::t=>match ay2 lk bk x,ayI lk bk t with
  |some d,some l=>some (d::l)
  |_,_=>none
theorem aue(r:RlX GB C n lk bk ρ G ov a w){d:DV}(h:ay2 lk bk x=some d): ∃y,opv (frA a) x=some y∧Is (aht G ov) d y:=by
 unfold ay2 at h
 split at h
 ·rename_i nm h1
  obtain⟨y,h2,h3⟩:=r.ev h1
  cases (show y=_ from h3)
  refine⟨_,h2,?_⟩
  split at h<;>cases h
  rename_i ds hr
  obtain⟨ty,s,vs,B,hB,hv,hs,hBo⟩: ∃ty s vs B,Buf s ty (ρ nm) vs B∧IsLs G ds vs∧(∀v∈vs,(aad v).length=s)∧ ∀o∈B,o∈ov:=by
   unfold axJ at hr
   split at hr<;>cases hr
   ·rename_i hb;obtain⟨B,⟨vs,h4,h5,h6,_⟩,h7⟩:=r.bx _ _ hb;exact⟨_,_,vs,B,h4,h5,h6,h7⟩
   ·rename_i hb;obtain⟨B,⟨vs,h4,h5,h6,_⟩,h7⟩:=r.bx _ _ hb;exact⟨_,_,vs,B,h4,h5,h6,h7⟩
  rcases hB with⟨e1,e2,e3⟩|⟨b,rest,lo',e2,e3,h5,h6,h7⟩
  ·subst e1
   have ed:ds=[]:=bV (by rw[←hv.len];rfl)
   subst ed
   rw[e2]
   exact acz.2 ⟨0,⟨none,0,0⟩,[],rfl, .nil _ 0, .nil⟩
  ·subst e3
   have ho:=hBo _ aQ
   have hg:=ar2 ho (r.h.hown _ ho).2.1 r.h.nd
   rw[e2]
   exact acz.2 ⟨s,⟨some ⟨b,0,none⟩,vs.length,_⟩,vs,rfl,adW.of_flat hs hg h7,hv.up akC⟩
 ·rename_i h1
  obtain⟨y,h2,h3⟩:=r.ev h1
  exact⟨y,h2,(aca h3 h).up akC⟩
 ·cases h
theorem aqc(r:RlX GB C n lk bk ρ G ov a w): ∀{l:List Operand} {ds:List DV},ayI lk bk l=some ds→ ∃vs,aeM (frA a) l=some vs∧IsLs (aht G ov) ds vs
 |[],ds,e=>by cases e;exact⟨[],rfl, .nil⟩
 |x::t,ds,e=>by
  simp only[ayI] at e
  split at e<;>cases e
  rename_i h1 h2
  obtain⟨y,h3,h4⟩:=aue r h1
  obtain⟨vs,h5,h6⟩:=aqc r h2
  exact⟨y::vs,by simp only[aeM,h3,h5], .cons h4 h6⟩
def avo(lk:LK)(bk:BM)(fo:Operand)(args:Array Operand):Option (FuncId×List DV):=match evX lk fo with
 |some (.d (.v (.func (.func f) ⟨[]⟩ ⟨[]⟩)))=>match ayI lk bk args.toList with
  |some ds=>some (f,ds)
  |none=>none
 |_=>none
theorem ar1{fo:Operand}{args:Array Operand}{tys:Array TypeId}{f:FuncId}{ds:List DV}{rv:DV}(ha:avo lk bk fo args=some (f,ds))(hnp:rv.np=true)(hF:PF GB prog f ds rv):OpR prog GB C n lk bk ⟨dst, .call ⟨.value fo,args,tys⟩,ty',pos,af,gd⟩ (.d rv) [] []:=by
 intro hd tl tb K' s1 s2 hf hk
 refine⟨fun ρ G ov a w r Q=>?_⟩
 have r1:=r.mono s1 s2
 unfold avo at ha
 split at ha<;>try (cases ha;done)
 rename_i h1
 split at ha<;>cases ha
 rename_i h2
 obtain⟨y,hy,hy'⟩:=r1.ev h1
 rw[(aaM (G:=G)).1 hy'] at hy
 obtain⟨vs,h3,h4⟩:=aqc r1 h2
 refine arr hy h3 (hF _ vs (r.gb.trans akC) h4) hd (fun v G' hK a' w' rl=>?_) a w Q ⟨r.h,r.sz,aaK a,r.df⟩
 exact hk.run ρ G ov a' w' ⟨r.gb,rl.h,rl.sz,rl.df,(aa8 rl).fx (fun k g _ e=>r.fx k g e) (Is.np hnp hK),r.bx,r.dj⟩
def aAk(fr:FrX)(own:OwX)(cf:Cf):Option (FuncId×List DV):=match opC fr cf with
 |some ⟨_, .call ⟨.value fo,args,_⟩,_,_,_,_⟩=>avo (lkC fr cf) (bkC fr own cf) fo args
 |_=>none
theorem cL[fu:Fu]{f:FuncId}{ds:List DV}{rv:DV}(ha:aAk fr own cf=some (f,ds))(hF:PF GB prog f ds rv)(hnp:rv.np=true)(hgo:goA tt n fu.n fr own cf (.d rv) [] []=⟨vc,fr',own',cf'⟩)(k:CfS prog GB C n Q0 fr' own' cf')
  (hv:aag vc:=by first|exact trivial|(simp only[aag];kernel_rfl)|(simp only[aag];omega)):CfS prog GB C n Q0 fr own cf:=by
 unfold aAk at ha
 split at ha<;>try (cases ha;done)
 rename_i hh
 exact us hh (ar1 ha hnp hF) hgo hv k
/-! ### rows with room -/
theorem axK{d cap:Nat}{i:TI}{z:DV}{k k':IntKind}[hT:ab7 prog t e s by_](hi:aeh prog e=some i)(hz:zeE i=some z)(hs:Nat.beq z.cells.length s=true)(hx:evX lk x=some (.d (.v (.int k 0))))(hy:evX lk y=some (.d (.v (.int k' (cap:Nat)))))(hb:by_*cap≤140737488355328)(hl:cap≤1152921504606846976):
  OpR prog GB C n lk bk ⟨some d, .makeSlice t x y,ty',pos,af,gd⟩ (.rw d) [(d,some (.c e s [] cap))] [d]:=by
 intro hd tl tb K s1 s2 hf hk
 refine⟨fun ρ G ov a w r Q=>?_⟩
 obtain⟨v,hz1,hz2,hz3⟩:=agI hi hz
 obtain⟨q1,p1,p2⟩:=(r.mono s1 s2).ev hx
 obtain⟨q2,p3,p4⟩:=(r.mono s1 s2).ev hy
 rw[aas] at p2 p4;subst p2 p4
 have c1:=((hz2 G).cells hz3).1.len
 replace hs:=aW hs
 refine aym p1 p3 (by omega) (by have:((by_*cap:Nat):Int)=by_*cap:=gK ..;omega) (by omega) (by rw[c1,hs]) hd (fun b a' w' rl=>?_) a w Q ⟨r.h,r.sz,aaK a,r.df⟩
 rw[aT] at rl
 have hnd:=(bU.1 rl.h.nd).1
 refine hk.run _ _ _ a' w' (r.new' (x:=⟨some ⟨b,0,none⟩,0,cap⟩) (B':= .c e s [] cap) (os:=[⟨b,aaT v cap,e,true⟩]) (f:= .rw d) (y:= .slice (some ⟨b,0,none⟩) 0 cap) hf (GLe.refl _) rl.h ⟨[], .inr ⟨b,aaT v cap,true,by simp,rfl,by simp[aaf],?_,by simp⟩, .nil,by simp,fun o ho=>by rw[aN.1 ho],by simp⟩
  (fun o ho=>by rw[aN.1 ho];exact aQ) (fun m B' _ _ o ho _=>⟨aZ _ ho,fun e'=>by cases e';exact hnd o ho rfl⟩) (by show _=_;simp) (aa8 rl))
 rw[abe,c1,hs];simp[aaf]
theorem axU{d nm cap:Nat}{ds ds2:List DV}[hT:ab7 prog t e s by_][hN:TyN prog t'](hx:evX lk x=some (.rw nm))(hb:bk nm=some (.c e s ds cap))(hy:anR lk bk s y=some ds2)(hk2:aef s ds2)(hc:ds.length+ds2.length≤cap)(hp:0<ds2.length)(hnd:Nat.beq nm d=false):
  OpR prog GB C n lk bk ⟨some d, .call ⟨.builtin .append, #[x,y], #[t,t']⟩,ty',pos,af,gd⟩ (.rw d) [(nm,none),(d,some (.c e s (ds++ds2) cap))] [d]:=by
 intro hd tl tb K s1 s2 hf hk
 refine⟨fun ρ G ov a w r Q=>?_⟩
 have r1:=r.mono s1 s2
 have hne:nm≠d:=fun e=>by subst e;simp at hnd
 obtain⟨u,hx',hx2⟩:=r1.ev hx
 cases hx2
 obtain⟨B,⟨vs,hB,hv,hvs,hlo,hcap⟩,hBo⟩:=r1.bx _ _ hb
 obtain⟨w2,us,hy',h2,h3,h4,h5,h6⟩:=ajY (P:=prog) (C:=C) r1 hy hk2
 have hus:(aaf us).length=us.length*s:=aam us h4
 have hl1:=hv.len
 have hl2:=h3.len
 have rd:=r.dropB nm
 have hf':acg [d] (some d) tl (Sx.upB tb [(nm,none)]):=fun m hm=>by
  obtain⟨g1,g2⟩:=hf m hm
  refine⟨g1,fun k B' hk e=>g2 k B' hk ?_⟩
  simp only[Sx.upB] at e
  split at e
  ·cases e
  ·exact e
 rcases hB with⟨e1,e2,e3⟩|⟨b,rest,lo',k3,k4,k5,k6,k7⟩
 ·rw[e2] at hcap;simp at hcap;omega
 subst k4
 have hl':=hlo _ aQ
 simp only at hl';subst hl'
 have ha:(ρ nm).a=some ⟨b,0,none⟩:=by rw[k3]
 have hn:(ρ nm).n=vs.length:=by rw[k3]
 rw[ha,hn] at hx'
 rw[h2] at hy' h6
 have hin:=hBo _ aQ
 obtain⟨l1,l2,e5⟩:=jQ hin
 have hperm:ov.Perm (⟨b,aaf vs++rest,e,true⟩::(l1++l2)):=by rw[e5];exact kW
 have hall: ∀v∈vs++us,(aad v).length=s:=fun v hv=>by
  rcases bS.1 hv with hv|hv
  ·exact hvs v hv
  ·exact h4 v hv
 have hcs:(aaf vs++rest).length=(ρ nm).c*s:=by rw[aU];exact k6
 have hroom:vs.length+us.length≤(ρ nm).c:=by omega
 have hmul:(vs.length+us.length)*s≤(ρ nm).c*s:=aM _ hroom
 rw[bN] at hmul
 have hrest:us.length*s≤rest.length:=by rw[k5] at k6;omega
 have hovw:ovw (aaf vs++rest) (vs.length*s) (aaf us)=aaf (vs++us)++rest.drop (us.length*s):=by
  rw[abZ _ _ _ (by rw[hus,aU];omega),aa2,←k5]
  simp[hus,kV,cY]
 refine aeB (P:=prog) (own:=⟨b,aaf vs++rest,e,true⟩::(l1++l2)) (m:=us.length) (ys:=aaf us) hx' hy' (.hd ..) hcs (fun w hh=>h6 w (hh.perm hperm.symm)) hus h5 hroom hd (fun a' w' rl=>?_) a w Q ⟨r.h.perm hperm,r.sz,aaK a,r.df⟩
 rw[hovw] at rl
 have hnd':=(bU.1 rl.h.nd).1
 refine hk.run _ _ _ a' w' (rd.new' (x:=⟨some ⟨b,0,none⟩,vs.length+us.length,(ρ nm).c⟩) (B':= .c e s (ds++ds2) cap) (os:=[⟨b,aaf (vs++us)++rest.drop (us.length*s),e,true⟩]) (f:= .rw d) (y:= .slice (some ⟨b,0,none⟩) (vs.length+us.length) (ρ nm).c) hf' (GLe.refl _) rl.h
  ⟨vs++us, .inr ⟨b,rest.drop (us.length*s),true,by simp,rfl,aam _ hall,?_,by simpa using hroom⟩,hv.app h3,hall,fun o ho=>by rw[aN.1 ho],by simpa using hcap⟩ (fun o ho=>by rw[aN.1 ho];exact aQ)
  (fun m B' hm e' o ho hmo=>?_) (by show _=_;simp) (aa8 rl))
 ·rw[aam _ hall,aU,fU,bN]
  simp only[if_true]
  rw[k5] at k6;omega
 ·have hmn:m≠nm∧tb m=some B':=by
   simp only[Sx.upB] at e'
   split at e'
   ·cases e'
   ·exact⟨by assumption,e'⟩
  have hob:o.b≠b:=fun e6=>r.dj m nm B' _ hmn.2 (s2 _ _ hb) hmn.1 b (by rw[hmo,e6]) ha
  refine⟨?_,fun e6=>by cases e6;exact hob rfl⟩
  rcases aS.1 (hperm.mem_iff.1 ho) with rfl|ho
  ·exact absurd rfl hob
  ·exact aZ _ ho
end
section
variable {GB:Gh} {C:Ctx} {n:Nat} {Q0:Exit→Act→World→Prop} {fr fr':FrX} {own own':OwX} {cf cf':Cf} {vc:List Prop}
theorem mkc[fu:Fu]{d e s b:Nat}{z:DV}{k':IntKind}(cap:Nat)(h:mkA fr cf=some ⟨d,e,s,b,z,0⟩)(hy:(match opC fr cf with|some ⟨_, .makeSlice _ _ y,_,_,_,_⟩=>evX (lkC fr cf) y|_=>none)=some (.d (.v (.int k' (cap:Nat)))))
  (hgo:goA tt n fu.n fr own cf (.rw d) [(d,some (.c e s [] cap))] [d]=⟨vc,fr',own',cf'⟩)(k:CfS prog GB C n Q0 fr' own' cf')(hb:b*cap≤140737488355328:=by omega)(hl:cap≤1152921504606846976:=by omega)
  (hv:aag vc:=by first|exact trivial|(simp only[aag];kernel_rfl)|(simp only[aag];omega)):CfS prog GB C n Q0 fr own cf:=by
 unfold mkA at h
 split at h<;>try (cases h;done)
 rename_i hh
 split at h<;>try (cases h;done)
 rename_i hx
 split at h<;>try (cases h;done)
 rename_i hT
 split at h<;>try (cases h;done)
 rename_i hi
 split at h<;>try (cases h;done)
 rename_i hz
 rw[cond_eq_ite] at h
 split at h<;>cases h
 rename_i hs
 rw[hh] at hy
 have:=adh (abt _ _ hT) rfl
 exact us hh (axK (abt _ _ hi) hz hs hx hy hb hl) hgo hv k
structure aBa where
 d:Nat
 nm:Nat
 e:Nat
 s:Nat
 ds:List DV
 ds2:List DV
 cap:Nat
def aAp(fr:FrX)(own:OwX)(cf:Cf):Option aBa:=match opC fr cf with
 |some ⟨some d, .call ⟨.builtin .append,⟨[x,y]⟩,⟨[t,t']⟩⟩,_,_,_,_⟩=>match aa9 tt t,aa9 tt t' with
  |some ⟨.sl e s _,_,_,_⟩,some ⟨.sl _ _ _,_,_,_⟩=>match evX (lkC fr cf) x with
   |some (.rw nm)=>match bkC fr own cf nm,anR (lkC fr cf) (bkC fr own cf) s y with
    |some (.c e' s' ds cap),some ds2=>bif (Nat.beq e' e&&Nat.beq s' s)&&!Nat.beq nm d then some ⟨d,nm,e,s,ds,ds2,cap⟩ else none
    |_,_=>none
   |_=>none
  |_,_=>none
 |_=>none
theorem apc[fu:Fu]{d nm e s cap:Nat}{ds ds2:List DV}(ds':List DV)(h:aAp fr own cf=some ⟨d,nm,e,s,ds,ds2,cap⟩)(hds:ds++ds2=ds')(ho2:aef s ds2)(hc:ds.length+ds2.length≤cap)(hgo:goA tt n fu.n fr own cf (.rw d) [(nm,none),(d,some (.c e s ds' cap))] [d]=⟨vc,fr',own',cf'⟩)(k:CfS prog GB C n Q0 fr' own' cf')
  (hp:0<ds2.length:=by simp)(hv:aag vc:=by first|exact trivial|(simp only[aag];kernel_rfl)|(simp only[aag];omega)):CfS prog GB C n Q0 fr own cf:=by
 subst hds
 unfold aAp at h
 split at h<;>try (cases h;done)
 rename_i hh
 split at h<;>try (cases h;done)
 rename_i hT hT'
 split at h<;>try (cases h;done)
 rename_i hx
 split at h<;>try (cases h;done)
 rename_i hb hy
 rw[cond_eq_ite] at h
 split at h<;>cases h
 rename_i h2
 simp only[bK,fT] at h2
 cases aW h2.1.1
 cases aW h2.1.2
 have:=adh (abt _ _ hT) rfl
 have hN:TyN prog _:=⟨_,(adh (abt _ _ hT') rfl).un⟩
 exact us hh (axU hx hb hy ho2 hc hp h2.2) hgo hv k
def PI(GB:Gh)(P:Program)(f:FuncId)(i:Int)(s:Nat)(ty ty2:TypeId)(ds:List DV)(x:DV)(cap:Nat)(dso:List DV):Prop:=
 ∀G w w2 B B2,GLe GB G→aaX G ⟨w,s,ty,ds,false⟩ B→cap≤w.c→aaX G ⟨w2,s,ty2,[x],false⟩ B2→FnO P f [.slice w.a w.n w.c, .int .i64 i, .slice w2.a w2.n w2.c] (B++B2) G fun v own' G'=> ∃w',v= .slice w'.a w'.n w'.c∧aaX G' ⟨w',s,ty,dso,false⟩ own'
structure CiA where
 f:FuncId
 nm:Nat
 nm2:Nat
 i:Int
 ty:TypeId
 ty2:TypeId
 s:Nat
 ds:List DV
 x:DV
 cap:Nat
 d:Nat
def aAB(fr:FrX)(own:OwX)(cf:Cf):Option CiA:=match opC fr cf with
 |some ⟨some d, .call ⟨.value fo,⟨[x1,x2,x3]⟩,_⟩,_,_,_,_⟩=>match evX (lkC fr cf) fo,evX (lkC fr cf) x1 with
  |some (.d (.v (.func (.func f) ⟨[]⟩ ⟨[]⟩))),some (.rw nm)=>match evX (lkC fr cf) x2,evX (lkC fr cf) x3 with
   |some (.d (.v (.int .i64 i))),some (.rw nm2)=>match bkC fr own cf nm,bkC fr own cf nm2 with
    |some (.c ty s ds cap),some (.b ty2 s2 [x] true)=>bif (!Nat.beq nm d&&!Nat.beq nm2 d)&&(!Nat.beq nm nm2&&(Nat.beq s2 s&&Nat.blt 0 cap)) then some ⟨f,nm,nm2,i,ty,ty2,s,ds,x,cap,d⟩ else none
    |_,_=>none
   |_,_=>none
  |_,_=>none
 |_=>none
theorem aqK{lk:LK}{bk:BM}{fo x1 x2 x3:Operand}{tys:Array TypeId}{f:FuncId}{nm nm2 d cap s:Nat}{i:Int}{ty0 ty2:TypeId}{ty:TypeId}{pos:String}{af:Array Edge}{gd:Option (Nat×Bool)}{ds dso:List DV}{x:DV}(hne:Nat.beq nm d=false)(hne2:Nat.beq nm2 d=false)(hn2:Nat.beq nm nm2=false)(hcp:0<cap)
  (h0:evX lk fo=some (.d (.v (.func (.func f) ⟨[]⟩ ⟨[]⟩))))(h1:evX lk x1=some (.rw nm))(h2:evX lk x2=some (.d (.v (.int .i64 i))))(h3:evX lk x3=some (.rw nm2))(hb:bk nm=some (.c ty0 s ds cap))(hb2:bk nm2=some (.b ty2 s [x] true))(hF:PI GB prog f i s ty0 ty2 ds x cap dso):
  OpR prog GB C n lk bk ⟨some d, .call ⟨.value fo,⟨[x1,x2,x3]⟩,tys⟩,ty,pos,af,gd⟩ (.rw d) [(nm,none),(nm2,none),(d,some (.b ty0 s dso true))] [d]:=by
 intro hd tl tb K' s1 s2 hf hk
 refine⟨fun ρ G ov a w r Q=>?_⟩
 have r1:=r.mono s1 s2
 obtain⟨y,hy,hy'⟩:=r1.ev h0
 rw[(aaM (G:=G)).1 hy'] at hy
 obtain⟨y1,p1,p1'⟩:=r1.ev h1
 cases (show y1=_ from p1')
 obtain⟨y2,p2,p2'⟩:=r1.ev h2
 rw[aas] at p2';subst p2'
 obtain⟨y3,p3,p3'⟩:=r1.ev h3
 cases (show y3=_ from p3')
 have hnn:nm≠d:=fun e=>by subst e;rw[mX] at hne;cases hne
 have hnn2:nm2≠d:=fun e=>by subst e;rw[mX] at hne2;cases hne2
 have hnm:nm≠nm2:=fun e=>by subst e;rw[mX] at hn2;cases hn2
 obtain⟨B,g1,g2⟩:=r1.bx _ _ hb
 obtain⟨B2,k1,k2⟩:=r1.bx _ _ hb2
 obtain⟨vs,q1,q2,q3,q4,q5⟩:=g1
 have hB:aaX G ⟨ρ nm,s,ty0,ds,false⟩ B:=⟨vs,q1,q2,q3,fun h=>by cases h⟩
 have hB2:aaX G ⟨ρ nm2,s,ty2,[x],false⟩ B2:=aaX.weak (lo:=true) k1
 have e1: ∃o,B=[o]∧(ρ nm).a=some ⟨o.b,0,none⟩:=by
  rcases q1 with⟨_,e,_⟩|⟨b,rest,lo',e,rfl,_⟩
  ·rw[e] at q5;simp at q5;omega
  ·exact⟨_,rfl,by rw[e]⟩
 have e2: ∃o,B2=[o]∧(ρ nm2).a=some ⟨o.b,0,none⟩:=by
  obtain⟨vs2,c1,c2,_⟩:=k1
  rcases c1 with⟨e,_,_⟩|⟨b,rest,lo',e,rfl,_⟩
  ·subst e;have:=c2.len;simp at this
  ·exact⟨_,rfl,by rw[e]⟩
 obtain⟨o1,rfl,a1⟩:=e1
 obtain⟨o2,rfl,a2⟩:=e2
 have hob:o1.b≠o2.b:=fun e=>r.dj nm nm2 _ _ (s2 _ _ hb) (s2 _ _ hb2) hnm _ a1 (by rw[a2,e])
 have hp: ∃rest,ov.Perm ([o1]++[o2]++rest):=by
  obtain⟨l1,l2,e3⟩:=jQ (g2 _ aQ)
  have hm:=k2 _ aQ
  rw[e3] at hm⊢
  have hm2:o2∈l1++l2:=by
   rcases bS.1 hm with h|h
   ·exact bW _ h
   ·rcases aS.1 h with h|h
    ·exact absurd (by rw[h]) hob
    ·exact bR _ h
  obtain⟨l3,l4,e4⟩:=jQ hm2
  refine⟨l3++l4,List.perm_middle.trans ?_⟩
  rw[e4]
  exact(kW (l₁:=l3) (l₂:=l4) (a:=o2)).cons o1
 obtain⟨rest,h5⟩:=hp
 have h6: ∀o∈ov,o.b≠o1.b→o.b≠o2.b→o∈rest:=fun o ho n1 n2=>by
  have:=h5.mem_iff.1 ho
  simp only[jU,gN,aS] at this
  rcases this with rfl|rfl|h
  ·exact absurd rfl n1
  ·exact absurd rfl n2
  ·exact h
 have hlo2: ∀o∈[o2],o.lo=true:=by obtain⟨_,_,_,_,h⟩:=k1;exact h rfl
 have hall: ∀o∈[o1]++[o2],o.lo=true:=fun o ho=>by
  rcases bS.1 ho with h|h
  ·exact q4 o h
  ·exact hlo2 o h
 refine ac3 (M:=[o1]++[o2]) (rest:=rest) (vs:=[.slice (ρ nm).a (ρ nm).n (ρ nm).c, .int .i64 i, .slice (ρ nm2).a (ρ nm2).n (ρ nm2).c]) hy (by simp only[aeM,p1,p2,p3]) h5 (hF G (ρ nm) (ρ nm2) [o1] [o2] r.gb hB q5 hB2) hd (fun v own1 G' hG hK a' w' rl=>?_) a w Q ⟨r.h,r.sz,aaK a,r.df⟩
 obtain⟨z,rfl,vs',k1',k2',k3',k4'⟩:=hK
 have hs1:=k1'.relo (flM ([o1]++[o2]))
 have e3: ∀o∈own1.map (relo (flM ([o1]++[o2]))),o.lo=true:=fun o ho=>by
  obtain⟨o',_,rfl⟩:=bM.1 ho
  exact afb _ hall
 generalize own1.map (relo (flM ([o1]++[o2])))=B' at rl e3 hs1
 have rl':Rel C n (Sx.put (frA a) (some d) (.slice z.a z.n z.c)) (B'++rest) G' a' w':=rl
 have hdis:=(fV.1 rl'.h.nd).2.2
 have rd:=(r.dropB nm).dropB nm2
 have hin: ∀q B0,Sx.upB (Sx.upB tb [(nm,none)]) [(nm2,none)] q=some B0→q≠nm∧q≠nm2∧tb q=some B0:=fun q B0 e=>by
  simp only[Sx.upB] at e
  split at e
  ·cases e
  ·split at e
   ·cases e
   ·exact⟨by assumption,by assumption,e⟩
 have hf2:acg [d] (some d) tl (Sx.upB (Sx.upB tb [(nm,none)]) [(nm2,none)]):=fun q hq=>by
  obtain⟨f1,f2⟩:=hf q hq
  exact⟨f1,fun k B e1 e=>f2 k B e1 (hin k B e).2.2⟩
 have hsep: ∀q B0,Sx.upB (Sx.upB tb [(nm,none)]) [(nm2,none)] q=some B0→ ∀o∈ov,(ρ q).a=some ⟨o.b,0,none⟩→o∈rest:=fun q B0 e o ho hbq=>by
  obtain⟨n1,n2,n3⟩:=hin q B0 e
  exact h6 o ho (fun e'=>r.dj nm q _ _ (s2 _ _ hb) n3 (Ne.symm n1) _ a1 (by rw[hbq,e'])) (fun e'=>r.dj nm2 q _ _ (s2 _ _ hb2) n3 (Ne.symm n2) _ a2 (by rw[hbq,e']))
 have r3:=rd.new' (x:=z) (B':= .b ty0 s dso true) (os:=B') (ov':=B'++rest) (f:= .rw d) (y:= .slice z.a z.n z.c) hf2 hG.le rl'.h ⟨vs',by simpa using hs1,k2',k3',fun _=>e3⟩ (fun o ho=>bW _ ho)
  (fun q B0 hq e o ho hbq=>⟨bR _ (hsep q B0 e o ho hbq),fun hc=>by
   have hx: ∃o1∈B',o1.b=o.b:=by
    rcases hs1 with⟨_,h,_⟩|⟨b0,rest0,lo0,h,hB,_⟩
    ·rw[show z=_ from h] at hc;cases hc
    ·rw[show z=_ from h] at hc;cases hc;exact⟨⟨_,aaf vs'++rest0,_,lo0⟩,by rw[hB];exact aQ,rfl⟩
   obtain⟨o3,ho3,he3⟩:=hx
   exact hdis o3 ho3 o (hsep q B0 e o ho hbq) he3⟩) (by show _=_;simp) (aa8 rl')
 exact hk.run _ G' _ a' w' r3
theorem ci[fu:Fu]{f:FuncId}{nm nm2 d cap s:Nat}{i:Int}{ty ty2:TypeId}{ds dso:List DV}{x:DV}(dso':List DV)(ha:aAB fr own cf=some ⟨f,nm,nm2,i,ty,ty2,s,ds,x,cap,d⟩)(hF:PI GB prog f i s ty ty2 ds x cap dso)(he:dso=dso')
  (hgo:goA tt n fu.n fr own cf (.rw d) [(nm,none),(nm2,none),(d,some (.b ty s dso' true))] [d]=⟨vc,fr',own',cf'⟩)(k:CfS prog GB C n Q0 fr' own' cf')
  (hv:aag vc:=by first|exact trivial|(simp only[aag];kernel_rfl)|(simp only[aag];omega)):CfS prog GB C n Q0 fr own cf:=by
 subst he
 unfold aAB at ha
 split at ha<;>try (cases ha;done)
 rename_i hh
 split at ha<;>try (cases ha;done)
 rename_i h0 h1
 split at ha<;>try (cases ha;done)
 rename_i h2 h3
 split at ha<;>try (cases ha;done)
 rename_i hb hb2
 rw[cond_eq_ite] at ha
 split at ha<;>cases ha
 rename_i hc
 simp only[bK,fT,mT] at hc
 obtain⟨⟨c1,c2⟩,c3,c4,c5⟩:=hc
 cases aW c4
 exact us hh (aqK c1 c2 c3 c5 h0 h1 h2 h3 hb hb2 hF) hgo hv k
theorem kbT(d:Nat){ops:Array Oper}{r:List Oper}{K:List Kt}(hl:aau fr d=some (.d (.v (.bool true))))(k:CfS prog GB C n Q0 ((d, .tt)::fr) own (.ops ops r K)):CfS prog GB C n Q0 fr own (.ops ops r K):=aby (g:= .tt) hl (fun _ G _ e=>(aaM (G:=G)).1 e) k
theorem kbF(d:Nat){ops:Array Oper}{r:List Oper}{K:List Kt}(hl:aau fr d=some (.d (.v (.bool false))))(k:CfS prog GB C n Q0 ((d, .ff)::fr) own (.ops ops r K)):CfS prog GB C n Q0 fr own (.ops ops r K):=aby (g:= .ff) hl (fun _ G _ e=>(aaM (G:=G)).1 e) k
end
section
variable {GB:Gh} {C:Ctx} {n:Nat} {Q0:Exit→Act→World→Prop} {fr fr':FrX} {own own':OwX} {cf cf':Cf} {vc:List Prop}
def xrA(fr:FrX)(cf:Cf):Option (Int×Int):=match opC fr cf with
 |some ⟨_, .binOp .xor _ x y _,_,_,_,_⟩=>match evX (lkC fr cf) x,evX (lkC fr cf) y with
  |some (.d (.v (.int .u32 p))),some (.d (.v (.int .u32 q)))=>some (p,q)
  |_,_=>none
 |_=>none
theorem xr[fu:Fu]{p q:Int}(u:Int)(h:xrA fr cf=some (p,q))(e:(((BitVec.ofInt 32 p^^^BitVec.ofInt 32 q).toNat:Nat):Int)=u)(hgo:goA tt n fu.n fr own cf (.d (.v (.int .u32 u))) [] []=⟨vc,fr',own',cf'⟩)(k:CfS prog GB C n Q0 fr' own' cf')
  (hv:aag vc:=by first|exact trivial|(simp only[aag];kernel_rfl)|(simp only[aag];omega)):CfS prog GB C n Q0 fr own cf:=by
 unfold xrA at h
 split at h<;>try (cases h;done)
 rename_i hh
 split at h<;>cases h
 rename_i h1 h2
 subst e
 exact us hh (.yd fun ρ G ov a w r=>by
  obtain⟨y1,h3,h4⟩:=r.ev h1
  obtain⟨y2,h5,h6⟩:=r.ev h2
  rw[aas] at h4 h6;subst h4 h6
  exact⟨_,aas.2 rfl,abJ h3 h5 fun w=>by
   show(pure (Value.int .u32 (IntKind.u32.wrap ((BitVec.ofInt 32 p^^^BitVec.ofInt 32 q).toNat:Int))):Sem Value).run prog w=_
   rw[ai3];rfl⟩) hgo hv k
def swA(fr:FrX)(cf:Cf):Option (Int×Int):=match opC fr cf with
 |some ⟨_, .binOp .sub _ x y _,_,_,_,_⟩=>match evX (lkC fr cf) x,evX (lkC fr cf) y with
  |some (.d (.v (.int .u32 p))),some (.d (.v (.int .u32 q)))=>some (p,q)
  |_,_=>none
 |_=>none
theorem sw[fu:Fu]{p q:Int}(u:Int)(h:swA fr cf=some (p,q))(e:(p-q)%4294967296=u)(hgo:goA tt n fu.n fr own cf (.d (.v (.int .u32 u))) [] []=⟨vc,fr',own',cf'⟩)(k:CfS prog GB C n Q0 fr' own' cf')
  (hv:aag vc:=by first|exact trivial|(simp only[aag];kernel_rfl)|(simp only[aag];omega)):CfS prog GB C n Q0 fr own cf:=by
 unfold swA at h
 split at h<;>try (cases h;done)
 rename_i hh
 split at h<;>cases h
 rename_i h1 h2
 subst e
 exact us hh (.yd fun ρ G ov a w r=>by
  obtain⟨y1,h3,h4⟩:=r.ev h1
  obtain⟨y2,h5,h6⟩:=r.ev h2
  rw[aas] at h4 h6;subst h4 h6
  exact⟨_,aas.2 rfl,by rw[←acd];exact aeH h3 h5⟩) hgo hv k
def ntA(fr:FrX)(cf:Cf):Option Int:=match opC fr cf with
 |some ⟨_, .unOp .xor _ x,_,_,_,_⟩=>match evX (lkC fr cf) x with
  |some (.d (.v (.int .u32 p)))=>some p
  |_=>none
 |_=>none
theorem nt[fu:Fu]{p:Int}(u:Int)(h:ntA fr cf=some p)(e:(((BitVec.ofInt 32 IntKind.u32.max^^^BitVec.ofInt 32 p).toNat:Nat):Int)=u)(hgo:goA tt n fu.n fr own cf (.d (.v (.int .u32 u))) [] []=⟨vc,fr',own',cf'⟩)(k:CfS prog GB C n Q0 fr' own' cf')
  (hv:aag vc:=by first|exact trivial|(simp only[aag];kernel_rfl)|(simp only[aag];omega)):CfS prog GB C n Q0 fr own cf:=by
 unfold ntA at h
 split at h<;>try (cases h;done)
 rename_i hh
 split at h<;>cases h
 rename_i hx
 subst e
 refine us hh (.x1 hx fun ρ G ov a w y _ r h1 h2=>?_) hgo hv k
 rw[aas] at h2;subst h2
 refine⟨_,aas.2 rfl,fun a w hf hh=>?_⟩
 simp only[execOp,aac hf h1]
 refine aal (w':=w) ?_
 show(pure (Value.int .u32 (IntKind.u32.wrap ((BitVec.ofInt 32 IntKind.u32.max^^^BitVec.ofInt 32 p).toNat:Int))):Sem Value).run prog w=_
 rw[ai3];rfl
end

end Go.Sx
end
section
namespace Go.Sx
open Go
def dU(d:Nat):DV:= .v (.int .u32 (d:Int))
def dLi(ds:List Nat):DV:= .sl (ds.map dU)
def dN(n:Nat):DV:= .sl ((dg n).map dU)
def dD(n:Nat):DV:= .sl (if n=1 then [] else(dg n).map dU)
def eI(m:Int):DV:= .ag [.v (.bool (decide (m<0))),dN m.natAbs]
def eQ(q:Rat):DV:= .ag [.v (.bool (decide (q.num<0))),dN q.num.natAbs,dD q.den]
def eP(p:PtQ):DV:= .ag [.v (.bool (decide (p.x.num<0))),dN p.x.num.natAbs,dD p.x.den, .v (.bool (decide (p.y.num<0))),dN p.y.num.natAbs,dD p.y.den]
def eL(l:LnQ):DV:= .ag [.v (.bool (decide (l.a<0))),dN l.a.natAbs, .v (.bool (decide (l.b<0))),dN l.b.natAbs, .v (.bool (decide (l.c<0))),dN l.c.natAbs]
def eR(q:Rat):DV:= .ag [.v (.bool (decide (q.num<0))),dN q.num.natAbs,dN q.den]
def ePt(p:PtQ):DV:= .ag [.v (.bool (decide (p.x.num<0))),dN p.x.num.natAbs,dN p.x.den, .v (.bool (decide (p.y.num<0))),dN p.y.num.natAbs,dN p.y.den]
def vI(n:Int):DV:= .v (.int .i64 n)
def vB(b:Bool):DV:= .v (.bool b)
theorem ay8(n:Nat):dN n=dLi (dg n):=rfl
theorem azA{ds:List Nat}(h:DOk ds):dLi (trimD ds)=dN (dv ds):=by unfold dLi dN;rw[acM h]
theorem aqP{ds:List Nat}{i:Nat}(h:i<ds.length):(ds.map dU)[i]? =some (dU (ds.getD i 0)):=by
 rw[fR,aJ h,aK,aJ h];rfl
theorem aa4{ds:List Nat}{i:Nat}(h:i<ds.length):(ds.map dU)[(i:Int).toNat]? =some (dU (ds.getD i 0)):=by rw[aT];exact aqP h
theorem ac2(ds:List Nat)(i d:Nat):(ds.map dU).set i (.v (.int .u32 (d:Int)))=(ds.set i d).map dU:=by rw[oS];rfl
theorem adN(n:Nat):List.replicate n (DV.v (.int .u32 0))=(List.replicate n 0).map dU:=by rw[List.map_replicate];rfl
theorem ak6(ds:List Nat):aef 1 (ds.map dU):=fun d hd=>by
 obtain⟨n,_,rfl⟩:=bM.1 hd;exact⟨rfl,rfl⟩
theorem acA(n:Nat)(i:Nat):(dg n).getD i 0<4294967296:=(aaD n).2.1.get i
theorem afQ:dg 0=[]:=by rw[dg,dif_pos rfl]
theorem akd:dg 1=[1]:=by rw[dg,dif_neg (by decide)];simp[afQ]
theorem ack{n:Nat}:(dg n).length=0↔n=0:=by
 constructor
 ·intro h
  have:=(aaD n).1
  rw[bV h] at this
  exact this.symm
 ·rintro rfl;rw[afQ];rfl
theorem air:dN 0= .sl []:=by unfold dN;rw[afQ];rfl
/-! ### bridges -/
theorem ago{G:Gh}: ∀{ds:List Nat} {es:List Value},IsLs G (ds.map dU) es↔es=ds.map dI
 |[],es=>aaz
 |d::t,es=>by
  rw[bL,aab]
  constructor
  ·rintro ⟨y,n,rfl,h1,h2⟩
   rw[aaM.1 h1,ago.1 h2];rfl
  ·rintro rfl
   exact⟨_,_,rfl,aaM.2 rfl,ago.2 rfl⟩
theorem awL{G:Gh}{ds:List Nat}{v:Value}:Is G (dLi ds) v↔ ∃x:SV,v= .slice x.a x.n x.c∧adW G 1 x (ds.map dI):=by
 unfold dLi
 rw[acz]
 constructor
 ·rintro ⟨s,x,es,rfl,h1,h2⟩
  have:=ago.1 h2
  subst this
  refine⟨x,rfl,?_⟩
  rcases ad5 (s:=1) h1 h2 (ak6 ds) with h|h
  ·rw[h] at h1⊢
   exact⟨h1.len,h1.cap, .inl rfl⟩
  ·subst h;exact h1
 ·rintro ⟨x,rfl,h⟩
  exact⟨1,x,_,rfl,h,ago.2 rfl⟩
theorem at2{G:Gh}{n k:Nat}{v:Value}(hk:n<2^k):Is G (dN n) v↔ ∃x:SV,v= .slice x.a x.n x.c∧IsN k G x n:=by
 rw[ay8,awL]
 constructor
 ·rintro ⟨x,rfl,h⟩
  exact⟨x,rfl,⟨(aaD n).2.1,h⟩,hk⟩
 ·rintro ⟨x,rfl,h⟩
  exact⟨x,rfl,h.d.sl⟩
/-! ### spelled otherwise -/
theorem aay{ds:List Nat}{i:Int}{k:Nat}(hi:i=k)(h:k<ds.length):(ds.map dU)[i.toNat]? =some (dU (ds.getD k 0)):=by subst hi;exact aa4 h
/-! ### bounds -/
class BN (n:Nat) (k:outParam Nat):Prop where h:n<2^k
class BI (m:Int) (k:outParam Nat):Prop where h:m.natAbs<2^k
class BQ (q:Rat) (k:outParam Nat):Prop where
 hn:q.num.natAbs<2^k
 hd:q.den<2^k
theorem BN.mono{n k k':Nat}(h:BN n k)(hk:k≤k'):BN n k':=⟨cJ h.h (aL (by decide) hk)⟩
theorem aba{a b i j:Nat}(h:a<2^i)(k:b<2^j):a*b<2^(i+j):=by rw[dR];exact lT h k
theorem aeo{a b i j:Nat}(h:a<2^i)(k:b<2^j):a+b<2^(i+j+1):=by
 have h1:2^i≤2^(i+j):=aL (by decide) (by omega)
 have h2:2^j≤2^(i+j):=aL (by decide) (by omega)
 rw[dS];omega
instance BN.mul (a b i j:Nat) [h:BN a i] [k:BN b j]:BN (a*b) (i+j):=⟨aba h.h k.h⟩
instance BN.add (a b i j:Nat) [h:BN a i] [k:BN b j]:BN (a+b) (i+j+1):=⟨aeo h.h k.h⟩
instance BN.sub (a b i:Nat) [h:BN a i]:BN (a-b) i:=⟨by have:=h.h;omega⟩
instance BN.div (a b i:Nat) [h:BN a i]:BN (a/b) i:=⟨eX (iL _ _) h.h⟩
instance BN.abs (m:Int) (i:Nat) [h:BI m i]:BN m.natAbs i:=⟨h.h⟩
instance BN.den (q:Rat) (i:Nat) [h:BQ q i]:BN q.den i:=⟨h.hd⟩
theorem akS{a b i j:Nat}(h:a<2^i)(k:b<2^j):Nat.gcd a b<2^(i+j):=by
 have h1:2^i≤2^(i+j):=aL (by decide) (by omega)
 have h2:2^j≤2^(i+j):=aL (by decide) (by omega)
 rcases dZ a with h0|h0
 ·subst h0;rw[Nat.gcd_zero_left];omega
 ·have:=Nat.gcd_le_left b h0;omega
instance BN.gcd (a b i j:Nat) [h:BN a i] [k:BN b j]:BN (Nat.gcd a b) (i+j):=⟨akS h.h k.h⟩
instance BN.one:BN 1 1:=⟨by decide⟩
instance BN.zero:BN 0 0:=⟨by decide⟩
instance BI.mul (a b:Int) (i j:Nat) [h:BI a i] [k:BI b j]:BI (a*b) (i+j):=⟨by rw[gU];exact aba h.h k.h⟩
instance BI.add (a b:Int) (i j:Nat) [h:BI a i] [k:BI b j]:BI (a+b) (i+j+1):=⟨eX (Int.natAbs_add_le a b) (aeo h.h k.h)⟩
instance BI.sub (a b:Int) (i j:Nat) [h:BI a i] [k:BI b j]:BI (a-b) (i+j+1):=⟨eX (Int.natAbs_sub_le a b) (aeo h.h k.h)⟩
instance BI.neg (a:Int) (i:Nat) [h:BI a i]:BI (-a) i:=⟨by rw[hJ];exact h.h⟩
instance BI.num (q:Rat) (i:Nat) [h:BQ q i]:BI q.num i:=⟨h.hn⟩
instance BI.nat (n:Nat) (i:Nat) [h:BN n i]:BI (n:Int) i:=⟨by rw[iK];exact h.h⟩
theorem abp(q:Rat):0<q.den:=iJ q.den_nz
theorem adF{m:Int}{d i:Nat}(hd:0<d)(h:m.natAbs<2^i)(k:d<2^i):BQ (mkRat m d) i:=by
 refine⟨?_,?_⟩
 ·rw[Rat.num_mkRat,if_neg (by omega)]
  have:=lQ m (d.gcd m.natAbs:Nat)
  omega
 ·rw[Rat.den_mkRat,if_neg (by omega)]
  have:=iL d (d.gcd m.natAbs)
  omega
theorem BQ.mono{q:Rat}{k k':Nat}(h:BQ q k)(hk:k≤k'):BQ q k':=⟨cJ h.hn (aL (by decide) hk),cJ h.hd (aL (by decide) hk)⟩
theorem adn(p q:Rat):p*q=mkRat (p.num*q.num) (p.den*q.den):=by rw[Rat.mul_def,Rat.normalize_eq_mkRat]
theorem adt(p q:Rat):p+q=mkRat (p.num*q.den+q.num*p.den) (p.den*q.den):=by rw[Rat.add_def,Rat.normalize_eq_mkRat]
instance BQ.mul (p q:Rat) (i j:Nat) [h:BQ p i] [k:BQ q j]:BQ (p*q) (i+j):=by
 rw[adn]
 exact adF (gR (abp p) (abp q)) (BI.mul p.num q.num i j).h (aba h.hd k.hd)
instance BQ.add (p q:Rat) (i j:Nat) [h:BQ p i] [k:BQ q j]:BQ (p+q) (i+j+1):=by
 rw[adt]
 refine adF (gR (abp p) (abp q)) ?_ ?_
 ·have h1:=aba h.hn k.hd
  have h2:=aba k.hn h.hd
  have h3:(p.num*q.den+q.num*p.den).natAbs≤(p.num*q.den).natAbs+(q.num*p.den).natAbs:=Int.natAbs_add_le ..
  rw[gU,gU,iK,iK] at h3
  rw[iZ j i] at h2
  rw[dS];omega
 ·have h1:=aba h.hd k.hd
  rw[dS];omega
instance BQ.neg (p:Rat) (i:Nat) [h:BQ p i]:BQ (-p) i:=⟨by rw[kK,hJ];exact h.hn,by rw[mN];exact h.hd⟩
instance BQ.sub (p q:Rat) (i j:Nat) [h:BQ p i] [k:BQ q j]:BQ (p-q) (i+j+1):=by
 rw[Rat.sub_eq_add_neg]
 exact BQ.add p (-q) i j
instance BQ.ofInt (m:Int) (i:Nat) [h:BI m i]:BQ (m:Rat) (i+1):=by
 refine⟨?_,?_⟩
 ·rw[qJ];have:=h.h;rw[dS];omega
 ·rw[oZ];have:0<2^i:=dX (by decide);rw[dS];omega
end Go.Sx
end
