import Derived.Test.YtmhfhhiaecjhiaaGreatDoorWr5
set_option linter.all false
set_option maxRecDepth 100000
section
namespace Go.Sx
open Go Go.Proofs Tryz
section
variable {GB:Gh} {C:az} {n:Nat} {Q0:Exit->Act->World->Prop} {fr fr':ao} {own own':aA} {cf cf':Cf} {vc:List Prop} {ops:Array Oper} {o:Oper} {K:List Kt} {r:List Oper}
def rnN(x y m:Nat)(k:Option Nat):Option Nat:=bif Nat.beq m x then some y else bif Nat.beq m y then none else k
def mC(x y:Nat):FX->FX
 | .rw m=>bif Nat.beq m x then .rw y else bif Nat.beq m y then .no else .rw m
 | .ov m o=>bif Nat.beq m x then .ov y o else bif Nat.beq m y then .no else .ov m o
 | .be m s i j=>bif Nat.beq m x then .be y s i j else bif Nat.beq m y then .no else .be m s i j
 | .rs m s i j=>bif Nat.beq m x then .rs y s i j else bif Nat.beq m y then .no else .rs m s i j
 | .bx tp pre m post=>bif Nat.beq m x then .bx tp pre y post else bif Nat.beq m y then .no else .bx tp pre m post
 |f=>f
def lP(x y:Nat):Option Bk->Option Bk
 |some (.o ty cs lo)=>some (.o ty (cs.map (mC x y)) lo)
 |B=>B
def rnK(x y k:Nat):Nat:=bif Nat.beq k x then y else bif Nat.beq k y then x else k
def wP{α:Type}(g:FX->FX):List FX->(List FX->α)->α
 |[],k=>k []
 |f::t,k=>wP g t fun t'=>tJ (g f) fun f'=>k (f'::t')
def Ho{α:Type}{g:FX->FX}: ∀{cs:List FX} {k:List FX->α},wP g cs k=k (cs.map g)
 |[],k=>rfl
 |f::t,k=>by simp only[wP,xo];rw[Ho];rfl
def yO{α:Type}(g:FX->FX):ao->(ao->α)->α
 |[],k=>k []
 |(j,f)::t,k=>yO g t fun t'=>tJ (g f) fun f'=>k ((j,f')::t')
def Bo{α:Type}{g:FX->FX}: ∀{fr:ao} {k:ao->α},yO g fr k=k (fr.map fun e=>(e.1,g e.2))
 |[],k=>rfl
 |(j,f)::t,k=>by simp only[yO,xo];rw[Bo];rfl
def wC{α:Type}(x y:Nat):aA->(aA->α)->α
 |[],k=>k []
 |(j,B)::t,k=>wC x y t fun t'=>bif Nat.beq j y then k ((x,none)::t') else match B with
  |some (.o ty cs lo)=>wP (mC x y) cs fun cs'=>bif Nat.beq j x then k ((y,some (.o ty cs' lo))::t') else k ((j,some (.o ty cs' lo))::t')
  |B=>bif Nat.beq j x then k ((y,B)::t') else k ((j,B)::t')
def AZ{α:Type}{x y:Nat}: ∀{own:aA} {k:aA->α},wC x y own k=k (own.map fun e=>(bif Nat.beq e.1 y then x else bif Nat.beq e.1 x then y else e.1,bif Nat.beq e.1 y then none else lP x y e.2))
 |[],k=>rfl
 |(j,B)::t,k=>by
  simp only[wC,AZ (own:=t),bL]
  cases Nat.beq j y with
  |true=>rfl
  |false=>
   cases B with
   |none=>cases Nat.beq j x<;>rfl
   |some B=>cases B<;>cases Nat.beq j x<;>simp only[cond_false,cond_true,Ho,lP]
def ze{x y:Nat}(hxy:x≠y): ∀{own:aA} {k:Nat},aI (own.map fun e=>(bif Nat.beq e.1 y then x else bif Nat.beq e.1 x then y else e.1,bif Nat.beq e.1 y then none else lP x y e.2)) k=if k=x then none else if k=y then lP x y (aI own x) else lP x y (aI own k)
 |[],k=>by simp[aI,lP]
 |(j,B)::t,k=>by
  have bq: ∀a b:Nat,Nat.beq a b=decide (a=b):=fun a b=>by
   by_cases h:a=b
   .subst h;simp
   .rw[decide_eq_false h]
    cases hb:Nat.beq a b with
    |false=>rfl
    |true=>exact absurd (aU hb) h
  simp only[bL];rw[fI,ze hxy (own:=t),fI,fI];by_cases h1:j=y
  .subst h1
   simp only[bq,decide_true,cond_true];by_cases h2:k=x
   .simp[h2]
   .by_cases h3:k=j
    .subst h3;simp[h2,Ne.symm h2,hxy]
    .simp[h2,h3]
  .by_cases h4:j=x
   .subst h4
    simp only[bq,h1,decide_false,cond_false,decide_true,cond_true];by_cases h2:k=y
    .subst h2;simp[Ne.symm h1]
    .by_cases h3:k=j
     .subst h3;simp[h1]
     .simp[h2,h3]
   .simp only[bq,h1,h4,decide_false,cond_false]
    by_cases h2:k=j
    .subst h2;simp[h1,h4]
    .by_cases h3:k=x
     .subst h3;simp[h2]
     .by_cases h5:k=y
      .subst h5;simp[h2,h3,Ne.symm h4]
      .simp[h2,h3,h5]
def Ci{x y:Nat}(hxy:x≠y){ρ:NE}{G:Gh}{f:FX}{v:Value}(h:bz ρ G f v):bz (fun k=>if k=y then ρ x else ρ k) G (mC x y f) v:=by
 have key: ∀m:Nat,Nat.beq m y=false->(fun k=>if k=y then ρ x else ρ k) m=ρ m:=fun m hm=>if_neg fun e=>by subst e;simp at hm
 cases f with
 |rw m=>
  simp only[mC]
  cases hb:Nat.beq m x with
  |true=>cases aU hb;simp only[cond_true];show v=_;simp;exact h
  |false=>
   cases hb':Nat.beq m y with
   |true=>trivial
   |false=>simp only[cond_false];show v=_;rw[key m hb'];exact h
 |ov m off=>
  simp only[mC]
  cases hb:Nat.beq m x with
  |true=>cases aU hb;simp only[cond_true];obtain⟨b,h1,h2⟩:=h;exact⟨b,by simp;exact h1,h2⟩
  |false=>
   cases hb':Nat.beq m y with
   |true=>trivial
   |false=>simp only[cond_false];obtain⟨b,h1,h2⟩:=h;exact⟨b,by rw[key m hb'];exact h1,h2⟩
 |be m s i j=>
  simp only[mC]
  cases hb:Nat.beq m x with
  |true=>cases aU hb;simp only[cond_true];obtain⟨b,h1,h2⟩:=h;exact⟨b,by simp;exact h1,h2⟩
  |false=>
   cases hb':Nat.beq m y with
   |true=>trivial
   |false=>simp only[cond_false];obtain⟨b,h1,h2⟩:=h;exact⟨b,by rw[key m hb'];exact h1,h2⟩
 |rs m s i j=>
  simp only[mC]
  cases hb:Nat.beq m x with
  |true=>cases aU hb;simp only[cond_true];obtain⟨b,c,h1,h2⟩:=h;exact⟨b,c,by simp;exact h1,h2⟩
  |false=>
   cases hb':Nat.beq m y with
   |true=>trivial
   |false=>simp only[cond_false];obtain⟨b,c,h1,h2⟩:=h;exact⟨b,c,by rw[key m hb'];exact h1,h2⟩
 |bx tp pre m post=>
  simp only[mC]
  cases hb:Nat.beq m x with
  |true=>cases aU hb;simp only[cond_true];obtain⟨m1,m2,e,h1,h2⟩:=h;exact⟨m1,m2,by simpa using e,h1,h2⟩
  |false=>
   cases hb':Nat.beq m y with
   |true=>trivial
   |false=>simp only[cond_false];obtain⟨m1,m2,e,h1,h2⟩:=h;exact⟨m1,m2,by rw[key m hb'];exact e,h1,h2⟩
 |_=>exact h
def y7{x y:Nat}(hxy:x≠y){ρ:NE}{G:Gh}: ∀{cs:List FX} {m:List Value},cD ρ G cs m->cD (fun k=>if k=y then ρ x else ρ k) G (cs.map (mC x y)) m
 |[],m,h=>h
 |f::t,m,⟨v,q,e,h1,h2⟩=>⟨v,q,e,Ci hxy h1,y7 hxy h2⟩
def rY(x y:Nat)(fr:ao)(own:aA):Option tI:=bif Nat.beq x y then none else yO (mC x y) fr fun fr'=>wC x y own fun own'=>some ⟨fr',own'⟩
def Rs{x y:Nat}{Φ:Act->World->Prop}{R:tI}(hy:Nat.blt y 2000000=true)(h:rY x y fr own=some R)(hk:SX GB C n (aD R.fr) (aI R.own) Φ):SX GB C n (aD fr) (aI own) Φ:=by
 unfold rY at h;rw[cond_eq_ite] at h;split at h<;>try (cases h;done)
 rename_i hb;have hxy:x≠y:=fun e=>hb (by subst e;simp);rw[Bo,AZ] at h;cases h;refine⟨fun ρ G ov a w r=>hk.run (fun k=>if k=y then ρ x else ρ k) G ov a w ?_⟩;have inv: ∀m B,aI (own.map fun e=>(bif Nat.beq e.1 y then x else bif Nat.beq e.1 x then y else e.1,bif Nat.beq e.1 y then none else lP x y e.2)) m=some B-> ∃m0 B0,aI own m0=some B0/\lP x y (some B0)=some B/\(m=y/\m0=x\/m≠y/\m≠x/\m0=m):=fun m B e=>by
  rw[ze hxy] at e;split at e
  .cases e
  .rename_i hm
   split at e
   .cases hl:aI own x with
    |none=>rw[hl] at e;cases e
    |some B0=>rw[hl] at e;exact⟨x,B0,hl,e, .inl ⟨by assumption,J⟩⟩
   .cases hl:aI own m with
    |none=>rw[hl] at e;cases e
    |some B0=>rw[hl] at e;exact⟨m,B0,hl,e, .inr ⟨by assumption,hm,J⟩⟩
 have rho: ∀m m0,(m=y/\m0=x\/m≠y/\m≠x/\m0=m)->(fun k=>if k=y then ρ x else ρ k) m=ρ m0:=fun m m0 h=>by
  rcases h with⟨h1,h2⟩|⟨h1,_,h2⟩
  .subst h1 h2;simp
  .subst h2;exact if_neg h1
 refine⟨r.gb,r.h,r.sz,r.df,fun k f e=>?_,fun m B e=>?_,fun m m' B B' e e' hne=>?_,fun m p h1 h2 e=>by
  have:y<2000000:=by simpa[lS] using hy
  show(if m=y then ρ x else ρ m).a=_;rw[if_neg (by omega)];exact r.fxd m p h1 h2 e⟩
 .rw[xL] at e
  cases hf:aD fr k with
  |none=>rw[hf] at e;cases e
  |some g=>
   rw[hf] at e;cases e;obtain⟨v,h1,h2⟩:=r.fx k g hf;exact⟨v,h1,Ci hxy h2⟩
 .obtain⟨m0,B0,h1,h2,h3⟩:=inv m B e
  obtain⟨os,h4,h5⟩:=r.bx m0 B0 h1;refine⟨os,?_,h5⟩;have hr:=rho m m0 h3
  cases B0 with
  |b=>cases h2;obtain⟨vs,q1,q2,q3,q4⟩:=h4;exact⟨vs,by rw[hr];exact q1,q2,q3,q4⟩
  |c=>cases h2;obtain⟨vs,q1,q2,q3,q4,q5⟩:=h4;exact⟨vs,by rw[hr];exact q1,q2,q3,q4,by rw[hr];exact q5⟩
  |p=>cases h2;obtain⟨q0,vs,q1,q2,q3,q4⟩:=h4;exact⟨by rw[hr];exact q0,vs,q1,q2,q3,q4⟩
  |o ty cs lo=>cases h2;obtain⟨b,q,q1,q2,q3⟩:=h4;exact⟨b,q,by rw[hr];exact q1,q2,y7 hxy q3⟩
 .obtain⟨m0,B0,h1,_,h3⟩:=inv m B e
  obtain⟨m1,B1,h4,_,h6⟩:=inv m' B' e';have q1:=rho m m0 h3;have q2:=rho m' m1 h6;simp only at q1 q2;rw[q1,q2];refine r.dj m0 m1 B0 B1 h1 h4 fun e=>?_;rcases h3 with⟨h7,h8⟩|⟨h7,h8,h9⟩<;>rcases h6 with⟨g7,g8⟩|⟨g7,g8,g9⟩
  .exact hne (h7.trans g7.symm)
  .exact g8 (by rw[<-g9,<-e,h8])
  .exact h8 (by rw[<-h9,e,g8])
  .exact hne (by rw[<-h9,e,g9])
def d4(x y:Nat){fr1:ao}{own1:aA}{e:Exit}(h:rY x y fr own=some ⟨fr1,own1⟩)(k:ak prog GB C n Q0 fr1 own1 (.ex e K))(hy:Nat.blt y 2000000=true:=by rfl):ak prog GB C n Q0 fr own (.ex e K):=Rs hy h k
def QL{d nm:Nat}(hnm:Nat.blt nm 2000000=true)(hl:aD fr d=some .nl){Φ:Act->World->Prop}{ty s:Nat}(hf:i6 [nm] none (aD fr) (aI own))(h:SX GB C n (aD ((d, .rw nm)::fr)) (aI (ig own nm (some (.b ty s [] true)))) Φ):SX GB C n (aD fr) (aI own) Φ:=by
 refine⟨fun ρ G ov a w r=>?_⟩;obtain⟨f1,f2⟩:=hf nm aX;have hset:aI (ig own nm (some (.b ty s [] true)))=upB (aI own) [(nm,some (.b ty s [] true))]:=by funext j;rw[qo];rfl
 rw[hset] at h;refine h.run (fun k=>if k=nm then⟨none,0,0⟩ else ρ k) G ov a w ⟨r.gb,r.h,r.sz,r.df,fun k f e=>?_,fun m B e=>?_,fun m m' B B' e e' hne=>?_,fun m p h1 h2 e=>by
  have:nm<2000000:=by simpa[lS] using hnm
  show(if m=nm then(⟨none,0,0⟩:SV) else ρ m).a=_;rw[if_neg (by omega)];exact r.fxd m p h1 h2 e⟩
 .rw[e7] at e
  split at e
  .cases e;rename_i hk;subst hk
   obtain⟨v,h1,h2⟩:=r.fx _ _ hl;exact⟨v,h1,by rw[show v=_ from h2];show _=_;simp⟩
  .obtain⟨v,h1,h2⟩:=r.fx k f e
   exact⟨v,h1,h2.ren fun m hm=>oH _ fun hc=>f1 k f (by simp) e (by rw[hm,hc])⟩
 .simp only[upB] at e
  by_cases hm:m=nm
  .subst hm;simp only[if_true] at e;cases e
   exact⟨[],⟨[],by simp only[if_true];exact .inl ⟨J,J,J⟩, .nil,by simp,fun _ o ho=>by cases ho⟩,fun o ho=>by cases ho⟩
  .simp only[hm,if_false] at e
   obtain⟨os,h1,h2⟩:=r.bx m B e;exact⟨os,h1.ren (if_neg hm) fun q hq=>oH _ fun hc=>f2 m B hm e (by rw[<-hc];exact hq),h2⟩
 .simp only[upB] at e e'
  intro b hb hb';by_cases hm:m=nm
  .simp[hm] at hb
  .by_cases hm':m'=nm
   .simp[hm'] at hb'
   .simp only[hm,hm',if_false] at e e' hb hb'
    exact r.dj m m' B B' e e' hne b hb hb'
def nr(d nm ty s:Nat){own1:aA}{c:Code}(hl:aD fr d=some .nl)(hf:mw [nm] none fr own=true)(ho:oD own nm (some (.b ty s [] true)) id=own1)(k:ak prog GB C n Q0 ((d, .rw nm)::fr) own1 (.code c K))(hnm:Nat.blt nm 2000000=true:=by rfl):ak prog GB C n Q0 fr own (.code c K):=by
 subst ho;exact QL hnm hl (vd hf) k
def fE:List (Option DV)->Nat->List DV
 |[],_=>[]
 |some d::t,b=>d::fE t b
 |none::t,b=> .v (.pointer (some ⟨b,0,none⟩))::fE t b
def ww(lk:LK):List Operand->Option (Option Nat×List (Option DV))
 |[]=>some (none,[])
 |x::t=>match aB lk x,ww lk t with
  |some (.ov nm 0),some (none,l)=>some (some nm,none::l)
  |some f,some (q,l)=>match gw f with
   |some d=>some (q,some d::l)
   |none=>none
  |_,_=>none
def Bu(lk:LK)(fo:Operand)(args:Array Operand):Option (FuncId×Nat×List (Option DV)):=match aB lk fo with
 |some (.d (.v (.func (.func f) ⟨[]⟩ ⟨[]⟩)))=>match ww lk args.toList with
  |some (some nm,l)=>some (f,nm,l)
  |_=>none
 |_=>none
def B4{lk:LK}{bk:BM}{ρ:NE}{G:Gh}{ov:List av}{a:Act}{w:World}(r:bu GB C n lk bk ρ G ov a w){b:Nat}: ∀{x:List Operand} {q:Option Nat} {l:List (Option DV)},ww lk x=some (q,l)->(∀nm,q=some nm->(ρ nm).a=some ⟨b,0,none⟩)->
  ∃y,fg (cg a) x=some y/\IsLs G (fE l b) y
 |[],q,l,e,_=>by cases e;exact⟨[],J, .nil⟩
 |x::t,q,l,e,hb=>by
  simp only[ww] at e;split at e
  .rename_i nm l' h1 h2
   cases e
   obtain⟨y,h3,b',h4,rfl⟩:=r.ev h1;have:=hb nm J;rw[h4] at this;cases this;obtain⟨ys,h5,h6⟩:=B4 r (b:=b) h2 (fun nm e=>by cases e);exact⟨_::ys,by simp only[fg,h3,h5], .cons ((aH (G:=G)).2 J) h6⟩
  .rename_i f q' l' _ h1 h2
   cases hd:gw f with
   |none=>rw[hd] at e;cases e
   |some d=>
   rw[hd] at e;cases e;obtain⟨y,h3,h4⟩:=r.ev h1;obtain⟨ys,h5,h6⟩:=B4 r (b:=b) h2 hb;exact⟨y::ys,by simp only[fg,h3,h5], .cons (lu h4 hd) h6⟩
  .cases e
def bu.lend{lk:LK}{bk:BM}{ρ:NE}{G:Gh}{ov:List av}{a:Act}{w:World}{nm:Nat}{ty:TypeId}{cs:List FX}{lo:Bool}{csd:List DV}(r:bu GB C n lk bk ρ G ov a w)(hb:bk nm=some (.o ty cs lo))(hc:iq cs=some csd):
  ∃b m rest,(ρ nm).a=some ⟨b,0,none⟩/\IsLs G csd m/\ov.Perm ([⟨b,m,ty,lo⟩]++rest)/\ ∀o∈ov,o.b≠b->o∈rest:=by
 obtain⟨os,⟨b,m,h1,rfl,h2⟩,h3⟩:=r.bx _ _ hb;obtain⟨l1,l2,rfl⟩:=oU (h3 _ aX);refine⟨b,m,l1++l2,h1,q7 h2 hc,pU,fun o ho hne=>?_⟩;rcases cM.1 ho with ho|ho
 .exact dZ _ ho
 .rcases aR.1 ho with rfl|ho
  .exact absurd J hne
  .exact fR _ ho
def Se{P:Program}{lk:LK}{bk:BM}{fo:Operand}{args:Array Operand}{tys:Array TypeId}{f:FuncId}{nm:Nat}{l:List (Option DV)}{rv:DV}{dst:Option Nat}{ty ty0:TypeId}{pos:String}{af:Array Edge}{gd:Option (Nat×Bool)}{cs:List FX}{csd cs':List DV}{lo:Bool}
  (ha:Bu lk fo args=some (f,nm,l))(hb:bk nm=some (.o ty0 cs lo))(hc:iq cs=some csd)(hF: ∀b,PM GB P f (fE l b) b ty0 csd rv cs'){csx:List FX}(hx:cs'.map .d=csx):bw P GB C n lk bk ⟨dst, .call ⟨.value fo,args,tys⟩,ty,pos,af,gd⟩ (.d rv) [(nm,some (.o ty0 csx lo))] []:=by
 intro hd tl tb K' s1 s2 hf hk;refine⟨fun ρ G ov a w r Q=>?_⟩;subst hx;have r1:=r.mono s1 s2;unfold Bu at ha;split at ha<;>try (cases ha;done)
 rename_i h1;split at ha<;>cases ha;rename_i h2;obtain⟨y,hy,hy'⟩:=r1.ev h1;rw[(aH (G:=G)).1 hy'] at hy;obtain⟨b,m,rest,h3,h4,h5,h6⟩:=r1.lend hb hc;obtain⟨vs,h7,h8⟩:=B4 r1 (b:=b) h2 (fun nm e=>by cases e;exact h3);refine Mz (M:=[⟨b,m,ty0,lo⟩]) (rest:=rest) hy h7 h5 (hF b G vs m lo r.gb h8 h4) hd (fun v css G' hG hl hK a' w' rl=>?_) a w Q ⟨r.h,r.sz,ci a,r.df⟩;obtain⟨hr,m',rfl,hm'⟩:=hK;have rl':eB C n (Sx.put (cg a) dst v) (⟨b,m',ty0,lo⟩::rest) G' a' w':=rl;have r2:=r.upB (G':=G') (ov':=⟨b,m',ty0,lo⟩::rest) (w':=w') (B':= .o ty0 (cs'.map .d) lo) (os:=[⟨b,m',ty0,lo⟩]) hG.le rl'.h ⟨b,m',h3,J,oO hm'⟩ (fun o ho=>by rw[aL.1 ho];exact aX)
  (fun o ho hne=>aK _ (h6 o ho fun e=>hne (by rw[h3,e]))) ⟨_,s2 _ _ hb⟩
 exact hk.run ρ G' _ a' w' (r2.put (f:= .d rv) hr (i7 rl'))
structure Tw where
 f:FuncId
 nm:Nat
 l:List (Option DV)
 ty:TypeId
 cs:List DV
 lo:Bool
def I'(fr:ao)(own:aA)(cf:Cf):Option Tw:=match bE fr cf with
 |some ⟨_, .call ⟨.value fo,args,_⟩,_,_,_,_⟩=>match Bu (aP fr cf) fo args with
  |some (f,nm,l)=>match dO fr own cf nm with
   |some (.o ty cs lo)=>match iq cs with
    |some csd=>some ⟨f,nm,l,ty,csd,lo⟩
    |none=>none
   |_=>none
  |none=>none
 |_=>none
def sZ{α:Type}:List DV->(List FX->α)->α
 |[],k=>k []
 |d::t,k=>sZ t fun t'=>k (.d d::t')
def xz{α:Type}: ∀{l:List DV} {k:List FX->α},sZ l k=k (l.map .d)
 |[],k=>rfl
 |d::t,k=>by simp only[sZ];rw[xz];rfl
def cm[fu:Fu]{f:FuncId}{nm:Nat}{l:List (Option DV)}{ty:TypeId}{cs cs':List DV}{lo:Bool}{rv:DV}(ha:I' fr own cf=some ⟨f,nm,l,ty,cs,lo⟩)(hF: ∀b,PM GB prog f (fE l b) b ty cs rv cs')
  (hgo:(sZ cs' fun csx=>bP tt n fu.n fr own cf (.d rv) [(nm,some (.o ty csx lo))] [])=⟨vc,fr',own',cf'⟩)(k:ak prog GB C n Q0 fr' own' cf')
  (hv:autoParam (aj vc) fn._auto_1):ak prog GB C n Q0 fr own cf:=by
 unfold I' at ha;split at ha<;>try (cases ha;done)
 rename_i hh;split at ha<;>try (cases ha;done)
 rename_i h1;split at ha<;>try (cases ha;done)
 rename_i h2;split at ha<;>cases ha;rename_i h3;rw[xz] at hgo;exact us hh (Se h1 h2 h3 hF J) hgo hv k
abbrev NM:Nat:=1000000
def tu:Nat->List (Option DV)->ao
 |_,[]=>[]
 |i,some v::t=>(i, .d v)::tu (i+1) t
 |i,none::t=>(i, .ov NM 0)::tu (i+1) t
def CL(b:Nat): ∀l:List (Option DV),(fE l b).length=l.length
 |[]=>rfl
 |some d::t=>by simp[fE,CL b t]
 |none::t=>by simp[fE,CL b t]
def Cr{b:Nat}{ρ:NE}{G:Gh}(hρ:(ρ NM).a=some ⟨b,0,none⟩): ∀{ds:List (Option DV)} {vs:List Value} (i:Nat),IsLs G (fE ds b) vs-> ∀k f,aD (tu i ds) k=some f-> ∃y,(∃j,k=i+j/\vs[j]? =some y)/\bz ρ G f y
 |[],vs,i,h,k,f,e=>by cases e
 |some d::t,vs,i,h,k,f,e=>by
  obtain⟨y,m,rfl,h1,h2⟩:=bi.1 h;simp only[tu] at e;rw[e7] at e;split at e
  .cases e;rename_i hk;exact⟨y,⟨0,hk,rfl⟩,h1⟩
  .obtain⟨u,⟨j,hj,hu⟩,h3⟩:=Cr hρ (i+1) h2 k f e
   exact⟨u,⟨j+1,by omega,by simpa using hu⟩,h3⟩
 |none::t,vs,i,h,k,f,e=>by
  obtain⟨y,m,rfl,h1,h2⟩:=bi.1 h;simp only[tu] at e;rw[e7] at e;split at e
  .cases e;rename_i hk;exact⟨y,⟨0,hk,rfl⟩,b,hρ,(aH (G:=G)).1 h1⟩
  .obtain⟨u,⟨j,hj,hu⟩,h3⟩:=Cr hρ (i+1) h2 k f e
   exact⟨u,⟨j+1,by omega,by simpa using hu⟩,h3⟩
def AD(C:az)(b:Nat)(m:List Value)(ty:TypeId)(lo:Bool)(rv:DV)(cs':List DV):Ending->World->Prop:=uR C [⟨b,m,ty,lo⟩] (fun v css G'=>Is G' rv v/\ ∃m',css=[m']/\IsLs G' cs' m')
def qv[fu:Fu]{b:Nat}{f:FuncId}{fb:Func}{c:Code}{k:Nat}{l:List (Option DV)}{cs cs':List DV}{ty:TypeId}{rv:DV}(hf:prog.funcs[f]? =some fb)(hb:fb.body=some c)(hn:(fb.name== "runtime.NumGoroutine")=false)(hm:fb.ntmps=k)(hlen:Nat.ble l.length k=true)
  (hgo:(sZ cs fun csx=>go tt k fu.n [] (tu 0 l) [(NM,some (.o ty csx false))] (.code c []))=⟨vc,fr,own,cf⟩)(h: ∀C b m lo,C.mb=[b]->ak prog GB C k (dx C prog fb (AD C b m ty lo rv cs')) fr own cf)
  (hv:autoParam (aj vc) fn._auto_1):PM GB prog f (fE l b) b ty cs rv cs':=by
 intro G vs m lo hg hvs hm';refine qp.introR hf hb hn hm (by rw[hvs.len,CL];exact hlen) fun C _ hmb hrd hfx=>?_;intro a w rl;refine oh hrd ?_;rw[xz] at hgo;have h1:=dw (GB:=GB) (C:=C) (Q0:=dx C prog fb (AD C b m ty lo rv cs')) hgo hv (h C b m lo (by simpa using hmb));refine h1.run (fun _=>⟨some ⟨b,0,none⟩,0,0⟩) G [⟨b,m,ty,false⟩] a w ⟨hg,rl.h,rl.sz,rl.df,fun k f e=>?_,fun nm B e=>?_,fun nm nm' B B' e e' hne=>?_,fun nm p _ _ e=>by rw[hfx] at e;cases e⟩
 .obtain⟨y,⟨j,hj,hy⟩,h2⟩:=Cr (ρ:=fun _=>⟨some ⟨b,0,none⟩,0,0⟩) (b:=b) rfl 0 hvs k f e
  refine⟨y,rl.fr k y ?_,h2⟩;rw[hj];exact r5 vs 0 j y hy
 .rw[fI] at e
  split at e
  .cases e;exact⟨[⟨b,m,ty,false⟩],⟨b,m,J,J,oO hm'⟩,fun o ho=>ho⟩
  .cases e
 .rw[fI] at e e'
  split at e<;>split at e'
  .rename_i h2 h3;exact absurd (h2.trans h3.symm) hne
  .cases e'
  .cases e
  .cases e
def E'(own:aA)(nm:Nat):Option (TypeId×List DV):=match aI own nm with
 |some (.o ty cs false)=>match iq cs with
  |some l=>some (ty,l)
  |none=>none
 |_=>none
def gz{fb:Func}{b:Nat}{m:List Value}{ty:TypeId}{lo:Bool}{ds cs1 cs':List DV}{rv:DV}(hmb:C.mb=[b])(hr:jP tt fr own fb.results.toList=some ds)(ho:E' own NM=some (ty,cs1))(hd:iH ds=rv)(hc:cs1=cs'):
  ak prog GB C n (dx C prog fb (AD C b m ty lo rv cs')) fr own (.ex .ret []):=by
 refine⟨fun ρ G ov a w r=>?_⟩;obtain⟨vs,h1,h2⟩:=qD r hr;have hk:Is G rv (i4 vs):=hd▸rL h2;unfold E' at ho;split at ho<;>try (cases ho;done)
 rename_i hb;split at ho<;>cases ho;rename_i hl;obtain⟨b',m',rest,h3,h4,h5,h6⟩:=r.lend hb hl;have hbb:b'=b:=by
  have:=(r.h.hown _ (h5.mem_iff.2 (dZ _ aX))).2.2.2 J;rw[hmb] at this;simpa using this
 subst hbb hc;exact Ql (C:=C) (n:=n) (fr:=cg a) (own:=ov) (G:=G) (M:=[⟨b',m,ty,lo⟩]) (css:=[m']) (K:=fun v css G'=>Is G' rv v/\ ∃m',css=[m']/\IsLs G' cs1 m') h1 J ([⟨b',m',ty,false⟩]++rest) h5 (oX _ _) ⟨hk,m',J,h4⟩ a w ⟨r.h,r.sz,ci a,r.df⟩
end
section
variable {GB:Gh} {C:az} {n:Nat} {fr1 fr2:ao} {own1 own2:aA} {cf1 cf2:Cf} {vc1 vc2:List Prop} {Q0:Exit->Act->World->Prop} {fr fr':ao} {own own':aA} {cf cf':Cf} {vc:List Prop} {ops:Array Oper} {o:Oper} {K:List Kt} {r:List Oper}
def RB[fu:Fu]{f:FuncId}{fb:Func}{c:Code}{m:Nat}{ds:List DV}{ι:Type}{rv:ι->DV}(hf:prog.funcs[f]? =some fb)(hb:fb.body=some c)(hn:(fb.name== "runtime.NumGoroutine")=false)(hm:fb.ntmps=m)(hlen:Nat.ble ds.length m=true)
  (hgo:go tt m fu.n [] (jA 0 ds) [] (.code c [])=⟨vc,fr,own,cf⟩)(k: ∀C:az,ak prog GB C m (dx C prog fb (d6 C (fun v G'=> ∃x,Is G' (rv x) v))) fr own cf)
  (hv:autoParam (aj vc) fn._auto_1):PX GB prog f ds ι rv:=by
 intro G vs hg hvs;refine Fn.introR hf hb hn hm (by rw[hvs.len];exact hlen) fun C _ _ hrd hfx=>?_;intro a w rl;refine oh hrd ?_;have h:=dw (GB:=GB) (C:=C) (Q0:=dx C prog fb (d6 C (fun v G'=> ∃x,Is G' (rv x) v))) hgo hv (k C);exact h.run (fun _=>⟨none,0,0⟩) G [] a w ⟨hg,rl.h,rl.sz,rl.df,(fun k f e=>n5 hvs rl.fr k f e),(fun nm B e=>by cases e),(fun nm nm' B B' e=>by cases e),fun nm p _ _ e=>by rw[hfx] at e;cases e⟩
def Ls{fb:Func}{e:Exit}{ds:List DV}{ι:Type}{rv:ι->DV}(x:ι)(hr:jP tt fr own fb.results.toList=some ds)(hd:iH ds=rv x)(he:rp e=true:=by rfl):ak prog GB C n (dx C prog fb (d6 C (fun v G'=> ∃x,Is G' (rv x) v))) fr own (.ex e []):=by
 refine⟨fun ρ G ov a w r=>?_⟩;obtain⟨vs,h1,h2⟩:=qD r hr;have hk: ∃x,Is G (rv x) (i4 vs):=⟨x,hd▸rL h2⟩
 cases e with
 |ret=>exact zD (C:=C) (n:=n) (fr:=cg a) (own:=ov) (G:=G) (K:=fun v G'=> ∃x,Is G' (rv x) v) h1 hk a w ⟨r.h,r.sz,ci a,r.df⟩
 |normal=>exact vC (C:=C) (n:=n) (fr:=cg a) (own:=ov) (G:=G) (K:=fun v G'=> ∃x,Is G' (rv x) v) h1 hk a w ⟨r.h,r.sz,ci a,r.df⟩
 |_=>cases he
def csd[fu1:Fu][fu2:Fu](d:Nat){p:Prop}{hp:Decidable p}(hl:aD fr d=some (.d (.v (.bool (@decide p hp)))))(g1:go tt n fu1.n [] ((d, .tt)::fr) own (.ops ops r K)=⟨vc1,fr1,own1,cf1⟩)(g2:go tt n fu2.n [] ((d, .ff)::fr) own (.ops ops r K)=⟨vc2,fr2,own2,cf2⟩)
  (k1:p->ak prog GB C n Q0 fr1 own1 cf1)(k2: ¬p->ak prog GB C n Q0 fr2 own2 cf2)
  (v1:p->aj vc1:=by intro;first|exact trivial|(simp only[aj];omega)|(simp only[aj,aZ,aY,aV];omega))(v2: ¬p->aj vc2:=by intro;first|exact trivial|(simp only[aj];omega)|(simp only[aj,aZ,aY,aV];omega)):ak prog GB C n Q0 fr own (.ops ops r K):=
 jz (fu1:=fu1) (fu2:=fu2) d hl g1 g2 (fun h=>k1 (of_decide_eq_true h)) (fun h=>k2 (of_decide_eq_false h)) (fun h=>v1 (of_decide_eq_true h)) (fun h=>v2 (of_decide_eq_false h))
def MA(d:Nat)(hl:aD fr d=some .nl){c:Code}(h:ak prog GB C n Q0 ((d, .d (.sl []))::fr) own (.code c K)):ak prog GB C n Q0 fr own (.code c K):=
 jt (g:= .d (.sl [])) hl (fun ρ G y hy=>(show Is G (.sl []) y from lu (ρ:=ρ) (f:= .nl) hy J)) h
def bw.to{lk:LK}{bk:BM}{o:Oper}{f g:FX}(h:bw prog GB C n lk bk o f [] [])(e: ∀ρ G y,bz ρ G f y->bz ρ G g y):bw prog GB C n lk bk o g [] []:=fun hd tl tb Q h1 h2 hf hk=>
 h hd tl tb Q h1 h2 hf ⟨fun ρ G ov a w r=>hk.run ρ G ov a w ⟨r.gb,r.h,r.sz,r.df,fun k f' e'=>by
  cases ho:o.dst with
  |none=>exact r.fx k f' (by simpa only[ho,c7] using e')
  |some d=>
   have hr:=r.fx;simp only[ho,c7] at e' hr;by_cases q:k=d
   .rw[if_pos q] at e';cases e'
    obtain⟨y,h3,h4⟩:=hr k f (by rw[if_pos q]);exact⟨y,h3,e _ _ _ h4⟩
   .rw[if_neg q] at e'
    exact hr k f' (by rw[if_neg q];exact e'),r.bx,r.dj,r.fxd⟩⟩
def tw(fr:ao)(own:aA)(cf:Cf):Option (Oper×FX):=match bE fr cf with
 |some o=>match sX tt (aP fr cf) (dO fr own cf) o.dst o.op with
  |some ⟨none,f,[],[]⟩=>some (o,f)
  |_=>none
 |none=>none
def tq[fu1:Fu][fu2:Fu]{f:FX}{p:Prop}{hp:Decidable p}(hs:tw fr own cf=some (o,f))(hb:nH f=some (@decide p hp))(g1:bP tt n fu1.n fr own cf .tt [] []=⟨vc1,fr1,own1,cf1⟩)(g2:bP tt n fu2.n fr own cf .ff [] []=⟨vc2,fr2,own2,cf2⟩)
  (k1:p->ak prog GB C n Q0 fr1 own1 cf1)(k2: ¬p->ak prog GB C n Q0 fr2 own2 cf2)
  (v1:p->aj vc1:=by intro;first|exact trivial|(simp only[aj];kernel_rfl)|(simp only[aj];omega)|(simp only[aj,aZ,aY,aV];omega))(v2: ¬p->aj vc2:=by intro;first|exact trivial|(simp only[aj];kernel_rfl)|(simp only[aj];omega)|(simp only[aj,aZ,aY,aV];omega)):ak prog GB C n Q0 fr own cf:=by
 unfold tw at hs;split at hs<;>try (cases hs;done)
 rename_i o' hh;split at hs<;>cases hs;rename_i hc;obtain⟨dst,op,ty,pos,af,gd⟩:=o;have h0:=sS (P:=prog) (GB:=GB) (C:=C) (n:=n) (ty':=ty) (pos:=pos) (af:=af) (gd:=gd) dz hc (fun p e=>by cases e);by_cases h:p
 .exact us hh (bw.to h0 fun ρ G y hy=>by rw[rb hy hb,decide_eq_true h];exact J) g1 (v1 h) (k1 h)
 .exact us hh (bw.to h0 fun ρ G y hy=>by rw[rb hy hb,decide_eq_false h];exact J) g2 (v2 h) (k2 h)
def Sk{tl:LK}{tb:BM}{Ψ:Act->World->Prop}{d:Nat}{B:Bk}{f:FX}{v:DV}
  (hz: ∀lk bk ρ G ov a w,bu GB C n lk bk ρ G ov a w->bk d=some B-> ∃G' ov',ba G G'/\bj C ov' G' w/\(∀o∈ov,(ρ d).a≠some ⟨o.b,0,none⟩->o∈ov')/\ ∀y,bz ρ G f y->Is G' v y)(hk:SX GB C n (c7 tl (some d) (.d v)) (Sx.upB tb [(d,none)]) Ψ):SX GB C n (c7 tl (some d) f) (Sx.upB tb [(d,some B)]) Ψ:=by
 refine⟨fun ρ G ov a w r=>?_⟩;have hbd:Sx.upB tb [(d,some B)] d=some B:=by simp[Sx.upB]
 obtain⟨G',ov',h1,h2,h3,h4⟩:=hz _ _ ρ G ov a w r hbd;refine hk.run ρ G' ov' a w ⟨r.gb.trans h1,h2,r.sz,r.df,fun k g e=>?_,fun m B' e=>?_,fun m m' B1 B2 e e'=>?_,r.fxd⟩
 .by_cases hk:k=d
  .subst hk
   simp only[c7,if_true] at e;cases e;obtain⟨y,g1,g2⟩:=r.fx k f (by simp[c7]);exact⟨y,g1,h4 y g2⟩
  .simp only[c7,hk,if_false] at e
   obtain⟨y,g1,g2⟩:=r.fx k g (by simp[c7,hk,e]);exact⟨y,g1,g2.up h1⟩
 .simp only[Sx.upB] at e
  split at e
  .cases e
  .rename_i hm
   have e':Sx.upB tb [(d,some B)] m=some B':=by simp[Sx.upB,hm,e]
   obtain⟨os,g1,g2⟩:=r.bx m B' e';exact⟨os,g1.up h1,fun o ho=>h3 o (g2 o ho) fun hc=>r.dj m d B' B e' hbd hm _ (g1.blk ho) hc⟩
 .simp only[Sx.upB] at e e'
  split at e
  .cases e
  .rename_i hm
   split at e'
   .cases e'
   .rename_i hm'
    exact r.dj m m' B1 B2 (by simp[Sx.upB,hm,e]) (by simp[Sx.upB,hm',e'])
def bw.frz2{lk:LK}{bk:BM}{o:Oper}{d nm:Nat}{B:Bk}{f:FX}{v:DV}(hd:o.dst=some d)(h:bw prog GB C n lk bk o f [(nm,none),(d,some B)] [d])
  (hz: ∀lk bk ρ G ov a w,bu GB C n lk bk ρ G ov a w->bk d=some B-> ∃G' ov',ba G G'/\bj C ov' G' w/\(∀o∈ov,(ρ d).a≠some ⟨o.b,0,none⟩->o∈ov')/\ ∀y,bz ρ G f y->Is G' v y):bw prog GB C n lk bk o (.d v) [(nm,none),(d,none)] [d]:=by
 intro hd' tl tb K s1 s2 hf hk;refine h hd' tl tb K s1 s2 hf ?_;rw[hd] at hk⊢;exact Sk (tb:=Sx.upB tb [(nm,none)]) hz hk
def Ti(d:Nat)(nm:Option Nat):List (Nat×Option Bk):=match nm with
 |some nm=>[(nm,none),(d,none)]
 |none=>[(d,none)]
def Gl[fu:Fu]{d:Nat}{nm:Option Nat}{e s b:Nat}{ds ds2:List DV}(ds':List DV)(h:wB fr own cf=some ⟨d,nm,e,s,b,ds,ds2⟩)(hds:ds++ds2=ds')(ho2:dl s ds2)(hgo:bP tt n fu.n fr own cf (.d (.sl ds')) (Ti d nm) [d]=⟨vc,fr',own',cf'⟩)(k:ak prog GB C n Q0 fr' own' cf')
  (ho:nm.isNone=true->dl s ds/\0<ds2.length:=by intro h;first|(cases h;done)|exact⟨w5 rfl,by simp⟩)(hbd:(ds.length+ds2.length)*b<=140737488355328:=by simp;omega)
  (hv:autoParam (aj vc) fn._auto_1):ak prog GB C n Q0 fr own cf:=by
 obtain⟨o,h1,h2,h3⟩:=Iz (GB:=GB) (C:=C) (n:=n) h ds' hds ho ho2 hbd
 cases nm with
 |none=>exact us h1 (h3.frzRow h2) hgo hv k
 |some nm=>exact us h1 (bw.frz2 h2 h3 fun _ _ _ _ _ _ _ r hb=>r.frzRow hb) hgo hv k
def ic[fu:Fu]{f:FX}(hs:tw fr own cf=some (o,f))(hb:nH f=some true)(hgo:bP tt n fu.n fr own cf .tt [] []=⟨vc,fr',own',cf'⟩)(k:ak prog GB C n Q0 fr' own' cf')
  (hv:autoParam (aj vc) fn._auto_1):ak prog GB C n Q0 fr own cf:=by
 unfold tw at hs;split at hs<;>try (cases hs;done)
 rename_i o' hh;split at hs<;>cases hs;rename_i hc;obtain⟨dst,op,ty,pos,af,gd⟩:=o;have h0:=sS (P:=prog) (GB:=GB) (C:=C) (n:=n) (ty':=ty) (pos:=pos) (af:=af) (gd:=gd) dz hc (fun p e=>by cases e);exact us hh (bw.to h0 fun ρ G y hy=>by rw[rb hy hb];exact J) hgo hv k
def dq[fu:Fu]{f:FX}(hs:tw fr own cf=some (o,f))(hb:nH f=some false)(hgo:bP tt n fu.n fr own cf .ff [] []=⟨vc,fr',own',cf'⟩)(k:ak prog GB C n Q0 fr' own' cf')
  (hv:autoParam (aj vc) fn._auto_1):ak prog GB C n Q0 fr own cf:=by
 unfold tw at hs;split at hs<;>try (cases hs;done)
 rename_i o' hh;split at hs<;>cases hs;rename_i hc;obtain⟨dst,op,ty,pos,af,gd⟩:=o;have h0:=sS (P:=prog) (GB:=GB) (C:=C) (n:=n) (ty':=ty) (pos:=pos) (af:=af) (gd:=gd) dz hc (fun p e=>by cases e);exact us hh (bw.to h0 fun ρ G y hy=>by rw[rb hy hb];exact J) hgo hv k
end
section
variable {GB:Gh} {C:az} {n:Nat} {Q0:Exit->Act->World->Prop} {fr fr':ao} {own own':aA} {cf cf':Cf} {vc:List Prop} {ops:Array Oper} {o:Oper} {K:List Kt} {r:List Oper}
def HE(GB:Gh)(C:az)(n:Nat)(lk:LK)(bk:BM)(o:Oper)(ι:Type)(f:ι->FX)(bl:ι->List (Nat×Option Bk))(nw:List Nat):Prop:=
 cC n o.dst=true-> ∀(tl:LK) (tb:BM) (K:Act->World->Prop),fD lk tl->fD bk tb->i6 nw o.dst tl tb->(∀x,SX GB C n (c7 tl o.dst (f x)) (Sx.upB tb (bl x)) K)->SX GB C n tl tb (fun a w=> ∀Q,o.wp prog a w K Q)
def Yv:Cf->Option (Array Oper×Oper×List Oper×List Kt)
 | .ops ops (o::r) K=>some (ops,o,r,K)
 |_=>none
def Cg(n q:Nat)(fr:ao)(own:aA)(cf:Cf)(f:FX)(bl:List (Nat×Option Bk)):sf:=match cf with
 | .ops ops (o::r) K=>kr own bl fun own'=>sL fr o.dst f fun fr'=>go tt n q [] fr' own' (.ops ops r K)
 |_=>jq
def Cq(n:Nat)(fr:ao)(own:aA)(cf:Cf)(nw:List Nat):Bool:=match cf with
 | .ops ops (o::_) _=>mw nw o.dst fr own&&cC n o.dst&&qG ops (aD fr) o.guard
 |_=>false
def Ph{q:Nat}{ι:Type}{f:ι->FX}{bl:ι->List (Nat×Option Bk)}{nw:List Nat}{vc:ι->List Prop}{fr':ι->ao}{own':ι->aA}{cf':ι->Cf}(hh:bE fr cf=some o)(ho:Cq n fr own cf nw=true)(h:HE GB C n (aP fr cf) (dO fr own cf) o ι f bl nw)
  (hgo: ∀x,Cg n q fr own cf (f x) (bl x)=⟨vc x,fr' x,own' x,cf' x⟩)(hv: ∀x,aj (vc x))(k: ∀x,ak prog GB C n Q0 (fr' x) (own' x) (cf' x)):ak prog GB C n Q0 fr own cf:=by
 obtain⟨ops,h1,h2⟩:=A3 hh
 cases cf with
 |ops ops' r K=>
  cases r with
  |nil=>cases h1
  |cons o' r=>
   cases h1
   simp only[Cq,bQ] at ho;refine⟨fun ρ G ov a w rl=>?_⟩;show wpListIn _ _ _ _ _ (o::r) a w;unfold wpListIn;rw[if_pos (wh ho.2 ρ G ov a w rl)];refine tG ((h ho.1.2 _ _ (fun a w=>a.defers=C.mks/\wpListIn (FW C.rd) 0 prog ops (cQ C.rd prog Q0 K) r a w) (fD.refl _) (fD.refl _) (vd ho.1.1) (fun x=>?_)).run ρ G ov a w rl) fun a' w' k=>⟨k.1.trans rl.df.symm,k.2⟩;refine⟨fun ρ G ov a w r0=>⟨r0.df,SX.run (GB:=GB) (C:=C) (n:=n) ?_ ρ G ov a w r0⟩⟩;have hx:=hgo x;unfold Cg at hx;simp only[ru,qx] at hx;have:=dw (GB:=GB) (C:=C) (Q0:=Q0) hx (hv x) (k x);show SX GB C n (c7 (aD fr) o.dst (f x)) (Sx.upB (aI own) (bl x)) _;rw[<-vr,<-xe];exact this
 |_=>cases ho
def MQ{lk:LK}{bk:BM}{fo:Operand}{args:Array Operand}{tys:Array TypeId}{f:FuncId}{d:Nat}{ds:List DV}{ι:Type}{ty ty0:TypeId}{pos:String}{af:Array Edge}{gd:Option (Nat×Bool)}{cs':ι->List DV}
  (ha:ke lk fo args=some (f,ds))(hF:PN GB prog f ds ty0 ι cs'):HE GB C n lk bk ⟨some d, .call ⟨.value fo,args,tys⟩,ty,pos,af,gd⟩ ι (fun _=> .ov d 0) (fun x=>[(d,some (.o ty0 ((cs' x).map .d) true))]) [d]:=by
 intro hd tl tb K' s1 s2 hf hk;refine⟨fun ρ G ov a w r Q=>?_⟩;have r1:=r.mono s1 s2;obtain⟨h1,h2⟩:=s6 ha;obtain⟨y,hy,hy'⟩:=r1.ev h1;rw[(aH (G:=G)).1 hy'] at hy;obtain⟨vs,h3,h4⟩:=r1.evDs h2;refine xv (M:=[]) (rest:=ov) hy h3 (List.Perm.refl _) (hF G vs r.gb h4) hd (fun v own1 G' hG hK a' w' rl=>?_) a w Q ⟨r.h,r.sz,ci a,r.df⟩;obtain⟨x,b,m,rfl,rfl,hm⟩:=hK;have rl':eB C n (Sx.put (cg a) (some d) (.pointer (some ⟨b,0,none⟩))) (⟨b,m,ty0,true⟩::ov) G' a' w':=by simpa[relo,iC] using rl
 have hnd:=(bZ.1 rl'.h.nd).1;exact(hk x).run _ G' _ a' w' (r.new (x:=⟨some ⟨b,0,none⟩,0,0⟩) (B':= .o ty0 ((cs' x).map .d) true) (os:=[⟨b,m,ty0,true⟩]) hf hG.le rl'.h ⟨b,m,by simp,J,oO hm⟩ (fun o ho=>by rw[aL.1 ho];exact aX)
  (fun o ho=>aK _ ho) (fun o ho e=>by cases e;exact hnd o ho J) (f:= .ov d 0) (y:= .pointer (some ⟨b,0,none⟩)) ⟨b,by simp,J⟩ (i7 rl'))
def Gw(fr:ao)(cf:Cf):Option (FuncId×List DV×Nat):=match bE fr cf with
 |some ⟨some d, .call ⟨.value fo,args,_⟩,_,_,_,_⟩=>match ke (aP fr cf) fo args with
  |some (f,ds)=>some (f,ds,d)
  |none=>none
 |_=>none
def cn[fu:Fu]{f:FuncId}{d:Nat}{ds:List DV}{ty:TypeId}{ι:Type}{cs':ι->List DV}{vc:ι->List Prop}{fr':ι->ao}{own':ι->aA}{cf':ι->Cf}(ha:Gw fr cf=some (f,ds,d))(hF:PN GB prog f ds ty ι cs')
  (hgo: ∀x,(sZ (cs' x) fun csx=>Cg n fu.n fr own cf (.ov d 0) [(d,some (.o ty csx true))])=⟨vc x,fr' x,own' x,cf' x⟩)(k: ∀x,ak prog GB C n Q0 (fr' x) (own' x) (cf' x))(ho:Cq n fr own cf [d]=true:=by rfl)
  (hv: ∀x,aj (vc x):=by intro;first|exact trivial|(simp only[aj];kernel_rfl)|(simp only[aj];omega)|(simp only[aj,aZ,aY,aV];omega)):ak prog GB C n Q0 fr own cf:=by
 unfold Gw at ha;split at ha<;>try (cases ha;done)
 rename_i hh;split at ha<;>cases ha;rename_i h1;simp only[xz] at hgo;exact Ph hh ho (MQ h1 hF) hgo hv k
def X3(C:az)(b:Nat)(m:List Value)(ty:TypeId)(lo:Bool)(ι:Type)(rv:ι->DV)(cs':ι->List DV):Ending->World->Prop:=uR C [⟨b,m,ty,lo⟩] (fun v css G'=> ∃x,Is G' (rv x) v/\ ∃m',css=[m']/\IsLs G' (cs' x) m')
end
section
variable {GB:Gh} {C:az} {n:Nat} {Q0:Exit->Act->World->Prop} {fr fr':ao} {own own':aA} {cf cf':Cf} {vc:List Prop} {ops:Array Oper} {o:Oper} {K:List Kt} {r:List Oper}
def Zr(fr:ao)(cf:Cf):Option Nat:=match bE fr cf with
 |some o=>o.dst
 |none=>none
def aBm(C:az)(b:Nat)(ty:TypeId)(s:Nat)(ty2:TypeId)(ι:Type)(rows cs':ι->List DV):Ending->World->Prop:=nn C (fun v own' G'=> ∃x w m' B,v= .slice w.a w.n w.c/\own'=⟨b,m',ty,false⟩::B/\IsLs G' (cs' x) m'/\cG G' ⟨w,s,ty2,rows x,true⟩ B/\ ∀o∈B,b≠o.b)
end
section
variable {GB:Gh} {C:az} {n:Nat} {Q0:Exit->Act->World->Prop} {fr fr':ao} {own own':aA} {cf cf':Cf} {vc:List Prop} {ops:Array Oper} {o:Oper} {K:List Kt} {r:List Oper}
def Bb(C:az)(ty:TypeId)(ι:Type)(cs:ι->List DV):Ending->World->Prop:=nn C (fun v own' G'=> ∃x b m,v= .pointer (some ⟨b,0,none⟩)/\own'=[⟨b,m,ty,true⟩]/\IsLs G' (cs x) m)
def UO[fu:Fu]{f:FuncId}{fb:Func}{c:Code}{m:Nat}{ds:List DV}{ty:TypeId}{ι:Type}{cs:ι->List DV}(hf:prog.funcs[f]? =some fb)(hb:fb.body=some c)(hn:(fb.name== "runtime.NumGoroutine")=false)(hm:fb.ntmps=m)(hlen:Nat.ble ds.length m=true)
  (hgo:go tt m fu.n [] (jA 0 ds) [] (.code c [])=⟨vc,fr,own,cf⟩)(k: ∀C:az,C.mb=[]->ak prog GB C m (dx C prog fb (Bb C ty ι cs)) fr own cf)
  (hv:autoParam (aj vc) fn._auto_1):PN GB prog f ds ty ι cs:=by
 intro G vs hg hvs;refine iD.introR hf hb hn hm (by rw[hvs.len];exact hlen) fun C _ hmb hrd hfx=>?_;intro a w rl;refine oh hrd ?_;have h:=dw (GB:=GB) (C:=C) (Q0:=dx C prog fb (Bb C ty ι cs)) hgo hv (k C (by simpa using hmb));exact h.run (fun _=>⟨none,0,0⟩) G [] a w ⟨hg,rl.h,rl.sz,rl.df,(fun k f e=>n5 hvs rl.fr k f e),(fun nm B e=>by cases e),(fun nm nm' B B' e=>by cases e),fun nm p _ _ e=>by rw[hfx] at e;cases e⟩
def P6{fb:Func}{t d:Nat}{ty:TypeId}{ι:Type}{cs:ι->List DV}{cs1:List FX}{l:List DV}(x:ι)(hr:fb.results.toList=[.tmp t])(hl:aD fr t=some (.ov d 0))(hw:aI own d=some (.o ty cs1 true))(hc:iq cs1=some l)(hd:l=cs x):
  ak prog GB C n (dx C prog fb (Bb C ty ι cs)) fr own (.ex .ret []):=by
 refine⟨fun ρ G ov a w r=>?_⟩;subst hd;obtain⟨b,m,rest,h3,h4,h5,h6⟩:=r.lend hw hc;obtain⟨y,hy,b',hb',hy'⟩:=r.ev (x:= .tmp t) (f:= .ov d 0) hl;rw[h3] at hb';cases hb';subst hy';exact Xj (C:=C) (n:=n) (fr:=cg a) (own:=ov) (G:=G) (vs:=[.pointer (some ⟨b,0,none⟩)]) (by rw[hr];exact .tmp hy .nil) (⟨b,m,ty,true⟩::rest) [⟨b,m,ty,true⟩] (by simpa using h5) (.cons_cons _ (kL _)) (fun _=>⟨x,b,m,J,J,h4⟩) a w ⟨r.h,r.sz,ci a,r.df⟩
def vv[fu:Fu]{d:Nat}{l:List DV}(h:E3 fr cf=some (d,l))(hgo:bP tt n fu.n fr own cf (.d (.pt l)) [(d,none)] [d]=⟨vc,fr',own',cf'⟩)(k:ak prog GB C n Q0 fr' own' cf')
  (hv:autoParam (aj vc) fn._auto_1):ak prog GB C n Q0 fr own cf:=by
 unfold E3 at h;split at h<;>try (cases h;done)
 rename_i hh;split at h<;>try (cases h;done)
 rename_i g hx;rw[cond_eq_ite] at h;split at h<;>try (cases h;done)
 rename_i hc;simp only[bQ] at hc;split at h<;>cases h;rename_i hl;exact us hh (V' hx hc.1 hc.2 hl) hgo hv k
end
section
variable {GB:Gh} {C:az} {n:Nat} {Q0:Exit->Act->World->Prop} {fr fr':ao} {own own':aA} {cf cf':Cf} {vc:List Prop} {ops:Array Oper} {o:Oper} {K:List Kt} {r:List Oper}
def gH:List (Option DV)->SV->List DV
 |[],_=>[]
 |some d::t,w=>d::gH t w
 |none::t,w=> .v (.slice w.a w.n w.c)::gH t w
def vO(lk:LK):List Operand->Option (Option Nat×List (Option DV))
 |[]=>some (none,[])
 |x::t=>match aB lk x,vO lk t with
  |some (.rw nm),some (none,l)=>some (some nm,none::l)
  |some f,some (q,l)=>match gw f with
   |some d=>some (q,some d::l)
   |none=>none
  |_,_=>none
def sk(lk:LK)(fo:Operand)(args:Array Operand):Option (FuncId×Nat×List (Option DV)):=match aB lk fo with
 |some (.d (.v (.func (.func f) ⟨[]⟩ ⟨[]⟩)))=>match vO lk args.toList with
  |some (some nm,l)=>some (f,nm,l)
  |_=>none
 |_=>none
def yE{lk:LK}{bk:BM}{ρ:NE}{G:Gh}{ov:List av}{a:Act}{w:World}(r:bu GB C n lk bk ρ G ov a w){z:SV}: ∀{x:List Operand} {q:Option Nat} {l:List (Option DV)},vO lk x=some (q,l)->(∀nm,q=some nm->ρ nm=z)->
  ∃y,fg (cg a) x=some y/\IsLs G (gH l z) y
 |[],q,l,e,_=>by cases e;exact⟨[],J, .nil⟩
 |x::t,q,l,e,hb=>by
  simp only[vO] at e;split at e
  .rename_i nm l' h1 h2
   cases e
   obtain⟨y,h3,h4⟩:=r.ev h1
   cases (show y=_ from h4)
   obtain⟨ys,h5,h6⟩:=yE r (z:=z) h2 (fun nm e=>by cases e);have hz:=hb nm J;subst hz;exact⟨Value.slice (ρ nm).a (ρ nm).n (ρ nm).c::ys,by simp only[fg,h3,h5], .cons ((aH (G:=G)).2 J) h6⟩
  .rename_i f q' l' _ h1 h2
   cases hd:gw f with
   |none=>rw[hd] at e;cases e
   |some d=>
   rw[hd] at e;cases e;obtain⟨y,h3,h4⟩:=r.ev h1;obtain⟨ys,h5,h6⟩:=yE r (z:=z) h2 hb;exact⟨y::ys,by simp only[fg,h3,h5], .cons (lu h4 hd) h6⟩
  .cases e
structure S9 where
 f:FuncId
 nm:Nat
 l:List (Option DV)
 ty:TypeId
 s:Nat
 ds:List DV
 lo:Bool
 d:Nat
def HL(fr:ao)(own:aA)(cf:Cf):Option S9:=match bE fr cf with
 |some ⟨some d, .call ⟨.value fo,args,_⟩,_,_,_,_⟩=>match sk (aP fr cf) fo args with
  |some (f,nm,l)=>match dO fr own cf nm with
   |some (.b ty s ds lo)=>bif Nat.beq nm d then none else some ⟨f,nm,l,ty,s,ds,lo,d⟩
   |_=>none
  |none=>none
 |_=>none
def s5:Nat->List (Option DV)->ao
 |_,[]=>[]
 |i,some v::t=>(i, .d v)::s5 (i+1) t
 |i,none::t=>(i, .rw NM)::s5 (i+1) t
def Cb(w:SV): ∀l:List (Option DV),(gH l w).length=l.length
 |[]=>rfl
 |some d::t=>by simp[gH,Cb w t]
 |none::t=>by simp[gH,Cb w t]
def Cj{w:SV}{ρ:NE}{G:Gh}(hρ:ρ NM=w): ∀{ds:List (Option DV)} {vs:List Value} (i:Nat),IsLs G (gH ds w) vs-> ∀k f,aD (s5 i ds) k=some f-> ∃y,(∃j,k=i+j/\vs[j]? =some y)/\bz ρ G f y
 |[],vs,i,h,k,f,e=>by cases e
 |some d::t,vs,i,h,k,f,e=>by
  obtain⟨y,m,rfl,h1,h2⟩:=bi.1 h;simp only[s5] at e;rw[e7] at e;split at e
  .cases e;rename_i hk;exact⟨y,⟨0,hk,rfl⟩,h1⟩
  .obtain⟨u,⟨j,hj,hu⟩,h3⟩:=Cj hρ (i+1) h2 k f e
   exact⟨u,⟨j+1,by omega,by simpa using hu⟩,h3⟩
 |none::t,vs,i,h,k,f,e=>by
  obtain⟨y,m,rfl,h1,h2⟩:=bi.1 h;simp only[s5] at e;rw[e7] at e;split at e
  .cases e;rename_i hk;exact⟨y,⟨0,hk,rfl⟩,by show y=_;rw[hρ];exact aH.1 h1⟩
  .obtain⟨u,⟨j,hj,hu⟩,h3⟩:=Cj hρ (i+1) h2 k f e
   exact⟨u,⟨j+1,by omega,by simpa using hu⟩,h3⟩
def aC4(C:az)(s:Nat)(ty:TypeId)(pre post dso:List DV):Ending->World->Prop:=nn C (fun v own' G'=> ∃w',Is G' (.tp (pre++ .v (.slice w'.a w'.n w'.c)::post)) v/\cG G' ⟨w',s,ty,dso,false⟩ own')
def Eh{B:List av}{G:Gh}{w:SV}{s:Nat}{ty:TypeId}{ds:List DV}{lo:Bool}{ov:List av}(h:cG G ⟨w,s,ty,ds,lo⟩ B)(g: ∀o∈B,o∈ov): ∃rest,ov.Perm (B++rest):=by
 rcases h with⟨vs',⟨_,_,e⟩|⟨b0,r0,lo0,_,e,_⟩,_⟩
 .rw[e];exact⟨ov,List.Perm.refl _⟩
 .rw[e] at g⊢
  obtain⟨l1,l2,e2⟩:=oU (g _ aX);rw[e2];exact⟨l1++l2,pU⟩
def Kd(lk:LK):List Operand->Option (List (Option DV))
 |[]=>some []
 |x::t=>match aB lk x,Kd lk t with
  |some .nl,some l=>some (none::l)
  |some f,some l=>match gw f with
   |some d=>some (some d::l)
   |none=>none
  |_,_=>none
def Rk(lk:LK)(fo:Operand)(args:Array Operand):Option (FuncId×List (Option DV)):=match aB lk fo with
 |some (.d (.v (.func (.func f) ⟨[]⟩ ⟨[]⟩)))=>match Kd lk args.toList with
  |some l=>some (f,l)
  |_=>none
 |_=>none
def aD8(fr:ao)(cf:Cf):Option (FuncId×List (Option DV)×Nat):=match bE fr cf with
 |some ⟨some d, .call ⟨.value fo,args,_⟩,_,_,_,_⟩=>match Rk (aP fr cf) fo args with
  |some (f,l)=>some (f,l,d)
  |none=>none
 |_=>none
end
section
variable {P:Program} {C:az} {n:Nat} {fr:Fr} {own own':List av} {G:Gh} {Φ:Act->World->Prop}
variable {dst:Option Nat} {t t' ty':TypeId} {pos:String} {af:Array Edge} {gd:Option (Nat×Bool)} {x y:Operand} {e s by_:Nat}
def ZC(G:Gh)(ov:List av):Gh:=fun b=>match G b with
 |some cs=>some cs
 |none=>(ov.find? fun o=>Nat.beq o.b b).map (·.cs)
end
def DV.np:DV->Bool
 | .v _=>true
 | .tp l=>l.all fun d=>match d with
  | .v _=>true
  |_=>false
 |_=>false
section
variable {GB:Gh} {C:az} {n:Nat} {Q0:Exit->Act->World->Prop} {fr fr':ao} {own own':aA} {cf cf':Cf} {vc:List Prop} {lk:LK} {bk:BM} {ρ:NE} {G:Gh} {ov:List av} {a:Act} {w:World}
variable {dst:Option Nat} {t t' ty':TypeId} {pos:String} {af:Array Edge} {gd:Option (Nat×Bool)} {x y:Operand} {e s by_:Nat}
def Rg:Option Bk->Option (List DV)
 |some (.b _ _ ds _)=>some ds
 |some (.c _ _ ds _)=>some ds
 |_=>none
def PU(lk:LK)(bk:BM)(x:Operand):Option DV:=match aB lk x with
 |some (.rw nm)=>match Rg (bk nm) with
  |some ds=>some (.sl ds)
  |none=>none
 |some f=>gw f
 |none=>none
def FP(lk:LK)(bk:BM):List Operand->Option (List DV)
 |[]=>some []
 |x::t=>match PU lk bk x,FP lk bk t with
  |some d,some l=>some (d::l)
  |_,_=>none
def M0(lk:LK)(bk:BM)(fo:Operand)(args:Array Operand):Option (FuncId×List DV):=match aB lk fo with
 |some (.d (.v (.func (.func f) ⟨[]⟩ ⟨[]⟩)))=>match FP lk bk args.toList with
  |some ds=>some (f,ds)
  |none=>none
 |_=>none
def aGZ(fr:ao)(own:aA)(cf:Cf):Option (FuncId×List DV):=match bE fr cf with
 |some ⟨_, .call ⟨.value fo,args,_⟩,_,_,_,_⟩=>M0 (aP fr cf) (dO fr own cf) fo args
 |_=>none
end
section
variable {GB:Gh} {C:az} {n:Nat} {Q0:Exit->Act->World->Prop} {fr fr':ao} {own own':aA} {cf cf':Cf} {vc:List Prop}
structure T1 where
 d:Nat
 nm:Nat
 e:Nat
 s:Nat
 ds:List DV
 ds2:List DV
 cap:Nat
def aGd(fr:ao)(own:aA)(cf:Cf):Option T1:=match bE fr cf with
 |some ⟨some d, .call ⟨.builtin .append,⟨[x,y]⟩,⟨[t,t']⟩⟩,_,_,_,_⟩=>match co tt t,co tt t' with
  |some ⟨.sl e s _,_,_,_⟩,some ⟨.sl _ _ _,_,_,_⟩=>match aB (aP fr cf) x with
   |some (.rw nm)=>match dO fr own cf nm,nI (aP fr cf) (dO fr own cf) s y with
    |some (.c e' s' ds cap),some ds2=>bif (Nat.beq e' e&&Nat.beq s' s)&&!Nat.beq nm d then some ⟨d,nm,e,s,ds,ds2,cap⟩ else none
    |_,_=>none
   |_=>none
  |_,_=>none
 |_=>none
def PI(GB:Gh)(P:Program)(f:FuncId)(i:Int)(s:Nat)(ty ty2:TypeId)(ds:List DV)(x:DV)(cap:Nat)(dso:List DV):Prop:=
 ∀G w w2 B B2,ba GB G->cG G ⟨w,s,ty,ds,false⟩ B->cap<=w.c->cG G ⟨w2,s,ty2,[x],false⟩ B2->iD P f [.slice w.a w.n w.c, .int .i64 i, .slice w2.a w2.n w2.c] (B++B2) G fun v own' G'=> ∃w',v= .slice w'.a w'.n w'.c/\cG G' ⟨w',s,ty,dso,false⟩ own'
structure V3 where
 f:FuncId
 nm:Nat
 nm2:Nat
 i:Int
 ty:TypeId
 ty2:TypeId
 s:Nat
 ds:List DV
 x:DV
 cap:Nat
 d:Nat
def aGm(fr:ao)(own:aA)(cf:Cf):Option V3:=match bE fr cf with
 |some ⟨some d, .call ⟨.value fo,⟨[x1,x2,x3]⟩,_⟩,_,_,_,_⟩=>match aB (aP fr cf) fo,aB (aP fr cf) x1 with
  |some (.d (.v (.func (.func f) ⟨[]⟩ ⟨[]⟩))),some (.rw nm)=>match aB (aP fr cf) x2,aB (aP fr cf) x3 with
   |some (.d (.v (.int .i64 i))),some (.rw nm2)=>match dO fr own cf nm,dO fr own cf nm2 with
    |some (.c ty s ds cap),some (.b ty2 s2 [x] true)=>bif (!Nat.beq nm d&&!Nat.beq nm2 d)&&(!Nat.beq nm nm2&&(Nat.beq s2 s&&Nat.blt 0 cap)) then some ⟨f,nm,nm2,i,ty,ty2,s,ds,x,cap,d⟩ else none
    |_,_=>none
   |_,_=>none
  |_,_=>none
 |_=>none
def fy(d:Nat){ops:Array Oper}{r:List Oper}{K:List Kt}(hl:aD fr d=some (.d (.v (.bool true))))(k:ak prog GB C n Q0 ((d, .tt)::fr) own (.ops ops r K)):ak prog GB C n Q0 fr own (.ops ops r K):=jt (g:= .tt) hl (fun _ G _ e=>(aH (G:=G)).1 e) k
def oF(d:Nat){ops:Array Oper}{r:List Oper}{K:List Kt}(hl:aD fr d=some (.d (.v (.bool false))))(k:ak prog GB C n Q0 ((d, .ff)::fr) own (.ops ops r K)):ak prog GB C n Q0 fr own (.ops ops r K):=jt (g:= .ff) hl (fun _ G _ e=>(aH (G:=G)).1 e) k
end
section
variable {GB:Gh} {C:az} {n:Nat} {Q0:Exit->Act->World->Prop} {fr fr':ao} {own own':aA} {cf cf':Cf} {vc:List Prop}
def PR(GB:Gh)(P:Program)(f:FuncId)(ds:List DV)(s:Nat)(ty:TypeId)(rows:List DV):Prop:=
 ∀G vs,ba GB G->IsLs G ds vs->iD P f vs [] G (fun v own' G'=> ∃w:SV,v= .slice w.a w.n w.c/\cG G' ⟨w,s,ty,rows,true⟩ own')
def KJ: ∀(l:List av),(∀o∈l,o.lo=true)->l.map (relo (iC []))=l
 |[],_=>rfl
 |a::t,h=>by
  have h1:=h a aX;rw[bL,KJ t fun o ho=>h o (aK _ ho)];congr 1
  cases a
  simp[relo,iC] at*;exact h1
def Tk{lk:LK}{bk:BM}{fo:Operand}{args:Array Operand}{tys:Array TypeId}{f:FuncId}{d s:Nat}{ds rows:List DV}{ty ty2:TypeId}{pos:String}{af:Array Edge}{gd:Option (Nat×Bool)}
  (ha:ke lk fo args=some (f,ds))(hF:PR GB prog f ds s ty2 rows):bw prog GB C n lk bk ⟨some d, .call ⟨.value fo,args,tys⟩,ty,pos,af,gd⟩ (.rw d) [(d,some (.b ty2 s rows true))] [d]:=by
 intro hd tl tb K' s1 s2 hf hk;refine⟨fun ρ G ov a w r Q=>?_⟩;have r1:=r.mono s1 s2;obtain⟨h1,h2⟩:=s6 ha;obtain⟨y,hy,hy'⟩:=r1.ev h1;rw[(aH (G:=G)).1 hy'] at hy;obtain⟨vs,h3,h4⟩:=r1.evDs h2;refine xv (M:=[]) (rest:=ov) hy h3 (List.Perm.refl _) (hF G vs r.gb h4) hd (fun v own1 G' hG hK a' w' rl=>?_) a w Q ⟨r.h,r.sz,ci a,r.df⟩;obtain⟨z,rfl,vs',k1,k2,k3,k4⟩:=hK;rw[KJ _ (k4 J)] at rl;have rl':eB C n (Sx.put (cg a) (some d) (.slice z.a z.n z.c)) (own1++ov) G' a' w':=rl;have hdis:=(iR.1 rl'.h.nd).2.2;have r3:=r.new' (x:=z) (B':= .b ty2 s rows true) (os:=own1) (ov':=own1++ov) (f:= .rw d) (y:= .slice z.a z.n z.c) hf hG.le rl'.h ⟨vs',by simpa using k1,k2,k3,k4⟩ (fun o ho=>dZ _ ho)
  (fun q B0 hq e o ho hbq=>⟨fR _ ho,fun hc=>by
   have hx: ∃o1∈own1,o1.b=o.b:=by
    rcases k1 with⟨_,h,_⟩|⟨b0,rest0,lo0,h,hB,_⟩
    .rw[show z=_ from h] at hc;cases hc
    .rw[show z=_ from h] at hc;cases hc;exact⟨⟨_,bc vs'++rest0,_,lo0⟩,by rw[hB];exact aX,J⟩
   obtain⟨o1,ho1,he1⟩:=hx;exact hdis o1 ho1 o ho he1⟩) (by simp[bz]) (i7 rl')
 exact hk.run _ G' _ a' w' r3
def FQ(fr:ao)(cf:Cf):Option (FuncId×List DV×Nat):=match bE fr cf with
 |some ⟨some d, .call ⟨.value fo,args,_⟩,_,_,_,_⟩=>match ke (aP fr cf) fo args with
  |some (f,ds)=>some (f,ds,d)
  |none=>none
 |_=>none
def cr[fu:Fu]{f:FuncId}{d s:Nat}{ds rows:List DV}{ty:TypeId}(ha:FQ fr cf=some (f,ds,d))(hF:PR GB prog f ds s ty rows)
  (hgo:bP tt n fu.n fr own cf (.rw d) [(d,some (.b ty s rows true))] [d]=⟨vc,fr',own',cf'⟩)(k:ak prog GB C n Q0 fr' own' cf')
  (hv:autoParam (aj vc) fn._auto_1):ak prog GB C n Q0 fr own cf:=by
 unfold FQ at ha;split at ha<;>try (cases ha;done)
 rename_i hh;split at ha<;>cases ha;rename_i h1;exact us hh (Tk h1 hF) hgo hv k
def CZ(C:az)(s:Nat)(ty:TypeId)(rows:List DV):Ending->World->Prop:=nn C (fun v own' G'=> ∃w:SV,v= .slice w.a w.n w.c/\cG G' ⟨w,s,ty,rows,true⟩ own')
def S2[fu:Fu]{f:FuncId}{fb:Func}{c:Code}{m s:Nat}{ds rows:List DV}{ty:TypeId}(hf:prog.funcs[f]? =some fb)(hb:fb.body=some c)(hn:(fb.name== "runtime.NumGoroutine")=false)(hm:fb.ntmps=m)(hlen:Nat.ble ds.length m=true)
  (hgo:go tt m fu.n [] (jA 0 ds) [] (.code c [])=⟨vc,fr,own,cf⟩)(k: ∀C:az,C.mb=[]->ak prog GB C m (dx C prog fb (CZ C s ty rows)) fr own cf)
  (hv:autoParam (aj vc) fn._auto_1):PR GB prog f ds s ty rows:=by
 intro G vs hg hvs;refine iD.introR hf hb hn hm (by rw[hvs.len];exact hlen) fun C _ hmb hrd hfx=>?_;intro a w rl;refine oh hrd ?_;have h:=dw (GB:=GB) (C:=C) (Q0:=dx C prog fb (CZ C s ty rows)) hgo hv (k C (by simpa using hmb));exact h.run (fun _=>⟨none,0,0⟩) G [] a w ⟨hg,rl.h,rl.sz,rl.df,(fun k f e=>n5 hvs rl.fr k f e),(fun nm B e=>by cases e),(fun nm nm' B B' e=>by cases e),fun nm p _ _ e=>by rw[hfx] at e;cases e⟩
def Pu{fb:Func}{t d s:Nat}{ty:TypeId}{rows rws:List DV}(hr:fb.results.toList=[.tmp t])(hl:aD fr t=some (.rw d))(hw:aI own d=some (.b ty s rws true))(er:rws=rows):
  ak prog GB C n (dx C prog fb (CZ C s ty rows)) fr own (.ex .ret []):=by
 subst er;refine⟨fun ρ G ov a w r=>?_⟩;obtain⟨B,g1,g2⟩:=r.bx _ _ hw;have hB:cG G ⟨ρ d,s,ty,rws,true⟩ B:=g1;obtain⟨rest,hp⟩:=Eh hB g2;obtain⟨y,hy,hy'⟩:=r.ev (x:= .tmp t) (f:= .rw d) hl
 cases (show y=_ from hy')
 exact LC (C:=C) (n:=n) (fr:=cg a) (own:=ov) (G:=G) (vs:=[.slice (ρ d).a (ρ d).n (ρ d).c]) (by rw[hr];exact .tmp hy .nil) (B++rest) B hp (oX _ _) ⟨ρ d,J,hB⟩ a w ⟨r.h,r.sz,ci a,r.df⟩
end
section
variable {GB:Gh} {C:az} {n:Nat} {Q0:Exit->Act->World->Prop} {fr fr':ao} {own own':aA} {cf cf':Cf} {vc:List Prop}
def Qv{lk:LK}{bk:BM}{fo:Operand}{args:Array Operand}{tys:Array TypeId}{f:FuncId}{nm d:Nat}{l:List (Option DV)}{s:Nat}{ty ty0:TypeId}{pos:String}{af:Array Edge}{gd:Option (Nat×Bool)}{dsi dso:List DV}{lo:Bool}(hne:Nat.beq nm d=false)
  (ha:sk lk fo args=some (f,nm,l))(hb:bk nm=some (.b ty0 s dsi lo))(hF:PB GB prog f (gH l) s ty0 dsi (fun w=> .v (.slice w.a w.n w.c)) dso):bw prog GB C n lk bk ⟨some d, .call ⟨.value fo,args,tys⟩,ty,pos,af,gd⟩ (.rw d) [(nm,none),(d,some (.b ty0 s dso lo))] [d]:=by
 intro hd tl tb K' s1 s2 hf hk;refine⟨fun ρ G ov a w r Q=>?_⟩;have r1:=r.mono s1 s2;unfold sk at ha;split at ha<;>try (cases ha;done)
 rename_i h1;split at ha<;>cases ha;rename_i h2;obtain⟨y,hy,hy'⟩:=r1.ev h1;rw[(aH (G:=G)).1 hy'] at hy;obtain⟨B,g1,g2⟩:=r1.bx _ _ hb;have hB:cG G ⟨ρ nm,s,ty0,dsi,lo⟩ B:=g1;obtain⟨vs,h7,h8⟩:=yE r1 (z:=ρ nm) h2 (fun nm e=>by cases e;rfl);have hp: ∃rest,ov.Perm (B++rest)/\ ∀o∈ov,(∀o'∈B,o.b≠o'.b)->o∈rest:=by
  rcases hB with⟨vs',⟨_,_,e⟩|⟨b0,r0,lo0,_,e,_⟩,_⟩
  .rw[e];exact⟨ov,List.Perm.refl _,fun o ho _=>ho⟩
  .rw[e] at g2⊢
   obtain⟨l1,l2,e2⟩:=oU (g2 _ aX);rw[e2];refine⟨l1++l2,pU,fun o ho hno=>?_⟩;rcases cM.1 ho with ho|ho
   .exact dZ _ ho
   .rcases aR.1 ho with rfl|ho
    .exact absurd J (hno _ aX)
    .exact fR _ ho
 obtain⟨rest,h5,h6⟩:=hp;refine xv (M:=B) (rest:=rest) hy h7 h5 (hF G (ρ nm) vs B r.gb hB.weak h8) hd (fun v own1 G' hG hK a' w' rl=>?_) a w Q ⟨r.h,r.sz,ci a,r.df⟩;obtain⟨z,hr,vs',k1,k2,k3,k4⟩:=hK;have k1':=k1.relo (iC B);have e2:lo=true-> ∀o∈own1.map (relo (iC B)),o.lo=true:=fun hl o ho=>by
  obtain⟨o',_,rfl⟩:=bV.1 ho;obtain⟨_,_,_,_,hlo⟩:=hB;exact Ir _ (hlo hl)
 generalize own1.map (relo (iC B))=B' at rl e2 k1';have rl':eB C n (Sx.put (cg a) (some d) v) (B'++rest) G' a' w':=rl;have hdis:=(iR.1 rl'.h.nd).2.2;have r2:=r.dropB nm;have hnn:nm≠d:=fun e=>by subst e;rw[Nat.beq_refl] at hne;cases hne
 have hf2:i6 [d] (some d) tl (Sx.upB tb [(nm,none)]):=fun q hq=>by
  obtain⟨f1,f2⟩:=hf q hq;refine⟨f1,fun k B e1 e=>?_⟩;simp only[Sx.upB] at e;split at e
  .cases e
  .exact f2 k B e1 e
 have hsep: ∀q B0,Sx.upB tb [(nm,none)] q=some B0-> ∀o∈ov,(ρ q).a=some ⟨o.b,0,none⟩->o∈rest:=fun q B0 e o ho hbq=>by
  simp only[Sx.upB] at e;split at e
  .cases e
  .rename_i hqn
   refine h6 o ho fun o' ho' he=>?_;exact r.dj nm q _ _ (s2 _ _ hb) e (Ne.symm hqn) o'.b (g1.blk ho') (by rw[hbq,he])
 rw[aH.1 hr] at rl';have r3:=r2.new' (x:=z) (B':= .b ty0 s dso lo) (os:=B') (ov':=B'++rest) (f:= .rw d) (y:= .slice z.a z.n z.c) hf2 hG.le rl'.h ⟨vs',by simpa using k1',k2,k3,e2⟩ (fun o ho=>dZ _ ho)
  (fun q B0 hq e o ho hbq=>⟨fR _ (hsep q B0 e o ho hbq),fun hc=>by
   have hx: ∃o1∈B',o1.b=o.b:=by
    rcases k1' with⟨_,h,_⟩|⟨b0,rest0,lo0,h,hB,_⟩
    .rw[show z=_ from h] at hc;cases hc
    .rw[show z=_ from h] at hc;cases hc;exact⟨⟨_,bc vs'++rest0,_,lo0⟩,by rw[hB];exact aX,J⟩
   obtain⟨o1,ho1,he1⟩:=hx;exact hdis o1 ho1 o (hsep q B0 e o ho hbq) he1⟩) (by simp[bz]) (i7 rl')
 exact hk.run _ G' _ a' w' r3
def cq[fu:Fu]{f:FuncId}{nm d:Nat}{l:List (Option DV)}{ty:TypeId}{s:Nat}{dsi dso:List DV}{lo:Bool}(dso':List DV)(ha:HL fr own cf=some ⟨f,nm,l,ty,s,dsi,lo,d⟩)(hF:PB GB prog f (gH l) s ty dsi (fun w=> .v (.slice w.a w.n w.c)) dso)(he:dso=dso')
  (hgo:bP tt n fu.n fr own cf (.rw d) [(nm,none),(d,some (.b ty s dso' lo))] [d]=⟨vc,fr',own',cf'⟩)(k:ak prog GB C n Q0 fr' own' cf')
  (hv:autoParam (aj vc) fn._auto_1):ak prog GB C n Q0 fr own cf:=by
 subst he;unfold HL at ha;split at ha<;>try (cases ha;done)
 rename_i hh;split at ha<;>try (cases ha;done)
 rename_i h1;split at ha<;>try (cases ha;done)
 rename_i h2;rw[cond_eq_ite] at ha;split at ha<;>cases ha;rename_i h3;exact us hh (Qv (by cases hq:Nat.beq nm d with|false=>rfl|true=>exact absurd hq h3) h1 h2 hF) hgo hv k
def AC(C:az)(s:Nat)(ty:TypeId)(dso:List DV):Ending->World->Prop:=nn C (fun v own' G'=> ∃w',Is G' (.v (.slice w'.a w'.n w'.c)) v/\cG G' ⟨w',s,ty,dso,false⟩ own')
def uv[fu:Fu]{f:FuncId}{fb:Func}{c:Code}{k s:Nat}{l:List (Option DV)}{dsi dso:List DV}{ty:TypeId}(hf:prog.funcs[f]? =some fb)(hb:fb.body=some c)(hn:(fb.name== "runtime.NumGoroutine")=false)(hm:fb.ntmps=k)(hlen:Nat.ble l.length k=true)
  (hgo:go tt k fu.n [] (s5 0 l) [(NM,some (.b ty s dsi false))] (.code c [])=⟨vc,fr,own,cf⟩)(h: ∀C,ak prog GB C k (dx C prog fb (AC C s ty dso)) fr own cf)
  (hv:autoParam (aj vc) fn._auto_1):PB GB prog f (gH l) s ty dsi (fun w=> .v (.slice w.a w.n w.c)) dso:=by
 intro G w vs B hg hB hvs;refine iD.introR hf hb hn hm (by rw[hvs.len,Cb];exact hlen) fun C _ hmb hrd hfx=>?_;intro a wd rl;refine oh hrd ?_;have h1:=dw (GB:=GB) (C:=C) (Q0:=dx C prog fb (AC C s ty dso)) hgo hv (h C);refine h1.run (fun _=>w) G (Sx.asB B) a wd ⟨hg,rl.h,rl.sz,rl.df,fun k f e=>?_,fun nm B' e=>?_,fun nm nm' B' B2 e e' hne=>?_,fun nm p _ _ e=>by rw[hfx] at e;cases e⟩
 .obtain⟨y,⟨j,hj,hy⟩,h2⟩:=Cj (ρ:=fun _=>w) (w:=w) rfl 0 hvs k f e
  refine⟨y,rl.fr k y ?_,h2⟩;rw[hj];exact r5 vs 0 j y hy
 .rw[fI] at e
  split at e
  .cases e;exact⟨Sx.asB B,hB.asB,fun o ho=>ho⟩
  .cases e
 .rw[fI] at e e'
  split at e<;>split at e'
  .rename_i h2 h3;exact absurd (h2.trans h3.symm) hne
  .cases e'
  .cases e
  .cases e
def nf{fb:Func}{t d s:Nat}{ty:TypeId}{ds dso:List DV}(hr:fb.results.toList=[.tmp t])(hl:aD fr t=some (.rw d))(hw:aI own d=some (.b ty s ds false))(ed:ds=dso):
  ak prog GB C n (dx C prog fb (AC C s ty dso)) fr own (.ex .ret []):=by
 subst ed;refine⟨fun ρ G ov a w r=>?_⟩;obtain⟨B,g1,g2⟩:=r.bx _ _ hw;have hB:cG G ⟨ρ d,s,ty,ds,false⟩ B:=g1;obtain⟨rest,hp⟩:=Eh hB g2;obtain⟨y,hy,hy'⟩:=r.ev (x:= .tmp t) (f:= .rw d) hl
 cases (show y=_ from hy')
 exact LC (C:=C) (n:=n) (fr:=cg a) (own:=ov) (G:=G) (vs:=[.slice (ρ d).a (ρ d).n (ρ d).c]) (by rw[hr];exact .tmp hy .nil) (B++rest) B hp (oX _ _) ⟨ρ d,aH.2 J,hB⟩ a w ⟨r.h,r.sz,ci a,r.df⟩
def K9(lk:LK):List Operand->Option (List (Option DV))
 |[]=>none
 |[x]=>match aB lk x with
  |some .nl=>some [none]
  |_=>none
 |x::t=>match aB lk x,K9 lk t with
  |some f,some l=>match gw f with
   |some d=>some (some d::l)
   |none=>none
  |_,_=>none
def NY(lk:LK)(fo:Operand)(args:Array Operand):Option (FuncId×List (Option DV)):=match aB lk fo with
 |some (.d (.v (.func (.func f) ⟨[]⟩ ⟨[]⟩)))=>match K9 lk args.toList with
  |some l=>some (f,l)
  |_=>none
 |_=>none
def XI(fr:ao)(cf:Cf):Option (FuncId×List (Option DV)×Nat):=match bE fr cf with
 |some ⟨some d, .call ⟨.value fo,args,_⟩,_,_,_,_⟩=>match NY (aP fr cf) fo args with
  |some (f,l)=>some (f,l,d)
  |none=>none
 |_=>none
end
section
variable {P:Program} {T:TT} {GB:Gh} {C:az} {n:Nat} {lk:LK} {bk:BM} {ρ:NE} {G:Gh} {ov:List av} {a:Act} {w:World}
variable {dst:Option Nat} {t t' ty':TypeId} {pos:String} {af:Array Edge} {gd:Option (Nat×Bool)} {x y:Operand} {e s by_:Nat}
end
section
variable {GB:Gh} {C:az} {n:Nat} {Q0:Exit->Act->World->Prop} {fr fr':ao} {own own':aA} {cf cf':Cf} {vc:List Prop}
def Y'(fr:ao)(own:aA)(cf:Cf):Option (Nat×Nat×Nat×Nat×Nat×List DV×List DV):=match bE fr cf with
 |some ⟨some d, .call ⟨.builtin .append,⟨[x,y]⟩,⟨[t,t']⟩⟩,_,_,_,_⟩=>match co tt t with
  |some ⟨.sl e s b,_,_,_⟩=>match co tt t' with
   |some ⟨.sl _ _ _,_,_,_⟩=>match co tt e with
    |some i=>match jy i with
     |some z=>bif Nat.beq z.cells.length s&&Nat.blt 0 b then(match nI (aP fr cf) (dO fr own cf) s y with
      |some ds2=>match aB (aP fr cf) x with
       |some (.rw nm)=>match dO fr own cf nm with
        |some (.b e' s' ds false)=>bif (Nat.beq e' e&&Nat.beq s' s)&&!Nat.beq nm d then some (d,nm,e,s,b,ds,ds2) else none
        |_=>none
       |_=>none
      |none=>none) else none
     |none=>none
    |none=>none
   |_=>none
  |_=>none
 |_=>none
end
def PW(GB:Gh)(P:Program)(f:FuncId)(l:List (Option DV))(s:Nat)(ty:TypeId)(dsi:List DV)(rv:DV)(dso:List DV):Prop:=
 ∀G w vs B,ba GB G->cG G ⟨w,s,ty,dsi,false⟩ B->IsLs G (gH l w) vs->iD P f vs B G (fun v own' G'=>Is G' rv v/\cG G' ⟨w,s,ty,dso,false⟩ own')
def Qp{B:List av}{G:Gh}{w:SV}{s:Nat}{ty:TypeId}{ds:List DV}{lo:Bool}{ov:List av}(h:cG G ⟨w,s,ty,ds,lo⟩ B)(g: ∀o∈B,o∈ov): ∃rest,ov.Perm (B++rest)/\ ∀o∈ov,(∀o'∈B,o.b≠o'.b)->o∈rest:=by
 rcases h with⟨vs',⟨_,_,e⟩|⟨b0,r0,lo0,_,e,_⟩,_⟩
 .rw[e];exact⟨ov,List.Perm.refl _,fun o ho _=>ho⟩
 .rw[e] at g⊢
  obtain⟨l1,l2,e2⟩:=oU (g _ aX);rw[e2];refine⟨l1++l2,pU,fun o ho hno=>?_⟩;rcases cM.1 ho with ho|ho
  .exact dZ _ ho
  .rcases aR.1 ho with rfl|ho
   .exact absurd J (hno _ aX)
   .exact fR _ ho
section
variable {GB:Gh} {C:az} {n:Nat} {Q0:Exit->Act->World->Prop} {fr fr':ao} {own own':aA} {cf cf':Cf} {vc:List Prop} {lk:LK} {bk:BM}
variable {dst:Option Nat} {t t' ty':TypeId} {pos:String} {af:Array Edge} {gd:Option (Nat×Bool)} {x y:Operand}
def Tc{fo:Operand}{args:Array Operand}{tys:Array TypeId}{f:FuncId}{nm:Nat}{l:List (Option DV)}{s:Nat}{ty0:TypeId}{dsi dso:List DV}{lo:Bool}{rv:DV}
  (ha:sk lk fo args=some (f,nm,l))(hb:bk nm=some (.b ty0 s dsi lo))(hF:PW GB prog f l s ty0 dsi rv dso):bw prog GB C n lk bk ⟨dst, .call ⟨.value fo,args,tys⟩,ty',pos,af,gd⟩ (.d rv) [(nm,some (.b ty0 s dso lo))] []:=by
 intro hd tl tb K' s1 s2 hf hk;refine⟨fun ρ G ov a w r Q=>?_⟩;have r1:=r.mono s1 s2;unfold sk at ha;split at ha<;>try (cases ha;done)
 rename_i h1;split at ha<;>cases ha;rename_i h2;obtain⟨y,hy,hy'⟩:=r1.ev h1;rw[(aH (G:=G)).1 hy'] at hy;obtain⟨B,g1,g2⟩:=r1.bx _ _ hb;have hB:cG G ⟨ρ nm,s,ty0,dsi,lo⟩ B:=g1;obtain⟨vs,h7,h8⟩:=yE r1 (z:=ρ nm) h2 (fun nm e=>by cases e;rfl);obtain⟨rest,h5,h6⟩:=Qp hB g2;refine xv (M:=B) (rest:=rest) hy h7 h5 (hF G (ρ nm) vs B r.gb hB.weak h8) hd (fun v own1 G' hG hK a' w' rl=>?_) a w Q ⟨r.h,r.sz,ci a,r.df⟩;obtain⟨hr,vs',k1,k2,k3,k4⟩:=hK;have k1':=k1.relo (iC B);have e2:lo=true-> ∀o∈own1.map (relo (iC B)),o.lo=true:=fun hl o ho=>by
  obtain⟨o',_,rfl⟩:=bV.1 ho;obtain⟨_,_,_,_,hlo⟩:=hB;exact Ir _ (hlo hl)
 generalize own1.map (relo (iC B))=B' at rl e2 k1';have r2:=r.upB (G':=G') (ov':=B'++rest) (w':=w') (B':= .b ty0 s dso lo) (os:=B') hG.le rl.h ⟨vs',by simpa using k1',k2,k3,e2⟩ (fun o ho=>dZ _ ho)
  (fun o ho hne=>fR _ (h6 o ho fun o' ho' he=>hne (by rw[g1.blk ho',he]))) ⟨_,s2 _ _ hb⟩
 exact hk.run _ G' _ a' w' (r2.put hr (i7 rl))
def J'(fr:ao)(own:aA)(cf:Cf):Option (FuncId×Nat×List (Option DV)×TypeId×Nat×List DV×Bool):=match bE fr cf with
 |some ⟨_, .call ⟨.value fo,args,_⟩,_,_,_,_⟩=>match sk (aP fr cf) fo args with
  |some (f,nm,l)=>match dO fr own cf nm with
   |some (.b ty s ds lo)=>some (f,nm,l,ty,s,ds,lo)
   |_=>none
  |none=>none
 |_=>none
def cw[fu:Fu]{f:FuncId}{nm:Nat}{l:List (Option DV)}{ty:TypeId}{s:Nat}{dsi dso:List DV}{lo:Bool}{rv:DV}(dso':List DV)(ha:J' fr own cf=some (f,nm,l,ty,s,dsi,lo))(hF:PW GB prog f l s ty dsi rv dso)(he:dso=dso')
  (hgo:bP tt n fu.n fr own cf (.d rv) [(nm,some (.b ty s dso' lo))] []=⟨vc,fr',own',cf'⟩)(k:ak prog GB C n Q0 fr' own' cf')
  (hv:autoParam (aj vc) fn._auto_1):ak prog GB C n Q0 fr own cf:=by
 subst he;unfold J' at ha;split at ha<;>try (cases ha;done)
 rename_i hh;split at ha<;>try (cases ha;done)
 rename_i h1;split at ha<;>cases ha;rename_i h2;exact us hh (Tc h1 h2 hF) hgo hv k
def Lt{G:Gh}{w:SV}{s:Nat}{ty:TypeId}{ds:List DV}{lo:Bool}{B:List av}(h:cG G ⟨w,s,ty,ds,lo⟩ B)(hn:0<ds.length:=by omega): ∃b,w=⟨some ⟨b,0,none⟩,ds.length,w.c⟩/\ds.length<=w.c:=by
 obtain⟨vs,h1,h2,_⟩:=h;rcases h1 with⟨e1,_,_⟩|⟨b,rest,lo',e1,_,_,_,h5⟩
 .subst e1;have:=h2.len;simp at this;omega
 .exact⟨b,by rw[<-h2.len];exact e1,by rw[<-h2.len];exact h5⟩
def SC{P:Program}{e s by_:Nat}[hT:c8 P t e s by_]{nm:Nat}{k:IntKind}{j m:Nat}{ty:TypeId}{ds:List DV}{lo:Bool}(hx:aB lk x=some (.rw nm))(hb:bk nm=some (.b ty s ds lo))(hy:aB lk y=some (.d (.v (.int k j))))(hm:j+m=ds.length)(h1:0<m):
  bw P GB C n lk bk ⟨dst, .slice t x (some y) none none,ty',pos,af,gd⟩ (.rs nm s j m) [] []:= .yd fun ρ G ov a w r=>by
 obtain⟨u,hu,hu2⟩:=r.ev hx
 cases (show u=_ from hu2)
 obtain⟨v,hv,hv2⟩:=r.ev hy;rw[ce] at hv2;subst hv2;obtain⟨B,hB,_⟩:=r.row (y:= .nilFunc) hb;obtain⟨b,hw,hc⟩:=Lt hB;rw[hw] at hu;have hs:=Ip (P:=P) (C:=C) (own:=ov) (G:=G) (dst:=dst) (ty':=ty') (pos:=pos) (af:=af) (gd:=gd) (t:=t) hu hv (by omega) (by show(j:Int)<=(ds.length:Nat);omega);have hne:(ρ nm).c≠j:=by omega
 refine⟨_,⟨b,(ρ nm).c-j,by rw[hw],?_,?_⟩,hs⟩
 .unfold jn
  rw[fU,if_neg hne,gL,oE,dW,show ds.length-j=m by omega]
 .omega
def Nt{P:Program}{e s by_:Nat}[hT:c8 P t e s by_]{nm sz off m:Nat}(hx:aB lk x=some (.rs nm sz off m)):bw P GB C n lk bk ⟨dst, .call ⟨.builtin .len, #[x], #[t]⟩,ty',pos,af,gd⟩ (.d (.v (.int .i64 (m:Nat)))) [] []:= .x1 hx fun ρ G ov a w y _ r h1 h2=>by
 obtain⟨b,c,_,rfl,_⟩:=h2;exact⟨_,ce.2 J,wM h1⟩
def Oh{P:Program}{e s by_:Nat}[hT:c8 P t e s by_]{nm off m j:Nat}{k:IntKind}{i:Int}(hx:aB lk x=some (.rs nm s off m))(hy:aB lk y=some (.d (.v (.int k i))))(h0:0<=i)(h1:i<(m:Nat))(hj:(off:Int)+i=(j:Nat)):
  bw P GB C n lk bk ⟨dst, .indexAddr t x y,ty',pos,af,gd⟩ (.be nm s j 0) [] []:= .yd fun ρ G ov a w r=>by
 obtain⟨u,hu,hu2⟩:=r.ev hx;obtain⟨b,c,hb,rfl,hc⟩:=hu2;obtain⟨v,hv,hv2⟩:=r.ev hy;rw[ce] at hv2;subst hv2;have:=BV (P:=P) (C:=C) (own:=ov) (G:=G) (dst:=dst) (ty':=ty') (pos:=pos) (af:=af) (gd:=gd) (t:=t) hu hv h0 h1;obtain rfl:off+i.toNat=j:=by omega
 exact⟨_,⟨b,hb,J⟩,by rw[eK,cS];exact this⟩
def IX(fr:ao)(own:aA)(cf:Cf):Option (Nat×Nat×List DV×Int):=match bE fr cf with
 |some ⟨_, .slice t x (some y) none none,_,_,_,_⟩=>match co tt t with
  |some ⟨.sl _ s' _,_,_,_⟩=>match aB (aP fr cf) x with
   |some (.rw nm)=>match dO fr own cf nm with
    |some (.b _ s ds _)=>match aB (aP fr cf) y with
     |some (.d (.v (.int _ i)))=>bif Nat.beq s s' then some (nm,s,ds,i) else none
     |_=>none
    |_=>none
   |_=>none
  |_=>none
 |_=>none
def wE[fu:Fu]{nm s:Nat}{ds:List DV}{i:Int}(k m:Nat)(h:IX fr own cf=some (nm,s,ds,i))(hi:i=(k:Nat))(hm:k+m=ds.length)(hp:0<m)(hgo:bP tt n fu.n fr own cf (.rs nm s k m) [] []=⟨vc,fr',own',cf'⟩)(kk:ak prog GB C n Q0 fr' own' cf')
  (hv:autoParam (aj vc) fn._auto_1):ak prog GB C n Q0 fr own cf:=by
 subst hi;unfold IX at h;split at h<;>try (cases h;done)
 rename_i hh;split at h<;>try (cases h;done)
 rename_i hT;split at h<;>try (cases h;done)
 rename_i hx;split at h<;>try (cases h;done)
 rename_i hb;split at h<;>try (cases h;done)
 rename_i hy;rw[cond_eq_ite] at h;split at h<;>cases h;rename_i hq
 cases aU hq
 have:=gy (dz _ _ hT) J;exact us hh (SC hx hb hy hm hp) hgo hv kk
def HT(fr:ao)(cf:Cf):Option Nat:=match bE fr cf with
 |some ⟨_, .call ⟨.builtin .len,⟨[x]⟩,⟨[t]⟩⟩,_,_,_,_⟩=>match co tt t with
  |some ⟨.sl _ _ _,_,_,_⟩=>match aB (aP fr cf) x with
   |some (.rs _ _ _ m)=>some m
   |_=>none
  |_=>none
 |_=>none
def G8[fu:Fu]{m:Nat}(h:HT fr cf=some m)(hgo:bP tt n fu.n fr own cf (.d (.v (.int .i64 (m:Nat)))) [] []=⟨vc,fr',own',cf'⟩)(kk:ak prog GB C n Q0 fr' own' cf')
  (hv:autoParam (aj vc) fn._auto_1):ak prog GB C n Q0 fr own cf:=by
 unfold HT at h;split at h<;>try (cases h;done)
 rename_i hh;split at h<;>try (cases h;done)
 rename_i hT;split at h<;>cases h;rename_i hx;have:=gy (dz _ _ hT) J;exact us hh (Nt hx) hgo hv kk
def Kk(fr:ao)(cf:Cf):Option (Nat×Nat×Nat×Nat×Int):=match bE fr cf with
 |some ⟨_, .indexAddr t x y,_,_,_,_⟩=>match co tt t with
  |some ⟨.sl _ s' _,_,_,_⟩=>match aB (aP fr cf) x with
   |some (.rs nm s off m)=>match aB (aP fr cf) y with
    |some (.d (.v (.int _ i)))=>bif Nat.beq s s' then some (nm,s,off,m,i) else none
    |_=>none
   |_=>none
  |_=>none
 |_=>none
def sJ[fu:Fu]{nm s off m:Nat}{i:Int}(k:Nat)(h:Kk fr cf=some (nm,s,off,m,i))(hk:(off:Int)+i=(k:Nat))(h0:0<=i)(h1:i<(m:Nat))(hgo:bP tt n fu.n fr own cf (.be nm s k 0) [] []=⟨vc,fr',own',cf'⟩)(kk:ak prog GB C n Q0 fr' own' cf')
  (hv:autoParam (aj vc) fn._auto_1):ak prog GB C n Q0 fr own cf:=by
 unfold Kk at h;split at h<;>try (cases h;done)
 rename_i hh;split at h<;>try (cases h;done)
 rename_i hT;split at h<;>try (cases h;done)
 rename_i hx;split at h<;>try (cases h;done)
 rename_i hy;rw[cond_eq_ite] at h;split at h<;>cases h;rename_i hq
 cases aU hq
 have:=gy (dz _ _ hT) J;exact us hh (Oh hx hy h0 h1 hk) hgo hv kk
def ir.cut{s:Nat}{ty:TypeId}{z:SV}{vs:List Value}{B:List av}(h:ir s ty z vs B)(hs: ∀v∈vs,(aF v).length=s){k:Nat}(hk:k<=vs.length)(hne:0<vs.length):ir s ty ⟨z.a,k,z.c⟩ (vs.take k) B:=by
 rcases h with⟨h1,_,_⟩|⟨b,rest,lo,h1,h2,h3,h4,h5⟩
 .subst h1;simp at hne
 .have e:bc vs=bc (vs.take k)++bc (vs.drop k):=by rw[<-ot,lJ]
  have hl:=fj (vs.take k) fun v hv=>hs v (dX hv);have hm:(vs.take k).length=k:=by rw[aS];omega
  refine .inr ⟨b,bc (vs.drop k)++rest,lo,by rw[hm,h1],by rw[h2,e,dL],hl,?_,by rw[hm];show k<=z.c;omega⟩;show _=z.c*s;rw[<-h4,e,aN,aN];omega
def Ru{P:Program}{e s by_:Nat}[hT:c8 P t e s by_]{nm d:Nat}{k:IntKind}{j:Nat}{ty:TypeId}{ds:List DV}{lo:Bool}(hne:Nat.beq nm d=false)(hx:aB lk x=some (.rw nm))(hb:bk nm=some (.b ty s ds lo))(hy:aB lk y=some (.d (.v (.int k j))))(h1:j<ds.length):
  bw P GB C n lk bk ⟨some d, .slice t x none (some y) none,ty',pos,af,gd⟩ (.rw d) [(nm,none),(d,some (.b ty s (ds.take j) lo))] [d]:=by
 intro hd tl tb K s1 s2 hf hk;refine⟨fun ρ G ov a w r Q=>?_⟩;have r1:=r.mono s1 s2;obtain⟨u,hu,hu2⟩:=r1.ev hx
 cases (show u=_ from hu2)
 obtain⟨v,hv,hv2⟩:=r1.ev hy;rw[ce] at hv2;subst hv2;obtain⟨B,hB0,hBo⟩:=r1.bx _ _ hb;have hB:cG G ⟨ρ nm,s,ty,ds,lo⟩ B:=hB0;obtain⟨b,hw,hc⟩:=Lt hB;obtain⟨vs,g1,g2,g3,g4⟩:=hB;have hvl:=g2.len;have hcut:cG G ⟨⟨(ρ nm).a,j,(ρ nm).c⟩,s,ty,ds.take j,lo⟩ B:=⟨vs.take j,ir.cut g1 g3 (by simp only at hvl⊢;omega) (by simp only at hvl⊢;omega),g2.take _,fun v hv=>g3 v (dX hv),g4⟩;have hs:=GS (P:=P) (C:=C) (own:=ov) (G:=G) (dst:=some d) (ty':=ty') (pos:=pos) (af:=af) (gd:=gd) (t:=t) hu hv;have hnn:nm≠d:=fun e=>by subst e;rw[Nat.beq_refl] at hne;cases hne
 have r2:=r.dropB nm;have hf2:i6 [d] (some d) tl (Sx.upB tb [(nm,none)]):=fun q hq=>by
  obtain⟨f1,f2⟩:=hf q hq;refine⟨f1,fun k B e1 e=>?_⟩;simp only[Sx.upB] at e;split at e
  .cases e
  .exact f2 k B e1 e
 have r3:=r2.new' (x:=⟨(ρ nm).a,j,(ρ nm).c⟩) (B':= .b ty s (ds.take j) lo) (os:=B) (ov':=ov) (f:= .rw d) (y:= .slice (ρ nm).a j (ρ nm).c) hf2 (ba.refl _) r.h (hcut.toBk (by simp)) hBo
  (fun m B' hm e o ho hmo=>⟨ho,fun hc=>by
   simp only[Sx.upB] at e;split at e
   .cases e
   .rename_i hmn
    exact r.dj m nm B' _ e (s2 _ _ hb) hmn _ hmo hc⟩) (by simp[bz]) (r.putA (.slice (ρ nm).a j (ρ nm).c) hd)
 exact ky (hs a w (ci a) r.h) (hk.run _ G _ _ w r3)
def H9(fr:ao)(own:aA)(cf:Cf):Option (Nat×Nat×TypeId×Nat×List DV×Bool×Int):=match bE fr cf with
 |some ⟨some d, .slice t x none (some y) none,_,_,_,_⟩=>match co tt t with
  |some ⟨.sl _ s' _,_,_,_⟩=>match aB (aP fr cf) x with
   |some (.rw nm)=>match dO fr own cf nm with
    |some (.b ty s ds lo)=>match aB (aP fr cf) y with
     |some (.d (.v (.int _ i)))=>bif Nat.beq s s'&&!Nat.beq nm d then some (d,nm,ty,s,ds,lo,i) else none
     |_=>none
    |_=>none
   |_=>none
  |_=>none
 |_=>none
def yX[fu:Fu]{d nm s:Nat}{ty:TypeId}{ds:List DV}{lo:Bool}{i:Int}(ds':List DV)(k:Nat)(h:H9 fr own cf=some (d,nm,ty,s,ds,lo,i))(hi:i=(k:Nat))(hl:k<ds.length)(hd:ds.take k=ds')(hgo:bP tt n fu.n fr own cf (.rw d) [(nm,none),(d,some (.b ty s ds' lo))] [d]=⟨vc,fr',own',cf'⟩)(kk:ak prog GB C n Q0 fr' own' cf')
  (hv:autoParam (aj vc) fn._auto_1):ak prog GB C n Q0 fr own cf:=by
 subst hi hd;unfold H9 at h;split at h<;>try (cases h;done)
 rename_i hh;split at h<;>try (cases h;done)
 rename_i hT;split at h<;>try (cases h;done)
 rename_i hx;split at h<;>try (cases h;done)
 rename_i hb;split at h<;>try (cases h;done)
 rename_i hy;rw[cond_eq_ite] at h;split at h<;>cases h;rename_i hq;simp only[bQ,gU] at hq
 cases aU hq.1
 have:=gy (dz _ _ hT) J;exact us hh (Ru hq.2 hx hb hy hl) hgo hv kk
def Je(v:Value)(m:Nat):bc (List.replicate m v)=dA v m:=by
 unfold dA
 induction m with
 |zero=>rfl
 |succ m ih=>rw[jK,jK,kQ,<-ih];rfl
def HV{G:Gh}{z:DV}{v:Value}(h:Is G z v): ∀m:Nat,IsLs G (List.replicate m z) (List.replicate m v)
 |0=> .nil
 |m+1=>by rw[jK,jK];exact .cons h (HV h m)
def VG{P:Program}{e s by_:Nat}[hT:c8 P t e s by_]{i:TI}{z:DV}(hi:dC P e=some i)(hz:jy i=some z)(hzs:z.cells.length=s){nm off m:Nat}{ty:TypeId}{ds:List DV}{lo:Bool}(hx:aB lk x=some (.rs nm s off (m+1)))(hb:bk nm=some (.b ty s ds lo))(hm:off+(m+1)=ds.length):
  bw P GB C n lk bk ⟨dst, .call ⟨.builtin .clear, #[x], #[t]⟩,ty',pos,af,gd⟩ (.d (.tp [])) [(nm,some (.b ty s (ds.take off++List.replicate (m+1) z) lo))] []:=by
 intro hd tl tb K s1 s2 hf hk;refine⟨fun ρ G ov a w r Q=>?_⟩;have r1:=r.mono s1 s2;obtain⟨v,hz1,hz2,hz3⟩:=uB hi hz;have cz:=((hz2 G).cells hz3).1.len;have cf:=((hz2 G).cells hz3).2;rw[hzs] at cz;obtain⟨u,hu,b,c,hbq,rfl,hc⟩:=r1.ev hx;obtain⟨B,hB0,hBo⟩:=r1.bx _ _ hb;have hB:cG G ⟨ρ nm,s,ty,ds,lo⟩ B:=hB0;obtain⟨vs,g1,g2,g3,g4⟩:=hB;simp only at g1 g2 g3 g4;have hvl:=g2.len;rcases g1 with⟨e1,e2,_⟩|⟨b',rest,lo',k1,k2,k3,k4,k5⟩
 .subst e1;simp at hvl;omega
 .have hbe:b'=b:=by rw[k1] at hbq;cases hbq;rfl
  subst hbe;subst k2;have hmem:=hBo _ aX;have hblk:=(r.h.hown _ hmem).1;simp only at hblk;have hzl:(dA v (m+1)).length=(m+1)*s:=by rw[qm,cz]
  have hls:vs.length*s=off*s+(m+1)*s:=by rw[<-cS];congr 1;omega
  have hst:=uP (P:=P) (dA v (m+1)) w (off*s) 0 (bc vs++rest) (fun q hq=>by
   unfold dA at hq;obtain⟨l,hl,hql⟩:=List.mem_flatten.1 hq;rw[jR hl] at hql;exact cf q hql) hblk (by rw[hzl,aN];omega)
  rw[eK] at hst;have htk:=fj (vs.take off) fun q hq=>g3 q (dX hq);have hov:c9 (bc vs++rest) (off*s) (dA v (m+1))=bc (vs.take off++List.replicate (m+1) v)++rest:=by
   rw[qj _ _ _ (by rw[hzl,aN];omega),ot,Je];have e1:(bc vs++rest).take (off*s)=bc (vs.take off):=by
    rw[fQ (by omega),BF vs off g3 (by omega)]
   rw[e1,hzl,<-hls,iK (by omega),iZ (by omega),jV]
  have hrun:(Builtin.clear_ #[t] ty' #[.slice (some ⟨b',off*s,none⟩) (m+1) c]).run P w= .ok (.tuple #[]) (eo w b' (.cells ⟨bc (vs.take off++List.replicate (m+1) v)++rest⟩ ty (0,0))):=by
   unfold Builtin.clear_;show(underlying t>>=_).run P w=_;rw[aG (hT.u w)];show(zeroValue e>>=fun q=>storeCells ⟨b',off*s,none⟩ (Builtin.zeroCells q.cells (m+1)).toList>>=fun _=>pure (Value.tuple #[])).run P w=_;rw[aG (hz1.zero w)];show(storeCells ⟨b',off*s,none⟩ (Builtin.zeroCells v.cells (m+1)).toList>>=fun _=>pure (Value.tuple #[])).run P w=_;rw[mG,Lh,aG (hov▸hst)];rfl
  obtain⟨own',u1,u2,u3⟩:=f5.of_mem (cs':=bc (vs.take off++List.replicate (m+1) v)++rest) hmem;have r2:=r.upB (G':=G) (ov':=own') (w':=eo w b' (.cells ⟨bc (vs.take off++List.replicate (m+1) v)++rest⟩ ty (0,0))) (B':= .b ty s (ds.take off++List.replicate (m+1) z) lo) (os:=[⟨b',bc (vs.take off++List.replicate (m+1) v)++rest,ty,lo'⟩]) (ba.refl _) (r.h.store u1)
   ⟨vs.take off++List.replicate (m+1) v, .inr ⟨b',rest,lo',?_,J,?_,?_,?_⟩,(g2.take _).app (HV (hz2 G) _),?_,?_⟩ (fun o ho=>by rw[aL.1 ho];exact u2) (fun o ho hne=>u3 o ho fun e=>hne (by rw[hbq,e])) ⟨_,s2 _ _ hb⟩
  .have h3:=hk.run _ G _ _ _ (r2.put (f:= .d (.tp [])) (y:= .tuple #[]) (ph.2 ⟨[],J, .nil⟩) (r2.putA (.tuple #[]) hd))
   refine ky (v:= .tuple #[]) ?_ h3;simp only[execOp,resolve,iT,bL,iQ,bh (ci a) hu];exact cp hrun
  .rw[k1,aN,aS,aV,fM (by omega)]
   simp only[SV.mk.injEq,true_and,and_true];omega
  .refine fj _ fun q hq=>?_
   rcases cM.1 hq with hq|hq
   .exact g3 q (dX hq)
   .rw[jR hq,cz]
  .rw[ot,Je,aN,htk,hzl,aS,fM (by omega)]
   omega
  .rw[aN,aS,aV,fM (by omega)];omega
  .intro q hq
   rcases cM.1 hq with hq|hq
   .exact g3 q (dX hq)
   .rw[jR hq,cz]
  .intro hl o ho
   have:=g4 hl _ aX;rw[aL.1 ho];exact this
def Fl(fr:ao)(own:aA)(cf:Cf):Option (Nat×TypeId×Nat×List DV×Bool×Nat×Nat×DV):=match bE fr cf with
 |some ⟨_, .call ⟨.builtin .clear,⟨[x]⟩,⟨[t]⟩⟩,_,_,_,_⟩=>match co tt t with
  |some ⟨.sl e s' _,_,_,_⟩=>match aB (aP fr cf) x with
   |some (.rs nm s off m)=>match dO fr own cf nm with
    |some (.b ty s2 ds lo)=>match co tt e with
     |some i=>match jy i with
      |some z=>bif Nat.beq s s'&&(Nat.beq s s2&&Nat.beq z.cells.length s) then some (nm,ty,s,ds,lo,off,m,z) else none
      |none=>none
     |none=>none
    |_=>none
   |_=>none
  |_=>none
 |_=>none
def HB[fu:Fu]{nm s off m:Nat}{ty:TypeId}{ds:List DV}{lo:Bool}{z:DV}(ds':List DV)(h:Fl fr own cf=some (nm,ty,s,ds,lo,off,m,z))(hm:off+m=ds.length)(hp:0<m)(hd:ds.take off++List.replicate m z=ds')(hgo:bP tt n fu.n fr own cf (.d (.tp [])) [(nm,some (.b ty s ds' lo))] []=⟨vc,fr',own',cf'⟩)(kk:ak prog GB C n Q0 fr' own' cf')
  (hv:autoParam (aj vc) fn._auto_1):ak prog GB C n Q0 fr own cf:=by
 subst hd;obtain⟨m,rfl⟩: ∃q,m=q+1:=⟨m-1,by omega⟩;unfold Fl at h;split at h<;>try (cases h;done)
 rename_i hh;split at h<;>try (cases h;done)
 rename_i hT;split at h<;>try (cases h;done)
 rename_i hx;split at h<;>try (cases h;done)
 rename_i hb;split at h<;>try (cases h;done)
 rename_i hi;split at h<;>try (cases h;done)
 rename_i hz;rw[cond_eq_ite] at h;split at h<;>cases h;rename_i hq;simp only[bQ] at hq
 cases aU hq.1
 cases aU hq.2.1
 have:=gy (dz _ _ hT) J;exact us hh (VG (dz _ _ hi) hz (aU hq.2.2) hx hb hm) hgo hv kk
end
end Go.Sx
end
