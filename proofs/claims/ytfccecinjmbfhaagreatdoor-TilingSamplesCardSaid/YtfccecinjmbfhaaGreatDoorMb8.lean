/- Part 8 of a proof. -/
import Derived.Test.YtfccecinjmbfhaaGreatDoorMb7
set_option linter.unusedSimpArgs false
set_option maxRecDepth 100000
set_option linter.unusedVariables false
section
namespace Go.Sx
open Go Go.Proofs Tryz
section
variable {GB:Gh} {C:Ctx} {n:Nat} {Q0:Exit→Act→World→Prop} {fr fr':FrX} {own own':OwX} {cf cf':Cf} {vc vc':List Prop} {ops:Array Oper} {r:List Oper} {o:Oper} {K:List Kt}
/-! ### a block that is written no more -/
def aqX(row:Bool)(nm:Nat)(l:List DV):FX→FX
 | .rw m=>bif Nat.beq m nm then(bif row then .d (.sl l) else .no) else .rw m
 | .ov m off=>bif Nat.beq m nm then(bif row then .no else(match off with
  |0=> .d (.pt l)
  |_+1=> .no)) else .ov m off
 | .be m s i j=>bif Nat.beq m nm then .no else .be m s i j
 | .rs m s i j=>bif Nat.beq m nm then .no else .rs m s i j
 | .bx tp pre m post=>bif Nat.beq m nm then(bif row then(match tp with
  |true=> .d (.tp (pre++ .sl l::post))
  |false=> .d (.ag (pre++ .sl l::post))) else .no) else .bx tp pre m post
 |f=>f
def fcX{α:Type}(f:FX)(k:FX→α):α:=match f with
 | .d x=>k (.d x)
 | .rw m=>k (.rw m)
 | .ov a b=>k (.ov a b)
 | .be a b c d=>k (.be a b c d)
 | .rs a b c d=>k (.rs a b c d)
 |f=>k f
theorem aqd{α:Type}{f:FX}{k:FX→α}:fcX f k=k f:=by cases f<;>rfl
def aAW{α:Type}(row:Bool)(nm:Nat)(l:List DV):FrX→(FrX→α)→α
 |[],k=>k []
 |(j,f)::t,k=>aAW row nm l t fun t'=>fcX (aqX row nm l f) fun f'=>k ((j,f')::t')
def aDp{α:Type}(row:Bool)(nm:Nat)(l:List DV):List FX→(List FX→α)→α
 |[],k=>k []
 |f::t,k=>aDp row nm l t fun t'=>fcX (aqX row nm l f) fun f'=>k (f'::t')
def aBz{α:Type}(row:Bool)(nm:Nat)(l:List DV):OwX→(OwX→α)→α
 |[],k=>k []
 |(j,B)::t,k=>aBz row nm l t fun t'=>bif Nat.beq j nm then k ((j,none)::t') else match B with
  |some (.o ty cs lo)=>aDp row nm l cs fun cs'=>k ((j,some (.o ty cs' lo))::t')
  |B=>k ((j,B)::t')
def ant(row:Bool)(nm:Nat)(l:List DV):Option Bk→Option Bk
 |some (.o ty cs lo)=>some (.o ty (cs.map (aqX row nm l)) lo)
 |B=>B
theorem atU{α:Type}{row:Bool}{nm:Nat}{l:List DV}: ∀{cs:List FX} {k:List FX→α},aDp row nm l cs k=k (cs.map (aqX row nm l))
 |[],k=>rfl
 |f::t,k=>by simp only[aDp,aqd];rw[atU];rfl
theorem aod{α:Type}{row:Bool}{nm:Nat}{l:List DV}: ∀{fr:FrX} {k:FrX→α},aAW row nm l fr k=k (fr.map fun e=>(e.1,aqX row nm l e.2))
 |[],k=>rfl
 |(j,f)::t,k=>by simp only[aAW,aqd];rw[aod];rfl
theorem aox{α:Type}{row:Bool}{nm:Nat}{l:List DV}: ∀{own:OwX} {k:OwX→α},aBz row nm l own k=k (own.map fun e=>(e.1,bif Nat.beq e.1 nm then none else ant row nm l e.2))
 |[],k=>rfl
 |(j,B)::t,k=>by
  simp only[aBz,aox (own:=t),cZ]
  cases Nat.beq j nm with
  |true=>rfl
  |false=>
   cases B with
   |none=>rfl
   |some B=>cases B<;>simp only[cond_false,atU,ant]
theorem akP{g:FX→FX}: ∀{fr:FrX} {k:Nat},aaw (fr.map fun e=>(e.1,g e.2)) k=(aaw fr k).map g
 |[],k=>rfl
 |(j,f)::t,k=>by
  simp only[cZ]
  rw[abb,abb,akP (fr:=t)]
  split<;>rfl
theorem amE{row:Bool}{nm:Nat}{l:List DV}: ∀{own:OwX} {k:Nat},aaz (own.map fun e=>(e.1,bif Nat.beq e.1 nm then none else ant row nm l e.2)) k=if k=nm then none else ant row nm l (aaz own k)
 |[],k=>by simp[aaz,ant]
 |(j,B)::t,k=>by
  simp only[cZ]
  rw[aaH,aaH,amE (own:=t)]
  by_cases h:k=j
  ·subst h
   simp only[if_true]
   by_cases e:k=nm
   ·subst e;simp
   ·have:Nat.beq k nm=false:=by
     cases hb:Nat.beq k nm with
     |false=>rfl
     |true=>exact absurd (aT hb) e
    simp[this,e]
  ·simp[h]
structure FzR where
 fr:FrX
 own:OwX
def fzA(fr:FrX)(own:OwX)(nm:Nat):Option FzR:=match aaz own nm with
 |some (.b _ _ ds true)=>aAW true nm ds fr fun fr'=>aBz true nm ds own fun own'=>some ⟨fr',own'⟩
 |some (.o _ cs true)=>match ad0 cs with
  |some l=>aAW false nm l fr fun fr'=>aBz false nm l own fun own'=>some ⟨fr',own'⟩
  |none=>none
 |_=>none
theorem alc.of_mem{o:Own}: ∀{own:List Own},o∈own→ ∃own',alc own o own'∧ ∀x∈own,x.b≠o.b→x∈own'
 |[],h=>by cases h
 |x::t,h=>by
  rcases aS.1 h with rfl|h
  ·exact⟨t, .hd ..,fun y hy hb=>(aS.1 hy).elim (fun e=>absurd (by rw[e]) hb) id⟩
  ·obtain⟨own',h1,h2⟩:=alc.of_mem h
   exact⟨x::own', .tl _ _ _ _ h1,fun y hy hb=>(aS.1 hy).elim (fun e=>by rw[e];exact aZ) (fun e=>aK _ (h2 y e hb))⟩
theorem aup{row:Bool}{nm:Nat}{l:List DV}{ρ:NE}{G G':Gh}{f:FX}{y:Value}(hg:GLe G G')(h:IsX ρ G f y)(hr:row=true→ ∀y,IsX ρ G (.rw nm) y→Is G' (.sl l) y)(ho:row=false→ ∀y,IsX ρ G (.ov nm 0) y→Is G' (.pt l) y):IsX ρ G' (aqX row nm l f) y:=by
 cases f with
 |rw m=>
  simp only[aqX]
  cases hb:Nat.beq m nm with
  |false=>exact h.up hg
  |true=>
   cases aT hb
   cases row with
   |true=>exact hr rfl y h
   |false=>trivial
 |ov m off=>
  simp only[aqX]
  cases hb:Nat.beq m nm with
  |false=>exact h.up hg
  |true=>
   cases aT hb
   cases row with
   |true=>trivial
   |false=>cases off with
    |zero=>exact ho rfl y h
    |succ=>trivial
 |be m s i j=>
  simp only[aqX]
  cases hb:Nat.beq m nm with
  |false=>exact h.up hg
  |true=>trivial
 |rs m s i j=>
  simp only[aqX]
  cases hb:Nat.beq m nm with
  |false=>exact h.up hg
  |true=>trivial
 |bx tp pre m post=>
  simp only[aqX]
  cases hb:Nat.beq m nm with
  |false=>exact h.up hg
  |true=>
   cases aT hb
   cases row with
   |false=>trivial
   |true=>
    obtain⟨m1,m2,e,h1,h2⟩:=h
    have hl:=(h1.up hg).app (.cons (hr rfl _ rfl) (h2.up hg))
    cases tp with
    |true=>exact ad1.2 ⟨_,e,hl⟩
    |false=>exact acn.2 ⟨_,e,hl⟩
 |_=>exact h.up hg
theorem aq8{row:Bool}{nm:Nat}{l:List DV}{ρ:NE}{G G':Gh}(hg:GLe G G')(hr:row=true→ ∀y,IsX ρ G (.rw nm) y→Is G' (.sl l) y)(ho:row=false→ ∀y,IsX ρ G (.ov nm 0) y→Is G' (.pt l) y): ∀{cs:List FX} {m:List Value},adu ρ G cs m→adu ρ G' (cs.map (aqX row nm l)) m
 |[],m,h=>h
 |f::t,m,⟨y,q,e,h1,h2⟩=>⟨y,q,e,aup hg h1 hr ho,aq8 hg hr ho h2⟩
theorem RlX.frz{ρ:NE}{G G':Gh}{ov ov':List Own}{a:Act}{w:World}{row:Bool}{nm:Nat}{l:List DV}(h:RlX GB C n (aaw fr) (aaz own) ρ G ov a w)(hg:GLe G G')(hh:ab5 C ov' G' w)(hv: ∀o∈ov,(ρ nm).a≠some ⟨o.b,0,none⟩→o∈ov'){B0:Bk}(hb:aaz own nm=some B0)
  (hr:row=true→ ∀y,IsX ρ G (.rw nm) y→Is G' (.sl l) y)(ho:row=false→ ∀y,IsX ρ G (.ov nm 0) y→Is G' (.pt l) y):
  RlX GB C n (aaw (fr.map fun e=>(e.1,aqX row nm l e.2))) (aaz (own.map fun e=>(e.1,bif Nat.beq e.1 nm then none else ant row nm l e.2))) ρ G' ov' a w:=by
 have inv: ∀m B,aaz (own.map fun e=>(e.1,bif Nat.beq e.1 nm then none else ant row nm l e.2)) m=some B→m≠nm∧ ∃B1,aaz own m=some B1∧ant row nm l (some B1)=some B:=fun m B e=>by
  rw[amE] at e
  split at e
  ·cases e
  ·rename_i hm
   refine⟨hm,?_⟩
   cases hl:aaz own m with
   |none=>rw[hl] at e;cases e
   |some B1=>rw[hl] at e;exact⟨B1,rfl,e⟩
 refine⟨h.gb.trans hg,hh,h.sz,h.df,fun k f e=>?_,fun m B e=>?_,fun m m' B B' e e'=>?_⟩
 ·rw[akP] at e
  cases hf:aaw fr k with
  |none=>rw[hf] at e;cases e
  |some g=>
   rw[hf] at e;cases e
   obtain⟨y,h1,h2⟩:=h.fx k g hf
   exact⟨y,h1,aup hg h2 hr ho⟩
 ·obtain⟨hm,B1,h1,h2⟩:=inv m B e
  obtain⟨os,h3,h4⟩:=h.bx m B1 h1
  refine⟨os,?_,fun o ho'=>hv o (h4 o ho') fun hc=>h.dj m nm B1 B0 h1 hb hm _ (h3.blk ho') hc⟩
  cases B1 with
  |b=>cases h2;exact h3.up hg
  |c=>cases h2;exact h3.up hg
  |o ty cs lo=>cases h2;obtain⟨b,q,h5,h6,h7⟩:=h3;exact⟨b,q,h5,h6,aq8 hg hr ho h7⟩
 ·obtain⟨_,B1,h1,_⟩:=inv m B e
  obtain⟨_,B2,h2,_⟩:=inv m' B' e'
  exact h.dj m m' B1 B2 h1 h2
theorem RlX.frzRow{lk:LK}{bk:BM}{ρ:NE}{G:Gh}{ov:List Own}{a:Act}{w:World}{nm:Nat}{ty:TypeId}{s:Nat}{ds:List DV}(r:RlX GB C n lk bk ρ G ov a w)(hb:bk nm=some (.b ty s ds true)):
  ∃G' ov',GLe G G'∧ab5 C ov' G' w∧(∀o∈ov,(ρ nm).a≠some ⟨o.b,0,none⟩→o∈ov')∧ ∀y,IsX ρ G (.rw nm) y→Is G' (.sl ds) y:=by
 obtain⟨B,⟨vs,hB,hv,hs,hlo⟩,hBo⟩:=r.row (y:= .nilFunc) hb
 rcases hB with⟨e1,e2,e3⟩|⟨b,rest,lo',e2,e3,h5,h6,h7⟩
 ·subst e1
  have ed:ds=[]:=bY (by rw[←hv.len];rfl)
  subst ed
  simp only at e2
  refine⟨G,ov,GLe.refl _,r.h,fun o ho _=>ho,fun y hy=>?_⟩
  rw[show y=_ from hy,e2]
  exact adH.2 ⟨0,⟨none,0,0⟩,[],rfl, .nil G 0, .nil⟩
 ·subst e3
  have hl:=hlo rfl _ aZ
  simp only at hl;subst hl
  obtain⟨ov',o1,o2⟩:=alc.of_mem (hBo _ aZ)
  obtain⟨f1,f2⟩:=r.h.freeze o1
  simp only at e2
  refine⟨_,ov',f2,f1,fun o ho hne=>o2 o ho fun e=>hne (by rw[e2,e]),fun y hy=>?_⟩
  rw[show y=_ from hy,e2]
  exact adH.2 ⟨s,⟨some ⟨b,0,none⟩,vs.length,_⟩,vs,rfl,afb.of_flat hs (if_pos rfl) h7,hv.up f2⟩
theorem RlX.frzVar{lk:LK}{bk:BM}{ρ:NE}{G:Gh}{ov:List Own}{a:Act}{w:World}{nm:Nat}{ty:TypeId}{cs:List FX}{l:List DV}(r:RlX GB C n lk bk ρ G ov a w)(hb:bk nm=some (.o ty cs true))(hl:ad0 cs=some l):
  ∃G' ov',GLe G G'∧ab5 C ov' G' w∧(∀o∈ov,(ρ nm).a≠some ⟨o.b,0,none⟩→o∈ov')∧ ∀y,IsX ρ G (.ov nm 0) y→Is G' (.pt l) y:=by
 obtain⟨os,⟨b,m,h3,rfl,h4⟩,h5⟩:=r.bx _ _ hb
 obtain⟨ov',o1,o2⟩:=alc.of_mem (h5 _ aZ)
 obtain⟨f1,f2⟩:=r.h.freeze o1
 refine⟨_,ov',f2,f1,fun o ho hne=>o2 o ho fun e=>hne (by rw[h3,e]),fun y hy=>?_⟩
 obtain⟨b',h6,rfl⟩:=hy
 rw[h3] at h6;cases h6
 exact akV.2 ⟨b,m,rfl,if_pos rfl,(acR h4 hl).up f2⟩
theorem atP{nm:Nat}{Φ:Act→World→Prop}{R:FzR}(h:fzA fr own nm=some R)(hk:SX GB C n (aaw R.fr) (aaz R.own) Φ):SX GB C n (aaw fr) (aaz own) Φ:=by
 refine⟨fun ρ G ov a w r=>?_⟩
 unfold fzA at h
 split at h<;>try (cases h;done)
 ·rename_i ty s ds hb
  rw[aod,aox] at h;cases h
  obtain⟨G',ov',h1,h2,h3,h4⟩:=r.frzRow hb
  exact hk.run ρ G' ov' a w (r.frz (row:=true) h1 h2 h3 hb (fun _=>h4) (fun e=>by cases e))
 ·rename_i ty cs hb
  split at h<;>try (cases h;done)
  rename_i l hl
  rw[aod,aox] at h;cases h
  obtain⟨G',ov',h1,h2,h3,h4⟩:=r.frzVar hb hl
  exact hk.run ρ G' ov' a w (r.frz (row:=false) h1 h2 h3 hb (fun e=>by cases e) (fun _=>h4))
theorem fz[fu:Fu](nm:Nat){fr1:FrX}{own1:OwX}(h:fzA fr own nm=some ⟨fr1,own1⟩)(hgo:go tt n fu.n [] fr1 own1 (.ops ops r K)=⟨vc,fr',own',cf'⟩)(k:CfS prog GB C n Q0 fr' own' cf')(hv:aah vc:=by first|exact trivial|(simp only[aah];kernel_rfl)|(simp only[aah];omega)|(simp only[aah,aJ,bX,aU];omega)):CfS prog GB C n Q0 fr own (.ops ops r K):=
 atP h (gx' hgo hv k)
theorem fzE(nm:Nat){fr1:FrX}{own1:OwX}{e:Exit}(h:fzA fr own nm=some ⟨fr1,own1⟩)(k:CfS prog GB C n Q0 fr1 own1 (.ex e K)):CfS prog GB C n Q0 fr own (.ex e K):=atP h k
theorem fzC(nm:Nat){fr1:FrX}{own1:OwX}{c:Code}(h:fzA fr own nm=some ⟨fr1,own1⟩)(k:CfS prog GB C n Q0 fr1 own1 (.code c K)):CfS prog GB C n Q0 fr own (.code c K):=atP h k
/-! ### loops, ways that meet -/
def leF:FrX→FrX→Prop
 |[],_=>True
 |(k,v)::t,fr=>aaw fr k=some v∧leF t fr
def leO:OwX→OwX→Prop
 |[],_=>True
 |(k,v)::t,own=>aaz own k=v∧leO t own
theorem asN: ∀{f:FrX},leF f fr→akG (aaw f) (aaw fr)
 |[],_,k,x,h=>by cases h
 |(j,v)::t,h,k,x,e=>by
  rw[abb] at e
  split at e
  ·cases e;rename_i hk;rw[hk];exact h.1
  ·exact asN h.2 k x e
theorem arL: ∀{f:OwX},leO f own→akG (aaz f) (aaz own)
 |[],_,k,x,h=>by cases h
 |(j,v)::t,h,k,x,e=>by
  rw[aaH] at e
  split at e
  ·rename_i hk;rw[hk,h.1,e]
  ·exact arL h.2 k x e
theorem leI{k:Nat}{q:IntKind}{a b:Int}(h:aaw fr k=some (.d (.v (.int q a))))(e:a=b):aaw fr k=some (.d (.v (.int q b))):=e▸h
def AtX(GB:Gh)(C:Ctx)(n:Nat){X:Type}(F:X→FrX)(O:X→OwX)(I:X→Prop)(a:Act)(w:World):Prop:=
 ∃x ρ G ov,I x∧RlX GB C n (aaw (F x)) (aaz (O x)) ρ G ov a w
def ayf:List Oper→List Nat→List Nat
 |[],l=>l
 |o::r,l=>match o.dst with
  |some d=>d::ayf r l
  |none=>ayf r l
def axf:Code→List Nat→List Nat
 | .region _ ops _,l=>ayf ops.toList l
 | .seq a b,l=>axf a (axf b l)
 | .cond _ a b,l=>axf a (axf b l)
 | .block _ a,l=>axf a l
 | .loop a,l=>axf a l
 | .scope a,l=>axf a l
 |_,l=>l
def azb{α:Type}:List Nat→FrX→(FrX→α)→α
 |_,[],k=>k []
 |l,(j,f)::t,k=>bif axm l j then azb l t k else azb (j::l) t fun t'=>k ((j,f)::t')
def auI{α:Type}:List Nat→OwX→(OwX→α)→α
 |_,[],k=>k []
 |l,(j,B)::t,k=>bif axm l j then auI l t k else match B with
  |some B=>auI l t fun t'=>k ((j,some B)::t')
  |none=>auI l t k
structure Kp where
 fr:FrX
 own:OwX
def keep(c:Code)(uf uo:List Nat)(fr:FrX)(own:OwX):Kp:=fcL (axf c uo) fun m=>fcL (uf++m) fun m'=>azb m' fr fun fr'=>auI m own fun own'=>⟨fr',own'⟩
theorem lp[fu:Fu]{c:Code}{X:Type}(U:X→FrX)(V:X→OwX)(I:X→Prop)(μ:X→Nat)(x0:X){kf:FrX}{ko:OwX}{cf':X→Cf}{fr':X→FrX}{own':X→OwX}{vc:X→List Prop}(hkp:keep c ((U x0).map (·.1)) ((V x0).map (·.1)) fr own=⟨kf,ko⟩)(hI:I x0)
  (hgo: ∀x,go tt n fu.n [] (U x++kf) (V x++ko) (.code c (.ag (AtX GB C n (fun y=>U y++kf) (fun y=>V y++ko) (fun y=>I y∧μ y<μ x))::K))=⟨vc x,fr' x,own' x,cf' x⟩)
  (round: ∀x,I x→CfS prog GB C n Q0 (fr' x) (own' x) (cf' x))(hF:leF (U x0++kf) fr:=by repeat (first|exact trivial|refine And.intro rfl ?_|refine And.intro (leI rfl (by first|omega|(dsimp only;omega))) ?_|refine And.intro (leI rfl (by simp)) ?_))(hO:leO (V x0++ko) own:=by repeat (first|exact trivial|refine And.intro rfl ?_))
  (hv: ∀x,I x→aah (vc x):=by intros;first|exact trivial|(simp only[aah];kernel_rfl)|(simp only[aah];omega)|(simp only[aah,aJ,bX,aU];omega)):CfS prog GB C n Q0 fr own (.code (.loop c) K):=by
 refine⟨fun ρ G ov a w r=>?_⟩
 have r0:=r.mono (asN hF) (arL hO)
 intro b k cs
 have key: ∀m a w,(∃x ρ G ov,I x∧μ x=m∧RlX GB C n (aaw (U x++kf)) (aaz (V x++ko)) ρ G ov a w)→
   ∃e a' w',cQ prog Q0 K e a' w'∧Arrives prog (lone (b.at a (.code c:: .inLoop c::k)) cs w) b k cs e a' w':=by
  intro m
  induction m using Nat.strongRecOn with
  |_ m ih=>
   intro a w ⟨x,ρ,G,ov,hx,hm,hr⟩
   have h1:=gx' (GB:=GB) (C:=C) (Q0:=Q0) (hgo x) (hv x hx) (round x hx)
   obtain⟨e,a₁,w₁,hq,harr⟩:=h1.run ρ G ov a w hr b (.inLoop c::k) cs
   cases e with
   |normal=>
    obtain⟨x',ρ',G',ov',⟨hx',hlt⟩,hr'⟩:=hq
    obtain⟨e₂,a₂,w₂,hq₂,harr₂⟩:=ih (μ x') (hm▸hlt) a₁ w₁ ⟨x',ρ',G',ov',hx',rfl,hr'⟩
    exact⟨e₂,a₂,w₂,hq₂, .of_steps (Steps.trans harr (.one step_inLoop)) harr₂⟩
   |exit id=>exact⟨_,a₁,w₁,hq, .pass (x:= .inLoop c) rfl (fun _ _=> .inl (by simp)) harr⟩
   |goto l=>exact⟨_,a₁,w₁,hq, .pass (x:= .inLoop c) rfl (fun _ _=> .inl (by simp)) harr⟩
   |ret=>exact⟨_,a₁,w₁,hq, .pass (x:= .inLoop c) rfl (fun _ _=> .inl (by simp)) harr⟩
   |panic ch=>exact⟨_,a₁,w₁,hq, .pass (x:= .inLoop c) rfl (fun _ _=> .inl (by simp)) harr⟩
   |outgrown=>exact⟨_,a₁,w₁,hq, .pass (x:= .inLoop c) rfl (fun _ _=> .inl (by simp)) harr⟩
 obtain⟨e,a',w',q,rr⟩:=key (μ x0) a w ⟨x0,ρ,G,ov,hI,rfl,r0⟩
 exact⟨e,a',w',q, .of_steps (.one step_loop) rr⟩
theorem at_{X:Type}{F:X→FrX}{O:X→OwX}{I:X→Prop}(x:X)(hI:I x)(hF:leF (F x) fr:=by repeat (first|exact trivial|refine And.intro rfl ?_|refine And.intro (leI rfl (by first|omega|(dsimp only;omega))) ?_|refine And.intro (leI rfl (by simp)) ?_))(hO:leO (O x) own:=by repeat (first|exact trivial|refine And.intro rfl ?_)):CfS prog GB C n Q0 fr own (.ex .normal (.ag (AtX GB C n F O I)::K)):=
 ⟨fun ρ G ov a w r=>⟨x,ρ,G,ov,hI,r.mono (asN hF) (arL hO)⟩⟩
theorem mg[fu:Fu]{c d:Code}{X:Type}(U:X→FrX)(V:X→OwX)(I:X→Prop){kf:FrX}{ko:OwX}{cf':X→Cf}{fr':X→FrX}{own':X→OwX}{vc:X→List Prop}(u0 v0:List Nat)(hkp:keep c u0 v0 fr own=⟨kf,ko⟩)
  (h1:CfS prog GB C n Q0 fr own (.code c (.ag (AtX GB C n (fun y=>U y++kf) (fun y=>V y++ko) I)::K)))
  (hgo: ∀x,go tt n fu.n [] (U x++kf) (V x++ko) (.code d K)=⟨vc x,fr' x,own' x,cf' x⟩)(k: ∀x,I x→CfS prog GB C n Q0 (fr' x) (own' x) (cf' x))(hv: ∀x,I x→aah (vc x):=by intros;first|exact trivial|(simp only[aah];kernel_rfl)|(simp only[aah];omega)|(simp only[aah,aJ,bX,aU];omega)):CfS prog GB C n Q0 fr own (.code c (.sq d::K)):=by
 refine SX.imp h1 fun a w h=>wp_mono h ?_
 intro e a w h
 cases e with
 |normal=>
  obtain⟨x,ρ,G,ov,hI,hr⟩:=h
  have:=gx' (GB:=GB) (C:=C) (Q0:=Q0) (hgo x) (hv x hI) (k x hI)
  exact this.run ρ G ov a w hr
 |_=>exact h
end
end Go.Sx
end
section
namespace Go.Sx
open Go
section
variable {P:Program} {ops:Array Oper} {Q:Exit→Act→World→Prop} {S:World→Prop} {π₂:List (Nat×Bool)}
abbrev aGx:Nat→Bool:=fun _=>false
def grS(S:World→Prop)(K:(World→Prop)→Act→World→Prop)(a:Act)(w:World):Prop:= ∃S':World→Prop,(∀w,S' w→S w)∧S' w∧K S' a w
def dwT(P:Program)(ops:Array Oper)(Q:Exit→Act→World→Prop)(K:(World→Prop)→Act→World→Prop):List Nat→List (Nat×Bool)→(World→Prop)→Act→World→Prop
 |[],[],S,a,w=>K S a w
 |k::ks,[],S,a,w=> ∀j,(h:j∈k::ks)→wpOp P ops Q j (grS S (dwT P ops Q K (without (k::ks) j) [])) a w
 |ks,(i,true)::r,S,a,w=> ∃o v,ops[i]? =some o∧S w∧YieldsIf P ops S o v a∧dwT P ops Q K ks r S (a.put o.dst v) w
 |ks,(i,false)::r,S,a,w=>wpOp P ops Q i (grS S (dwT P ops Q K ks r)) a w∧
   ∀j,(h:j∈ks)→wpOp P ops Q j (grS S (dwT P ops Q K (without ks j) ((i,false)::r))) a w
termination_by ks π=>ks.length+π.length
decreasing_by
 all_goals (first|(have:=ag5 h;simp only[bU,fY] at*;omega)|(simp only[bU];omega))
def aGI(Q:Exit→Act→World→Prop):(World→Prop)→Act→World→Prop:=fun _ a w=>Q .normal a w
end
section
variable {P:Program} {GB:Gh} {C:Ctx} {n:Nat} {fr fr':FrF} {own own' own0 own1 own1':List adg} {bs bs0 bs1 bs1':List adX} {ops:Array Oper} {Q:Exit→Act→World→Prop} {fd:List FD} {π π₂:List (Nat×Bool)}
structure SR (GB:Gh) (C:Ctx) (n:Nat) (fr:FrF) (own0:List adg) (bs0:List adX) (own1:List adg) (bs1:List adX) (fd:List FD) (K:List Nat→(World→Prop)→Act→World→Prop):Prop where
 run: ∀G frv o0 o1,GLe GB G→aDq G fr frv→OB G own0 bs0 o0→OB G own1 bs1 o1→ ∀fs:Fs,St C n (frv++fFs fd fs) (o1++(o0++fOs fd fs)) G (K (aD3 fd fs) (HS C o0 G))
instance {GB:Gh} {C:Ctx} {n:Nat} {fr:FrF} {own0:List adg} {bs0:List adX} {own1:List adg} {bs1:List adX} {fd:List FD} {K:List Nat→(World→Prop)→Act→World→Prop}:CoeFun (SR GB C n fr own0 bs0 own1 bs1 fd K) (fun _=> ∀G frv o0 o1,GLe GB G→aDq G fr frv→OB G own0 bs0 o0→OB G own1 bs1 o1→ ∀fs:Fs,St C n (frv++fFs fd fs) (o1++(o0++fOs fd fs)) G (K (aD3 fd fs) (HS C o0 G))):=⟨SR.run⟩
abbrev dwK (P:Program) (ops:Array Oper) (Q:Exit→Act→World→Prop) (K:(World→Prop)→Act→World→Prop) (π:List (Nat×Bool)):List Nat→(World→Prop)→Act→World→Prop:=fun ks S=>dwT P ops (acp Q) K ks π S
def frB:List FD→List Nat→FrF
 |f::fd,b::bl=>(f.d, .d (.v (.pointer (some ⟨b,0,none⟩))))::frB fd bl
 |_,_=>[]
def owB:List FD→List (List DV)→List Nat→List adg
 |f::fd,c::cl,b::bl=>⟨b,c,f.t,true⟩::owB fd cl bl
 |_,_,_=>[]
def aFR:List FD→List (List DV)→Prop
 |f::fd,c::cl=>IsLs (fun _=>none) c (aaf f.z)∧aFR fd cl
 |[],[]=>True
 |_,_=>False
end
/-! ### a choice of the blocks -/
def aGl{α:Type}(idx:List Nat)(l:List α):List α:=idx.filterMap (l[·]?)
section
variable {P:Program} {GB:Gh} {C:Ctx} {n:Nat} {E:Ext} {fr fr':FrF} {own own':List adg} {bs bs' bs1:List adX} {ops:Array Oper} {Q:Exit→Act→World→Prop} {r:List Oper} {Φ:Act→World→Prop}
variable {dst:Option Nat} {t t' ty':TypeId} {pos:String} {af:Array Edge} {gd:Option (Nat×Bool)} {x y z:Operand} {e s by_:Nat}
def PB(GB:Gh)(P:Program)(f:FuncId)(mk:SV→List DV)(s:Nat)(ty:TypeId)(dsi:List DV)(mkr:SV→DV)(dso:List DV):Prop:=
 ∀G w vs B,GLe GB G→abx G ⟨w,s,ty,dsi,false⟩ B→IsLs G (mk w) vs→FnO P f vs B G (fun v own' G'=> ∃w',Is G' (mkr w') v∧abx G' ⟨w',s,ty,dso,false⟩ own')
def aFV(fr:FrF):List Operand→Option (List DV)
 |[]=>some []
 |x::t=>match opF fr x,aFV fr t with
  |some (.d d),some l=>some (d::l)
  |_,_=>none
theorem abx.asB{G:Gh}{w:SV}{ty:TypeId}{ds:List DV}{lo:Bool}{B:List Own}(h:abx G ⟨w,s,ty,ds,lo⟩ B):abx G ⟨w,s,ty,ds,false⟩ (Sx.asB B):=by
 obtain⟨vs,h1,h2,h3,h4⟩:=h
 exact⟨vs,h1.asB,h2,h3,fun h=>by cases h⟩
theorem abx.weak{G:Gh}{w:SV}{ty:TypeId}{ds:List DV}{lo:Bool}{B:List Own}(h:abx G ⟨w,s,ty,ds,lo⟩ B):abx G ⟨w,s,ty,ds,false⟩ B:=by
 obtain⟨vs,h1,h2,h3,h4⟩:=h
 exact⟨vs,h1,h2,h3,fun h=>by cases h⟩
inductive RVX (fr:FrF):List ResultVar→List DV→Prop
 |nil:RVX fr [] []
 |tmp {t:Nat} {v:DV} {rs:List ResultVar} {vs:List DV} (h:aon fr t=some (.d v)) (k:RVX fr rs vs):RVX fr (.tmp t::rs) (v::vs)
end
section
variable {P:Program} {GB:Gh} {C:Ctx} {n:Nat} {E:Ext} {fr fr':FrF} {own own':List adg} {bs bs' bs1:List adX} {ops:Array Oper} {Q:Exit→Act→World→Prop} {r:List Oper} {Φ:Act→World→Prop}
variable {dst:Option Nat} {t t' ty':TypeId} {pos:String} {af:Array Edge} {gd:Option (Nat×Bool)} {x y z:Operand} {e s by_:Nat}
/-! ### families of results -/
def PX(GB:Gh)(P:Program)(f:FuncId)(ds:List DV)(ι:Type)(r:ι→DV):Prop:=
 ∀G vs,GLe GB G→IsLs G ds vs→Fn P f vs G (fun v G'=> ∃x,Is G' (r x) v)
def PMX(GB:Gh)(P:Program)(f:FuncId)(ds:List DV)(b:Nat)(ty:TypeId)(cs:List DV)(ι:Type)(r:ι→DV)(cs':ι→List DV):Prop:=
 ∀G vs m lo,GLe GB G→IsLs G ds vs→IsLs G cs m→FnM P f vs [⟨b,m,ty,lo⟩] G (fun v css G'=> ∃x,Is G' (r x) v∧ ∃m',css=[m']∧IsLs G' (cs' x) m')
def PN(GB:Gh)(P:Program)(f:FuncId)(ds:List DV)(ty:TypeId)(ι:Type)(cs:ι→List DV):Prop:=
 ∀G vs,GLe GB G→IsLs G ds vs→FnO P f vs [] G (fun v own' G'=> ∃x b m,v= .pointer (some ⟨b,0,none⟩)∧own'=[⟨b,m,ty,true⟩]∧IsLs G' (cs x) m)
inductive OSp:List adg→Nat→List DV→TypeId→Bool→List adg→List adg→Prop
 |hd (b:Nat) (cs:List DV) (ty:TypeId) (lo:Bool) (t:List adg):OSp (⟨b,cs,ty,lo⟩::t) b cs ty lo [] t
 |tl (o:adg) (t:List adg) (b:Nat) (cs:List DV) (ty:TypeId) (lo:Bool) (L R:List adg) (h:OSp t b cs ty lo L R):OSp (o::t) b cs ty lo (o::L) R
end
section
variable {P:Program} {GB:Gh} {C:Ctx} {n:Nat} {fr:FrF} {own:List adg} {bs:List adX}
/-! ### a borrowed variable, and a row handed back -/
def PMR(GB:Gh)(P:Program)(f:FuncId)(ds:List DV)(b:Nat)(ty:TypeId)(cs:List DV)(s:Nat)(ty2:TypeId)(ι:Type)(rows:ι→List DV)(cs':ι→List DV):Prop:=
 ∀G vs m lo,GLe GB G→IsLs G ds vs→IsLs G cs m→FnO P f vs [⟨b,m,ty,lo⟩] G (fun v own' G'=> ∃x w m' B,v= .slice w.a w.n w.c∧own'=⟨b,m',ty,false⟩::B∧IsLs G' (cs' x) m'∧abx G' ⟨w,s,ty2,rows x,true⟩ B∧ ∀o∈B,b≠o.b)
variable {dst:Option Nat} {t t' ty':TypeId} {pos:String} {af:Array Edge} {gd:Option (Nat×Bool)} {x y z:Operand}
theorem atX{fr:Fr}{own:List Own}{G:Gh}{fn:Func}{K:Value→List Own→Gh→Prop}{vs:List Value}(hr:RVs P fr own fn.results.toList vs)(own2 own3:List Own)(hp:own.Perm own2)(hs:own3.Sublist own2)(hk:own3.Pairwise (fun x y=>x.b≠y.b)→K (abP vs) own3 G):St C n fr own G (bodyPost P fn (af3 C K) .ret):=
 fun a w rl=>⟨rl.df,_,adD hr rl.fr rl.h,_,own3,G,rfl,(rl.h.perm hp).drop hs,hk ((rl.h.perm hp).drop hs).nd⟩
variable {e s by_:Nat}
theorem asK{G:Gh}{l:List DV}{w:SV}{es:List Value}{s' nhi mx':Nat}(hsl:afb G s' w es)(hl:IsLs G l es)(ho:acI s l)(h2:nhi≤l.length)(hm1:nhi≤mx')(hm2:mx'≤w.c):Is G (.sl (l.take nhi)) (.slice w.a nhi mx'):=by
 have hn:=hsl.len
 have hcap:=hsl.cap
 have hll:=hl.len
 have e9: ∀s,aoL w.a w.n w.c 0 nhi mx' s= .slice w.a nhi mx':=by
  intro s
  unfold aoL
  cases w.a with
  |none=>simp
  |some ad=>simp[Addr.add]
 rcases afh hsl hl ho with he|he
 ·subst he
  have:l=[]:=bY (by rw[←hll];rfl)
  subst this
  have e1:nhi=0:=by simp at h2;exact h2
  subst e1
  refine adH.2 ⟨s,⟨_,0,mx'⟩,[],rfl,⟨rfl,aR _, .inl rfl⟩,by simpa using IsLs.nil⟩
 ·subst he
  have k:=hsl.sub 0 nhi mx' (aR _) (by omega) hm1 hm2
  have k2:=adH.2 ⟨s',⟨_,_,_⟩,_,rfl,k,(hl.take nhi).drop 0⟩
  rw[hJ] at k2
  have e:=e9 s'
  unfold aoL at e
  revert k2
  simp only[] at*
  intro k2
  first|exact e▸k2|(simp at e k2⊢;first|exact k2|(cases hw:w.a<;>simp_all [Addr.add]))
end
end Go.Sx
end
section
namespace Go.Sx
open Go Go.Proofs Tryz
section
variable {P:Program} {T:TT} {GB:Gh} {C:Ctx} {n:Nat} {lk:LK} {bk:BM} {ρ:NE} {G:Gh} {ov:List Own} {a:Act} {w:World}
variable {dst:Option Nat} {t t' ty':TypeId} {pos:String} {af:Array Edge} {gd:Option (Nat×Bool)} {x y:Operand} {e s by_:Nat}
/-! ### what the operations do -/
theorem aB9[hT:acN P t e s by_]{k:IntKind}{l:List DV}{d:DV}{i:Int}(hx:evD lk x=some (.sl l))(hy:evX lk y=some (.d (.v (.int k i))))(h0:0≤i)(he:l[i.toNat]? =some d)(hd:(d.okc&&Nat.beq d.cells.length s)=true):
  OpR P GB C n lk bk ⟨dst, .indexAddr t x y,ty',pos,af,gd⟩ (.ep d.cells) [] []:= .yd fun ρ G ov a w r=>by
 simp only[bL] at hd
 obtain⟨hd,hs⟩:=hd
 obtain⟨u,h1,h2⟩:=r.evD hx
 obtain⟨q,g1,g2⟩:=r.ev hy
 rw[aay] at g2;subst g2
 obtain⟨s',z,es,rfl,hsl,hl⟩:=adH.1 h2
 obtain⟨v,h3,h4⟩:=hl.get he
 obtain⟨h5,h6⟩:=bJ.1 h3
 have hc:=(h4.cells hd).1.len
 replace hs:=aT hs
 rcases hsl.mem with h|⟨b,off,cs,ha,hg,hcs⟩
 ·rw[h] at h5;simp at h5
 ·have h7:=hcs i.toNat h5
  rw[h6] at h7
  have h8:=ago h7
  have:s'=s:=by omega
  subst this
  rw[ha] at h1
  have hn:=hsl.len
  refine⟨.pointer (some ⟨b,off+i.toNat*s',none⟩),⟨b,_,cs,aaf v,rfl,hg,?_,(h4.cells hd).1⟩,ahZ h1 g1 h0 (by omega)⟩
  rw[←hc,h8]
  exact h7
def ldE(ag:Option Nat)(cs:List DV)(j:Nat):Option DV:=match ag with
 |some k=>match takeD cs j k with
  |some l=>some (.ag l)
  |none=>none
 |none=>cs[j]?
theorem aC9{i:TI}{ag:Option Nat}{nm sz k j:Nat}{ty:TypeId}{ds:List DV}{lo:Bool}{d c:DV}(hi:aft P t=some i)(ha:i.ag=some ag)(hx:evX lk x=some (.be nm sz k j))(hb:bk nm=some (.b ty sz ds lo))(he:ds[k]? =some d)(hd:d.okc=true)(hl:ldE ag d.cells j=some c):
  OpR P GB C n lk bk ⟨dst, .load t x,ty',pos,af,gd⟩ (.d c) [] []:= .x1 hx fun ρ G ov a w y _ r h1 h2=>by
 obtain⟨b,hwb,rfl⟩:=h2
 obtain⟨B,hB,hmem⟩:=r.row (y:= .nilFunc) hb
 obtain⟨b',m,rest,lo',l0,e1,rfl,h3,h4⟩:=hB.elem he hd
 simp only[] at e1 h3
 rw[hwb] at e1;cases e1
 have oat:OAt ov b (m++rest) ty lo':=⟨hmem _ aZ⟩
 cases ag with
 |some k'=>
  have:=akb hi ha
  simp only[ldE] at hl
  split at hl<;>cases hl
  rename_i hl
  obtain⟨l',h5,h6⟩:=h4.takeD hl
  exact⟨.agg ⟨l'⟩,acn.2 ⟨l',rfl,h6⟩,aeC h1 (amy h3 h5)⟩
 |none=>
  have:=aiQ hi ha
  simp only[ldE] at hl
  obtain⟨l',h5,h6⟩:=h4.get hl
  have hj:j<sz:=by
   have:=ago h3
   have h7:=(bJ.1 h5).1
   omega
  exact⟨l',h6,aaD h1 (by rw[ahK h3 hj];exact h5)⟩
theorem abx.toBk{nm:Nat}{s:Nat}{ty:TypeId}{ds:List DV}{lo:Bool}{B:List Own}{x:SV}(h:abx G ⟨x,s,ty,ds,lo⟩ B)(e:ρ nm=x):amP ρ G nm (.b ty s ds lo) B:=by
 obtain⟨vs,h1,h2,h3,h4⟩:=h
 exact⟨vs,by rw[e];exact h1,h2,h3,h4⟩
theorem RlX.newRow(r:RlX GB C n lk bk ρ G ov a w){d:Nat}{z:SV}{ty:TypeId}{s:Nat}{ds:List DV}{B ov':List Own}{K:Act→World→Prop}{a':Act}{w':World}(hf:acH [d] (some d) lk bk)(hB:abx G ⟨z,s,ty,ds,true⟩ B)(hos: ∀o∈B,o∈ov')
  (hov: ∀m B',m≠d→bk m=some B'→ ∀o∈ov,(ρ m).a=some ⟨o.b,0,none⟩→o∈ov'∧z.a≠some ⟨o.b,0,none⟩)
  (hk:SX GB C n (upL lk (some d) (.rw d)) (Sx.upB bk [(d,some (.b ty s ds true))]) K)(rl:Rel C n (Sx.put (frA a) (some d) (.slice z.a z.n z.c)) ov' G a' w'):K a' w':=
 hk.run _ _ _ a' w' (r.new' (x:=z) (f:= .rw d) (y:= .slice z.a z.n z.c) hf (GLe.refl _) rl.h (hB.toBk (by simp)) hos hov (by show _=_;simp) (abk rl))
def zeE(i:TI):Option DV:=match i.z with
 |some z=>match ad0 z with
  |some zs=>bif i.za then(bif zs.all DV.flat then some (.ag zs) else none) else(match zs with
   |[d]=>bif d.flat then some d else none
   |_=>none)
  |none=>none
 |none=>none
theorem anR{d:DV}(h:d.flat=true):d.cells=[d]∧d.okc=true:=by
 cases d<;>first|exact⟨rfl,h⟩|cases h
theorem akA{i:TI}{d:DV}(hi:aft P e=some i)(h:zeE i=some d): ∃v,TyZ P e v∧(∀G,Is G d v)∧d.okc=true:=by
 obtain⟨j,hj,hij⟩:=adz hi
 unfold zeE at h
 split at h<;>try (cases h;done)
 rename_i z hz
 split at h<;>try (cases h;done)
 rename_i zs hzs
 obtain⟨v,h1,h2⟩:=akI hi hz
 have h3: ∀G,IsLs G zs (aaf v):=fun G=>acR (h2 (fun _=>⟨none,0,0⟩) G) hzs
 have hzv:j.zero=some v:=by have:=h1.inf;rw[hj] at this;simpa using this
 have hza:i.za=aDZ (some v):=by rw[hij,←hzv]
 cases hb:i.za with
 |true=>
  rw[hb] at h hza
  cases hc:zs.all DV.flat with
  |false=>rw[hc] at h;cases h
  |true=>
   rw[hc] at h;cases h
   cases v<;>first|(cases hza;done)|skip
   rename_i cs
   exact⟨_,h1,fun G=>acn.2 ⟨cs.toList,by simp,h3 G⟩,hc⟩
 |false=>
  rw[hb,cond_false] at h
  rw[hb] at hza
  split at h<;>try (cases h;done)
  rename_i u
  cases hc:u.flat with
  |false=>rw[hc] at h;cases h
  |true=>
   rw[hc] at h;cases h
   have hv:aaf v=[v]:=by cases v<;>first|rfl|(cases hza;done)
   refine⟨v,h1,fun G=>?_,(anR hc).2⟩
   have:=h3 G
   rw[hv] at this
   exact this.uncons.1
theorem aAg{d:Nat}{i:TI}{z:DV}{k k':IntKind}{l:Int}{ds:List DV}[hT:acN P t e s by_](hi:aft P e=some i)(hz:zeE i=some z)(hs:Nat.beq z.cells.length s=true)(hx:evX lk x=some (.d (.v (.int k l))))(hy:evX lk y=some (.d (.v (.int k' l))))(h0:0≤l)(hb:by_*l≤140737488355328)(hl:l≤1152921504606846976)(hds:List.replicate l.toNat z=ds):
  OpR P GB C n lk bk ⟨some d, .makeSlice t x y,ty',pos,af,gd⟩ (.rw d) [(d,some (.b e s ds true))] [d]:=by
 intro hd tl tb K s1 s2 hf hk
 refine⟨fun ρ G ov a w r Q=>?_⟩
 subst hds
 obtain⟨v,hz1,hz2,hz3⟩:=akA hi hz
 obtain⟨q1,p1,p2⟩:=(r.mono s1 s2).ev hx
 obtain⟨q2,p3,p4⟩:=(r.mono s1 s2).ev hy
 rw[aay] at p2 p4;subst p2 p4
 have c1:=((hz2 G).cells hz3).1.len
 replace hs:=aT hs
 have e1: ∀u∈List.replicate l.toNat v,(aaf u).length=s:=fun u hu=>by rw[List.eq_of_mem_replicate hu,c1,hs]
 refine aes p1 p3 h0 hb hl (by rw[c1,hs]) hd (fun b a' w' rl=>?_) a w Q ⟨r.h,r.sz,aaP a,r.df⟩
 have hnd:=(bN.1 rl.h.nd).1
 refine r.newRow (z:=⟨some ⟨b,0,none⟩,l.toNat,l.toNat⟩) (B:=[⟨b,abC v l.toNat,e,true⟩]) hf ⟨List.replicate l.toNat v, .inr ⟨b,[],true,by simp,by rw[ajd,nM],aav _ e1,by rw[aav _ e1];simp,by simp⟩,agb (hz2 G) _,e1,fun _ o ho=>by rw[aY.1 ho]⟩
  (fun o ho=>by rw[aY.1 ho];exact aZ) (fun m B' _ _ o ho _=>⟨aK _ ho,fun e'=>?_⟩) hk rl
 cases e';exact hnd o ho rfl
/-! literal rows -/
def aAe(lk:LK):Nat→List (Nat×Operand)→Option (List DV)
 |_,[]=>some []
 |j,(i,x)::r=>match evD lk x,aAe lk (j+1) r with
  |some d,some l=>bif Nat.beq i j then some (d::l) else none
  |_,_=>none
theorem anC(r:RlX GB C n lk bk ρ G ov a w){zv:Value}(hz:(aaf zv).length=s): ∀(ps:List (Nat×Operand)) (j:Nat) (pre:List Value) (ds:List DV),aAe lk j ps=some ds→pre.length=j*s→(∀d∈ds,d.okc=true∧d.cells.length=s)→
  ∃vs,axi (frA a) s (pre++abC zv ps.length) ps=some (pre++aai vs)∧IsLs G ds vs∧(∀v∈vs,(aaf v).length=s)∧vs.length=ps.length
 |[],j,pre,ds,e,hp,hd=>by
  simp only[aAe] at e;cases e
  exact⟨[],by simp[axi,abC,aai], .nil,by simp,rfl⟩
 |(i,x)::ps,j,pre,ds,e,hp,hd=>by
  simp only[aAe] at e
  split at e
  ·rename_i d l hx hl
   cases hb:Nat.beq i j with
   |false=>rw[hb] at e;cases e
   |true=>
    rw[hb] at e
    cases e
    have:=aT hb
    subst this
    obtain⟨y,hy,hy'⟩:=r.evD hx
    obtain⟨k1,k2⟩:=hd d aZ
    have c1:=(hy'.cells k1).1.len
    have hov:ovw (pre++abC zv (ps.length+1)) (i*s) (aaf y)=(pre++aaf y)++abC zv ps.length:=by
     rw[aqM,←hp,atV _ _ _ _ (by rw[c1,k2,hz]),fL]
    obtain⟨vs,h1,h2,h3,h4⟩:=anC r hz ps (i+1) (pre++aaf y) l hl (by rw[aW,c1,k2,hp,iJ]) (fun d hd'=>hd d (aK _ hd'))
    refine⟨y::vs,?_, .cons hy' h2,fun v hv=>?_,by simp[h4]⟩
    ·simp only[axi,hy,bU]
     rw[if_pos ⟨by rw[c1,k2],by rw[aW,abY,hz,hp,iJ];omega⟩,hov,h1]
     simp[aai]
    ·rcases aS.1 hv with rfl|hv
     ·rw[c1,k2]
     ·exact h3 v hv
  ·cases e
theorem aDg{d:Nat}{i:TI}{z:DV}{len:Nat}{parts:Array (Nat×Operand)}{ds:List DV}[hT:acN P t e s by_](hi:aft P e=some i)(hz:zeE i=some z)(hs:Nat.beq z.cells.length s=true)(hb:aAe lk 0 parts.toList=some ds)(hok:auL s ds=true)(hlen:Nat.beq parts.toList.length len=true)(hsm:Nat.ble (len*s) 1000=true)(hs0:Nat.blt 0 (len*s)=true):
  OpR P GB C n lk bk ⟨some d, .buildSlice t len parts,ty',pos,af,gd⟩ (.rw d) [(d,some (.b e s ds true))] [d]:=by
 intro hd tl tb K s1 s2 hf hk
 refine⟨fun ρ G ov a w r Q=>?_⟩
 obtain⟨v,hz1,hz2,hz3⟩:=akA hi hz
 have c1:=((hz2 G).cells hz3).1.len
 replace hs:=aT hs
 have hlen':=aT hlen
 obtain⟨vs,h1,h2,h3,h4⟩:=anC (r.mono s1 s2) (s:=s) (zv:=v) (by rw[c1,hs]) parts.toList 0 [] ds hb (by simp) (ahp hok)
 rw[lQ,lQ] at h1
 refine ak2 (z:=v) (out:=aai vs) (by rw[c1,hs]) (by rw[←hlen'];exact h1) hsm hs0 hd (fun b a' w' rl=>?_) a w Q ⟨r.h,r.sz,aaP a,r.df⟩
 have hnd:=(bN.1 rl.h.nd).1
 have hvl:vs.length=len:=by rw[h4,hlen']
 refine r.newRow (z:=⟨some ⟨b,0,none⟩,len,len⟩) (B:=[⟨b,aai vs,e,true⟩]) hf ⟨vs, .inr ⟨b,[],true,by rw[hvl],by rw[nM],aav _ h3,by rw[aav _ h3,hvl];simp,by rw[hvl];exact aL _⟩,h2,h3,fun _ o ho=>by rw[aY.1 ho]⟩
  (fun o ho=>by rw[aY.1 ho];exact aZ) (fun m B' _ _ o ho _=>⟨aK _ ho,fun e'=>?_⟩) hk rl
 cases e';exact hnd o ho rfl
theorem aAt{d:Nat}[hT:acN P t e s by_]:OpR P GB C n lk bk ⟨some d, .buildSlice t 0 #[],ty',pos,af,gd⟩ (.rw d) [(d,some (.b e s [] true))] [d]:=by
 intro hd tl tb K s1 s2 hf hk
 refine⟨fun ρ G ov a w r Q=>?_⟩
 refine aml hd (fun b a' w' rl=>?_) a w Q ⟨r.h,r.sz,aaP a,r.df⟩
 have hnd:=(bN.1 rl.h.nd).1
 refine r.newRow (z:=⟨some ⟨b,0,none⟩,0,0⟩) (B:=[⟨b,[],e,true⟩]) hf ⟨[], .inr ⟨b,[],true,rfl,by simp[aai],by simp[aai],by simp[aai],by simp⟩, .nil,by simp,fun _ o ho=>by rw[aY.1 ho]⟩
  (fun o ho=>by rw[aY.1 ho];exact aZ) (fun m B' _ _ o ho _=>⟨aK _ ho,fun e'=>?_⟩) hk rl
 cases e';exact hnd o ho rfl
theorem OpR.frz{o:Oper}{d:Nat}{B:Bk}{f:FX}{v:DV}(hd:o.dst=some d)(h:OpR P GB C n lk bk o f [(d,some B)] [d])
  (hz: ∀lk bk ρ G ov a w,RlX GB C n lk bk ρ G ov a w→bk d=some B→ ∃G' ov',GLe G G'∧ab5 C ov' G' w∧(∀o∈ov,(ρ d).a≠some ⟨o.b,0,none⟩→o∈ov')∧ ∀y,IsX ρ G f y→Is G' v y):OpR P GB C n lk bk o (.d v) [(d,none)] [d]:=by
 intro hd' tl tb K s1 s2 hf hk
 refine h hd' tl tb K s1 s2 hf ?_
 rw[hd] at hk⊢
 refine⟨fun ρ G ov a w r=>?_⟩
 have hbd:Sx.upB tb [(d,some B)] d=some B:=by simp[Sx.upB]
 obtain⟨G',ov',h1,h2,h3,h4⟩:=hz _ _ ρ G ov a w r hbd
 refine hk.run ρ G' ov' a w ⟨r.gb.trans h1,h2,r.sz,r.df,fun k g e=>?_,fun m B' e=>?_,fun m m' B1 B2 e e'=>?_⟩
 ·by_cases hk:k=d
  ·subst hk
   simp only[upL,if_true] at e;cases e
   obtain⟨y,g1,g2⟩:=r.fx k f (by simp[upL])
   exact⟨y,g1,h4 y g2⟩
  ·simp only[upL,hk,if_false] at e
   obtain⟨y,g1,g2⟩:=r.fx k g (by simp[upL,hk,e])
   exact⟨y,g1,g2.up h1⟩
 ·simp only[Sx.upB] at e
  split at e
  ·cases e
  ·rename_i hm
   have e':Sx.upB tb [(d,some B)] m=some B':=by simp[Sx.upB,hm,e]
   obtain⟨os,g1,g2⟩:=r.bx m B' e'
   exact⟨os,g1.up h1,fun o ho=>h3 o (g2 o ho) fun hc=>r.dj m d B' B e' hbd hm _ (g1.blk ho) hc⟩
 ·simp only[Sx.upB] at e e'
  split at e
  ·cases e
  ·rename_i hm
   split at e'
   ·cases e'
   ·rename_i hm'
    exact r.dj m m' B1 B2 (by simp[Sx.upB,hm,e]) (by simp[Sx.upB,hm',e'])
theorem OpR.frzRow{o:Oper}{d:Nat}{ty:TypeId}{s:Nat}{ds:List DV}(hd:o.dst=some d)(h:OpR P GB C n lk bk o (.rw d) [(d,some (.b ty s ds true))] [d]):OpR P GB C n lk bk o (.d (.sl ds)) [(d,none)] [d]:=
 h.frz hd fun _ _ _ _ _ _ _ r hb=>r.frzRow hb
theorem azv{d:Nat}{f:FX}{l:List DV}(e:evX lk x=some f)(hc:f.okc=true)(hn:aAK f d=true)(hl:ad0 f.cells=some l):OpR P GB C n lk bk ⟨some d, .box t x,ty',pos,af,gd⟩ (.d (.pt l)) [(d,none)] [d]:=
 (aw0 e hc hn).frz rfl fun _ _ _ _ _ _ _ r hb=>r.frzVar hb hl
/-! append -/
def atK(lk:LK)(bk:BM)(s:Nat)(y:Operand):Option (List DV):=match evX lk y with
 |some (.rw nm)=>match bk nm with
  |some (.b _ s' ds _)=>bif Nat.beq s' s then some ds else none
  |_=>none
 |some f=>match aj8 f with
  |some (.sl l)=>some l
  |_=>none
 |none=>none
theorem al1{ds:List DV}(r:RlX GB C n lk bk ρ G ov a w)(h:atK lk bk s y=some ds)(hk:acI s ds):
  ∃(z:SV) (vs:List Value),opv (frA a) y=some (.slice z.a z.n z.c)∧z.n=vs.length∧IsLs G ds vs∧(∀v∈vs,(aaf v).length=s)∧(∀v∈aai vs,Sx.flat v=true)∧Src P C ov G s z.n (.slice z.a z.n z.c) (aai vs):=by
 have hfl: ∀vs:List Value,IsLs G ds vs→(∀v∈vs,(aaf v).length=s)∧ ∀v∈aai vs,Sx.flat v=true:=by
  intro vs hl
  refine⟨fun v hv=>?_,fun v hv=>?_⟩
  ·obtain⟨d,hd,h3⟩:=hl.all v hv
   obtain⟨k1,k2⟩:=hk d hd
   rw[(h3.cells k1).1.len,k2]
  ·simp only[aai,List.mem_flatten,bW] at hv
   obtain⟨l,⟨u,hu,rfl⟩,hv⟩:=hv
   obtain⟨d,hd,h3⟩:=hl.all u hu
   exact(h3.cells (hk d hd).1).2 v hv
 unfold atK at h
 split at h
 ·rename_i nm hy
  split at h<;>try (cases h;done)
  rename_i ty s' ds' lo hb
  cases hs:Nat.beq s' s with
  |false=>rw[hs] at h;cases h
  |true=>
   rw[hs] at h;cases h
   cases aT hs
   obtain⟨u,h1,h2⟩:=r.ev hy
   cases h2
   obtain⟨B,⟨vs,hB,hv,hs,_⟩,hmem⟩:=r.row (y:= .nilFunc) hb
   obtain⟨f1,f2⟩:=hfl _ hv
   refine⟨ρ nm,vs,h1,hB.len,hv,f1,f2,?_⟩
   rcases hB with⟨e1,e2,e3⟩|⟨b,rest,lo',h3,h4,h5,h6,h7⟩
   ·simp only[] at e2
    subst e1
    rw[e2]
    exact aeu
   ·simp only[] at h3 h4 h5 h6 h7
    have oat:OAt ov b (aai vs++rest) ty lo':=⟨hmem _ (by rw[h4];exact aZ)⟩
    rw[show(ρ nm).a=some ⟨b,0,none⟩ by rw[h3],show(ρ nm).n=vs.length by rw[h3]]
    refine ajB oat ?_
    rw[abG _ _ _ (by rw[aW];omega),hJ,eM (by omega),aV (by omega)]
 ·rename_i f _ hy
  split at h<;>cases h
  rename_i hd
  obtain⟨u,h3,h4⟩:=r.ev hy
  obtain⟨s',z,es,rfl,hsl,hl⟩:=adH.1 (aco h4 hd)
  obtain⟨f1,f2⟩:=hfl _ hl
  refine⟨z,es,h3,hsl.len,hl,f1,f2,?_⟩
  rcases afh hsl hl hk with he|he
  ·subst he
   rw[hsl.len]
   exact aeu
  ·subst he;exact aA9 hsl
 ·cases h
theorem aAb{d nm:Nat}{i:TI}{z:DV}{ds ds2:List DV}[hT:acN P t e s by_][hN:TyN P t'](hi:aft P e=some i)(hz:zeE i=some z)(hs:Nat.beq z.cells.length s=true)(hx:evX lk x=some (.rw nm))(hb:bk nm=some (.b e s ds true))(hy:atK lk bk s y=some ds2)(hk2:acI s ds2)
  (hby:Nat.blt 0 by_=true)(hbd:(ds.length+ds2.length)*by_≤140737488355328)(hnd:Nat.beq nm d=false){ds':List DV}(hds:ds++ds2=ds'):
  OpR P GB C n lk bk ⟨some d, .call ⟨.builtin .append, #[x,y], #[t,t']⟩,ty',pos,af,gd⟩ (.rw d) [(nm,none),(d,some (.b e s ds' true))] [d]:=by
 intro hd tl tb K s1 s2 hf hk
 refine⟨fun ρ G ov a w r Q=>?_⟩
 subst hds
 have r1:=r.mono s1 s2
 obtain⟨v,hz1,hz2,hz3⟩:=akA hi hz
 have cz:=((hz2 G).cells hz3).1.len
 replace hs:=aT hs
 rw[oK] at hby
 have hne:nm≠d:=fun e=>by subst e;simp at hnd
 obtain⟨u,hx',hx2⟩:=r1.ev hx
 cases hx2
 obtain⟨B,⟨vs,hB,hv,hvs,hlo⟩,hBo⟩:=r1.row (y:= .nilFunc) hb
 simp only[] at hB hv hvs
 obtain⟨w2,us,hy',h2,h3,h4,h5,h6⟩:=al1 (P:=P) r1 hy hk2
 have hus:(aai us).length=us.length*s:=aav us h4
 have hbd':(vs.length+us.length)*by_≤140737488355328:=by rw[hv.len,h3.len];exact hbd
 have hall: ∀v∈vs++us,(aaf v).length=s:=fun v hv=>by
  rcases bS.1 hv with hv|hv
  ·exact hvs v hv
  ·exact h4 v hv
 have rd:=r.dropB nm
 have hf':acH [d] (some d) tl (Sx.upB tb [(nm,none)]):=fun m hm=>by
  obtain⟨g1,g2⟩:=hf m hm
  refine⟨g1,fun k B' hk e=>g2 k B' hk ?_⟩
  simp only[Sx.upB] at e
  split at e
  ·cases e
  ·exact e
 have hbk: ∀m B',(Sx.upB tb [(nm,none)]) m=some B'→m≠nm∧tb m=some B':=fun m B' e=>by
  simp only[Sx.upB] at e
  split at e
  ·cases e
  ·exact⟨by assumption,e⟩
 have hfin: ∀(b:Nat) (cap':Nat) (rest':List Value) (ov1:List Own) a' w',vs.length+us.length≤cap'→rest'.length+(vs.length+us.length)*s=cap'*s→(∀o∈ov,(ρ nm).a≠some ⟨o.b,0,none⟩→o∈ov1)→
   Rel C n (put (frA a) (some d) (.slice (some ⟨b,0,none⟩) (vs.length+us.length) cap')) (⟨b,aai (vs++us)++rest',e,true⟩::ov1) G a' w'→K a' w':=by
  intro b cap' rest' ov1 a' w' hc hr ho1 rl
  have hnd':=(bN.1 rl.h.nd).1
  refine rd.newRow (z:=⟨some ⟨b,0,none⟩,vs.length+us.length,cap'⟩) (B:=[⟨b,aai (vs++us)++rest',e,true⟩]) hf' ⟨vs++us, .inr ⟨b,rest',true,by simp,rfl,aav _ hall,?_,by simpa using hc⟩,hv.app h3,hall,fun _ o ho=>by rw[aY.1 ho]⟩
   (fun o ho=>by rw[aY.1 ho];exact aZ) (fun m B' hm e o ho hmo=>?_) hk rl
  ·rw[aav _ hall,aW]
   simp only[]
   omega
  ·obtain⟨h7,h8⟩:=hbk m B' e
   have ho2:=ho1 o ho fun hc=>r.dj m nm B' _ h8 (s2 _ _ hb) h7 _ hmo hc
   exact⟨aK _ ho2,fun e'=>by cases e';exact hnd' o ho2 rfl⟩
 rcases hB with⟨e1,e2,e3⟩|⟨b,rest,lo',k3,k4,k5,k6,k7⟩
 ·subst e1
  rw[e2] at hx'
  by_cases hne:us=[]
  ·subst hne
   have:ds2=[]:=bY (by rw[←h3.len];rfl)
   subst this
   rw[h2] at hy'
   refine agI hx' hy' hd (fun a' w' rl=>?_) a w Q ⟨r.h,r.sz,aaP a,r.df⟩
   refine rd.newRow (z:=⟨none,0,0⟩) (B:=[]) hf' ⟨[], .inl ⟨rfl,rfl,rfl⟩,by simpa using hv,by simp,fun _ o ho=>by cases ho⟩ (fun o ho=>by cases ho) (fun m B' hm e o ho hmo=>⟨ho,fun e'=>by cases e'⟩) hk rl
  ·have hup:0<us.length:=mS.2 hne
   rw[h2] at hy' h6
   refine acX (z:=v) (xs:=[]) (ys:=aai us) hx' hy' aeu h6 (by show(0:Nat)<0+us.length;omega) hby (by simpa using hbd') hd (fun b cap' hc a' w' rl=>?_) a w Q ⟨r.h,r.sz,aaP a,r.df⟩
   exact hfin b cap' (abC v (cap'-us.length)) ov a' w' (by simpa using hc) (by rw[abY,cz,hs,←cY];simp at hc⊢;congr 1;omega) (fun o ho _=>ho) (by simpa using rl)
 ·have hl:=hlo rfl
  subst k4
  have hlo':lo'=true:=hl _ aZ
  subst hlo'
  have ha:(ρ nm).a=some ⟨b,0,none⟩:=by rw[k3]
  have hn:(ρ nm).n=vs.length:=by rw[k3]
  rw[ha,hn] at hx'
  rw[h2] at hy' h6
  obtain⟨ov1,o1,o2⟩:=alc.of_mem (hBo _ aZ)
  refine agr (z:=v) (xs:=aai vs) (ys:=aai us) (rest:=rest) (own1:=ov1) hx' hy' o1 k5 k6 k7 h6 hus h5 hby hbd' (by rw[cz,hs]) hd (fun b' cap' rest' hc hr a' w' rl=>?_) a w Q ⟨r.h,r.sz,aaP a,r.df⟩
  rw[←ac1] at rl
  exact hfin b' cap' rest' ov1 a' w' hc hr (fun o ho hne=>o2 o ho fun e'=>hne (by rw[ha,e'])) rl
end
section
variable {P:Program} {T:TT} {GB:Gh} {C:Ctx} {n:Nat} {lk:LK} {bk:BM} {ρ:NE} {G:Gh} {ov:List Own} {a:Act} {w:World}
variable {dst:Option Nat} {t t' ty':TypeId} {pos:String} {af:Array Edge} {gd:Option (Nat×Bool)} {x y:Operand} {e s by_:Nat}
theorem air{vs:List Value}{rest cs:List Value}{i sz j:Nat}{v':Value}(hil:i<vs.length)(hvs: ∀v∈vs,(aaf v).length=sz)(hv':aaf v'=ovw (aaf vs[i]) j cs)(hj:j+cs.length≤sz):ovw (aai vs++rest) (i*sz+j) cs=aai (vs.set i v')++rest:=by
 have hm:(aaf vs[i]).length=sz:=hvs _ (bM hil)
 have hl':(aaf v').length=sz:=by rw[hv',aji,hm]
 rw[←asH (rest:=rest) (u:=v') vs i hil hvs hl',hv']
 have hlv:=aav vs hvs
 have hle:i*sz+sz≤vs.length*sz:=by rw[←iJ];exact bV _ hil
 generalize hmm:aaf vs[i]=m at*
 have hX:aai vs++rest=(aai vs).take (i*sz)++(m++((aai vs).drop (i*sz+sz)++rest)):=by
  have t1:=ahm (rest:=rest) hvs hil
  rw[hmm] at t1
  obtain⟨_,t2⟩:=agR t1
  have t3:m=((aai vs).drop (i*sz)).take sz:=by
   have:m=((aai vs++rest).drop (i*sz)).take sz:=t2
   rw[this,jV (by omega),eM (by rw[fM];omega)]
  rw[t3]
  conv=>lhs;rw[←jW (i*sz) (aai vs),←jW sz ((aai vs).drop (i*sz)),List.drop_drop]
  simp[fL]
 have hP:((aai vs).take (i*sz)).length=i*sz:=by rw[cK];omega
 generalize (aai vs).take (i*sz)=A at hX hP
 generalize (aai vs).drop (i*sz+sz)++rest=Z at hX
 rw[hX,←hP,atV A m Z (ovw m j cs) (by rw[aji])]
 rw[acA _ m j (by omega),acA _ _ _ (by simp only[aW];omega)]
 rw[List.take_append,aV (by omega),Nat.add_sub_cancel_left,eM (by omega)]
 rw[lV,dW (by omega),lQ,show A.length+j+cs.length-A.length=j+cs.length by omega,jV (by omega)]
 simp[fL]
def stE(ag:Option Nat)(d:DV)(j:Nat)(u:DV):Option DV:=match d with
 | .ag l=>match ag with
  |some k=>bif u.okc&&(Nat.beq u.cells.length k&&Nat.ble (j+k) l.length) then some (.ag (ovD l j u.cells)) else none
  |none=>bif u.flat&&Nat.blt j l.length then some (.ag (l.set j u)) else none
 |d=>match ag with
  |some _=>none
  |none=>bif d.flat&&(u.flat&&Nat.beq j 0) then some u else none
theorem RlX.wroteRow{nm b:Nat}{ty:TypeId}{sz:Nat}{ds ds':List DV}{lo lo':Bool}{m':List Value}{own':List Own}(r:RlX GB C n lk bk ρ G ov a w)(hb:bk nm=some (.b ty sz ds lo))(ha:(ρ nm).a=some ⟨b,0,none⟩)(hB:abx G ⟨ρ nm,sz,ty,ds',lo⟩ [⟨b,m',ty,lo'⟩])
  (h1:⟨b,m',ty,lo'⟩∈own')(h2: ∀o∈ov,o.b≠b→o∈own'){K:Act→World→Prop}(hk:SX GB C n (upL lk dst .un) (Sx.upB bk [(nm,some (.b ty sz ds' lo))]) K){a':Act}{w':World}(rl:Rel C n (Sx.put (frA a) dst undef) own' G a' w'):K a' w':=by
 have r2:=r.upB (G':=G) (ov':=own') (w':=w') (B':= .b ty sz ds' lo) (GLe.refl _) rl.h (hB.toBk rfl) (fun o ho=>by rw[aY.1 ho];exact h1) (fun o ho hne=>h2 o ho fun e=>hne (by rw[ha,e])) ⟨_,hb⟩
 exact hk.run _ _ _ a' w' (r2.put rfl (abk rl))
theorem aud(cs:List Value)(o:Nat)(v:Value):ovw cs o [v]=cs.set o v:=rfl
theorem aCV{i:TI}{ag:Option Nat}{nm sz k j:Nat}{ty:TypeId}{ds ds':List DV}{lo:Bool}{d d' u:DV}(hi:aft P t=some i)(ha:i.ag=some ag)(hx:evX lk x=some (.be nm sz k j))(hb:bk nm=some (.b ty sz ds lo))(hy:evD lk y=some u)(he:ds[k]? =some d)(hl:stE ag d j u=some d')(hds:ds.set k d'=ds'):
  OpR P GB C n lk bk ⟨dst, .store t x y,ty',pos,af,gd⟩ .un [(nm,some (.b ty sz ds' lo))] []:=by
 intro hd tl tb K s1 s2 hf hk
 refine⟨fun ρ G ov a w r Q=>?_⟩
 subst hds
 have r1:=r.mono s1 s2
 obtain⟨y',h1,h2⟩:=r1.evD hy
 obtain⟨x',h3,b,hwb,rfl⟩:=r1.ev hx
 obtain⟨B,hB,hBo⟩:=r1.row (y:= .nilFunc) hb
 obtain⟨b',vs,rest,lo',e1,rfl,hv,hvs,hil,hup⟩:=hB.upd he
 rw[hwb] at e1;cases e1
 obtain⟨v,g1,g2⟩:=hv.get he
 obtain⟨g3,g4⟩:=bJ.1 g1
 have hlv:=aav vs hvs
 have hle:k*sz+sz≤vs.length*sz:=by rw[←iJ];exact bV _ hil
 have hml:(aaf v).length=sz:=hvs _ (aM g1)
 cases ag with
 |some q=>
  have:=akb hi ha
  unfold stE at hl
  split at hl
  ·rename_i l
   simp only at hl
   cases hc:(u.okc&&(Nat.beq u.cells.length q&&Nat.ble (j+q) l.length)) with
   |false=>rw[hc] at hl;cases hl
   |true=>
    rw[hc] at hl;cases hl
    simp only[bL,Nat.ble_eq] at hc
    obtain⟨c1,c2,c3⟩:=hc
    replace c2:=aT c2
    obtain⟨c4,c5⟩:=h2.cells c1
    obtain⟨m,rfl,hm⟩:=acn.1 g2
    have hcl:(aaf y').length=q:=by rw[c4.len,c2]
    have hmd:=hm.len
    have hsz:m.length=sz:=hml
    have key:=hup (.agg ⟨ovw m j (aaf y')⟩) (.ag (ovD l j u.cells)) (acn.2 ⟨_,rfl,hm.ov c4⟩) (by show(ovw m j (aaf y')).length=sz;rw[aji,hsz])
    have hov:=air (rest:=rest) (v':= .agg ⟨ovw m j (aaf y')⟩) (cs:=aaf y') (j:=j) hil hvs (by rw[g4];rfl) (by omega)
    obtain⟨own',u1,u2,u3⟩:=agl.of_mem (cs':=ovw (aai vs++rest) (k*sz+j) (aaf y')) (hBo _ aZ)
    refine alB h3 h1 u1 hcl (by rw[aW];omega) (eX.2 c5) hd (fun a' w' rl=>?_) a w Q ⟨r.h,r.sz,aaP a,r.df⟩
    rw[hov] at u2
    exact r.wroteRow (s2 _ _ hb) hwb key u2 u3 hk rl
  ·simp at hl
 |none=>
  have:=aiQ hi ha
  unfold stE at hl
  split at hl
  ·rename_i l
   simp only at hl
   cases hc:(u.flat&&Nat.blt j l.length) with
   |false=>rw[hc] at hl;cases hl
   |true=>
    rw[hc] at hl;cases hl
    simp only[bL,oK] at hc
    obtain⟨c1,c2⟩:=hc
    have hfl:=h2.flat c1
    have hcl:=adq hfl
    obtain⟨m,rfl,hm⟩:=acn.1 g2
    have hmd:=hm.len
    have hsz:m.length=sz:=hml
    have key:=hup (.agg ⟨m.set j y'⟩) (.ag (l.set j u)) (acn.2 ⟨_,rfl,hm.set j h2⟩) (by show(m.set j y').length=sz;rw[bX,hsz])
    have hov:=air (rest:=rest) (v':= .agg ⟨m.set j y'⟩) (cs:=[y']) (j:=j) hil hvs (by rw[g4];rfl) (by simp;omega)
    rw[aud] at hov
    obtain⟨own',u1,u2,u3⟩:=agl.of_mem (cs':=(aai vs++rest).set (k*sz+j) y') (hBo _ aZ)
    refine ado h3 h1 u1 (by rw[aW];omega) hfl hd (fun a' w' rl=>?_) a w Q ⟨r.h,r.sz,aaP a,r.df⟩
    rw[hov] at u2
    exact r.wroteRow (s2 _ _ hb) hwb key u2 u3 hk rl
  ·rename_i hna
   simp only at hl
   cases hc:(d.flat&&(u.flat&&Nat.beq j 0)) with
   |false=>rw[hc] at hl;cases hl
   |true=>
    rw[hc] at hl;cases hl
    simp only[bL] at hc
    obtain⟨c0,c1,c2⟩:=hc
    cases aT c2
    have hfl:=h2.flat c1
    have hcl:=adq hfl
    have hvl:=adq (g2.flat c0)
    have h1z:1=sz:=by rw[←hml,hvl];rfl
    have key:=hup y' d' h2 (by rw[hcl,←h1z];rfl)
    have hov:=air (rest:=rest) (v':=y') (cs:=[y']) (j:=0) hil hvs (by rw[g4,hvl,hcl];rfl) (by simp;omega)
    rw[aud] at hov
    obtain⟨own',u1,u2,u3⟩:=agl.of_mem (cs':=(aai vs++rest).set (k*sz+0) y') (hBo _ aZ)
    refine ado h3 h1 u1 (by rw[aW];omega) hfl hd (fun a' w' rl=>?_) a w Q ⟨r.h,r.sz,aaP a,r.df⟩
    rw[hov] at u2
    exact r.wroteRow (s2 _ _ hb) hwb key u2 u3 hk rl
/-! slices -/
def bdX(lk:LK)(dflt:Nat):Option Operand→Option Int
 |none=>some (dflt:Nat)
 |some o=>match evX lk o with
  |some (.d (.v (.int .i64 i)))=>some i
  |_=>none
theorem aCc{l:List DV}{lo hi:Option Operand}{nlo nhi:Nat}[hT:acN P t e s by_](hx:evD lk x=some (.sl l))(ho:acI s l)(hlo:bdX lk 0 lo=some (nlo:Int))(hhi:bdX lk l.length hi=some (nhi:Int))(h1:nlo≤nhi)(h2:nhi≤l.length):
  OpR P GB C n lk bk ⟨dst, .slice t x lo hi none,ty',pos,af,gd⟩ (.d (.sl ((l.take nhi).drop nlo))) [] []:= .yd fun ρ G ov a w r=>by
 obtain⟨u,h3,h4⟩:=r.evD hx
 obtain⟨s',z,es,rfl,hsl,hl⟩:=adH.1 h4
 have hn:=hsl.len
 have hcap:=hsl.cap
 have hll:=hl.len
 have key: ∀mx',nhi≤mx'→mx'≤z.c→Is G (.sl ((l.take nhi).drop nlo)) (aoL z.a z.n z.c nlo nhi mx' s):=by
  intro mx' hm1 hm2
  rcases afh hsl hl ho with he|he
  ·subst he
   have:l=[]:=bY (by rw[←hll];rfl)
   subst this
   have e1:nhi=0:=by simp at h2;exact h2
   have e2:nlo=0:=by omega
   subst e1 e2
   refine adH.2 ⟨s,⟨_,0,mx'⟩,[],rfl,⟨rfl,aR _, .inl rfl⟩,by simpa using IsLs.nil⟩
  ·subst he
   refine adH.2 ⟨s',⟨_,_,_⟩,_,rfl,hsl.sub nlo nhi mx' h1 (by omega) hm1 hm2,(hl.take nhi).drop nlo⟩
 have bnd: ∀{o:Operand} {d:Nat} {i:Int},bdX lk d (some o)=some i→opv (frA a) o=some (.int .i64 i):=fun{o d i} h=>by
  simp only[bdX] at h
  split at h<;>cases h
  rename_i he
  obtain⟨q,g1,g2⟩:=r.ev he
  rw[aay] at g2;subst g2;exact g1
 match lo,hi,hlo,hhi with
 |none,none,hlo,hhi=>
  simp only[bdX,Option.some.injEq] at hlo hhi
  have e1:nlo=0:=by omega
  have e2:nhi=l.length:=by omega
  subst e1 e2
  refine⟨_,key z.c (by omega) (aL _),?_⟩
  intro a w0 hf hh
  simp only[execOp,aab hf h3,pX]
  have h9:=ae0 (P:=P) (t:=t) (ad:=z.a) (len:=z.n) (cap:=z.c) w0 (lo:=none) (hi:=none) (mx:=none) (l:=0) (h:=l.length) (m:=z.c) (fun w0=>by
   simp[Instr.sliceBounds,Result.andThen,aap];omega)
  exact aam h9
 |none,some o2,hlo,hhi=>
  simp only[bdX,Option.some.injEq] at hlo
  have e1:nlo=0:=by omega
  subst e1
  refine⟨_,key z.c (by omega) (aL _),?_⟩
  have h9:=adE (P:=P) (C:=C) (own:=ov) (G:=G) (t:=t) (dst:=dst) (ty':=ty') (pos:=pos) (af:=af) (gd:=gd) h3 (bnd hhi) (by omega) (by omega)
  have e9:aoL z.a z.n z.c 0 nhi z.c s= .slice z.a nhi z.c:=by
   unfold aoL
   cases z.a with
   |none=>simp
   |some ad=>simp[Addr.add]
  rw[e9]
  simpa using h9
 |some o1,none,hlo,hhi=>
  simp only[bdX,Option.some.injEq] at hhi
  have e2:nhi=l.length:=by omega
  subst e2
  refine⟨_,key z.c (by omega) (aL _),?_⟩
  have h9:=afX (P:=P) (C:=C) (own:=ov) (G:=G) (t:=t) (dst:=dst) (ty':=ty') (pos:=pos) (af:=af) (gd:=gd) h3 (bnd hlo) (by omega) (by omega)
  have e9:z.n=l.length:=by omega
  rw[bZ,e9] at h9
  rw[e9]
  exact h9
 |some o1,some o2,hlo,hhi=>
  refine⟨_,key z.c (by omega) (aL _),?_⟩
  have h9:=alx (P:=P) (C:=C) (own:=ov) (G:=G) (t:=t) (dst:=dst) (ty':=ty') (pos:=pos) (af:=af) (gd:=gd) h3 (bnd hlo) (bnd hhi) (by omega) (by omega) (by omega)
  simpa using h9
theorem ay9{l:List DV}{hi mx:Operand}{nhi:Nat}[hT:acN P t e s by_](hx:evD lk x=some (.sl l))(ho:acI s l)(hhi:bdX lk 0 (some hi)=some (nhi:Int))(hmx:bdX lk 0 (some mx)=some (nhi:Int))(h2:nhi≤l.length):
  OpR P GB C n lk bk ⟨dst, .slice t x none (some hi) (some mx),ty',pos,af,gd⟩ (.ct (l.take nhi)) [] []:= .yd fun ρ G ov a w r=>by
 obtain⟨u,h3,h4⟩:=r.evD hx
 obtain⟨s',z,es,rfl,hsl,hl⟩:=adH.1 h4
 have hn:=hsl.len
 have hcap:=hsl.cap
 have hll:=hl.len
 have bnd: ∀{o:Operand} {d:Nat} {i:Int},bdX lk d (some o)=some i→opv (frA a) o=some (.int .i64 i):=fun{o d i} h=>by
  simp only[bdX] at h
  split at h<;>cases h
  rename_i he
  obtain⟨q,g1,g2⟩:=r.ev he
  rw[aay] at g2;subst g2;exact g1
 refine⟨.slice z.a nhi nhi,⟨⟨_,_,rfl⟩,asK hsl hl ho h2 (aL _) (by omega)⟩,?_⟩
 have h9:=aqV (P:=P) (C:=C) (own:=ov) (G:=G) (t:=t) (dst:=dst) (ty':=ty') (pos:=pos) (af:=af) (gd:=gd) h3 (bnd hhi) (bnd hmx) (by omega) (Int.le_refl _) (by omega)
 simpa using h9
theorem atd{d:Nat}{i:TI}{z:DV}{ds ds2:List DV}[hT:acN P t e s by_][hN:TyN P t'](hi:aft P e=some i)(hz:zeE i=some z)(hs:Nat.beq z.cells.length s=true)(hx:evX lk x=some (.ct ds)∨(evX lk x=some .nl∧ds=[]))(ox:acI s ds)(hy:atK lk bk s y=some ds2)(hk2:acI s ds2)(hne:0<ds2.length)
  (hby:Nat.blt 0 by_=true)(hbd:(ds.length+ds2.length)*by_≤140737488355328){ds':List DV}(hds:ds++ds2=ds'):
  OpR P GB C n lk bk ⟨some d, .call ⟨.builtin .append, #[x,y], #[t,t']⟩,ty',pos,af,gd⟩ (.rw d) [(d,some (.b e s ds' true))] [d]:=by
 intro hd tl tb K s1 s2 hf hk
 refine⟨fun ρ G ov a w r Q=>?_⟩
 subst hds
 have r1:=r.mono s1 s2
 obtain⟨v,hz1,hz2,hz3⟩:=akA hi hz
 have cz:=((hz2 G).cells hz3).1.len
 replace hs:=aT hs
 rw[oK] at hby
 obtain⟨w2,us,h1,h2,h3,h4,h5,h6⟩:=al1 (P:=P) r1 hy hk2
 have hxs:atK lk bk s x=some ds:=by
  unfold atK
  rcases hx with hx|⟨hx,rfl⟩<;>rw[hx]<;>rfl
 obtain⟨w1,vs,g1,g2,g3,g4,g5,g6⟩:=al1 (P:=P) r1 hxs ox
 have hc1:w1.c=w1.n:=by
  rcases hx with hx|⟨hx,rfl⟩
  ·obtain⟨y1,k1,⟨a1,n1,rfl⟩,_⟩:=r1.ev hx
   rw[k1] at g1
   simp only[Option.some.injEq,Value.slice.injEq] at g1
   omega
  ·obtain⟨y1,k1,k2⟩:=r1.ev hx
   cases k2
   rw[k1] at g1
   simp only[Option.some.injEq,Value.slice.injEq] at g1
   omega
 have hl3:=h3.len
 have hl4:=g3.len
 have hall: ∀v∈vs++us,(aaf v).length=s:=fun v hv=>by
  rcases bS.1 hv with hv|hv
  ·exact g4 v hv
  ·exact h4 v hv
 refine acX (z:=v) (xs:=aai vs) (ys:=aai us) (ad:=w1.a) (len:=w1.n) (cap:=w1.c) g1 h1 g6 h6 (by omega) hby (by rw[g2,h2,hl3,hl4];exact hbd) hd (fun b cap' hc a' w' rl=>?_) a w Q ⟨r.h,r.sz,aaP a,r.df⟩
 rw[←ac1] at rl
 have hnd':=(bN.1 rl.h.nd).1
 refine r.newRow (z:=⟨some ⟨b,0,none⟩,w1.n+w2.n,cap'⟩) (B:=[⟨b,aai (vs++us)++abC v (cap'-(w1.n+w2.n)),e,true⟩]) hf ⟨vs++us, .inr ⟨b,_,true,by simp[g2,h2],rfl,aav _ hall,?_,by simpa[g2,h2] using hc⟩,g3.app h3,hall,fun _ o ho=>by rw[aY.1 ho]⟩
  (fun o ho=>by rw[aY.1 ho];exact aZ) (fun m B' hm e o ho _=>⟨aK _ ho,fun e'=>by cases e';exact hnd' o ho rfl⟩) hk rl
 rw[aav _ hall,aW,abY,cz,hs,←cY,g2,h2]
 congr 1
 rw[g2,h2] at hc
 dsimp only
 omega
end
section
variable {GB:Gh} {C:Ctx} {n:Nat} {Q0:Exit→Act→World→Prop} {fr fr':FrX} {own own':OwX} {cf cf':Cf} {vc:List Prop} {ops:Array Oper} {o:Oper} {K:List Kt} {r:List Oper}
def opC(fr:FrX)(cf:Cf):Option Oper:=match hdC cf with
 |some (ops,o)=>bif grd ops (lkC fr cf) o.guard then some o else none
 |none=>none
theorem axF(h:opC fr cf=some o): ∃ops,hdC cf=some (ops,o)∧grd ops (lkC fr cf) o.guard=true:=by
 unfold opC at h
 split at h<;>try (cases h;done)
 rename_i ops o' hh
 cases hg:grd ops (lkC fr cf) o'.guard with
 |false=>rw[hg] at h;cases h
 |true=>rw[hg] at h;cases h;exact⟨ops,hh,hg⟩
theorem us{q:Nat}{f:FX}{bl:List (Nat×Option Bk)}{nw:List Nat}(hh:opC fr cf=some o)(h:OpR prog GB C n (lkC fr cf) (bkC fr own cf) o f bl nw)
  (hgo:goA tt n q fr own cf f bl nw=⟨vc,fr',own',cf'⟩)(hv:aah vc)(k:CfS prog GB C n Q0 fr' own' cf'):CfS prog GB C n Q0 fr own cf:=by
 obtain⟨ops,h1,h2⟩:=axF hh
 exact uo h1 h2 h hgo hv k
/-! calls -/
def aFB(fr:FrX)(cf:Cf):Option (FuncId×List DV):=match opC fr cf with
 |some ⟨_, .call ⟨.value fo,args,_⟩,_,_,_,_⟩=>ak3 (lkC fr cf) fo args
 |_=>none
theorem cl[fu:Fu]{f:FuncId}{ds:List DV}{rv:DV}(ha:aFB fr cf=some (f,ds))(hF:PF GB prog f ds rv)(hgo:goA tt n fu.n fr own cf (.d rv) [] []=⟨vc,fr',own',cf'⟩)(k:CfS prog GB C n Q0 fr' own' cf')
  (hv:aah vc:=by first|exact trivial|(simp only[aah];kernel_rfl)|(simp only[aah];omega)|(simp only[aah,aJ,bX,aU];omega)):CfS prog GB C n Q0 fr own cf:=by
 unfold aFB at ha
 split at ha<;>try (cases ha;done)
 rename_i hh
 exact us hh (ard ha hF) hgo hv k
/-! elements of what is written no more -/
def ixA(fr:FrX)(cf:Cf):Option (List DV×Int×Nat):=match opC fr cf with
 |some ⟨_, .indexAddr t x y,_,_,_,_⟩=>match evD (lkC fr cf) x with
  |some (.sl l)=>match evX (lkC fr cf) y with
   |some (.d (.v (.int _ i)))=>match abD tt t with
    |some ⟨.sl _ s _,_,_,_⟩=>some (l,i,s)
    |_=>none
   |_=>none
  |_=>none
 |_=>none
def ixG(n q:Nat)(fr:FrX)(own:OwX)(cf:Cf)(d:DV)(s:Nat):Res:=bif d.okc&&Nat.beq d.cells.length s then fcL d.cells fun cs=>goA tt n q fr own cf (.ep cs) [] [] else bad
theorem ix[fu:Fu](d:DV){l:List DV}{i:Int}{s:Nat}(h:ixA fr cf=some (l,i,s))(he:l[i.toNat]? =some d)(hgo:ixG n fu.n fr own cf d s=⟨vc,fr',own',cf'⟩)(k:CfS prog GB C n Q0 fr' own' cf')(h0:0≤i:=by omega)
  (hv:aah vc:=by first|exact trivial|(simp only[aah];kernel_rfl)|(simp only[aah];omega)|(simp only[aah,aJ,bX,aU];omega)):CfS prog GB C n Q0 fr own cf:=by
 unfold ixA at h
 split at h<;>try (cases h;done)
 rename_i hh
 split at h<;>try (cases h;done)
 rename_i hx
 split at h<;>try (cases h;done)
 rename_i hy
 split at h<;>cases h
 rename_i hT
 have:=afD (ab2 _ _ hT) rfl
 unfold ixG at hgo
 cases hc:(d.okc&&Nat.beq d.cells.length s) with
 |false=>simp only[hc,cond_false,bad] at hgo;cases hgo;exact absurd hv (fun x=>x)
 |true=>
  simp only[hc,cond_true,age] at hgo
  exact us hh (aB9 hx hy h0 he hc) hgo hv k
/-! elements of rows -/
structure LbA where
 ds:List DV
 k:Nat
 j:Nat
 ag:Option Nat
def aE5(fr:FrX)(own:OwX)(cf:Cf):Option LbA:=match opC fr cf with
 |some ⟨_, .load t x,_,_,_,_⟩=>match evX (lkC fr cf) x with
  |some (.be nm sz k j)=>match bkC fr own cf nm with
   |some (.b _ s ds _)=>bif Nat.beq s sz then(match abD tt t with
    |some i=>match i.ag with
     |some ag=>some ⟨ds,k,j,ag⟩
     |none=>none
    |none=>none) else none
   |_=>none
  |_=>none
 |_=>none
def aFj(n q:Nat)(fr:FrX)(own:OwX)(cf:Cf)(d:DV)(ag:Option Nat)(j:Nat):Res:=bif d.okc then(match ldE ag d.cells j with
 |some c=>goA tt n q fr own cf (.d c) [] []
 |none=>bad) else bad
theorem lb[fu:Fu](d:DV){ds:List DV}{k' j:Nat}{ag:Option Nat}(h:aE5 fr own cf=some ⟨ds,k',j,ag⟩)(he:ds[k']? =some d)(hgo:aFj n fu.n fr own cf d ag j=⟨vc,fr',own',cf'⟩)(k:CfS prog GB C n Q0 fr' own' cf')
  (hv:aah vc:=by first|exact trivial|(simp only[aah];kernel_rfl)|(simp only[aah];omega)|(simp only[aah,aJ,bX,aU];omega)):CfS prog GB C n Q0 fr own cf:=by
 unfold aE5 at h
 split at h<;>try (cases h;done)
 rename_i hh
 split at h<;>try (cases h;done)
 rename_i hx
 split at h<;>try (cases h;done)
 rename_i ty s ds' lo hb
 rw[cond_eq_ite] at h
 split at h<;>try (cases h;done)
 rename_i hs
 cases aT hs
 split at h<;>try (cases h;done)
 rename_i hT
 split at h<;>cases h
 rename_i ha
 unfold aFj at hgo
 cases hc:d.okc with
 |false=>simp only[hc,cond_false,bad] at hgo;cases hgo;exact absurd hv (fun x=>x)
 |true=>
  simp only[hc,cond_true] at hgo
  cases hl:ldE ag d.cells j with
  |none=>simp only[hl,bad] at hgo;cases hgo;exact absurd hv (fun x=>x)
  |some c=>simp only[hl] at hgo;exact us hh (aC9 (ab2 _ _ hT) ha hx hb he hc hl) hgo hv k
structure SbA where
 nm:Nat
 ty:TypeId
 s:Nat
 ds:List DV
 lo:Bool
 k:Nat
 j:Nat
 ag:Option Nat
 u:DV
def aFo(fr:FrX)(own:OwX)(cf:Cf):Option SbA:=match opC fr cf with
 |some ⟨_, .store t x y,_,_,_,_⟩=>match evX (lkC fr cf) x with
  |some (.be nm sz k j)=>match bkC fr own cf nm with
   |some (.b ty s ds lo)=>bif Nat.beq s sz then(match abD tt t with
    |some i=>match i.ag with
     |some ag=>match evD (lkC fr cf) y with
      |some u=>some ⟨nm,ty,s,ds,lo,k,j,ag,u⟩
      |none=>none
     |none=>none
    |none=>none) else none
   |_=>none
  |_=>none
 |_=>none
theorem sb[fu:Fu](d:DV){nm:Nat}{ty:TypeId}{s:Nat}{ds:List DV}{lo:Bool}{k' j:Nat}{ag:Option Nat}{u d':DV}(ds':List DV)(h:aFo fr own cf=some ⟨nm,ty,s,ds,lo,k',j,ag,u⟩)(he:ds[k']? =some d)(hl:stE ag d j u=some d')(hds:ds.set k' d'=ds')
  (hgo:goA tt n fu.n fr own cf .un [(nm,some (.b ty s ds' lo))] []=⟨vc,fr',own',cf'⟩)(k:CfS prog GB C n Q0 fr' own' cf')
  (hv:aah vc:=by first|exact trivial|(simp only[aah];kernel_rfl)|(simp only[aah];omega)|(simp only[aah,aJ,bX,aU];omega)):CfS prog GB C n Q0 fr own cf:=by
 unfold aFo at h
 split at h<;>try (cases h;done)
 rename_i hh
 split at h<;>try (cases h;done)
 rename_i hx
 split at h<;>try (cases h;done)
 rename_i hb
 rw[cond_eq_ite] at h
 split at h<;>try (cases h;done)
 rename_i hs
 cases aT hs
 split at h<;>try (cases h;done)
 rename_i hT
 split at h<;>try (cases h;done)
 rename_i ha
 split at h<;>cases h
 rename_i hy
 exact us hh (aCV (ab2 _ _ hT) ha hx hb hy he hl hds) hgo hv k
/-! rows made -/
structure MkA where
 d:Nat
 e:Nat
 s:Nat
 b:Nat
 z:DV
 l:Int
def mkA(fr:FrX)(cf:Cf):Option MkA:=match opC fr cf with
 |some ⟨some d, .makeSlice t x y,_,_,_,_⟩=>match evX (lkC fr cf) x with
  |some (.d (.v (.int _ l)))=>match abD tt t with
   |some ⟨.sl e s b,_,_,_⟩=>match abD tt e with
    |some i=>match zeE i with
     |some z=>bif Nat.beq z.cells.length s then some ⟨d,e,s,b,z,l⟩ else none
     |none=>none
    |none=>none
   |_=>none
  |_=>none
 |_=>none
theorem mk[fu:Fu]{d e s b:Nat}{z:DV}{l:Int}{k':IntKind}(ds:List DV)(h:mkA fr cf=some ⟨d,e,s,b,z,l⟩)(hy:(match opC fr cf with|some ⟨_, .makeSlice _ _ y,_,_,_,_⟩=>evX (lkC fr cf) y|_=>none)=some (.d (.v (.int k' l))))(hds:List.replicate l.toNat z=ds)
  (hgo:goA tt n fu.n fr own cf (.rw d) [(d,some (.b e s ds true))] [d]=⟨vc,fr',own',cf'⟩)(k:CfS prog GB C n Q0 fr' own' cf')(h0:0≤l:=by omega)(hb:b*l≤140737488355328:=by omega)(hl:l≤1152921504606846976:=by omega)
  (hv:aah vc:=by first|exact trivial|(simp only[aah];kernel_rfl)|(simp only[aah];omega)|(simp only[aah,aJ,bX,aU];omega)):CfS prog GB C n Q0 fr own cf:=by
 unfold mkA at h
 split at h<;>try (cases h;done)
 rename_i hh
 split at h<;>try (cases h;done)
 rename_i hx
 split at h<;>try (cases h;done)
 rename_i hT
 split at h<;>try (cases h;done)
 rename_i hi
 split at h<;>try (cases h;done)
 rename_i hz
 rw[cond_eq_ite] at h
 split at h<;>cases h
 rename_i hs
 rw[hh] at hy
 have:=afD (ab2 _ _ hT) rfl
 exact us hh (aAg (ab2 _ _ hi) hz hs hx hy h0 hb hl hds) hgo hv k
structure RwA where
 d:Nat
 e:Nat
 s:Nat
 ds:List DV
def aDx(fr:FrX)(cf:Cf):Option RwA:=match opC fr cf with
 |some ⟨some d, .buildSlice t len parts,_,_,_,_⟩=>match abD tt t with
  |some ⟨.sl e s _,_,_,_⟩=>match abD tt e with
   |some i=>match zeE i with
    |some z=>match aAe (lkC fr cf) 0 parts.toList with
     |some ds=>bif Nat.beq z.cells.length s&&(auL s ds&&(Nat.beq parts.toList.length len&&(Nat.ble (len*s) 1000&&Nat.blt 0 (len*s)))) then some ⟨d,e,s,ds⟩ else none
     |none=>none
    |none=>none
   |none=>none
  |_=>none
 |_=>none
theorem atg{d e s:Nat}{ds:List DV}(h:aDx fr cf=some ⟨d,e,s,ds⟩): ∃o,opC fr cf=some o∧o.dst=some d∧OpR prog GB C n (lkC fr cf) (bkC fr own cf) o (.rw d) [(d,some (.b e s ds true))] [d]:=by
 unfold aDx at h
 split at h<;>try (cases h;done)
 rename_i hh
 split at h<;>try (cases h;done)
 rename_i hT
 split at h<;>try (cases h;done)
 rename_i hi
 split at h<;>try (cases h;done)
 rename_i hz
 split at h<;>try (cases h;done)
 rename_i hr
 rw[cond_eq_ite] at h
 split at h<;>cases h
 rename_i hc
 simp only[bL] at hc
 have:=afD (ab2 _ _ hT) rfl
 exact⟨_,hh,rfl,aDg (ab2 _ _ hi) hz hc.1 hr hc.2.1 hc.2.2.1 hc.2.2.2.1 hc.2.2.2.2⟩
theorem ro[fu:Fu]{d e s:Nat}{ds:List DV}(h:aDx fr cf=some ⟨d,e,s,ds⟩)(hgo:goA tt n fu.n fr own cf (.rw d) [(d,some (.b e s ds true))] [d]=⟨vc,fr',own',cf'⟩)(k:CfS prog GB C n Q0 fr' own' cf')
  (hv:aah vc:=by first|exact trivial|(simp only[aah];kernel_rfl)|(simp only[aah];omega)|(simp only[aah,aJ,bX,aU];omega)):CfS prog GB C n Q0 fr own cf:=by
 obtain⟨o,h1,_,h3⟩:=atg (GB:=GB) (C:=C) (n:=n) (own:=own) h
 exact us h1 h3 hgo hv k
theorem rf[fu:Fu]{d e s:Nat}{ds:List DV}(h:aDx fr cf=some ⟨d,e,s,ds⟩)(hgo:goA tt n fu.n fr own cf (.d (.sl ds)) [(d,none)] [d]=⟨vc,fr',own',cf'⟩)(k:CfS prog GB C n Q0 fr' own' cf')
  (hv:aah vc:=by first|exact trivial|(simp only[aah];kernel_rfl)|(simp only[aah];omega)|(simp only[aah,aJ,bX,aU];omega)):CfS prog GB C n Q0 fr own cf:=by
 obtain⟨o,h1,h2,h3⟩:=atg (GB:=GB) (C:=C) (n:=n) (own:=own) h
 exact us h1 (h3.frzRow h2) hgo hv k
def axA(fr:FrX)(cf:Cf):Option (Nat×Nat×Nat):=match opC fr cf with
 |some ⟨some d, .buildSlice t 0 ⟨[]⟩,_,_,_,_⟩=>match abD tt t with
  |some ⟨.sl e s _,_,_,_⟩=>some (d,e,s)
  |_=>none
 |_=>none
theorem ro0[fu:Fu]{d e s:Nat}(h:axA fr cf=some (d,e,s))(hgo:goA tt n fu.n fr own cf (.rw d) [(d,some (.b e s [] true))] [d]=⟨vc,fr',own',cf'⟩)(k:CfS prog GB C n Q0 fr' own' cf')
  (hv:aah vc:=by first|exact trivial|(simp only[aah];kernel_rfl)|(simp only[aah];omega)|(simp only[aah,aJ,bX,aU];omega)):CfS prog GB C n Q0 fr own cf:=by
 unfold axA at h
 split at h<;>try (cases h;done)
 rename_i hh
 split at h<;>cases h
 rename_i hT
 have:=afD (ab2 _ _ hT) rfl
 exact us hh aAt hgo hv k
/-! append -/
structure ApA where
 d:Nat
 nm:Option Nat
 e:Nat
 s:Nat
 b:Nat
 ds:List DV
 ds2:List DV
def aDy(fr:FrX)(own:OwX)(cf:Cf):Option ApA:=match opC fr cf with
 |some ⟨some d, .call ⟨.builtin .append,⟨[x,y]⟩,⟨[t,t']⟩⟩,_,_,_,_⟩=>match abD tt t with
  |some ⟨.sl e s b,_,_,_⟩=>match abD tt t' with
   |some ⟨.sl _ _ _,_,_,_⟩=>match abD tt e with
    |some i=>match zeE i with
     |some z=>bif Nat.beq z.cells.length s&&Nat.blt 0 b then(match atK (lkC fr cf) (bkC fr own cf) s y with
      |some ds2=>match evX (lkC fr cf) x with
       |some (.rw nm)=>match bkC fr own cf nm with
        |some (.b e' s' ds true)=>bif (Nat.beq e' e&&Nat.beq s' s)&&!Nat.beq nm d then some ⟨d,some nm,e,s,b,ds,ds2⟩ else none
        |_=>none
       |some (.ct ds)=>some ⟨d,none,e,s,b,ds,ds2⟩
       |some .nl=>some ⟨d,none,e,s,b,[],ds2⟩
       |_=>none
      |none=>none) else none
     |none=>none
    |none=>none
   |_=>none
  |_=>none
 |_=>none
def aBl(d:Nat)(nm:Option Nat)(B:Bk):List (Nat×Option Bk):=match nm with
 |some nm=>[(nm,none),(d,some B)]
 |none=>[(d,some B)]
theorem aru{d:Nat}{nm:Option Nat}{e s b:Nat}{ds ds2:List DV}(h:aDy fr own cf=some ⟨d,nm,e,s,b,ds,ds2⟩)(ds':List DV)(hds:ds++ds2=ds')(ho:nm.isNone=true→acI s ds∧0<ds2.length)(ho2:acI s ds2)(hbd:(ds.length+ds2.length)*b≤140737488355328):
  ∃o,opC fr cf=some o∧o.dst=some d∧OpR prog GB C n (lkC fr cf) (bkC fr own cf) o (.rw d) (aBl d nm (.b e s ds' true)) [d]:=by
 unfold aDy at h
 split at h<;>try (cases h;done)
 rename_i hh
 split at h<;>try (cases h;done)
 rename_i hT
 split at h<;>try (cases h;done)
 rename_i hT'
 split at h<;>try (cases h;done)
 rename_i hi
 split at h<;>try (cases h;done)
 rename_i hz
 rw[cond_eq_ite] at h
 split at h<;>try (cases h;done)
 rename_i hc
 simp only[bL] at hc
 split at h<;>try (cases h;done)
 rename_i hy
 have:=afD (ab2 _ _ hT) rfl
 have hN:TyN prog _:=⟨_,(afD (ab2 _ _ hT') rfl).un⟩
 refine⟨_,hh,?_⟩
 split at h<;>try (cases h;done)
 ·rename_i hx
  split at h<;>try (cases h;done)
  rename_i hb
  rw[cond_eq_ite] at h
  split at h<;>cases h
  rename_i hq
  simp only[bL,fS] at hq
  cases aT hq.1.1
  cases aT hq.1.2
  exact⟨rfl,aAb (ab2 _ _ hi) hz hc.1 hx hb hy ho2 hc.2 hbd hq.2 hds⟩
 ·rename_i hx
  cases h
  obtain⟨h1,h2⟩:=ho rfl
  exact⟨rfl,atd (ab2 _ _ hi) hz hc.1 (.inl hx) h1 hy ho2 h2 hc.2 hbd hds⟩
 ·rename_i hx
  cases h
  obtain⟨h1,h2⟩:=ho rfl
  exact⟨rfl,atd (ab2 _ _ hi) hz hc.1 (.inr ⟨hx,rfl⟩) h1 hy ho2 h2 hc.2 hbd hds⟩
theorem ap[fu:Fu]{d:Nat}{nm:Option Nat}{e s b:Nat}{ds ds2:List DV}(ds':List DV)(h:aDy fr own cf=some ⟨d,nm,e,s,b,ds,ds2⟩)(hds:ds++ds2=ds')(ho2:acI s ds2)(hgo:goA tt n fu.n fr own cf (.rw d) (aBl d nm (.b e s ds' true)) [d]=⟨vc,fr',own',cf'⟩)(k:CfS prog GB C n Q0 fr' own' cf')
  (ho:nm.isNone=true→acI s ds∧0<ds2.length:=by intro h;first|(cases h;done)|exact⟨ahp rfl,by simp⟩)(hbd:(ds.length+ds2.length)*b≤140737488355328:=by simp;omega)
  (hv:aah vc:=by first|exact trivial|(simp only[aah];kernel_rfl)|(simp only[aah];omega)|(simp only[aah,aJ,bX,aU];omega)):CfS prog GB C n Q0 fr own cf:=by
 obtain⟨o,h1,_,h3⟩:=aru (GB:=GB) (C:=C) (n:=n) h ds' hds ho ho2 hbd
 exact us h1 h3 hgo hv k
/-! slices -/
def aE6(fr:FrX)(cf:Cf):Option (List DV×Int×Int×Nat×Bool):=match opC fr cf with
 |some ⟨_, .slice t x lo hi mx,_,_,_,_⟩=>match evD (lkC fr cf) x with
  |some (.sl l)=>match abD tt t with
   |some ⟨.sl _ s _,_,_,_⟩=>match bdX (lkC fr cf) 0 lo,bdX (lkC fr cf) l.length hi with
    |some i,some j=>match mx with
     |none=>some (l,i,j,s,false)
     |some _=>none
    |_,_=>none
   |_=>none
  |_=>none
 |_=>none
theorem sc'[fu:Fu]{l:List DV}{i j:Int}{s:Nat}(nlo nhi:Nat)(ls:List DV)(h:aE6 fr cf=some (l,i,j,s,false))(ei:i=nlo)(ej:j=nhi)(hls:(l.take nhi).drop nlo=ls)(ho:acI s l)(h1:nlo≤nhi)(h2:nhi≤l.length)
  (hgo:goA tt n fu.n fr own cf (.d (.sl ls)) [] []=⟨vc,fr',own',cf'⟩)(k:CfS prog GB C n Q0 fr' own' cf')
  (hv:aah vc:=by first|exact trivial|(simp only[aah];kernel_rfl)|(simp only[aah];omega)|(simp only[aah,aJ,bX,aU];omega)):CfS prog GB C n Q0 fr own cf:=by
 unfold aE6 at h
 split at h<;>try (cases h;done)
 rename_i hh
 split at h<;>try (cases h;done)
 rename_i hx
 split at h<;>try (cases h;done)
 rename_i hT
 split at h<;>try (cases h;done)
 rename_i hi hj
 split at h<;>cases h
 have:=afD (ab2 _ _ hT) rfl
 subst ei ej hls
 exact us hh (aCc hx ho hi hj h1 h2) hgo hv k
def aFm(fr:FrX)(cf:Cf):Option (List DV×Int×Int×Nat):=match opC fr cf with
 |some ⟨_, .slice t x none (some hi) (some mx),_,_,_,_⟩=>match evD (lkC fr cf) x with
  |some (.sl l)=>match abD tt t with
   |some ⟨.sl _ s _,_,_,_⟩=>match bdX (lkC fr cf) 0 (some hi),bdX (lkC fr cf) 0 (some mx) with
    |some i,some j=>some (l,i,j,s)
    |_,_=>none
   |_=>none
  |_=>none
 |_=>none
theorem s3[fu:Fu]{l:List DV}{i j:Int}{s:Nat}(nhi:Nat)(ls:List DV)(h:aFm fr cf=some (l,i,j,s))(ei:i=nhi)(ej:j=nhi)(hls:l.take nhi=ls)(ho:acI s l)(h2:nhi≤l.length)
  (hgo:goA tt n fu.n fr own cf (.ct ls) [] []=⟨vc,fr',own',cf'⟩)(k:CfS prog GB C n Q0 fr' own' cf')
  (hv:aah vc:=by first|exact trivial|(simp only[aah];kernel_rfl)|(simp only[aah];omega)|(simp only[aah,aJ,bX,aU];omega)):CfS prog GB C n Q0 fr own cf:=by
 unfold aFm at h
 split at h<;>try (cases h;done)
 rename_i hh
 split at h<;>try (cases h;done)
 rename_i hx
 split at h<;>try (cases h;done)
 rename_i hT
 split at h<;>cases h
 rename_i hi hj
 have:=afD (ab2 _ _ hT) rfl
 subst ei ej hls
 exact us hh (ay9 hx ho hi hj h2) hgo hv k
def aFC(fr:FrX)(cf:Cf):Option (Nat×List DV):=match opC fr cf with
 |some ⟨some d, .box _ x,_,_,_,_⟩=>match evX (lkC fr cf) x with
  |some f=>bif f.okc&&aAK f d then(match ad0 f.cells with
   |some l=>some (d,l)
   |none=>none) else none
  |none=>none
 |_=>none
end
end Go.Sx
end
