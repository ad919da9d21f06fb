import Derived.Test.YthhjilnhmkheeaaGreatDoorMr5
set_option linter.all false
set_option maxRecDepth 100000
section
namespace Go.Sx
open Go Go.Proofs Tryz
section
variable {GB:Gh} {C:aH} {n:Nat} {Q0:Exit->Act->World->Prop} {fr fr':aD} {own own':aO} {cf cf':Cf} {vc vc':List Prop} {ops:Array Oper} {r:List Oper} {o:Oper} {K:List Kt}
def pI(row:Bool)(nm:Nat)(l:List DV):FX->FX
 | .rw m=>bif Nat.beq m nm then(bif row then .d (.sl l) else .no) else .rw m
 | .ov m off=>bif Nat.beq m nm then(bif row then .no else(match off with
  |0=> .d (.pt l)
  |_+1=> .no)) else .ov m off
 | .be m s i j=>bif Nat.beq m nm then .no else .be m s i j
 | .rs m s i j=>bif Nat.beq m nm then .no else .rs m s i j
 | .bx tp pre m post=>bif Nat.beq m nm then(bif row then(match tp with
  |true=> .d (.tp (pre++ .sl l::post))
  |false=> .d (.ag (pre++ .sl l::post))) else .no) else .bx tp pre m post
 |f=>f
def Ca{α:Type}(f:FX)(k:FX->α):α:=match f with
 | .d x=>k (.d x)
 | .rw m=>k (.rw m)
 | .ov a b=>k (.ov a b)
 | .be a b c d=>k (.be a b c d)
 | .rs a b c d=>k (.rs a b c d)
 |f=>k f
def Fb{α:Type}{f:FX}{k:FX->α}:Ca f k=k f:=by cases f<;>rfl
def Cl{α:Type}(row:Bool)(nm:Nat)(l:List DV):aD->(aD->α)->α
 |[],k=>k []
 |(j,f)::t,k=>Cl row nm l t fun t'=>Ca (pI row nm l f) fun f'=>k ((j,f')::t')
def Er{α:Type}(row:Bool)(nm:Nat)(l:List DV):List FX->(List FX->α)->α
 |[],k=>k []
 |f::t,k=>Er row nm l t fun t'=>Ca (pI row nm l f) fun f'=>k (f'::t')
def BE{α:Type}(row:Bool)(nm:Nat)(l:List DV):aO->(aO->α)->α
 |[],k=>k []
 |(j,B)::t,k=>BE row nm l t fun t'=>bif Nat.beq j nm then k ((j,none)::t') else match B with
  |some (.o ty cs lo)=>Er row nm l cs fun cs'=>k ((j,some (.o ty cs' lo))::t')
  |B=>k ((j,B)::t')
def vV(row:Bool)(nm:Nat)(l:List DV):Option Bk->Option Bk
 |some (.o ty cs lo)=>some (.o ty (cs.map (pI row nm l)) lo)
 |B=>B
def Qm{α:Type}{row:Bool}{nm:Nat}{l:List DV}: ∀{cs:List FX} {k:List FX->α},Er row nm l cs k=k (cs.map (pI row nm l))
 |[],k=>rfl
 |f::t,k=>by simp only[Er,Fb];rw[Qm];rfl
def Gg{α:Type}{row:Bool}{nm:Nat}{l:List DV}: ∀{fr:aD} {k:aD->α},Cl row nm l fr k=k (fr.map fun e=>(e.1,pI row nm l e.2))
 |[],k=>rfl
 |(j,f)::t,k=>by simp only[Cl,Fb];rw[Gg];rfl
def Ko{α:Type}{row:Bool}{nm:Nat}{l:List DV}: ∀{own:aO} {k:aO->α},BE row nm l own k=k (own.map fun e=>(e.1,bif Nat.beq e.1 nm then none else vV row nm l e.2))
 |[],k=>rfl
 |(j,B)::t,k=>by
  simp only[BE,Ko (own:=t),cJ]
  cases Nat.beq j nm with
  |true=>rfl
  |false=>
   cases B with
   |none=>rfl
   |some B=>cases B<;>simp only[cond_false,Qm,vV]
def Dv{g:FX->FX}: ∀{fr:aD} {k:Nat},bh (fr.map fun e=>(e.1,g e.2)) k=(bh fr k).map g
 |[],k=>rfl
 |(j,f)::t,k=>by
  simp only[cJ];rw[kH,kH,Dv (fr:=t)];split<;>rfl
def OA{row:Bool}{nm:Nat}{l:List DV}: ∀{own:aO} {k:Nat},bj (own.map fun e=>(e.1,bif Nat.beq e.1 nm then none else vV row nm l e.2)) k=if k=nm then none else vV row nm l (bj own k)
 |[],k=>by simp[bj,vV]
 |(j,B)::t,k=>by
  simp only[cJ];rw[ks,ks,OA (own:=t)];by_cases h:k=j
  .subst h
   simp only[if_true];by_cases e:k=nm
   .subst e;simp
   .have:Nat.beq k nm=false:=by
     cases hb:Nat.beq k nm with
     |false=>rfl
     |true=>exact absurd (aL hb) e
    simp[this,e]
  .simp[h]
structure A7 where
 fr:aD
 own:aO
def AG(fr:aD)(own:aO)(nm:Nat):Option A7:=match bj own nm with
 |some (.b _ _ ds true)=>Cl true nm ds fr fun fr'=>BE true nm ds own fun own'=>some ⟨fr',own'⟩
 |some (.o _ cs true)=>match jy cs with
  |some l=>Cl false nm l fr fun fr'=>BE false nm l own fun own'=>some ⟨fr',own'⟩
  |none=>none
 |_=>none
def kI.of_mem{o:az}: ∀{own:List az},o∈own-> ∃own',kI own o own'/\ ∀x∈own,x.b≠o.b->x∈own'
 |[],h=>by cases h
 |x::t,h=>by
  rcases aW.1 h with rfl|h
  .exact⟨t, .hd ..,fun y hy hb=>(aW.1 hy).elim (fun e=>absurd okC hb) id⟩
  .obtain⟨own',h1,h2⟩:=kI.of_mem h
   exact⟨x::own', .tl _ _ _ _ h1,fun y hy hb=>(aW.1 hy).elim (fun e=>by rw[e];exact aQ) (fun e=>aX _ (h2 y e hb))⟩
def N3{row:Bool}{nm:Nat}{l:List DV}{ρ:NE}{G G':Gh}{f:FX}{y:Value}(hg:cc G G')(h:ce ρ G f y)(hr:row=true-> ∀y,ce ρ G (.rw nm) y->Is G' (.sl l) y)(ho:row=false-> ∀y,ce ρ G (.ov nm 0) y->Is G' (.pt l) y):ce ρ G' (pI row nm l f) y:=by
 cases f with
 |rw m=>
  simp only[pI]
  cases hb:Nat.beq m nm with
  |false=>exact h.up hg
  |true=>
   cases aL hb
   cases row with
   |true=>exact hr J y h
   |false=>trivial
 |ov m off=>
  simp only[pI]
  cases hb:Nat.beq m nm with
  |false=>exact h.up hg
  |true=>
   cases aL hb
   cases row with
   |true=>trivial
   |false=>cases off with
    |zero=>exact ho J y h
    |succ=>trivial
 |be m s i j=>
  simp only[pI]
  cases hb:Nat.beq m nm with
  |false=>exact h.up hg
  |true=>trivial
 |rs m s i j=>
  simp only[pI]
  cases hb:Nat.beq m nm with
  |false=>exact h.up hg
  |true=>trivial
 |bx tp pre m post=>
  simp only[pI]
  cases hb:Nat.beq m nm with
  |false=>exact h.up hg
  |true=>
   cases aL hb
   cases row with
   |false=>trivial
   |true=>
    obtain⟨m1,m2,e,h1,h2⟩:=h;have hl:=(h1.up hg).app (.cons (hr J _ J) (h2.up hg))
    cases tp with
    |true=>exact mm.2 ⟨_,e,hl⟩
    |false=>exact fC.2 ⟨_,e,hl⟩
 |_=>exact h.up hg
def Pf{row:Bool}{nm:Nat}{l:List DV}{ρ:NE}{G G':Gh}(hg:cc G G')(hr:row=true-> ∀y,ce ρ G (.rw nm) y->Is G' (.sl l) y)(ho:row=false-> ∀y,ce ρ G (.ov nm 0) y->Is G' (.pt l) y): ∀{cs:List FX} {m:List Value},eh ρ G cs m->eh ρ G' (cs.map (pI row nm l)) m
 |[],m,h=>h
 |f::t,m,⟨y,q,e,h1,h2⟩=>⟨y,q,e,N3 hg h1 hr ho,Pf hg hr ho h2⟩
def bH.frz{ρ:NE}{G G':Gh}{ov ov':List az}{a:Act}{w:World}{row:Bool}{nm:Nat}{l:List DV}(h:bH GB C n (bh fr) (bj own) ρ G ov a w)(hg:cc G G')(hh:bC C ov' G' w)(hv: ∀o∈ov,(ρ nm).a≠some ⟨o.b,0,none⟩->o∈ov'){B0:Bk}(hb:bj own nm=some B0)
  (hr:row=true-> ∀y,ce ρ G (.rw nm) y->Is G' (.sl l) y)(ho:row=false-> ∀y,ce ρ G (.ov nm 0) y->Is G' (.pt l) y):
  bH GB C n (bh (fr.map fun e=>(e.1,pI row nm l e.2))) (bj (own.map fun e=>(e.1,bif Nat.beq e.1 nm then none else vV row nm l e.2))) ρ G' ov' a w:=by
 have inv: ∀m B,bj (own.map fun e=>(e.1,bif Nat.beq e.1 nm then none else vV row nm l e.2)) m=some B->m≠nm/\ ∃B1,bj own m=some B1/\vV row nm l (some B1)=some B:=fun m B e=>by
  rw[OA] at e;split at e
  .cases e
  .rename_i hm
   refine⟨hm,?_⟩
   cases hl:bj own m with
   |none=>rw[hl] at e;cases e
   |some B1=>rw[hl] at e;exact⟨B1,J,e⟩
 refine⟨h.gb.trans hg,hh,h.sz,h.df,fun k f e=>?_,fun m B e=>?_,fun m m' B B' e e'=>?_,h.fxd⟩
 .rw[Dv] at e
  cases hf:bh fr k with
  |none=>rw[hf] at e;cases e
  |some g=>
   rw[hf] at e;cases e;obtain⟨y,h1,h2⟩:=h.fx k g hf;exact⟨y,h1,N3 hg h2 hr ho⟩
 .obtain⟨hm,B1,h1,h2⟩:=inv m B e
  obtain⟨os,h3,h4⟩:=h.bx m B1 h1;refine⟨os,?_,fun o ho'=>hv o (h4 o ho') fun hc=>h.dj m nm B1 B0 h1 hb hm _ (h3.blk ho') hc⟩
  cases B1 with
  |b=>cases h2;exact h3.up hg
  |c=>cases h2;exact h3.up hg
  |p=>cases h2;exact h3.up hg
  |o ty cs lo=>cases h2;obtain⟨b,q,h5,h6,h7⟩:=h3;exact⟨b,q,h5,h6,Pf hg hr ho h7⟩
 .obtain⟨_,B1,h1,_⟩:=inv m B e
  obtain⟨_,B2,h2,_⟩:=inv m' B' e';exact h.dj m m' B1 B2 h1 h2
def bH.frzRow{lk:LK}{bk:BM}{ρ:NE}{G:Gh}{ov:List az}{a:Act}{w:World}{nm:Nat}{ty:TypeId}{s:Nat}{ds:List DV}(r:bH GB C n lk bk ρ G ov a w)(hb:bk nm=some (.b ty s ds true)):
  ∃G' ov',cc G G'/\bC C ov' G' w/\(∀o∈ov,(ρ nm).a≠some ⟨o.b,0,none⟩->o∈ov')/\ ∀y,ce ρ G (.rw nm) y->Is G' (.sl ds) y:=by
 obtain⟨B,⟨vs,hB,hv,hs,hlo⟩,hBo⟩:=r.row (y:= .nilFunc) hb;rcases hB with⟨e1,e2,e3⟩|⟨b,rest,lo',e2,e3,h5,h6,h7⟩
 .subst e1
  have ed:ds=[]:=cW (by rw[<-hv.len];rfl);subst ed;simp only at e2;refine⟨G,ov,cc.refl _,r.h,fun o ho _=>ho,fun y hy=>?_⟩;rw[show y=_ from hy,e2];exact je.2 ⟨0,⟨none,0,0⟩,[],J, .nil G 0, .nil⟩
 .subst e3
  have hl:=hlo J _ aQ;simp only at hl;subst hl;obtain⟨ov',o1,o2⟩:=kI.of_mem (hBo _ aQ);obtain⟨f1,f2⟩:=r.h.freeze o1;simp only at e2;refine⟨_,ov',f2,f1,fun o ho hne=>o2 o ho fun e=>hne (by rw[e2,e]),fun y hy=>?_⟩;rw[show y=_ from hy,e2];exact je.2 ⟨s,⟨some ⟨b,0,none⟩,vs.length,_⟩,vs,J,jl.of_flat hs (if_pos J) h7,hv.up f2⟩
def bH.frzVar{lk:LK}{bk:BM}{ρ:NE}{G:Gh}{ov:List az}{a:Act}{w:World}{nm:Nat}{ty:TypeId}{cs:List FX}{l:List DV}(r:bH GB C n lk bk ρ G ov a w)(hb:bk nm=some (.o ty cs true))(hl:jy cs=some l):
  ∃G' ov',cc G G'/\bC C ov' G' w/\(∀o∈ov,(ρ nm).a≠some ⟨o.b,0,none⟩->o∈ov')/\ ∀y,ce ρ G (.ov nm 0) y->Is G' (.pt l) y:=by
 obtain⟨os,⟨b,m,h3,rfl,h4⟩,h5⟩:=r.bx _ _ hb;obtain⟨ov',o1,o2⟩:=kI.of_mem (h5 _ aQ);obtain⟨f1,f2⟩:=r.h.freeze o1;refine⟨_,ov',f2,f1,fun o ho hne=>o2 o ho fun e=>hne (by rw[h3,e]),fun y hy=>?_⟩;obtain⟨b',h6,rfl⟩:=hy;rw[h3] at h6;cases h6;exact tk.2 ⟨b,m,J,if_pos J,(rF h4 hl).up f2⟩
def Hk{nm:Nat}{Φ:Act->World->Prop}{R:A7}(h:AG fr own nm=some R)(hk:SX GB C n (bh R.fr) (bj R.own) Φ):SX GB C n (bh fr) (bj own) Φ:=by
 refine⟨fun ρ G ov a w r=>?_⟩;unfold AG at h;split at h<;>try (cases h;done)
 .rename_i ty s ds hb
  rw[Gg,Ko] at h;cases h;obtain⟨G',ov',h1,h2,h3,h4⟩:=r.frzRow hb;exact hk.run ρ G' ov' a w (r.frz (row:=true) h1 h2 h3 hb (fun _=>h4) (fun e=>by cases e))
 .rename_i ty cs hb
  split at h<;>try (cases h;done)
  rename_i l hl;rw[Gg,Ko] at h;cases h;obtain⟨G',ov',h1,h2,h3,h4⟩:=r.frzVar hb hl;exact hk.run ρ G' ov' a w (r.frz (row:=false) h1 h2 h3 hb (fun e=>by cases e) (fun _=>h4))
def fz[fu:Fu](nm:Nat){fr1:aD}{own1:aO}(h:AG fr own nm=some ⟨fr1,own1⟩)(hgo:go tt n fu.n [] fr1 own1 (.ops ops r K)=⟨vc,fr',own',cf'⟩)(k:ao prog GB C n Q0 fr' own' cf')(hv:ae vc:=by first|exact trivial|(simp only[ae];kernel_rfl)|(simp only[ae];omega)|(simp only[ae,aK,aM,aU];omega)):ao prog GB C n Q0 fr own (.ops ops r K):=
 Hk h (gD hgo hv k)
def jd(nm:Nat){fr1:aD}{own1:aO}{e:Exit}(h:AG fr own nm=some ⟨fr1,own1⟩)(k:ao prog GB C n Q0 fr1 own1 (.ex e K)):ao prog GB C n Q0 fr own (.ex e K):=Hk h k
def vL(nm:Nat){fr1:aD}{own1:aO}{c:Code}(h:AG fr own nm=some ⟨fr1,own1⟩)(k:ao prog GB C n Q0 fr1 own1 (.code c K)):ao prog GB C n Q0 fr own (.code c K):=Hk h k
def vU:aD->aD->Prop
 |[],_=>True
 |(k,v)::t,fr=>bh fr k=some v/\vU t fr
def x8:aO->aO->Prop
 |[],_=>True
 |(k,v)::t,own=>bj own k=v/\x8 t own
def wP: ∀{f:aD},vU f fr->lc (bh f) (bh fr)
 |[],_,k,x,h=>by cases h
 |(j,v)::t,h,k,x,e=>by
  rw[kH] at e;split at e
  .cases e;rename_i hk;rw[hk];exact h.1
  .exact wP h.2 k x e
def xw: ∀{f:aO},x8 f own->lc (bj f) (bj own)
 |[],_,k,x,h=>by cases h
 |(j,v)::t,h,k,x,e=>by
  rw[ks] at e;split at e
  .rename_i hk;rw[hk,h.1,e]
  .exact xw h.2 k x e
def ql{k:Nat}{q:IntKind}{a b:Int}(h:bh fr k=some (.d (.v (.int q a))))(e:a=b):bh fr k=some (.d (.v (.int q b))):=e▸h
def KP(GB:Gh)(C:aH)(n:Nat){X:Type}(F:X->aD)(O:X->aO)(I:X->Prop)(a:Act)(w:World):Prop:=
 ∃x ρ G ov,I x/\bH GB C n (bh (F x)) (bj (O x)) ρ G ov a w
def Ik:List Oper->List Nat->List Nat
 |[],l=>l
 |o::r,l=>match o.dst with
  |some d=>d::Ik r l
  |none=>Ik r l
def vu:Code->List Nat->List Nat
 | .region _ ops _,l=>Ik ops.toList l
 | .seq a b,l=>vu a (vu b l)
 | .cond _ a b,l=>vu a (vu b l)
 | .block _ a,l=>vu a l
 | .loop a,l=>vu a l
 | .scope a,l=>vu a l
 |_,l=>l
def GD{α:Type}:List Nat->aD->(aD->α)->α
 |_,[],k=>k []
 |l,(j,f)::t,k=>bif wc l j then GD l t k else GD (j::l) t fun t'=>k ((j,f)::t')
def El{α:Type}:List Nat->aO->(aO->α)->α
 |_,[],k=>k []
 |l,(j,B)::t,k=>bif wc l j then El l t k else match B with
  |some B=>El l t fun t'=>k ((j,some B)::t')
  |none=>El l t k
structure Kp where
 fr:aD
 own:aO
def keep(c:Code)(uf uo:List Nat)(fr:aD)(own:aO):Kp:=ma (vu c uo) fun m=>ma (uf++m) fun m'=>GD m' fr fun fr'=>El m own fun own'=>⟨fr',own'⟩
theorem okf{p:Prop}(h:p:=by first|omega|(dsimp only;omega)):p:=h
def lp[fu:Fu]{c:Code}{X:Type}(U:X->aD)(V:X->aO)(I:X->Prop)(μ:X->Nat)(x0:X){kf:aD}{ko:aO}{cf':X->Cf}{fr':X->aD}{own':X->aO}{vc:X->List Prop}(hkp:keep c ((U x0).map (·.1)) ((V x0).map (·.1)) fr own=⟨kf,ko⟩)(hI:I x0)
  (hgo: ∀x,go tt n fu.n [] (U x++kf) (V x++ko) (.code c (.ag (KP GB C n (fun y=>U y++kf) (fun y=>V y++ko) (fun y=>I y/\μ y<μ x))::K))=⟨vc x,fr' x,own' x,cf' x⟩)
  (round: ∀x,I x->ao prog GB C n Q0 (fr' x) (own' x) (cf' x))(hF:vU (U x0++kf) fr:=by repeat (first|exact trivial|refine And.intro J ?_|refine And.intro (ql J okf) ?_|refine And.intro (ql J omc) ?_))(hO:x8 (V x0++ko) own:=by repeat (first|exact trivial|refine And.intro J ?_))
  (hv: ∀x,I x->ae (vc x):=by intros;first|exact trivial|(simp only[ae];kernel_rfl)|(simp only[ae];omega)|(simp only[ae,aK,aM,aU];omega)):ao prog GB C n Q0 fr own (.code (.loop c) K):=by
 refine⟨fun ρ G ov a w r=>?_⟩;have r0:=r.mono (wP hF) (xw hO);intro b k cs hro hb hrm;have key: ∀m a w,(∃x ρ G ov,I x/\μ x=m/\bH GB C n (bh (U x++kf)) (bj (V x++ko)) ρ G ov a w)->
   ∃e a' w',cQ C.rd prog Q0 K e a' w'/\ArrivesIn (Machine.fenced prog (FW C.rd)) prog (lone (b.atR a (.code c:: .inLoop c::k)) cs w) b k cs e a' w':=by
  intro m
  induction m using Nat.strongRecOn with
  |_ m ih=>
   intro a w ⟨x,ρ,G,ov,hx,hm,hr⟩;have h1:=gD (GB:=GB) (C:=C) (Q0:=Q0) (hgo x) (hv x hx) (round x hx);obtain⟨e,a₁,w₁,hq,harr⟩:=h1.run ρ G ov a w hr b (.inLoop c::k) cs hro hb hrm
   cases e with
   |normal=>
    obtain⟨x',ρ',G',ov',⟨hx',hlt⟩,hr'⟩:=hq;obtain⟨e₂,a₂,w₂,hq₂,harr₂⟩:=ih (μ x') (hm▸hlt) a₁ w₁ ⟨x',ρ',G',ov',hx',rfl,hr'⟩;exact⟨e₂,a₂,w₂,hq₂, .of_steps (StepsIn.trans harr (.one (fenced_calm hb hrm J) stepR_inLoop)) harr₂⟩
   |exit id=>exact⟨_,a₁,w₁,hq, .pass (x:= .inLoop c) J (fun _ _=> .inl omc) harr⟩
   |goto l=>exact⟨_,a₁,w₁,hq, .pass (x:= .inLoop c) J (fun _ _=> .inl omc) harr⟩
   |ret=>exact⟨_,a₁,w₁,hq, .pass (x:= .inLoop c) J (fun _ _=> .inl omc) harr⟩
   |panic ch=>exact⟨_,a₁,w₁,hq, .pass (x:= .inLoop c) J (fun _ _=> .inl omc) harr⟩
   |outgrown=>exact⟨_,a₁,w₁,hq, .pass (x:= .inLoop c) J (fun _ _=> .inl omc) harr⟩
 obtain⟨e,a',w',q,rr⟩:=key (μ x0) a w ⟨x0,ρ,G,ov,hI,rfl,r0⟩;exact⟨e,a',w',q, .of_steps (.one (fenced_calm hb hrm J) stepR_loop) rr⟩
def at_{X:Type}{F:X->aD}{O:X->aO}{I:X->Prop}(x:X)(hI:I x)(hF:vU (F x) fr:=by repeat (first|exact trivial|refine And.intro J ?_|refine And.intro (ql J okf) ?_|refine And.intro (ql J omc) ?_))(hO:x8 (O x) own:=by repeat (first|exact trivial|refine And.intro J ?_)):ao prog GB C n Q0 fr own (.ex .normal (.ag (KP GB C n F O I)::K)):=
 ⟨fun ρ G ov a w r=>⟨x,ρ,G,ov,hI,r.mono (wP hF) (xw hO)⟩⟩
def mg[fu:Fu]{c d:Code}{X:Type}(U:X->aD)(V:X->aO)(I:X->Prop){kf:aD}{ko:aO}{cf':X->Cf}{fr':X->aD}{own':X->aO}{vc:X->List Prop}(u0 v0:List Nat)(hkp:keep c u0 v0 fr own=⟨kf,ko⟩)
  (h1:ao prog GB C n Q0 fr own (.code c (.ag (KP GB C n (fun y=>U y++kf) (fun y=>V y++ko) I)::K)))
  (hgo: ∀x,go tt n fu.n [] (U x++kf) (V x++ko) (.code d K)=⟨vc x,fr' x,own' x,cf' x⟩)(k: ∀x,I x->ao prog GB C n Q0 (fr' x) (own' x) (cf' x))(hv: ∀x,I x->ae (vc x):=by intros;first|exact trivial|(simp only[ae];kernel_rfl)|(simp only[ae];omega)|(simp only[ae,aK,aM,aU];omega)):ao prog GB C n Q0 fr own (.code c (.sq d::K)):=by
 refine SX.imp h1 fun a w h=>Yg h ?_;intro e a w h
 cases e with
 |normal=>
  obtain⟨x,ρ,G,ov,hI,hr⟩:=h;have:=gD (GB:=GB) (C:=C) (Q0:=Q0) (hgo x) (hv x hI) (k x hI);exact this.run ρ G ov a w hr
 |_=>exact h
end
end Go.Sx
end
section
namespace Go.Sx
open Go
section
variable {P:Program} {ops:Array Oper} {Q:Exit->Act->World->Prop} {S:World->Prop} {π₂:List (Nat×Bool)}
end
section
variable {P:Program} {GB:Gh} {C:aH} {n:Nat} {fr fr':nI} {own own' own0 own1 own1':List lz} {bs bs0 bs1 bs1':List jF} {ops:Array Oper} {Q:Exit->Act->World->Prop} {fd:List FD} {π π₂:List (Nat×Bool)}
structure SR (GB:Gh) (C:aH) (n:Nat) (fr:nI) (own0:List lz) (bs0:List jF) (own1:List lz) (bs1:List jF) (fd:List FD) (K:List Nat->(World->Prop)->Act->World->Prop):Prop where
 run: ∀G frv o0 o1,cc GB G->Du G fr frv->OB G own0 bs0 o0->OB G own1 bs1 o1-> ∀fs:Fs,St C n (frv++JP fd fs) (o1++(o0++F8 fd fs)) G (K (MD fd fs) (HS C o0 G))
instance {GB:Gh} {C:aH} {n:Nat} {fr:nI} {own0:List lz} {bs0:List jF} {own1:List lz} {bs1:List jF} {fd:List FD} {K:List Nat->(World->Prop)->Act->World->Prop}:CoeFun (SR GB C n fr own0 bs0 own1 bs1 fd K) (fun _=> ∀G frv o0 o1,cc GB G->Du G fr frv->OB G own0 bs0 o0->OB G own1 bs1 o1-> ∀fs:Fs,St C n (frv++JP fd fs) (o1++(o0++F8 fd fs)) G (K (MD fd fs) (HS C o0 G))):=⟨SR.run⟩
end
section
variable {P:Program} {GB:Gh} {C:aH} {n:Nat} {E:wq} {fr fr':nI} {own own':List lz} {bs bs' bs1:List jF} {ops:Array Oper} {Q:Exit->Act->World->Prop} {r:List Oper} {Φ:Act->World->Prop}
variable {dst:Option Nat} {t t' ty':TypeId} {pos:String} {af:Array Edge} {gd:Option (Nat×Bool)} {x y z:Operand} {e s by_:Nat}
def PB(GB:Gh)(P:Program)(f:FuncId)(mk:SV->List DV)(s:Nat)(ty:TypeId)(dsi:List DV)(mkr:SV->DV)(dso:List DV):Prop:=
 ∀G w vs B,cc GB G->eB G ⟨w,s,ty,dsi,false⟩ B->IsLs G (mk w) vs->oO P f vs B G (fun v own' G'=> ∃w',Is G' (mkr w') v/\eB G' ⟨w',s,ty,dso,false⟩ own')
def eB.asB{G:Gh}{w:SV}{ty:TypeId}{ds:List DV}{lo:Bool}{B:List az}(h:eB G ⟨w,s,ty,ds,lo⟩ B):eB G ⟨w,s,ty,ds,false⟩ (Sx.asB B):=by
 obtain⟨vs,h1,h2,h3,h4⟩:=h;exact⟨vs,h1.asB,h2,h3,fun h=>by cases h⟩
def eB.weak{G:Gh}{w:SV}{ty:TypeId}{ds:List DV}{lo:Bool}{B:List az}(h:eB G ⟨w,s,ty,ds,lo⟩ B):eB G ⟨w,s,ty,ds,false⟩ B:=by
 obtain⟨vs,h1,h2,h3,h4⟩:=h;exact⟨vs,h1,h2,h3,fun h=>by cases h⟩
end
section
variable {P:Program} {GB:Gh} {C:aH} {n:Nat} {E:wq} {fr fr':nI} {own own':List lz} {bs bs' bs1:List jF} {ops:Array Oper} {Q:Exit->Act->World->Prop} {r:List Oper} {Φ:Act->World->Prop}
variable {dst:Option Nat} {t t' ty':TypeId} {pos:String} {af:Array Edge} {gd:Option (Nat×Bool)} {x y z:Operand} {e s by_:Nat}
def PN(GB:Gh)(P:Program)(f:FuncId)(ds:List DV)(ty:TypeId)(ι:Type)(cs:ι->List DV):Prop:=
 ∀G vs,cc GB G->IsLs G ds vs->oO P f vs [] G (fun v own' G'=> ∃x b m,v= .pointer (some ⟨b,0,none⟩)/\own'=[⟨b,m,ty,true⟩]/\IsLs G' (cs x) m)
end
section
variable {P:Program} {GB:Gh} {C:aH} {n:Nat} {fr:nI} {own:List lz} {bs:List jF}
variable {dst:Option Nat} {t t' ty':TypeId} {pos:String} {af:Array Edge} {gd:Option (Nat×Bool)} {x y z:Operand}
def axk{fr:Fr}{own:List az}{G:Gh}{fn:Func}{K:Value->List az->Gh->Prop}{vs:List Value}(hr:lD P fr own fn.results.toList vs)(own2 own3:List az)(hp:own.Perm own2)(hs:own3.Sublist own2)(hk:own3.Pairwise (fun x y=>x.b≠y.b)->K (qo vs) own3 G):St C n fr own G (gu C P fn (vE C K) .ret):=
 fun a w rl hmk=>⟨rl.df.trans hmk,_,wx hr rl.fr rl.h,_,own3,G,J,(rl.h.perm hp).drop hs,hk ((rl.h.perm hp).drop hs).nd⟩
variable {e s by_:Nat}
def UP{G:Gh}{l:List DV}{w:SV}{es:List Value}{s' nhi mx':Nat}(hsl:jl G s' w es)(hl:IsLs G l es)(ho:dH s l)(h2:nhi<=l.length)(hm1:nhi<=mx')(hm2:mx'<=w.c):Is G (.sl (l.take nhi)) (.slice w.a nhi mx'):=by
 have hn:=hsl.len;have hcap:=hsl.cap;have hll:=hl.len;have e9: ∀s,nP w.a w.n w.c 0 nhi mx' s= .slice w.a nhi mx':=by
  intro s;unfold nP
  cases w.a with
  |none=>simp
  |some ad=>simp[Addr.add]
 rcases Cg hsl hl ho with he|he
 .subst he
  have:l=[]:=cW (by rw[<-hll];rfl);subst this;have e1:nhi=0:=by simp at h2;exact h2
  subst e1;refine je.2 ⟨s,⟨_,0,mx'⟩,[],J,⟨J,bS _, .inl J⟩,by simpa using IsLs.nil⟩
 .subst he
  have k:=hsl.sub 0 nhi mx' (bS _) we hm1 hm2;have k2:=je.2 ⟨s',⟨_,_,_⟩,_,J,k,(hl.take nhi).drop 0⟩;rw[gJ] at k2;have e:=e9 s';unfold nP at e;revert k2;simp only[] at*;intro k2
  first|exact e▸k2|(simp at e k2⊢;first|exact k2|(cases hw:w.a<;>simp_all [Addr.add]))
end
end Go.Sx
end
section
namespace Go.Sx
open Go Go.Proofs Tryz
section
variable {P:Program} {T:TT} {GB:Gh} {C:aH} {n:Nat} {lk:LK} {bk:BM} {ρ:NE} {G:Gh} {ov:List az} {a:Act} {w:World}
variable {dst:Option Nat} {t t' ty':TypeId} {pos:String} {af:Array Edge} {gd:Option (Nat×Bool)} {x y:Operand} {e s by_:Nat}
def Vz[hT:cO P t e s by_]{k:IntKind}{l:List DV}{d:DV}{i:Int}(hx:evD lk x=some (.sl l))(hy:ba lk y=some (.d (.v (.int k i))))(h0:0<=i)(he:l[i.toNat]? =some d)(hd:(d.okc&&Nat.beq d.cells.length s)=true):
  cg P GB C n lk bk ⟨dst, .indexAddr t x y,ty',pos,af,gd⟩ (.ep d.cells) [] []:= .yd fun ρ G ov a w r=>by
 simp only[bT] at hd;obtain⟨hd,hs⟩:=hd;obtain⟨u,h1,h2⟩:=r.evD hx;obtain⟨q,g1,g2⟩:=r.ev hy;rw[dq] at g2;subst g2;obtain⟨s',z,es,rfl,hsl,hl⟩:=je.1 h2;obtain⟨v,h3,h4⟩:=hl.get he;obtain⟨h5,h6⟩:=bQ.1 h3;have hc:=(h4.cells hd).1.len;replace hs:=aL hs;rcases hsl.mem with h|⟨b,off,cs,ha,hg,hcs⟩
 .rw[h] at h5;simp at h5
 .have h7:=hcs i.toNat h5
  rw[h6] at h7;have h8:=CX h7;have:s'=s:=by omega
  subst this;rw[ha] at h1;have hn:=hsl.len;refine⟨.pointer (some ⟨b,off+i.toNat*s',none⟩),⟨b,_,cs,aP v,J,hg,?_,(h4.cells hd).1⟩,Af h1 g1 h0 we⟩;rw[<-hc,h8];exact h7
def Bl(ag:Option Nat)(cs:List DV)(j:Nat):Option DV:=match ag with
 |some k=>match takeD cs j k with
  |some l=>some (.ag l)
  |none=>none
 |none=>cs[j]?
def aH5{i:TI}{ag:Option Nat}{nm sz k j:Nat}{ty:TypeId}{ds:List DV}{lo:Bool}{d c:DV}(hi:gh P t=some i)(ha:i.ag=some ag)(hx:ba lk x=some (.be nm sz k j))(hb:bk nm=some (.b ty sz ds lo))(he:ds[k]? =some d)(hd:d.okc=true)(hl:Bl ag d.cells j=some c):
  cg P GB C n lk bk ⟨dst, .load t x,ty',pos,af,gd⟩ (.d c) [] []:= .x1 hx fun ρ G ov a w y _ r h1 h2=>by
 obtain⟨b,hwb,rfl⟩:=h2;obtain⟨B,hB,hmem⟩:=r.row (y:= .nilFunc) hb;obtain⟨b',m,rest,lo',l0,e1,rfl,h3,h4⟩:=hB.elem he hd;simp only[] at e1 h3;rw[hwb] at e1;cases e1;have oat:jf ov b (m++rest) ty lo':=⟨hmem _ aQ⟩
 cases ag with
 |some k'=>
  have:=xq hi ha;simp only[Bl] at hl;split at hl<;>cases hl;rename_i hl;obtain⟨l',h5,h6⟩:=h4.takeD hl;exact⟨.agg ⟨l'⟩,fC.2 ⟨l',J,h6⟩,Ag h1 (NB h3 h5)⟩
 |none=>
  have:=y6 hi ha;simp only[Bl] at hl;obtain⟨l',h5,h6⟩:=h4.get hl;have hj:j<sz:=by
   have:=CX h3;have h7:=(bQ.1 h5).1;omega
  exact⟨l',h6,ue h1 (by rw[K7 h3 hj];exact h5)⟩
def eB.toBk{nm:Nat}{s:Nat}{ty:TypeId}{ds:List DV}{lo:Bool}{B:List az}{x:SV}(h:eB G ⟨x,s,ty,ds,lo⟩ B)(e:ρ nm=x):mp ρ G nm (.b ty s ds lo) B:=by
 obtain⟨vs,h1,h2,h3,h4⟩:=h;exact⟨vs,by rw[e];exact h1,h2,h3,h4⟩
theorem okW{p:Prop}(h:p:=by show _=_;simp):p:=h
def bH.newRow(r:bH GB C n lk bk ρ G ov a w){d:Nat}{z:SV}{ty:TypeId}{s:Nat}{ds:List DV}{B ov':List az}{K:Act->World->Prop}{a':Act}{w':World}(hf:kO [d] (some d) lk bk)(hB:eB G ⟨z,s,ty,ds,true⟩ B)(hos: ∀o∈B,o∈ov')
  (hov: ∀m B',m≠d->bk m=some B'-> ∀o∈ov,(ρ m).a=some ⟨o.b,0,none⟩->o∈ov'/\z.a≠some ⟨o.b,0,none⟩)
  (hk:SX GB C n (fB lk (some d) (.rw d)) (Sx.upB bk [(d,some (.b ty s ds true))]) K)(rl:jg C n (Sx.put (de a) (some d) (.slice z.a z.n z.c)) ov' G a' w'):K a' w':=
 hk.run _ _ _ a' w' (r.new' (x:=z) (f:= .rw d) (y:= .slice z.a z.n z.c) hf (cc.refl _) rl.h (hB.toBk omc) hos hov okW (ld rl))
def om(i:TI):Option DV:=match i.z with
 |some z=>match jy z with
  |some zs=>bif i.za then(bif zs.all DV.flat then some (.ag zs) else none) else(match zs with
   |[d]=>bif d.flat then some d else none
   |_=>none)
  |none=>none
 |none=>none
def Yz{d:DV}(h:d.flat=true):d.cells=[d]/\d.okc=true:=by
 cases d<;>first|exact⟨J,h⟩|cases h
theorem xG{i:TI}{d:DV}(hi:gh P e=some i)(h:om i=some d): ∃v,jC P e v/\(∀G,Is G d v)/\d.okc=true:=by
 obtain⟨j,hj,hij⟩:=sj hi;unfold om at h;split at h<;>try (cases h;done)
 rename_i z hz;split at h<;>try (cases h;done)
 rename_i zs hzs;obtain⟨v,h1,h2⟩:=As hi hz;have h3: ∀G,IsLs G zs (aP v):=fun G=>rF (h2 (fun _=>⟨none,0,0⟩) G) hzs;have hzv:j.zero=some v:=by have:=h1.inf;rw[hj] at this;simpa using this
 have hza:i.za=J4 (some v):=by rw[hij,<-hzv]
 cases hb:i.za with
 |true=>
  rw[hb] at h hza
  cases hc:zs.all DV.flat with
  |false=>rw[hc] at h;cases h
  |true=>
   rw[hc] at h;cases h
   cases v<;>first|(cases hza;done)|skip
   rename_i cs;exact⟨_,h1,fun G=>fC.2 ⟨cs.toList,omc,h3 G⟩,hc⟩
 |false=>
  rw[hb,cond_false] at h;rw[hb] at hza;split at h<;>try (cases h;done)
  rename_i u
  cases hc:u.flat with
  |false=>rw[hc] at h;cases h
  |true=>
   rw[hc] at h;cases h;have hv:aP v=[v]:=by cases v<;>first|rfl|(cases hza;done)
   refine⟨v,h1,fun G=>?_,(Yz hc).2⟩;have:=h3 G;rw[hv] at this;exact this.uncons.1
def aDT{d:Nat}{i:TI}{z:DV}{k k':IntKind}{l:Int}{ds:List DV}[hT:cO P t e s by_](hi:gh P e=some i)(hz:om i=some z)(hs:Nat.beq z.cells.length s=true)(hx:ba lk x=some (.d (.v (.int k l))))(hy:ba lk y=some (.d (.v (.int k' l))))(h0:0<=l)(hb:by_*l<=140737488355328)(hl:l<=1152921504606846976)(hds:List.replicate l.toNat z=ds):
  cg P GB C n lk bk ⟨some d, .makeSlice t x y,ty',pos,af,gd⟩ (.rw d) [(d,some (.b e s ds true))] [d]:=by
 intro hd tl tb K s1 s2 hf hk;refine⟨fun ρ G ov a w r Q=>?_⟩;subst hds;obtain⟨v,hz1,hz2,hz3⟩:=xG hi hz;obtain⟨q1,p1,p2⟩:=(r.mono s1 s2).ev hx;obtain⟨q2,p3,p4⟩:=(r.mono s1 s2).ev hy;rw[dq] at p2 p4;subst p2 p4;have c1:=((hz2 G).cells hz3).1.len;replace hs:=aL hs;have e1: ∀u∈List.replicate l.toNat v,(aP u).length=s:=fun u hu=>by rw[mZ hu,c1,hs]
 refine LT p1 p3 h0 hb hl (by rw[c1,hs]) hd (fun b a' w' rl=>?_) a w Q ⟨r.h,r.sz,dt a,r.df⟩;have hnd:=(bM.1 rl.h.nd).1;refine r.newRow (z:=⟨some ⟨b,0,none⟩,l.toNat,l.toNat⟩) (B:=[⟨b,fe v l.toNat,e,true⟩]) hf ⟨List.replicate l.toNat v, .inr ⟨b,[],true,omc,by rw[ajY,lZ],f7 _ e1,by rw[f7 _ e1];simp,omc⟩,P5 (hz2 G) _,e1,fun _ o ho=>by rw[aV.1 ho]⟩
  (fun o ho=>by rw[aV.1 ho];exact aQ) (fun m B' _ _ o ho _=>⟨aX _ ho,fun e'=>?_⟩) hk rl
 cases e';exact hnd o ho J
def zc(lk:LK):Nat->List (Nat×Operand)->Option (List DV)
 |_,[]=>some []
 |j,(i,x)::r=>match evD lk x,zc lk (j+1) r with
  |some d,some l=>bif Nat.beq i j then some (d::l) else none
  |_,_=>none
def T8(r:bH GB C n lk bk ρ G ov a w){zv:Value}(hz:(aP zv).length=s): ∀(ps:List (Nat×Operand)) (j:Nat) (pre:List Value) (ds:List DV),zc lk j ps=some ds->pre.length=j*s->(∀d∈ds,d.okc=true/\d.cells.length=s)->
  ∃vs,vH (de a) s (pre++fe zv ps.length) ps=some (pre++aG vs)/\IsLs G ds vs/\(∀v∈vs,(aP v).length=s)/\vs.length=ps.length
 |[],j,pre,ds,e,hp,hd=>by
  simp only[zc] at e;cases e;exact⟨[],by simp[vH,fe,aG], .nil,omc,J⟩
 |(i,x)::ps,j,pre,ds,e,hp,hd=>by
  simp only[zc] at e;split at e
  .rename_i d l hx hl
   cases hb:Nat.beq i j with
   |false=>rw[hb] at e;cases e
   |true=>
    rw[hb] at e
    cases e
    have:=aL hb;subst this;obtain⟨y,hy,hy'⟩:=r.evD hx;obtain⟨k1,k2⟩:=hd d aQ;have c1:=(hy'.cells k1).1.len;have hov:dd (pre++fe zv (ps.length+1)) (i*s) (aP y)=(pre++aP y)++fe zv ps.length:=by
     rw[Y9,<-hp,Mg _ _ _ _ (by rw[c1,k2,hz]),gX]
    obtain⟨vs,h1,h2,h3,h4⟩:=T8 r hz ps (i+1) (pre++aP y) l hl (by rw[aR,c1,k2,hp,iN]) (fun d hd'=>hd d (aX _ hd'));refine⟨y::vs,?_, .cons hy' h2,fun v hv=>?_,by simp[h4]⟩
    .simp only[vH,hy,bZ]
     rw[if_pos ⟨by rw[c1,k2],by rw[aR,qy,hz,hp,iN];omega⟩,hov,h1];simp[aG]
    .rcases aW.1 hv with rfl|hv
     .rw[c1,k2]
     .exact h3 v hv
  .cases e
def aJu{d:Nat}{i:TI}{z:DV}{len:Nat}{parts:Array (Nat×Operand)}{ds:List DV}[hT:cO P t e s by_](hi:gh P e=some i)(hz:om i=some z)(hs:Nat.beq z.cells.length s=true)(hb:zc lk 0 parts.toList=some ds)(hok:II s ds=true)(hlen:Nat.beq parts.toList.length len=true)(hsm:Nat.ble (len*s) 1000=true)(hs0:Nat.blt 0 (len*s)=true):
  cg P GB C n lk bk ⟨some d, .buildSlice t len parts,ty',pos,af,gd⟩ (.rw d) [(d,some (.b e s ds true))] [d]:=by
 intro hd tl tb K s1 s2 hf hk;refine⟨fun ρ G ov a w r Q=>?_⟩;obtain⟨v,hz1,hz2,hz3⟩:=xG hi hz;have c1:=((hz2 G).cells hz3).1.len;replace hs:=aL hs;have hlen':=aL hlen;obtain⟨vs,h1,h2,h3,h4⟩:=T8 (r.mono s1 s2) (s:=s) (zv:=v) (by rw[c1,hs]) parts.toList 0 [] ds hb omc (yo hok);rw[lQ,lQ] at h1;refine U4 (z:=v) (out:=aG vs) (by rw[c1,hs]) (by rw[<-hlen'];exact h1) hsm hs0 hd (fun b a' w' rl=>?_) a w Q ⟨r.h,r.sz,dt a,r.df⟩;have hnd:=(bM.1 rl.h.nd).1;have hvl:vs.length=len:=by rw[h4,hlen']
 refine r.newRow (z:=⟨some ⟨b,0,none⟩,len,len⟩) (B:=[⟨b,aG vs,e,true⟩]) hf ⟨vs, .inr ⟨b,[],true,by rw[hvl],by rw[lZ],f7 _ h3,by rw[f7 _ h3,hvl];simp,by rw[hvl];exact bV _⟩,h2,h3,fun _ o ho=>by rw[aV.1 ho]⟩
  (fun o ho=>by rw[aV.1 ho];exact aQ) (fun m B' _ _ o ho _=>⟨aX _ ho,fun e'=>?_⟩) hk rl
 cases e';exact hnd o ho J
def aFU{d:Nat}[hT:cO P t e s by_]:cg P GB C n lk bk ⟨some d, .buildSlice t 0 #[],ty',pos,af,gd⟩ (.rw d) [(d,some (.b e s [] true))] [d]:=by
 intro hd tl tb K s1 s2 hf hk;refine⟨fun ρ G ov a w r Q=>?_⟩;refine Ss hd (fun b a' w' rl=>?_) a w Q ⟨r.h,r.sz,dt a,r.df⟩;have hnd:=(bM.1 rl.h.nd).1;refine r.newRow (z:=⟨some ⟨b,0,none⟩,0,0⟩) (B:=[⟨b,[],e,true⟩]) hf ⟨[], .inr ⟨b,[],true,J,by simp[aG],by simp[aG],by simp[aG],omc⟩, .nil,omc,fun _ o ho=>by rw[aV.1 ho]⟩
  (fun o ho=>by rw[aV.1 ho];exact aQ) (fun m B' _ _ o ho _=>⟨aX _ ho,fun e'=>?_⟩) hk rl
 cases e';exact hnd o ho J
def cg.frz{o:Oper}{d:Nat}{B:Bk}{f:FX}{v:DV}(hd:o.dst=some d)(h:cg P GB C n lk bk o f [(d,some B)] [d])
  (hz: ∀lk bk ρ G ov a w,bH GB C n lk bk ρ G ov a w->bk d=some B-> ∃G' ov',cc G G'/\bC C ov' G' w/\(∀o∈ov,(ρ d).a≠some ⟨o.b,0,none⟩->o∈ov')/\ ∀y,ce ρ G f y->Is G' v y):cg P GB C n lk bk o (.d v) [(d,none)] [d]:=by
 intro hd' tl tb K s1 s2 hf hk;refine h hd' tl tb K s1 s2 hf ?_;rw[hd] at hk⊢;refine⟨fun ρ G ov a w r=>?_⟩;have hbd:Sx.upB tb [(d,some B)] d=some B:=by simp[Sx.upB]
 obtain⟨G',ov',h1,h2,h3,h4⟩:=hz _ _ ρ G ov a w r hbd;refine hk.run ρ G' ov' a w ⟨r.gb.trans h1,h2,r.sz,r.df,fun k g e=>?_,fun m B' e=>?_,fun m m' B1 B2 e e'=>?_,r.fxd⟩
 .by_cases hk:k=d
  .subst hk
   simp only[fB,if_true] at e;cases e;obtain⟨y,g1,g2⟩:=r.fx k f (by simp[fB]);exact⟨y,g1,h4 y g2⟩
  .simp only[fB,hk,if_false] at e
   obtain⟨y,g1,g2⟩:=r.fx k g (by simp[fB,hk,e]);exact⟨y,g1,g2.up h1⟩
 .simp only[Sx.upB] at e
  split at e
  .cases e
  .rename_i hm
   have e':Sx.upB tb [(d,some B)] m=some B':=by simp[Sx.upB,hm,e]
   obtain⟨os,g1,g2⟩:=r.bx m B' e';exact⟨os,g1.up h1,fun o ho=>h3 o (g2 o ho) fun hc=>r.dj m d B' B e' hbd hm _ (g1.blk ho) hc⟩
 .simp only[Sx.upB] at e e'
  split at e
  .cases e
  .rename_i hm
   split at e'
   .cases e'
   .rename_i hm'
    exact r.dj m m' B1 B2 (by simp[Sx.upB,hm,e]) (by simp[Sx.upB,hm',e'])
def cg.frzRow{o:Oper}{d:Nat}{ty:TypeId}{s:Nat}{ds:List DV}(hd:o.dst=some d)(h:cg P GB C n lk bk o (.rw d) [(d,some (.b ty s ds true))] [d]):cg P GB C n lk bk o (.d (.sl ds)) [(d,none)] [d]:=
 h.frz hd fun _ _ _ _ _ _ _ r hb=>r.frzRow hb
def aEM{d:Nat}{f:FX}{l:List DV}(e:ba lk x=some f)(hc:f.okc=true)(hn:yj f d=true)(hl:jy f.cells=some l):cg P GB C n lk bk ⟨some d, .box t x,ty',pos,af,gd⟩ (.d (.pt l)) [(d,none)] [d]:=
 (S3 e hc hn).frz J fun _ _ _ _ _ _ _ r hb=>r.frzVar hb hl
def r7(lk:LK)(bk:BM)(s:Nat)(y:Operand):Option (List DV):=match ba lk y with
 |some (.rw nm)=>match bk nm with
  |some (.b _ s' ds _)=>bif Nat.beq s' s then some ds else none
  |_=>none
 |some f=>match ki f with
  |some (.sl l)=>some l
  |_=>none
 |none=>none
theorem oks{p:Prop}(h:p:=by rw[aR];omega):p:=h
def Bc{ds:List DV}(r:bH GB C n lk bk ρ G ov a w)(h:r7 lk bk s y=some ds)(hk:dH s ds):
  ∃(z:SV) (vs:List Value),aF (de a) y=some (.slice z.a z.n z.c)/\z.n=vs.length/\IsLs G ds vs/\(∀v∈vs,(aP v).length=s)/\(∀v∈aG vs,Sx.flat v=true)/\ow P C ov G s z.n (.slice z.a z.n z.c) (aG vs):=by
 have hfl: ∀vs:List Value,IsLs G ds vs->(∀v∈vs,(aP v).length=s)/\ ∀v∈aG vs,Sx.flat v=true:=by
  intro vs hl;refine⟨fun v hv=>?_,fun v hv=>?_⟩
  .obtain⟨d,hd,h3⟩:=hl.all v hv
   obtain⟨k1,k2⟩:=hk d hd;rw[(h3.cells k1).1.len,k2]
  .simp only[aG,List.mem_flatten,aS] at hv
   obtain⟨l,⟨u,hu,rfl⟩,hv⟩:=hv;obtain⟨d,hd,h3⟩:=hl.all u hu;exact(h3.cells (hk d hd).1).2 v hv
 unfold r7 at h;split at h
 .rename_i nm hy
  split at h<;>try (cases h;done)
  rename_i ty s' ds' lo hb
  cases hs:Nat.beq s' s with
  |false=>rw[hs] at h;cases h
  |true=>
   rw[hs] at h;cases h
   cases aL hs
   obtain⟨u,h1,h2⟩:=r.ev hy
   cases h2
   obtain⟨B,⟨vs,hB,hv,hs,_⟩,hmem⟩:=r.row (y:= .nilFunc) hb;obtain⟨f1,f2⟩:=hfl _ hv;refine⟨ρ nm,vs,h1,hB.len,hv,f1,f2,?_⟩;rcases hB with⟨e1,e2,e3⟩|⟨b,rest,lo',h3,h4,h5,h6,h7⟩
   .simp only[] at e2
    subst e1;rw[e2];exact xo
   .simp only[] at h3 h4 h5 h6 h7
    have oat:jf ov b (aG vs++rest) ty lo':=⟨hmem _ (by rw[h4];exact aQ)⟩;rw[show(ρ nm).a=some ⟨b,0,none⟩ by rw[h3],show(ρ nm).n=vs.length by rw[h3]];refine FC oat ?_;rw[m9 _ _ _ oks,gJ,fK we,cZ we]
 .rename_i f _ hy
  split at h<;>cases h;rename_i hd;obtain⟨u,h3,h4⟩:=r.ev hy;obtain⟨s',z,es,rfl,hsl,hl⟩:=je.1 (og h4 hd);obtain⟨f1,f2⟩:=hfl _ hl;refine⟨z,es,h3,hsl.len,hl,f1,f2,?_⟩;rcases Cg hsl hl hk with he|he
  .subst he
   rw[hsl.len];exact xo
  .subst he;exact WB hsl
 .cases h
def aFo{d nm:Nat}{i:TI}{z:DV}{ds ds2:List DV}[hT:cO P t e s by_][hN:mA P t'](hi:gh P e=some i)(hz:om i=some z)(hs:Nat.beq z.cells.length s=true)(hx:ba lk x=some (.rw nm))(hb:bk nm=some (.b e s ds true))(hy:r7 lk bk s y=some ds2)(hk2:dH s ds2)
  (hby:Nat.blt 0 by_=true)(hbd:(ds.length+ds2.length)*by_<=140737488355328)(hnd:Nat.beq nm d=false){ds':List DV}(hds:ds++ds2=ds'):
  cg P GB C n lk bk ⟨some d, .call ⟨.builtin .append, #[x,y], #[t,t']⟩,ty',pos,af,gd⟩ (.rw d) [(nm,none),(d,some (.b e s ds' true))] [d]:=by
 intro hd tl tb K s1 s2 hf hk;refine⟨fun ρ G ov a w r Q=>?_⟩;subst hds;have r1:=r.mono s1 s2;obtain⟨v,hz1,hz2,hz3⟩:=xG hi hz;have cz:=((hz2 G).cells hz3).1.len;replace hs:=aL hs;rw[lJ] at hby
 have hne:nm≠d:=fun e=>by subst e;simp at hnd
 obtain⟨u,hx',hx2⟩:=r1.ev hx
 cases hx2
 obtain⟨B,⟨vs,hB,hv,hvs,hlo⟩,hBo⟩:=r1.row (y:= .nilFunc) hb;simp only[] at hB hv hvs;obtain⟨w2,us,hy',h2,h3,h4,h5,h6⟩:=Bc (P:=P) r1 hy hk2;have hus:(aG us).length=us.length*s:=f7 us h4;have hbd':(vs.length+us.length)*by_<=140737488355328:=by rw[hv.len,h3.len];exact hbd
 have hall: ∀v∈vs++us,(aP v).length=s:=fun v hv=>by
  rcases bJ.1 hv with hv|hv
  .exact hvs v hv
  .exact h4 v hv
 have rd:=r.dropB nm;have hf':kO [d] (some d) tl (Sx.upB tb [(nm,none)]):=fun m hm=>by
  obtain⟨g1,g2⟩:=hf m hm;refine⟨g1,fun k B' hk e=>g2 k B' hk ?_⟩;simp only[Sx.upB] at e;split at e
  .cases e
  .exact e
 have hbk: ∀m B',(Sx.upB tb [(nm,none)]) m=some B'->m≠nm/\tb m=some B':=fun m B' e=>by
  simp only[Sx.upB] at e;split at e
  .cases e
  .exact⟨ome,e⟩
 have hfin: ∀(b:Nat) (cap':Nat) (rest':List Value) (ov1:List az) a' w',vs.length+us.length<=cap'->rest'.length+(vs.length+us.length)*s=cap'*s->(∀o∈ov,(ρ nm).a≠some ⟨o.b,0,none⟩->o∈ov1)->
   jg C n (put (de a) (some d) (.slice (some ⟨b,0,none⟩) (vs.length+us.length) cap')) (⟨b,aG (vs++us)++rest',e,true⟩::ov1) G a' w'->K a' w':=by
  intro b cap' rest' ov1 a' w' hc hr ho1 rl;have hnd':=(bM.1 rl.h.nd).1;refine rd.newRow (z:=⟨some ⟨b,0,none⟩,vs.length+us.length,cap'⟩) (B:=[⟨b,aG (vs++us)++rest',e,true⟩]) hf' ⟨vs++us, .inr ⟨b,rest',true,omc,J,f7 _ hall,?_,by simpa using hc⟩,hv.app h3,hall,fun _ o ho=>by rw[aV.1 ho]⟩
   (fun o ho=>by rw[aV.1 ho];exact aQ) (fun m B' hm e o ho hmo=>?_) hk rl
  .rw[f7 _ hall,aR]
   simp only[];omega
  .obtain⟨h7,h8⟩:=hbk m B' e
   have ho2:=ho1 o ho fun hc=>r.dj m nm B' _ h8 (s2 _ _ hb) h7 _ hmo hc;exact⟨aX _ ho2,fun e'=>by cases e';exact hnd' o ho2 J⟩
 rcases hB with⟨e1,e2,e3⟩|⟨b,rest,lo',k3,k4,k5,k6,k7⟩
 .subst e1
  rw[e2] at hx';by_cases hne:us=[]
  .subst hne
   have:ds2=[]:=cW (by rw[<-h3.len];rfl);subst this;rw[h2] at hy';refine PH hx' hy' hd (fun a' w' rl=>?_) a w Q ⟨r.h,r.sz,dt a,r.df⟩;refine rd.newRow (z:=⟨none,0,0⟩) (B:=[]) hf' ⟨[], .inl ⟨J,J,J⟩,by simpa using hv,omc,fun _ o ho=>by cases ho⟩ (fun o ho=>by cases ho) (fun m B' hm e o ho hmo=>⟨ho,fun e'=>by cases e'⟩) hk rl
  .have hup:0<us.length:=mR.2 hne
   rw[h2] at hy' h6;refine I1 (z:=v) (xs:=[]) (ys:=aG us) hx' hy' xo h6 (by show(0:Nat)<0+us.length;omega) hby (by simpa using hbd') hd (fun b cap' hc a' w' rl=>?_) a w Q ⟨r.h,r.sz,dt a,r.df⟩;exact hfin b cap' (fe v (cap'-us.length)) ov a' w' (by simpa using hc) (by rw[qy,cz,hs,<-dW];simp at hc⊢;congr 1;omega) (fun o ho _=>ho) (by simpa using rl)
 .have hl:=hlo J
  subst k4;have hlo':lo'=true:=hl _ aQ;subst hlo';have ha:(ρ nm).a=some ⟨b,0,none⟩:=by rw[k3]
  have hn:(ρ nm).n=vs.length:=by rw[k3]
  rw[ha,hn] at hx';rw[h2] at hy' h6;obtain⟨ov1,o1,o2⟩:=kI.of_mem (hBo _ aQ);refine PP (z:=v) (xs:=aG vs) (ys:=aG us) (rest:=rest) (own1:=ov1) hx' hy' o1 k5 k6 k7 h6 hus h5 hby hbd' (by rw[cz,hs]) hd (fun b' cap' rest' hc hr a' w' rl=>?_) a w Q ⟨r.h,r.sz,dt a,r.df⟩;rw[<-rB] at rl;exact hfin b' cap' rest' ov1 a' w' hc hr (fun o ho hne=>o2 o ho fun e'=>hne (by rw[ha,e'])) rl
end
section
variable {P:Program} {T:TT} {GB:Gh} {C:aH} {n:Nat} {lk:LK} {bk:BM} {ρ:NE} {G:Gh} {ov:List az} {a:Act} {w:World}
variable {dst:Option Nat} {t t' ty':TypeId} {pos:String} {af:Array Edge} {gd:Option (Nat×Bool)} {x y:Operand} {e s by_:Nat}
def Jc{vs:List Value}{rest cs:List Value}{i sz j:Nat}{v':Value}(hil:i<vs.length)(hvs: ∀v∈vs,(aP v).length=sz)(hv':aP v'=dd (aP vs[i]) j cs)(hj:j+cs.length<=sz):dd (aG vs++rest) (i*sz+j) cs=aG (vs.set i v')++rest:=by
 have hm:(aP vs[i]).length=sz:=hvs _ (bN hil);have hl':(aP v').length=sz:=by rw[hv',Ax,hm]
 rw[<-awy (rest:=rest) (u:=v') vs i hil hvs hl',hv'];have hlv:=f7 vs hvs;have hle:i*sz+sz<=vs.length*sz:=by rw[<-iN];exact bR _ hil
 generalize hmm:aP vs[i]=m at*;have hX:aG vs++rest=(aG vs).take (i*sz)++(m++((aG vs).drop (i*sz+sz)++rest)):=by
  have t1:=HX (rest:=rest) hvs hil;rw[hmm] at t1;obtain⟨_,t2⟩:=Bq t1;have t3:m=((aG vs).drop (i*sz)).take sz:=by
   have:m=((aG vs++rest).drop (i*sz)).take sz:=t2;rw[this,jT we,fK (by rw[gN];omega)]
  rw[t3]
  conv=>lhs;rw[<-jZ (i*sz) (aG vs),<-jZ sz ((aG vs).drop (i*sz)),tW]
  simp[gX]
 have hP:((aG vs).take (i*sz)).length=i*sz:=by rw[cR];omega
 generalize (aG vs).take (i*sz)=A at hX hP;generalize (aG vs).drop (i*sz+sz)++rest=Z at hX;rw[hX,<-hP,Mg A m Z (dd m j cs) (by rw[Ax])];rw[qg _ m j we,qg _ _ _ okP];rw[List.take_append,cZ we,Nat.add_sub_cancel_left,fK we];rw[nZ,gT we,lQ,show A.length+j+cs.length-A.length=j+cs.length by omega,jT we];simp[gX]
def Fj(ag:Option Nat)(d:DV)(j:Nat)(u:DV):Option DV:=match d with
 | .ag l=>match ag with
  |some k=>bif u.okc&&(Nat.beq u.cells.length k&&Nat.ble (j+k) l.length) then some (.ag (CC l j u.cells)) else none
  |none=>bif u.flat&&Nat.blt j l.length then some (.ag (l.set j u)) else none
 |d=>match ag with
  |some _=>none
  |none=>bif d.flat&&(u.flat&&Nat.beq j 0) then some u else none
def bH.wroteRow{nm b:Nat}{ty:TypeId}{sz:Nat}{ds ds':List DV}{lo lo':Bool}{m':List Value}{own':List az}(r:bH GB C n lk bk ρ G ov a w)(hb:bk nm=some (.b ty sz ds lo))(ha:(ρ nm).a=some ⟨b,0,none⟩)(hB:eB G ⟨ρ nm,sz,ty,ds',lo⟩ [⟨b,m',ty,lo'⟩])
  (h1:⟨b,m',ty,lo'⟩∈own')(h2: ∀o∈ov,o.b≠b->o∈own'){K:Act->World->Prop}(hk:SX GB C n (fB lk dst .un) (Sx.upB bk [(nm,some (.b ty sz ds' lo))]) K){a':Act}{w':World}(rl:jg C n (Sx.put (de a) dst undef) own' G a' w'):K a' w':=by
 have r2:=r.upB (G':=G) (ov':=own') (w':=w') (B':= .b ty sz ds' lo) (cc.refl _) rl.h (hB.toBk J) (fun o ho=>by rw[aV.1 ho];exact h1) (fun o ho hne=>h2 o ho fun e=>hne (by rw[ha,e])) ⟨_,hb⟩;exact hk.run _ _ _ a' w' (r2.put J (ld rl))
def Lt(cs:List Value)(o:Nat)(v:Value):dd cs o [v]=cs.set o v:=rfl
def aJa{i:TI}{ag:Option Nat}{nm sz k j:Nat}{ty:TypeId}{ds ds':List DV}{lo:Bool}{d d' u:DV}(hi:gh P t=some i)(ha:i.ag=some ag)(hx:ba lk x=some (.be nm sz k j))(hb:bk nm=some (.b ty sz ds lo))(hy:evD lk y=some u)(he:ds[k]? =some d)(hl:Fj ag d j u=some d')(hds:ds.set k d'=ds'):
  cg P GB C n lk bk ⟨dst, .store t x y,ty',pos,af,gd⟩ .un [(nm,some (.b ty sz ds' lo))] []:=by
 intro hd tl tb K s1 s2 hf hk;refine⟨fun ρ G ov a w r Q=>?_⟩;subst hds;have r1:=r.mono s1 s2;obtain⟨y',h1,h2⟩:=r1.evD hy;obtain⟨x',h3,b,hwb,rfl⟩:=r1.ev hx;obtain⟨B,hB,hBo⟩:=r1.row (y:= .nilFunc) hb;obtain⟨b',vs,rest,lo',e1,rfl,hv,hvs,hil,hup⟩:=hB.upd he;rw[hwb] at e1;cases e1;obtain⟨v,g1,g2⟩:=hv.get he;obtain⟨g3,g4⟩:=bQ.1 g1;have hlv:=f7 vs hvs;have hle:k*sz+sz<=vs.length*sz:=by rw[<-iN];exact bR _ hil
 have hml:(aP v).length=sz:=hvs _ (aT g1)
 cases ag with
 |some q=>
  have:=xq hi ha;unfold Fj at hl;split at hl
  .rename_i l
   simp only at hl
   cases hc:(u.okc&&(Nat.beq u.cells.length q&&Nat.ble (j+q) l.length)) with
   |false=>rw[hc] at hl;cases hl
   |true=>
    rw[hc] at hl;cases hl;simp only[bT,Nat.ble_eq] at hc;obtain⟨c1,c2,c3⟩:=hc;replace c2:=aL c2;obtain⟨c4,c5⟩:=h2.cells c1;obtain⟨m,rfl,hm⟩:=fC.1 g2;have hcl:(aP y').length=q:=by rw[c4.len,c2]
    have hmd:=hm.len;have hsz:m.length=sz:=hml;have key:=hup (.agg ⟨dd m j (aP y')⟩) (.ag (CC l j u.cells)) (fC.2 ⟨_,J,hm.ov c4⟩) (by show(dd m j (aP y')).length=sz;rw[Ax,hsz]);have hov:=Jc (rest:=rest) (v':= .agg ⟨dd m j (aP y')⟩) (cs:=aP y') (j:=j) hil hvs (by rw[g4];rfl) we;obtain⟨own',u1,u2,u3⟩:=i7.of_mem (cs':=dd (aG vs++rest) (k*sz+j) (aP y')) (hBo _ aQ);refine DE h3 h1 u1 hcl oks (cN.2 c5) hd (fun a' w' rl=>?_) a w Q ⟨r.h,r.sz,dt a,r.df⟩;rw[hov] at u2;exact r.wroteRow (s2 _ _ hb) hwb key u2 u3 hk rl
  .simp at hl
 |none=>
  have:=y6 hi ha;unfold Fj at hl;split at hl
  .rename_i l
   simp only at hl
   cases hc:(u.flat&&Nat.blt j l.length) with
   |false=>rw[hc] at hl;cases hl
   |true=>
    rw[hc] at hl;cases hl;simp only[bT,lJ] at hc;obtain⟨c1,c2⟩:=hc;have hfl:=h2.flat c1;have hcl:=BH hfl;obtain⟨m,rfl,hm⟩:=fC.1 g2;have hmd:=hm.len;have hsz:m.length=sz:=hml;have key:=hup (.agg ⟨m.set j y'⟩) (.ag (l.set j u)) (fC.2 ⟨_,J,hm.set j h2⟩) (by show(m.set j y').length=sz;rw[aM,hsz]);have hov:=Jc (rest:=rest) (v':= .agg ⟨m.set j y'⟩) (cs:=[y']) (j:=j) hil hvs (by rw[g4];rfl) omo;rw[Lt] at hov;obtain⟨own',u1,u2,u3⟩:=i7.of_mem (cs':=(aG vs++rest).set (k*sz+j) y') (hBo _ aQ);refine Aq h3 h1 u1 oks hfl hd (fun a' w' rl=>?_) a w Q ⟨r.h,r.sz,dt a,r.df⟩;rw[hov] at u2;exact r.wroteRow (s2 _ _ hb) hwb key u2 u3 hk rl
  .rename_i hna
   simp only at hl
   cases hc:(d.flat&&(u.flat&&Nat.beq j 0)) with
   |false=>rw[hc] at hl;cases hl
   |true=>
    rw[hc] at hl;cases hl;simp only[bT] at hc;obtain⟨c0,c1,c2⟩:=hc
    cases aL c2
    have hfl:=h2.flat c1;have hcl:=BH hfl;have hvl:=BH (g2.flat c0);have h1z:1=sz:=by rw[<-hml,hvl];rfl
    have key:=hup y' d' h2 (by rw[hcl,<-h1z];rfl);have hov:=Jc (rest:=rest) (v':=y') (cs:=[y']) (j:=0) hil hvs (by rw[g4,hvl,hcl];rfl) omo;rw[Lt] at hov;obtain⟨own',u1,u2,u3⟩:=i7.of_mem (cs':=(aG vs++rest).set (k*sz+0) y') (hBo _ aQ);refine Aq h3 h1 u1 oks hfl hd (fun a' w' rl=>?_) a w Q ⟨r.h,r.sz,dt a,r.df⟩;rw[hov] at u2;exact r.wroteRow (s2 _ _ hb) hwb key u2 u3 hk rl
def n4(lk:LK)(dflt:Nat):Option Operand->Option Int
 |none=>some (dflt:Nat)
 |some o=>match ba lk o with
  |some (.d (.v (.int .i64 i)))=>some i
  |_=>none
def aHr{l:List DV}{lo hi:Option Operand}{nlo nhi:Nat}[hT:cO P t e s by_](hx:evD lk x=some (.sl l))(ho:dH s l)(hlo:n4 lk 0 lo=some (nlo:Int))(hhi:n4 lk l.length hi=some (nhi:Int))(h1:nlo<=nhi)(h2:nhi<=l.length):
  cg P GB C n lk bk ⟨dst, .slice t x lo hi none,ty',pos,af,gd⟩ (.d (.sl ((l.take nhi).drop nlo))) [] []:= .yd fun ρ G ov a w r=>by
 obtain⟨u,h3,h4⟩:=r.evD hx;obtain⟨s',z,es,rfl,hsl,hl⟩:=je.1 h4;have hn:=hsl.len;have hcap:=hsl.cap;have hll:=hl.len;have key: ∀mx',nhi<=mx'->mx'<=z.c->Is G (.sl ((l.take nhi).drop nlo)) (nP z.a z.n z.c nlo nhi mx' s):=by
  intro mx' hm1 hm2;rcases Cg hsl hl ho with he|he
  .subst he
   have:l=[]:=cW (by rw[<-hll];rfl);subst this;have e1:nhi=0:=by simp at h2;exact h2
   have e2:nlo=0:=by omega
   subst e1 e2;refine je.2 ⟨s,⟨_,0,mx'⟩,[],J,⟨J,bS _, .inl J⟩,by simpa using IsLs.nil⟩
  .subst he
   refine je.2 ⟨s',⟨_,_,_⟩,_,J,hsl.sub nlo nhi mx' h1 we hm1 hm2,(hl.take nhi).drop nlo⟩
 have bnd: ∀{o:Operand} {d:Nat} {i:Int},n4 lk d (some o)=some i->aF (de a) o=some (.int .i64 i):=fun{o d i} h=>by
  simp only[n4] at h;split at h<;>cases h;rename_i he;obtain⟨q,g1,g2⟩:=r.ev he;rw[dq] at g2;subst g2;exact g1
 match lo,hi,hlo,hhi with
 |none,none,hlo,hhi=>
  simp only[n4,Option.some.injEq] at hlo hhi;have e1:nlo=0:=by omega
  have e2:nhi=l.length:=by omega
  subst e1 e2;refine⟨_,key z.c we (bV _),?_⟩;intro a w0 hf hh;simp only[execOp,bu hf h3,qL];have h9:=BW (P:=P) (t:=t) (ad:=z.a) (len:=z.n) (cap:=z.c) w0 (lo:=none) (hi:=none) (mx:=none) (l:=0) (h:=l.length) (m:=z.c) (fun w0=>by
   simp[Instr.sliceBounds,Result.andThen,run_pure];omega)
  exact dC h9
 |none,some o2,hlo,hhi=>
  simp only[n4,Option.some.injEq] at hlo;have e1:nlo=0:=by omega
  subst e1;refine⟨_,key z.c we (bV _),?_⟩;have h9:=JN (P:=P) (C:=C) (own:=ov) (G:=G) (t:=t) (dst:=dst) (ty':=ty') (pos:=pos) (af:=af) (gd:=gd) h3 (bnd hhi);have e9:nP z.a z.n z.c 0 nhi z.c s= .slice z.a nhi z.c:=by
   unfold nP
   cases z.a with
   |none=>simp
   |some ad=>simp[Addr.add]
  rw[e9];simpa using h9
 |some o1,none,hlo,hhi=>
  simp only[n4,Option.some.injEq] at hhi;have e2:nhi=l.length:=by omega
  subst e2;refine⟨_,key z.c we (bV _),?_⟩;have h9:=EH (P:=P) (C:=C) (own:=ov) (G:=G) (t:=t) (dst:=dst) (ty':=ty') (pos:=pos) (af:=af) (gd:=gd) h3 (bnd hlo);have e9:z.n=l.length:=by omega
  rw[dR,e9] at h9;rw[e9];exact h9
 |some o1,some o2,hlo,hhi=>
  refine⟨_,key z.c we (bV _),?_⟩;have h9:=Vu (P:=P) (C:=C) (own:=ov) (G:=G) (t:=t) (dst:=dst) (ty':=ty') (pos:=pos) (af:=af) (gd:=gd) h3 (bnd hlo) (bnd hhi) we we we;simpa using h9
def aEw{l:List DV}{hi mx:Operand}{nhi:Nat}[hT:cO P t e s by_](hx:evD lk x=some (.sl l))(ho:dH s l)(hhi:n4 lk 0 (some hi)=some (nhi:Int))(hmx:n4 lk 0 (some mx)=some (nhi:Int))(h2:nhi<=l.length):
  cg P GB C n lk bk ⟨dst, .slice t x none (some hi) (some mx),ty',pos,af,gd⟩ (.ct (l.take nhi)) [] []:= .yd fun ρ G ov a w r=>by
 obtain⟨u,h3,h4⟩:=r.evD hx;obtain⟨s',z,es,rfl,hsl,hl⟩:=je.1 h4;have hn:=hsl.len;have hcap:=hsl.cap;have hll:=hl.len;have bnd: ∀{o:Operand} {d:Nat} {i:Int},n4 lk d (some o)=some i->aF (de a) o=some (.int .i64 i):=fun{o d i} h=>by
  simp only[n4] at h;split at h<;>cases h;rename_i he;obtain⟨q,g1,g2⟩:=r.ev he;rw[dq] at g2;subst g2;exact g1
 refine⟨.slice z.a nhi nhi,⟨⟨_,_,J⟩,UP hsl hl ho h2 (bV _) we⟩,?_⟩;have h9:=auk (P:=P) (C:=C) (own:=ov) (G:=G) (t:=t) (dst:=dst) (ty':=ty') (pos:=pos) (af:=af) (gd:=gd) h3 (bnd hhi) (bnd hmx) we (Int.le_refl _) we;simpa using h9
def RF{d:Nat}{i:TI}{z:DV}{ds ds2:List DV}[hT:cO P t e s by_][hN:mA P t'](hi:gh P e=some i)(hz:om i=some z)(hs:Nat.beq z.cells.length s=true)(hx:ba lk x=some (.ct ds)\/(ba lk x=some .nl/\ds=[]))(ox:dH s ds)(hy:r7 lk bk s y=some ds2)(hk2:dH s ds2)(hne:0<ds2.length)
  (hby:Nat.blt 0 by_=true)(hbd:(ds.length+ds2.length)*by_<=140737488355328){ds':List DV}(hds:ds++ds2=ds'):
  cg P GB C n lk bk ⟨some d, .call ⟨.builtin .append, #[x,y], #[t,t']⟩,ty',pos,af,gd⟩ (.rw d) [(d,some (.b e s ds' true))] [d]:=by
 intro hd tl tb K s1 s2 hf hk;refine⟨fun ρ G ov a w r Q=>?_⟩;subst hds;have r1:=r.mono s1 s2;obtain⟨v,hz1,hz2,hz3⟩:=xG hi hz;have cz:=((hz2 G).cells hz3).1.len;replace hs:=aL hs;rw[lJ] at hby
 obtain⟨w2,us,h1,h2,h3,h4,h5,h6⟩:=Bc (P:=P) r1 hy hk2;have hxs:r7 lk bk s x=some ds:=by
  unfold r7;rcases hx with hx|⟨hx,rfl⟩<;>rw[hx]<;>rfl
 obtain⟨w1,vs,g1,g2,g3,g4,g5,g6⟩:=Bc (P:=P) r1 hxs ox;have hc1:w1.c=w1.n:=by
  rcases hx with hx|⟨hx,rfl⟩
  .obtain⟨y1,k1,⟨a1,n1,rfl⟩,_⟩:=r1.ev hx
   rw[k1] at g1;simp only[Option.some.injEq,Value.slice.injEq] at g1;omega
  .obtain⟨y1,k1,k2⟩:=r1.ev hx
   cases k2
   rw[k1] at g1;simp only[Option.some.injEq,Value.slice.injEq] at g1;omega
 have hl3:=h3.len;have hl4:=g3.len;have hall: ∀v∈vs++us,(aP v).length=s:=fun v hv=>by
  rcases bJ.1 hv with hv|hv
  .exact g4 v hv
  .exact h4 v hv
 refine I1 (z:=v) (xs:=aG vs) (ys:=aG us) (ad:=w1.a) (len:=w1.n) (cap:=w1.c) g1 h1 g6 h6 we hby (by rw[g2,h2,hl3,hl4];exact hbd) hd (fun b cap' hc a' w' rl=>?_) a w Q ⟨r.h,r.sz,dt a,r.df⟩;rw[<-rB] at rl;have hnd':=(bM.1 rl.h.nd).1;refine r.newRow (z:=⟨some ⟨b,0,none⟩,w1.n+w2.n,cap'⟩) (B:=[⟨b,aG (vs++us)++fe v (cap'-(w1.n+w2.n)),e,true⟩]) hf ⟨vs++us, .inr ⟨b,_,true,by simp[g2,h2],J,f7 _ hall,?_,by simpa[g2,h2] using hc⟩,g3.app h3,hall,fun _ o ho=>by rw[aV.1 ho]⟩
  (fun o ho=>by rw[aV.1 ho];exact aQ) (fun m B' hm e o ho _=>⟨aX _ ho,fun e'=>by cases e';exact hnd' o ho J⟩) hk rl
 rw[f7 _ hall,aR,qy,cz,hs,<-dW,g2,h2];congr 1;rw[g2,h2] at hc;dsimp only;omega
end
section
variable {GB:Gh} {C:aH} {n:Nat} {Q0:Exit->Act->World->Prop} {fr fr':aD} {own own':aO} {cf cf':Cf} {vc:List Prop} {ops:Array Oper} {o:Oper} {K:List Kt} {r:List Oper}
def dw(fr:aD)(cf:Cf):Option Oper:=match F6 cf with
 |some (ops,o)=>bif xW ops (co fr cf) o.guard then some o else none
 |none=>none
def IM(h:dw fr cf=some o): ∃ops,F6 cf=some (ops,o)/\xW ops (co fr cf) o.guard=true:=by
 unfold dw at h;split at h<;>try (cases h;done)
 rename_i ops o' hh
 cases hg:xW ops (co fr cf) o'.guard with
 |false=>rw[hg] at h;cases h
 |true=>rw[hg] at h;cases h;exact⟨ops,hh,hg⟩
def us{q:Nat}{f:FX}{bl:List (Nat×Option Bk)}{nw:List Nat}(hh:dw fr cf=some o)(h:cg prog GB C n (co fr cf) (i6 fr own cf) o f bl nw)
  (hgo:dl tt n q fr own cf f bl nw=⟨vc,fr',own',cf'⟩)(hv:ae vc)(k:ao prog GB C n Q0 fr' own' cf'):ao prog GB C n Q0 fr own cf:=by
 obtain⟨ops,h1,h2⟩:=IM hh;exact uo h1 h2 h hgo hv k
def y9(fr:aD)(cf:Cf):Option (FuncId×List DV):=match dw fr cf with
 |some ⟨_, .call ⟨.value fo,args,_⟩,_,_,_,_⟩=>ve (co fr cf) fo args
 |_=>none
def cl[fu:Fu]{f:FuncId}{ds:List DV}{rv:DV}(ha:y9 fr cf=some (f,ds))(hF:PF GB prog f ds rv)(hgo:dl tt n fu.n fr own cf (.d rv) [] []=⟨vc,fr',own',cf'⟩)(k:ao prog GB C n Q0 fr' own' cf')
  (hv:autoParam (ae vc) fn._auto_1):ao prog GB C n Q0 fr own cf:=by
 unfold y9 at ha;split at ha<;>try (cases ha;done)
 rename_i hh;exact us hh (Pg ha hF) hgo hv k
def QV(fr:aD)(cf:Cf):Option (List DV×Int×Nat):=match dw fr cf with
 |some ⟨_, .indexAddr t x y,_,_,_,_⟩=>match evD (co fr cf) x with
  |some (.sl l)=>match ba (co fr cf) y with
   |some (.d (.v (.int _ i)))=>match eH tt t with
    |some ⟨.sl _ s _,_,_,_⟩=>some (l,i,s)
    |_=>none
   |_=>none
  |_=>none
 |_=>none
def MN(n q:Nat)(fr:aD)(own:aO)(cf:Cf)(d:DV)(s:Nat):x7:=bif d.okc&&Nat.beq d.cells.length s then ma d.cells fun cs=>dl tt n q fr own cf (.ep cs) [] [] else qi
def ix[fu:Fu](d:DV){l:List DV}{i:Int}{s:Nat}(h:QV fr cf=some (l,i,s))(he:l[i.toNat]? =some d)(hgo:MN n fu.n fr own cf d s=⟨vc,fr',own',cf'⟩)(k:ao prog GB C n Q0 fr' own' cf')(h0:0<=i:=by omega)
  (hv:autoParam (ae vc) fn._auto_1):ao prog GB C n Q0 fr own cf:=by
 unfold QV at h;split at h<;>try (cases h;done)
 rename_i hh;split at h<;>try (cases h;done)
 rename_i hx;split at h<;>try (cases h;done)
 rename_i hy;split at h<;>cases h;rename_i hT;have:=jD (fp _ _ hT) J;unfold MN at hgo
 cases hc:(d.okc&&Nat.beq d.cells.length s) with
 |false=>simp only[hc,cond_false,qi] at hgo;cases hgo;exact absurd hv (fun x=>x)
 |true=>
  simp only[hc,cond_true,uk] at hgo;exact us hh (Vz hx hy h0 he hc) hgo hv k
structure VN where
 ds:List DV
 k:Nat
 j:Nat
 ag:Option Nat
def LP(fr:aD)(own:aO)(cf:Cf):Option VN:=match dw fr cf with
 |some ⟨_, .load t x,_,_,_,_⟩=>match ba (co fr cf) x with
  |some (.be nm sz k j)=>match i6 fr own cf nm with
   |some (.b _ s ds _)=>bif Nat.beq s sz then(match eH tt t with
    |some i=>match i.ag with
     |some ag=>some ⟨ds,k,j,ag⟩
     |none=>none
    |none=>none) else none
   |_=>none
  |_=>none
 |_=>none
def Uk(n q:Nat)(fr:aD)(own:aO)(cf:Cf)(d:DV)(ag:Option Nat)(j:Nat):x7:=bif d.okc then(match Bl ag d.cells j with
 |some c=>dl tt n q fr own cf (.d c) [] []
 |none=>qi) else qi
def lb[fu:Fu](d:DV){ds:List DV}{k' j:Nat}{ag:Option Nat}(h:LP fr own cf=some ⟨ds,k',j,ag⟩)(he:ds[k']? =some d)(hgo:Uk n fu.n fr own cf d ag j=⟨vc,fr',own',cf'⟩)(k:ao prog GB C n Q0 fr' own' cf')
  (hv:autoParam (ae vc) fn._auto_1):ao prog GB C n Q0 fr own cf:=by
 unfold LP at h;split at h<;>try (cases h;done)
 rename_i hh;split at h<;>try (cases h;done)
 rename_i hx;split at h<;>try (cases h;done)
 rename_i ty s ds' lo hb;rw[cond_eq_ite] at h;split at h<;>try (cases h;done)
 rename_i hs
 cases aL hs
 split at h<;>try (cases h;done)
 rename_i hT;split at h<;>cases h;rename_i ha;unfold Uk at hgo
 cases hc:d.okc with
 |false=>simp only[hc,cond_false,qi] at hgo;cases hgo;exact absurd hv (fun x=>x)
 |true=>
  simp only[hc,cond_true] at hgo
  cases hl:Bl ag d.cells j with
  |none=>simp only[hl,qi] at hgo;cases hgo;exact absurd hv (fun x=>x)
  |some c=>simp only[hl] at hgo;exact us hh (aH5 (fp _ _ hT) ha hx hb he hc hl) hgo hv k
structure UF where
 nm:Nat
 ty:TypeId
 s:Nat
 ds:List DV
 lo:Bool
 k:Nat
 j:Nat
 ag:Option Nat
 u:DV
def Mz(fr:aD)(own:aO)(cf:Cf):Option UF:=match dw fr cf with
 |some ⟨_, .store t x y,_,_,_,_⟩=>match ba (co fr cf) x with
  |some (.be nm sz k j)=>match i6 fr own cf nm with
   |some (.b ty s ds lo)=>bif Nat.beq s sz then(match eH tt t with
    |some i=>match i.ag with
     |some ag=>match evD (co fr cf) y with
      |some u=>some ⟨nm,ty,s,ds,lo,k,j,ag,u⟩
      |none=>none
     |none=>none
    |none=>none) else none
   |_=>none
  |_=>none
 |_=>none
def sb[fu:Fu](d:DV){nm:Nat}{ty:TypeId}{s:Nat}{ds:List DV}{lo:Bool}{k' j:Nat}{ag:Option Nat}{u d':DV}(ds':List DV)(h:Mz fr own cf=some ⟨nm,ty,s,ds,lo,k',j,ag,u⟩)(he:ds[k']? =some d)(hl:Fj ag d j u=some d')(hds:ds.set k' d'=ds')
  (hgo:dl tt n fu.n fr own cf .un [(nm,some (.b ty s ds' lo))] []=⟨vc,fr',own',cf'⟩)(k:ao prog GB C n Q0 fr' own' cf')
  (hv:autoParam (ae vc) fn._auto_1):ao prog GB C n Q0 fr own cf:=by
 unfold Mz at h;split at h<;>try (cases h;done)
 rename_i hh;split at h<;>try (cases h;done)
 rename_i hx;split at h<;>try (cases h;done)
 rename_i hb;rw[cond_eq_ite] at h;split at h<;>try (cases h;done)
 rename_i hs
 cases aL hs
 split at h<;>try (cases h;done)
 rename_i hT;split at h<;>try (cases h;done)
 rename_i ha;split at h<;>cases h;rename_i hy;exact us hh (aJa (fp _ _ hT) ha hx hb hy he hl hds) hgo hv k
structure MkA where
 d:Nat
 e:Nat
 s:Nat
 b:Nat
 z:DV
 l:Int
def CH(fr:aD)(cf:Cf):Option MkA:=match dw fr cf with
 |some ⟨some d, .makeSlice t x y,_,_,_,_⟩=>match ba (co fr cf) x with
  |some (.d (.v (.int _ l)))=>match eH tt t with
   |some ⟨.sl e s b,_,_,_⟩=>match eH tt e with
    |some i=>match om i with
     |some z=>bif Nat.beq z.cells.length s then some ⟨d,e,s,b,z,l⟩ else none
     |none=>none
    |none=>none
   |_=>none
  |_=>none
 |_=>none
def mk[fu:Fu]{d e s b:Nat}{z:DV}{l:Int}{k':IntKind}(ds:List DV)(h:CH fr cf=some ⟨d,e,s,b,z,l⟩)(hy:(match dw fr cf with|some ⟨_, .makeSlice _ _ y,_,_,_,_⟩=>ba (co fr cf) y|_=>none)=some (.d (.v (.int k' l))))(hds:List.replicate l.toNat z=ds)
  (hgo:dl tt n fu.n fr own cf (.rw d) [(d,some (.b e s ds true))] [d]=⟨vc,fr',own',cf'⟩)(k:ao prog GB C n Q0 fr' own' cf')(h0:0<=l:=by omega)(hb:b*l<=140737488355328:=by omega)(hl:l<=1152921504606846976:=by omega)
  (hv:autoParam (ae vc) fn._auto_1):ao prog GB C n Q0 fr own cf:=by
 unfold CH at h;split at h<;>try (cases h;done)
 rename_i hh;split at h<;>try (cases h;done)
 rename_i hx;split at h<;>try (cases h;done)
 rename_i hT;split at h<;>try (cases h;done)
 rename_i hi;split at h<;>try (cases h;done)
 rename_i hz;rw[cond_eq_ite] at h;split at h<;>cases h;rename_i hs;rw[hh] at hy;have:=jD (fp _ _ hT) J;exact us hh (aDT (fp _ _ hi) hz hs hx hy h0 hb hl hds) hgo hv k
structure UV where
 d:Nat
 e:Nat
 s:Nat
 ds:List DV
def DF(fr:aD)(cf:Cf):Option UV:=match dw fr cf with
 |some ⟨some d, .buildSlice t len parts,_,_,_,_⟩=>match eH tt t with
  |some ⟨.sl e s _,_,_,_⟩=>match eH tt e with
   |some i=>match om i with
    |some z=>match zc (co fr cf) 0 parts.toList with
     |some ds=>bif Nat.beq z.cells.length s&&(II s ds&&(Nat.beq parts.toList.length len&&(Nat.ble (len*s) 1000&&Nat.blt 0 (len*s)))) then some ⟨d,e,s,ds⟩ else none
     |none=>none
    |none=>none
   |none=>none
  |_=>none
 |_=>none
def QR{d e s:Nat}{ds:List DV}(h:DF fr cf=some ⟨d,e,s,ds⟩): ∃o,dw fr cf=some o/\o.dst=some d/\cg prog GB C n (co fr cf) (i6 fr own cf) o (.rw d) [(d,some (.b e s ds true))] [d]:=by
 unfold DF at h;split at h<;>try (cases h;done)
 rename_i hh;split at h<;>try (cases h;done)
 rename_i hT;split at h<;>try (cases h;done)
 rename_i hi;split at h<;>try (cases h;done)
 rename_i hz;split at h<;>try (cases h;done)
 rename_i hr;rw[cond_eq_ite] at h;split at h<;>cases h;rename_i hc;simp only[bT] at hc;have:=jD (fp _ _ hT) J;exact⟨_,hh,J,aJu (fp _ _ hi) hz hc.1 hr hc.2.1 hc.2.2.1 hc.2.2.2.1 hc.2.2.2.2⟩
def ro[fu:Fu]{d e s:Nat}{ds:List DV}(h:DF fr cf=some ⟨d,e,s,ds⟩)(hgo:dl tt n fu.n fr own cf (.rw d) [(d,some (.b e s ds true))] [d]=⟨vc,fr',own',cf'⟩)(k:ao prog GB C n Q0 fr' own' cf')
  (hv:autoParam (ae vc) fn._auto_1):ao prog GB C n Q0 fr own cf:=by
 obtain⟨o,h1,_,h3⟩:=QR (GB:=GB) (C:=C) (n:=n) (own:=own) h;exact us h1 h3 hgo hv k
def rf[fu:Fu]{d e s:Nat}{ds:List DV}(h:DF fr cf=some ⟨d,e,s,ds⟩)(hgo:dl tt n fu.n fr own cf (.d (.sl ds)) [(d,none)] [d]=⟨vc,fr',own',cf'⟩)(k:ao prog GB C n Q0 fr' own' cf')
  (hv:autoParam (ae vc) fn._auto_1):ao prog GB C n Q0 fr own cf:=by
 obtain⟨o,h1,h2,h3⟩:=QR (GB:=GB) (C:=C) (n:=n) (own:=own) h;exact us h1 (h3.frzRow h2) hgo hv k
def Tk(fr:aD)(cf:Cf):Option (Nat×Nat×Nat):=match dw fr cf with
 |some ⟨some d, .buildSlice t 0 ⟨[]⟩,_,_,_,_⟩=>match eH tt t with
  |some ⟨.sl e s _,_,_,_⟩=>some (d,e,s)
  |_=>none
 |_=>none
def tg[fu:Fu]{d e s:Nat}(h:Tk fr cf=some (d,e,s))(hgo:dl tt n fu.n fr own cf (.rw d) [(d,some (.b e s [] true))] [d]=⟨vc,fr',own',cf'⟩)(k:ao prog GB C n Q0 fr' own' cf')
  (hv:autoParam (ae vc) fn._auto_1):ao prog GB C n Q0 fr own cf:=by
 unfold Tk at h;split at h<;>try (cases h;done)
 rename_i hh;split at h<;>cases h;rename_i hT;have:=jD (fp _ _ hT) J;exact us hh aFU hgo hv k
structure YI where
 d:Nat
 nm:Option Nat
 e:Nat
 s:Nat
 b:Nat
 ds:List DV
 ds2:List DV
def ET(fr:aD)(own:aO)(cf:Cf):Option YI:=match dw fr cf with
 |some ⟨some d, .call ⟨.builtin .append,⟨[x,y]⟩,⟨[t,t']⟩⟩,_,_,_,_⟩=>match eH tt t with
  |some ⟨.sl e s b,_,_,_⟩=>match eH tt t' with
   |some ⟨.sl _ _ _,_,_,_⟩=>match eH tt e with
    |some i=>match om i with
     |some z=>bif Nat.beq z.cells.length s&&Nat.blt 0 b then(match r7 (co fr cf) (i6 fr own cf) s y with
      |some ds2=>match ba (co fr cf) x with
       |some (.rw nm)=>match i6 fr own cf nm with
        |some (.b e' s' ds true)=>bif (Nat.beq e' e&&Nat.beq s' s)&&!Nat.beq nm d then some ⟨d,some nm,e,s,b,ds,ds2⟩ else none
        |_=>none
       |some (.ct ds)=>some ⟨d,none,e,s,b,ds,ds2⟩
       |some .nl=>some ⟨d,none,e,s,b,[],ds2⟩
       |_=>none
      |none=>none) else none
     |none=>none
    |none=>none
   |_=>none
  |_=>none
 |_=>none
def O0(d:Nat)(nm:Option Nat)(B:Bk):List (Nat×Option Bk):=match nm with
 |some nm=>[(nm,none),(d,some B)]
 |none=>[(d,some B)]
def R5{d:Nat}{nm:Option Nat}{e s b:Nat}{ds ds2:List DV}(h:ET fr own cf=some ⟨d,nm,e,s,b,ds,ds2⟩)(ds':List DV)(hds:ds++ds2=ds')(ho:nm.isNone=true->dH s ds/\0<ds2.length)(ho2:dH s ds2)(hbd:(ds.length+ds2.length)*b<=140737488355328):
  ∃o,dw fr cf=some o/\o.dst=some d/\cg prog GB C n (co fr cf) (i6 fr own cf) o (.rw d) (O0 d nm (.b e s ds' true)) [d]:=by
 unfold ET at h;split at h<;>try (cases h;done)
 rename_i hh;split at h<;>try (cases h;done)
 rename_i hT;split at h<;>try (cases h;done)
 rename_i hT';split at h<;>try (cases h;done)
 rename_i hi;split at h<;>try (cases h;done)
 rename_i hz;rw[cond_eq_ite] at h;split at h<;>try (cases h;done)
 rename_i hc;simp only[bT] at hc;split at h<;>try (cases h;done)
 rename_i hy;have:=jD (fp _ _ hT) J;have hN:mA prog _:=⟨_,(jD (fp _ _ hT') J).un⟩;refine⟨_,hh,?_⟩;split at h<;>try (cases h;done)
 .rename_i hx
  split at h<;>try (cases h;done)
  rename_i hb;rw[cond_eq_ite] at h;split at h<;>cases h;rename_i hq;simp only[bT,fM] at hq
  cases aL hq.1.1
  cases aL hq.1.2
  exact⟨J,aFo (fp _ _ hi) hz hc.1 hx hb hy ho2 hc.2 hbd hq.2 hds⟩
 .rename_i hx
  cases h
  obtain⟨h1,h2⟩:=ho rfl;exact⟨J,RF (fp _ _ hi) hz hc.1 (.inl hx) h1 hy ho2 h2 hc.2 hbd hds⟩
 .rename_i hx
  cases h
  obtain⟨h1,h2⟩:=ho rfl;exact⟨J,RF (fp _ _ hi) hz hc.1 (.inr ⟨hx,J⟩) h1 hy ho2 h2 hc.2 hbd hds⟩
def ap[fu:Fu]{d:Nat}{nm:Option Nat}{e s b:Nat}{ds ds2:List DV}(ds':List DV)(h:ET fr own cf=some ⟨d,nm,e,s,b,ds,ds2⟩)(hds:ds++ds2=ds')(ho2:dH s ds2)(hgo:dl tt n fu.n fr own cf (.rw d) (O0 d nm (.b e s ds' true)) [d]=⟨vc,fr',own',cf'⟩)(k:ao prog GB C n Q0 fr' own' cf')
  (ho:nm.isNone=true->dH s ds/\0<ds2.length:=by intro h;first|(cases h;done)|exact⟨yo rfl,omc⟩)(hbd:(ds.length+ds2.length)*b<=140737488355328:=by simp;omega)
  (hv:autoParam (ae vc) fn._auto_1):ao prog GB C n Q0 fr own cf:=by
 obtain⟨o,h1,_,h3⟩:=R5 (GB:=GB) (C:=C) (n:=n) h ds' hds ho ho2 hbd;exact us h1 h3 hgo hv k
def PS(fr:aD)(cf:Cf):Option (List DV×Int×Int×Nat×Bool):=match dw fr cf with
 |some ⟨_, .slice t x lo hi mx,_,_,_,_⟩=>match evD (co fr cf) x with
  |some (.sl l)=>match eH tt t with
   |some ⟨.sl _ s _,_,_,_⟩=>match n4 (co fr cf) 0 lo,n4 (co fr cf) l.length hi with
    |some i,some j=>match mx with
     |none=>some (l,i,j,s,false)
     |some _=>none
    |_,_=>none
   |_=>none
  |_=>none
 |_=>none
def mc[fu:Fu]{l:List DV}{i j:Int}{s:Nat}(nlo nhi:Nat)(ls:List DV)(h:PS fr cf=some (l,i,j,s,false))(ei:i=nlo)(ej:j=nhi)(hls:(l.take nhi).drop nlo=ls)(ho:dH s l)(h1:nlo<=nhi)(h2:nhi<=l.length)
  (hgo:dl tt n fu.n fr own cf (.d (.sl ls)) [] []=⟨vc,fr',own',cf'⟩)(k:ao prog GB C n Q0 fr' own' cf')
  (hv:autoParam (ae vc) fn._auto_1):ao prog GB C n Q0 fr own cf:=by
 unfold PS at h;split at h<;>try (cases h;done)
 rename_i hh;split at h<;>try (cases h;done)
 rename_i hx;split at h<;>try (cases h;done)
 rename_i hT;split at h<;>try (cases h;done)
 rename_i hi hj;split at h<;>cases h;have:=jD (fp _ _ hT) J;subst ei ej hls;exact us hh (aHr hx ho hi hj h1 h2) hgo hv k
def QW(fr:aD)(cf:Cf):Option (List DV×Int×Int×Nat):=match dw fr cf with
 |some ⟨_, .slice t x none (some hi) (some mx),_,_,_,_⟩=>match evD (co fr cf) x with
  |some (.sl l)=>match eH tt t with
   |some ⟨.sl _ s _,_,_,_⟩=>match n4 (co fr cf) 0 (some hi),n4 (co fr cf) 0 (some mx) with
    |some i,some j=>some (l,i,j,s)
    |_,_=>none
   |_=>none
  |_=>none
 |_=>none
def s3[fu:Fu]{l:List DV}{i j:Int}{s:Nat}(nhi:Nat)(ls:List DV)(h:QW fr cf=some (l,i,j,s))(ei:i=nhi)(ej:j=nhi)(hls:l.take nhi=ls)(ho:dH s l)(h2:nhi<=l.length)
  (hgo:dl tt n fu.n fr own cf (.ct ls) [] []=⟨vc,fr',own',cf'⟩)(k:ao prog GB C n Q0 fr' own' cf')
  (hv:autoParam (ae vc) fn._auto_1):ao prog GB C n Q0 fr own cf:=by
 unfold QW at h;split at h<;>try (cases h;done)
 rename_i hh;split at h<;>try (cases h;done)
 rename_i hx;split at h<;>try (cases h;done)
 rename_i hT;split at h<;>cases h;rename_i hi hj;have:=jD (fp _ _ hT) J;subst ei ej hls;exact us hh (aEw hx ho hi hj h2) hgo hv k
def Pj(fr:aD)(cf:Cf):Option (Nat×List DV):=match dw fr cf with
 |some ⟨some d, .box _ x,_,_,_,_⟩=>match ba (co fr cf) x with
  |some f=>bif f.okc&&yj f d then(match jy f.cells with
   |some l=>some (d,l)
   |none=>none) else none
  |none=>none
 |_=>none
end
end Go.Sx
end
