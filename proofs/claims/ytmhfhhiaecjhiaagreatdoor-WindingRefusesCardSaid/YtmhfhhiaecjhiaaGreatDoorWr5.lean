import Derived.Test.YtmhfhhiaecjhiaaGreatDoorWr4
set_option linter.all false
set_option maxRecDepth 100000
section
namespace Go.Sx
open Go Go.Proofs Tryz
section
variable {GB:Gh} {C:az} {n:Nat} {Q0:Exit->Act->World->Prop} {fr fr':ao} {own own':aA} {cf cf':Cf} {vc vc':List Prop} {ops:Array Oper} {r:List Oper} {o:Oper} {K:List Kt}
def ju(row:Bool)(nm:Nat)(l:List DV):FX->FX
 | .rw m=>bif Nat.beq m nm then(bif row then .d (.sl l) else .no) else .rw m
 | .ov m off=>bif Nat.beq m nm then(bif row then .no else(match off with
  |0=> .d (.pt l)
  |_+1=> .no)) else .ov m off
 | .be m s i j=>bif Nat.beq m nm then .no else .be m s i j
 | .rs m s i j=>bif Nat.beq m nm then .no else .rs m s i j
 | .bx tp pre m post=>bif Nat.beq m nm then(bif row then(match tp with
  |true=> .d (.tp (pre++ .sl l::post))
  |false=> .d (.ag (pre++ .sl l::post))) else .no) else .bx tp pre m post
 |f=>f
def tJ{α:Type}(f:FX)(k:FX->α):α:=match f with
 | .d x=>k (.d x)
 | .rw m=>k (.rw m)
 | .ov a b=>k (.ov a b)
 | .be a b c d=>k (.be a b c d)
 | .rs a b c d=>k (.rs a b c d)
 |f=>k f
def xo{α:Type}{f:FX}{k:FX->α}:tJ f k=k f:=by cases f<;>rfl
def tN{α:Type}(row:Bool)(nm:Nat)(l:List DV):ao->(ao->α)->α
 |[],k=>k []
 |(j,f)::t,k=>tN row nm l t fun t'=>tJ (ju row nm l f) fun f'=>k ((j,f')::t')
def vM{α:Type}(row:Bool)(nm:Nat)(l:List DV):List FX->(List FX->α)->α
 |[],k=>k []
 |f::t,k=>vM row nm l t fun t'=>tJ (ju row nm l f) fun f'=>k (f'::t')
def vh{α:Type}(row:Bool)(nm:Nat)(l:List DV):aA->(aA->α)->α
 |[],k=>k []
 |(j,B)::t,k=>vh row nm l t fun t'=>bif Nat.beq j nm then k ((j,none)::t') else match B with
  |some (.o ty cs lo)=>vM row nm l cs fun cs'=>k ((j,some (.o ty cs' lo))::t')
  |B=>k ((j,B)::t')
def oy(row:Bool)(nm:Nat)(l:List DV):Option Bk->Option Bk
 |some (.o ty cs lo)=>some (.o ty (cs.map (ju row nm l)) lo)
 |B=>B
def EE{α:Type}{row:Bool}{nm:Nat}{l:List DV}: ∀{cs:List FX} {k:List FX->α},vM row nm l cs k=k (cs.map (ju row nm l))
 |[],k=>rfl
 |f::t,k=>by simp only[vM,xo];rw[EE];rfl
def Dj{α:Type}{row:Bool}{nm:Nat}{l:List DV}: ∀{fr:ao} {k:ao->α},tN row nm l fr k=k (fr.map fun e=>(e.1,ju row nm l e.2))
 |[],k=>rfl
 |(j,f)::t,k=>by simp only[tN,xo];rw[Dj];rfl
def CH{α:Type}{row:Bool}{nm:Nat}{l:List DV}: ∀{own:aA} {k:aA->α},vh row nm l own k=k (own.map fun e=>(e.1,bif Nat.beq e.1 nm then none else oy row nm l e.2))
 |[],k=>rfl
 |(j,B)::t,k=>by
  simp only[vh,CH (own:=t),bL]
  cases Nat.beq j nm with
  |true=>rfl
  |false=>
   cases B with
   |none=>rfl
   |some B=>cases B<;>simp only[cond_false,EE,oy]
def xL{g:FX->FX}: ∀{fr:ao} {k:Nat},aD (fr.map fun e=>(e.1,g e.2)) k=(aD fr k).map g
 |[],k=>rfl
 |(j,f)::t,k=>by
  simp only[bL];rw[e7,e7,xL (fr:=t)];split<;>rfl
def G4{row:Bool}{nm:Nat}{l:List DV}: ∀{own:aA} {k:Nat},aI (own.map fun e=>(e.1,bif Nat.beq e.1 nm then none else oy row nm l e.2)) k=if k=nm then none else oy row nm l (aI own k)
 |[],k=>by simp[aI,oy]
 |(j,B)::t,k=>by
  simp only[bL];rw[fI,fI,G4 (own:=t)];by_cases h:k=j
  .subst h
   simp only[if_true];by_cases e:k=nm
   .subst e;simp
   .have:Nat.beq k nm=false:=by
     cases hb:Nat.beq k nm with
     |false=>rfl
     |true=>exact absurd (aU hb) e
    simp[this,e]
  .simp[h]
structure tI where
 fr:ao
 own:aA
def uF(fr:ao)(own:aA)(nm:Nat):Option tI:=match aI own nm with
 |some (.b _ _ ds true)=>tN true nm ds fr fun fr'=>vh true nm ds own fun own'=>some ⟨fr',own'⟩
 |some (.o _ cs true)=>match iq cs with
  |some l=>tN false nm l fr fun fr'=>vh false nm l own fun own'=>some ⟨fr',own'⟩
  |none=>none
 |_=>none
def ik.of_mem{o:av}: ∀{own:List av},o∈own-> ∃own',ik own o own'/\ ∀x∈own,x.b≠o.b->x∈own'
 |[],h=>by cases h
 |x::t,h=>by
  rcases aR.1 h with rfl|h
  .exact⟨t, .hd ..,fun y hy hb=>(aR.1 hy).elim (fun e=>absurd (by rw[e]) hb) id⟩
  .obtain⟨own',h1,h2⟩:=ik.of_mem h
   exact⟨x::own', .tl _ _ _ _ h1,fun y hy hb=>(aR.1 hy).elim (fun e=>by rw[e];exact aX) (fun e=>aK _ (h2 y e hb))⟩
def Jg{row:Bool}{nm:Nat}{l:List DV}{ρ:NE}{G G':Gh}{f:FX}{y:Value}(hg:ba G G')(h:bz ρ G f y)(hr:row=true-> ∀y,bz ρ G (.rw nm) y->Is G' (.sl l) y)(ho:row=false-> ∀y,bz ρ G (.ov nm 0) y->Is G' (.pt l) y):bz ρ G' (ju row nm l f) y:=by
 cases f with
 |rw m=>
  simp only[ju]
  cases hb:Nat.beq m nm with
  |false=>exact h.up hg
  |true=>
   cases aU hb
   cases row with
   |true=>exact hr J y h
   |false=>trivial
 |ov m off=>
  simp only[ju]
  cases hb:Nat.beq m nm with
  |false=>exact h.up hg
  |true=>
   cases aU hb
   cases row with
   |true=>trivial
   |false=>cases off with
    |zero=>exact ho J y h
    |succ=>trivial
 |be m s i j=>
  simp only[ju]
  cases hb:Nat.beq m nm with
  |false=>exact h.up hg
  |true=>trivial
 |rs m s i j=>
  simp only[ju]
  cases hb:Nat.beq m nm with
  |false=>exact h.up hg
  |true=>trivial
 |bx tp pre m post=>
  simp only[ju]
  cases hb:Nat.beq m nm with
  |false=>exact h.up hg
  |true=>
   cases aU hb
   cases row with
   |false=>trivial
   |true=>
    obtain⟨m1,m2,e,h1,h2⟩:=h;have hl:=(h1.up hg).app (.cons (hr J _ J) (h2.up hg))
    cases tp with
    |true=>exact ph.2 ⟨_,e,hl⟩
    |false=>exact dt.2 ⟨_,e,hl⟩
 |_=>exact h.up hg
def G5{row:Bool}{nm:Nat}{l:List DV}{ρ:NE}{G G':Gh}(hg:ba G G')(hr:row=true-> ∀y,bz ρ G (.rw nm) y->Is G' (.sl l) y)(ho:row=false-> ∀y,bz ρ G (.ov nm 0) y->Is G' (.pt l) y): ∀{cs:List FX} {m:List Value},cD ρ G cs m->cD ρ G' (cs.map (ju row nm l)) m
 |[],m,h=>h
 |f::t,m,⟨y,q,e,h1,h2⟩=>⟨y,q,e,Jg hg h1 hr ho,G5 hg hr ho h2⟩
def bu.frz{ρ:NE}{G G':Gh}{ov ov':List av}{a:Act}{w:World}{row:Bool}{nm:Nat}{l:List DV}(h:bu GB C n (aD fr) (aI own) ρ G ov a w)(hg:ba G G')(hh:bj C ov' G' w)(hv: ∀o∈ov,(ρ nm).a≠some ⟨o.b,0,none⟩->o∈ov'){B0:Bk}(hb:aI own nm=some B0)
  (hr:row=true-> ∀y,bz ρ G (.rw nm) y->Is G' (.sl l) y)(ho:row=false-> ∀y,bz ρ G (.ov nm 0) y->Is G' (.pt l) y):
  bu GB C n (aD (fr.map fun e=>(e.1,ju row nm l e.2))) (aI (own.map fun e=>(e.1,bif Nat.beq e.1 nm then none else oy row nm l e.2))) ρ G' ov' a w:=by
 have inv: ∀m B,aI (own.map fun e=>(e.1,bif Nat.beq e.1 nm then none else oy row nm l e.2)) m=some B->m≠nm/\ ∃B1,aI own m=some B1/\oy row nm l (some B1)=some B:=fun m B e=>by
  rw[G4] at e;split at e
  .cases e
  .rename_i hm
   refine⟨hm,?_⟩
   cases hl:aI own m with
   |none=>rw[hl] at e;cases e
   |some B1=>rw[hl] at e;exact⟨B1,J,e⟩
 refine⟨h.gb.trans hg,hh,h.sz,h.df,fun k f e=>?_,fun m B e=>?_,fun m m' B B' e e'=>?_,h.fxd⟩
 .rw[xL] at e
  cases hf:aD fr k with
  |none=>rw[hf] at e;cases e
  |some g=>
   rw[hf] at e;cases e;obtain⟨y,h1,h2⟩:=h.fx k g hf;exact⟨y,h1,Jg hg h2 hr ho⟩
 .obtain⟨hm,B1,h1,h2⟩:=inv m B e
  obtain⟨os,h3,h4⟩:=h.bx m B1 h1;refine⟨os,?_,fun o ho'=>hv o (h4 o ho') fun hc=>h.dj m nm B1 B0 h1 hb hm _ (h3.blk ho') hc⟩
  cases B1 with
  |b=>cases h2;exact h3.up hg
  |c=>cases h2;exact h3.up hg
  |p=>cases h2;exact h3.up hg
  |o ty cs lo=>cases h2;obtain⟨b,q,h5,h6,h7⟩:=h3;exact⟨b,q,h5,h6,G5 hg hr ho h7⟩
 .obtain⟨_,B1,h1,_⟩:=inv m B e
  obtain⟨_,B2,h2,_⟩:=inv m' B' e';exact h.dj m m' B1 B2 h1 h2
def bu.frzRow{lk:LK}{bk:BM}{ρ:NE}{G:Gh}{ov:List av}{a:Act}{w:World}{nm:Nat}{ty:TypeId}{s:Nat}{ds:List DV}(r:bu GB C n lk bk ρ G ov a w)(hb:bk nm=some (.b ty s ds true)):
  ∃G' ov',ba G G'/\bj C ov' G' w/\(∀o∈ov,(ρ nm).a≠some ⟨o.b,0,none⟩->o∈ov')/\ ∀y,bz ρ G (.rw nm) y->Is G' (.sl ds) y:=by
 obtain⟨B,⟨vs,hB,hv,hs,hlo⟩,hBo⟩:=r.row (y:= .nilFunc) hb;rcases hB with⟨e1,e2,e3⟩|⟨b,rest,lo',e2,e3,h5,h6,h7⟩
 .subst e1
  have ed:ds=[]:=cV (by rw[<-hv.len];rfl);subst ed;simp only at e2;refine⟨G,ov,ba.refl _,r.h,fun o ho _=>ho,fun y hy=>?_⟩;rw[show y=_ from hy,e2];exact fe.2 ⟨0,⟨none,0,0⟩,[],J, .nil G 0, .nil⟩
 .subst e3
  have hl:=hlo J _ aX;simp only at hl;subst hl;obtain⟨ov',o1,o2⟩:=ik.of_mem (hBo _ aX);obtain⟨f1,f2⟩:=r.h.freeze o1;simp only at e2;refine⟨_,ov',f2,f1,fun o ho hne=>o2 o ho fun e=>hne (by rw[e2,e]),fun y hy=>?_⟩;rw[show y=_ from hy,e2];exact fe.2 ⟨s,⟨some ⟨b,0,none⟩,vs.length,_⟩,vs,J,ee.of_flat hs (if_pos J) h7,hv.up f2⟩
def bu.frzVar{lk:LK}{bk:BM}{ρ:NE}{G:Gh}{ov:List av}{a:Act}{w:World}{nm:Nat}{ty:TypeId}{cs:List FX}{l:List DV}(r:bu GB C n lk bk ρ G ov a w)(hb:bk nm=some (.o ty cs true))(hl:iq cs=some l):
  ∃G' ov',ba G G'/\bj C ov' G' w/\(∀o∈ov,(ρ nm).a≠some ⟨o.b,0,none⟩->o∈ov')/\ ∀y,bz ρ G (.ov nm 0) y->Is G' (.pt l) y:=by
 obtain⟨os,⟨b,m,h3,rfl,h4⟩,h5⟩:=r.bx _ _ hb;obtain⟨ov',o1,o2⟩:=ik.of_mem (h5 _ aX);obtain⟨f1,f2⟩:=r.h.freeze o1;refine⟨_,ov',f2,f1,fun o ho hne=>o2 o ho fun e=>hne (by rw[h3,e]),fun y hy=>?_⟩;obtain⟨b',h6,rfl⟩:=hy;rw[h3] at h6;cases h6;exact mD.2 ⟨b,m,J,if_pos J,(q7 h4 hl).up f2⟩
def A0{nm:Nat}{Φ:Act->World->Prop}{R:tI}(h:uF fr own nm=some R)(hk:SX GB C n (aD R.fr) (aI R.own) Φ):SX GB C n (aD fr) (aI own) Φ:=by
 refine⟨fun ρ G ov a w r=>?_⟩;unfold uF at h;split at h<;>try (cases h;done)
 .rename_i ty s ds hb
  rw[Dj,CH] at h;cases h;obtain⟨G',ov',h1,h2,h3,h4⟩:=r.frzRow hb;exact hk.run ρ G' ov' a w (r.frz (row:=true) h1 h2 h3 hb (fun _=>h4) (fun e=>by cases e))
 .rename_i ty cs hb
  split at h<;>try (cases h;done)
  rename_i l hl;rw[Dj,CH] at h;cases h;obtain⟨G',ov',h1,h2,h3,h4⟩:=r.frzVar hb hl;exact hk.run ρ G' ov' a w (r.frz (row:=false) h1 h2 h3 hb (fun e=>by cases e) (fun _=>h4))
def fz[fu:Fu](nm:Nat){fr1:ao}{own1:aA}(h:uF fr own nm=some ⟨fr1,own1⟩)(hgo:go tt n fu.n [] fr1 own1 (.ops ops r K)=⟨vc,fr',own',cf'⟩)(k:ak prog GB C n Q0 fr' own' cf')(hv:aj vc:=by first|exact trivial|(simp only[aj];kernel_rfl)|(simp only[aj];omega)|(simp only[aj,aZ,aY,aV];omega)):ak prog GB C n Q0 fr own (.ops ops r K):=
 A0 h (dw hgo hv k)
def gO(nm:Nat){fr1:ao}{own1:aA}{e:Exit}(h:uF fr own nm=some ⟨fr1,own1⟩)(k:ak prog GB C n Q0 fr1 own1 (.ex e K)):ak prog GB C n Q0 fr own (.ex e K):=A0 h k
def px(nm:Nat){fr1:ao}{own1:aA}{c:Code}(h:uF fr own nm=some ⟨fr1,own1⟩)(k:ak prog GB C n Q0 fr1 own1 (.code c K)):ak prog GB C n Q0 fr own (.code c K):=A0 h k
def pd:ao->ao->Prop
 |[],_=>True
 |(k,v)::t,fr=>aD fr k=some v/\pd t fr
def qH:aA->aA->Prop
 |[],_=>True
 |(k,v)::t,own=>aI own k=v/\qH t own
def rM: ∀{f:ao},pd f fr->fD (aD f) (aD fr)
 |[],_,k,x,h=>by cases h
 |(j,v)::t,h,k,x,e=>by
  rw[e7] at e;split at e
  .cases e;rename_i hk;rw[hk];exact h.1
  .exact rM h.2 k x e
def oz: ∀{f:aA},qH f own->fD (aI f) (aI own)
 |[],_,k,x,h=>by cases h
 |(j,v)::t,h,k,x,e=>by
  rw[fI] at e;split at e
  .rename_i hk;rw[hk,h.1,e]
  .exact oz h.2 k x e
def kp{k:Nat}{q:IntKind}{a b:Int}(h:aD fr k=some (.d (.v (.int q a))))(e:a=b):aD fr k=some (.d (.v (.int q b))):=e▸h
def Cx(GB:Gh)(C:az)(n:Nat){X:Type}(F:X->ao)(O:X->aA)(I:X->Prop)(a:Act)(w:World):Prop:=
 ∃x ρ G ov,I x/\bu GB C n (aD (F x)) (aI (O x)) ρ G ov a w
def zQ:List Oper->List Nat->List Nat
 |[],l=>l
 |o::r,l=>match o.dst with
  |some d=>d::zQ r l
  |none=>zQ r l
def ou:Code->List Nat->List Nat
 | .region _ ops _,l=>zQ ops.toList l
 | .seq a b,l=>ou a (ou b l)
 | .cond _ a b,l=>ou a (ou b l)
 | .block _ a,l=>ou a l
 | .loop a,l=>ou a l
 | .scope a,l=>ou a l
 |_,l=>l
def Ag{α:Type}:List Nat->ao->(ao->α)->α
 |_,[],k=>k []
 |l,(j,f)::t,k=>bif py l j then Ag l t k else Ag (j::l) t fun t'=>k ((j,f)::t')
def xb{α:Type}:List Nat->aA->(aA->α)->α
 |_,[],k=>k []
 |l,(j,B)::t,k=>bif py l j then xb l t k else match B with
  |some B=>xb l t fun t'=>k ((j,some B)::t')
  |none=>xb l t k
structure Kp where
 fr:ao
 own:aA
def keep(c:Code)(uf uo:List Nat)(fr:ao)(own:aA):Kp:=gv (ou c uo) fun m=>gv (uf++m) fun m'=>Ag m' fr fun fr'=>xb m own fun own'=>⟨fr',own'⟩
def lp[fu:Fu]{c:Code}{X:Type}(U:X->ao)(V:X->aA)(I:X->Prop)(μ:X->Nat)(x0:X){kf:ao}{ko:aA}{cf':X->Cf}{fr':X->ao}{own':X->aA}{vc:X->List Prop}(hkp:keep c ((U x0).map (·.1)) ((V x0).map (·.1)) fr own=⟨kf,ko⟩)(hI:I x0)
  (hgo: ∀x,go tt n fu.n [] (U x++kf) (V x++ko) (.code c (.ag (Cx GB C n (fun y=>U y++kf) (fun y=>V y++ko) (fun y=>I y/\μ y<μ x))::K))=⟨vc x,fr' x,own' x,cf' x⟩)
  (round: ∀x,I x->ak prog GB C n Q0 (fr' x) (own' x) (cf' x))(hF:pd (U x0++kf) fr:=by repeat (first|exact trivial|refine And.intro J ?_|refine And.intro (kp J (by first|omega|(dsimp only;omega))) ?_|refine And.intro (kp J (by simp)) ?_))(hO:qH (V x0++ko) own:=by repeat (first|exact trivial|refine And.intro J ?_))
  (hv: ∀x,I x->aj (vc x):=by intros;first|exact trivial|(simp only[aj];kernel_rfl)|(simp only[aj];omega)|(simp only[aj,aZ,aY,aV];omega)):ak prog GB C n Q0 fr own (.code (.loop c) K):=by
 refine⟨fun ρ G ov a w r=>?_⟩;have r0:=r.mono (rM hF) (oz hO);intro b k cs hro hb hrm;have key: ∀m a w,(∃x ρ G ov,I x/\μ x=m/\bu GB C n (aD (U x++kf)) (aI (V x++ko)) ρ G ov a w)->
   ∃e a' w',cQ C.rd prog Q0 K e a' w'/\ArrivesIn (Machine.fenced prog (FW C.rd)) prog (lone (b.atR a (.code c:: .inLoop c::k)) cs w) b k cs e a' w':=by
  intro m
  induction m using Nat.strongRecOn with
  |_ m ih=>
   intro a w ⟨x,ρ,G,ov,hx,hm,hr⟩;have h1:=dw (GB:=GB) (C:=C) (Q0:=Q0) (hgo x) (hv x hx) (round x hx);obtain⟨e,a₁,w₁,hq,harr⟩:=h1.run ρ G ov a w hr b (.inLoop c::k) cs hro hb hrm
   cases e with
   |normal=>
    obtain⟨x',ρ',G',ov',⟨hx',hlt⟩,hr'⟩:=hq;obtain⟨e₂,a₂,w₂,hq₂,harr₂⟩:=ih (μ x') (hm▸hlt) a₁ w₁ ⟨x',ρ',G',ov',hx',rfl,hr'⟩;exact⟨e₂,a₂,w₂,hq₂, .of_steps (StepsIn.trans harr (.one (fenced_calm hb hrm J) stepR_inLoop)) harr₂⟩
   |exit id=>exact⟨_,a₁,w₁,hq, .pass (x:= .inLoop c) J (fun _ _=> .inl (by simp)) harr⟩
   |goto l=>exact⟨_,a₁,w₁,hq, .pass (x:= .inLoop c) J (fun _ _=> .inl (by simp)) harr⟩
   |ret=>exact⟨_,a₁,w₁,hq, .pass (x:= .inLoop c) J (fun _ _=> .inl (by simp)) harr⟩
   |panic ch=>exact⟨_,a₁,w₁,hq, .pass (x:= .inLoop c) J (fun _ _=> .inl (by simp)) harr⟩
   |outgrown=>exact⟨_,a₁,w₁,hq, .pass (x:= .inLoop c) J (fun _ _=> .inl (by simp)) harr⟩
 obtain⟨e,a',w',q,rr⟩:=key (μ x0) a w ⟨x0,ρ,G,ov,hI,rfl,r0⟩;exact⟨e,a',w',q, .of_steps (.one (fenced_calm hb hrm J) stepR_loop) rr⟩
def at_{X:Type}{F:X->ao}{O:X->aA}{I:X->Prop}(x:X)(hI:I x)(hF:pd (F x) fr:=by repeat (first|exact trivial|refine And.intro J ?_|refine And.intro (kp J (by first|omega|(dsimp only;omega))) ?_|refine And.intro (kp J (by simp)) ?_))(hO:qH (O x) own:=by repeat (first|exact trivial|refine And.intro J ?_)):ak prog GB C n Q0 fr own (.ex .normal (.ag (Cx GB C n F O I)::K)):=
 ⟨fun ρ G ov a w r=>⟨x,ρ,G,ov,hI,r.mono (rM hF) (oz hO)⟩⟩
def mg[fu:Fu]{c d:Code}{X:Type}(U:X->ao)(V:X->aA)(I:X->Prop){kf:ao}{ko:aA}{cf':X->Cf}{fr':X->ao}{own':X->aA}{vc:X->List Prop}(u0 v0:List Nat)(hkp:keep c u0 v0 fr own=⟨kf,ko⟩)
  (h1:ak prog GB C n Q0 fr own (.code c (.ag (Cx GB C n (fun y=>U y++kf) (fun y=>V y++ko) I)::K)))
  (hgo: ∀x,go tt n fu.n [] (U x++kf) (V x++ko) (.code d K)=⟨vc x,fr' x,own' x,cf' x⟩)(k: ∀x,I x->ak prog GB C n Q0 (fr' x) (own' x) (cf' x))(hv: ∀x,I x->aj (vc x):=by intros;first|exact trivial|(simp only[aj];kernel_rfl)|(simp only[aj];omega)|(simp only[aj,aZ,aY,aV];omega)):ak prog GB C n Q0 fr own (.code c (.sq d::K)):=by
 refine SX.imp h1 fun a w h=>S3 h ?_;intro e a w h
 cases e with
 |normal=>
  obtain⟨x,ρ,G,ov,hI,hr⟩:=h;have:=dw (GB:=GB) (C:=C) (Q0:=Q0) (hgo x) (hv x hI) (k x hI);exact this.run ρ G ov a w hr
 |_=>exact h
end
end Go.Sx
end
section
namespace Go.Sx
open Go
section
variable {P:Program} {ops:Array Oper} {Q:Exit->Act->World->Prop} {S:World->Prop} {π₂:List (Nat×Bool)}
abbrev Yi:Nat->Bool:=fun _=>false
def qC(S:World->Prop)(K:(World->Prop)->Act->World->Prop)(a:Act)(w:World):Prop:= ∃S':World->Prop,(∀w,S' w->S w)/\S' w/\K S' a w
def s7(P:Program)(ops:Array Oper)(Q:Exit->Act->World->Prop)(K:(World->Prop)->Act->World->Prop):List Nat->List (Nat×Bool)->(World->Prop)->Act->World->Prop
 |[],[],S,a,w=>K S a w
 |k::ks,[],S,a,w=> ∀j,(h:j∈k::ks)->wpOp P ops Q j (qC S (s7 P ops Q K (bt (k::ks) j) [])) a w
 |ks,(i,true)::r,S,a,w=> ∃o v,ops[i]? =some o/\S w/\YieldsIf P ops S o v a/\s7 P ops Q K ks r S (a.put o.dst v) w
 |ks,(i,false)::r,S,a,w=>wpOp P ops Q i (qC S (s7 P ops Q K ks r)) a w/\
   ∀j,(h:j∈ks)->wpOp P ops Q j (qC S (s7 P ops Q K (bt ks j) ((i,false)::r))) a w
termination_by ks π=>ks.length+π.length
decreasing_by
 all_goals (first|(have:=CO h;simp only[bR,kJ] at*;omega)|(simp only[bR];omega))
def Yp(Q:Exit->Act->World->Prop):(World->Prop)->Act->World->Prop:=fun _ a w=>Q .normal a w
end
section
variable {P:Program} {GB:Gh} {C:az} {n:Nat} {fr fr':di} {own own' own0 own1 own1':List cj} {bs bs0 bs1 bs1':List cI} {ops:Array Oper} {Q:Exit->Act->World->Prop} {fd:List FD} {π π₂:List (Nat×Bool)}
structure SR (GB:Gh) (C:az) (n:Nat) (fr:di) (own0:List cj) (bs0:List cI) (own1:List cj) (bs1:List cI) (fd:List FD) (K:List Nat->(World->Prop)->Act->World->Prop):Prop where
 run: ∀G frv o0 o1,ba GB G->xE G fr frv->OB G own0 bs0 o0->OB G own1 bs1 o1-> ∀fs:Fs,St C n (frv++Bc fd fs) (o1++(o0++Ab fd fs)) G (K (CC fd fs) (HS C o0 G))
instance {GB:Gh} {C:az} {n:Nat} {fr:di} {own0:List cj} {bs0:List cI} {own1:List cj} {bs1:List cI} {fd:List FD} {K:List Nat->(World->Prop)->Act->World->Prop}:CoeFun (SR GB C n fr own0 bs0 own1 bs1 fd K) (fun _=> ∀G frv o0 o1,ba GB G->xE G fr frv->OB G own0 bs0 o0->OB G own1 bs1 o1-> ∀fs:Fs,St C n (frv++Bc fd fs) (o1++(o0++Ab fd fs)) G (K (CC fd fs) (HS C o0 G))):=⟨SR.run⟩
abbrev dwK (P:Program) (ops:Array Oper) (Q:Exit->Act->World->Prop) (K:(World->Prop)->Act->World->Prop) (π:List (Nat×Bool)):List Nat->(World->Prop)->Act->World->Prop:=fun ks S=>s7 P ops (mv Q) K ks π S
def UA:List FD->List Nat->di
 |f::fd,b::bl=>(f.d, .d (.v (.pointer (some ⟨b,0,none⟩))))::UA fd bl
 |_,_=>[]
def Mj:List FD->List (List DV)->List Nat->List cj
 |f::fd,c::cl,b::bl=>⟨b,c,f.t,true⟩::Mj fd cl bl
 |_,_,_=>[]
def Mh:List FD->List (List DV)->Prop
 |f::fd,c::cl=>IsLs (fun _=>none) c (aF f.z)/\Mh fd cl
 |[],[]=>True
 |_,_=>False
end
def X7{α:Type}(idx:List Nat)(l:List α):List α:=idx.filterMap (l[·]?)
section
variable {P:Program} {GB:Gh} {C:az} {n:Nat} {E:kB} {fr fr':di} {own own':List cj} {bs bs' bs1:List cI} {ops:Array Oper} {Q:Exit->Act->World->Prop} {r:List Oper} {Φ:Act->World->Prop}
variable {dst:Option Nat} {t t' ty':TypeId} {pos:String} {af:Array Edge} {gd:Option (Nat×Bool)} {x y z:Operand} {e s by_:Nat}
def PB(GB:Gh)(P:Program)(f:FuncId)(mk:SV->List DV)(s:Nat)(ty:TypeId)(dsi:List DV)(mkr:SV->DV)(dso:List DV):Prop:=
 ∀G w vs B,ba GB G->cG G ⟨w,s,ty,dsi,false⟩ B->IsLs G (mk w) vs->iD P f vs B G (fun v own' G'=> ∃w',Is G' (mkr w') v/\cG G' ⟨w',s,ty,dso,false⟩ own')
def Pm(fr:di):List Operand->Option (List DV)
 |[]=>some []
 |x::t=>match Bj fr x,Pm fr t with
  |some (.d d),some l=>some (d::l)
  |_,_=>none
def cG.asB{G:Gh}{w:SV}{ty:TypeId}{ds:List DV}{lo:Bool}{B:List av}(h:cG G ⟨w,s,ty,ds,lo⟩ B):cG G ⟨w,s,ty,ds,false⟩ (Sx.asB B):=by
 obtain⟨vs,h1,h2,h3,h4⟩:=h;exact⟨vs,h1.asB,h2,h3,fun h=>by cases h⟩
def cG.weak{G:Gh}{w:SV}{ty:TypeId}{ds:List DV}{lo:Bool}{B:List av}(h:cG G ⟨w,s,ty,ds,lo⟩ B):cG G ⟨w,s,ty,ds,false⟩ B:=by
 obtain⟨vs,h1,h2,h3,h4⟩:=h;exact⟨vs,h1,h2,h3,fun h=>by cases h⟩
inductive CP (fr:di):List ResultVar->List DV->Prop
 |nil:CP fr [] []
 |tmp {t:Nat} {v:DV} {rs:List ResultVar} {vs:List DV} (h:rI fr t=some (.d v)) (k:CP fr rs vs):CP fr (.tmp t::rs) (v::vs)
end
section
variable {P:Program} {GB:Gh} {C:az} {n:Nat} {E:kB} {fr fr':di} {own own':List cj} {bs bs' bs1:List cI} {ops:Array Oper} {Q:Exit->Act->World->Prop} {r:List Oper} {Φ:Act->World->Prop}
variable {dst:Option Nat} {t t' ty':TypeId} {pos:String} {af:Array Edge} {gd:Option (Nat×Bool)} {x y z:Operand} {e s by_:Nat}
def PX(GB:Gh)(P:Program)(f:FuncId)(ds:List DV)(ι:Type)(r:ι->DV):Prop:=
 ∀G vs,ba GB G->IsLs G ds vs->Fn P f vs G (fun v G'=> ∃x,Is G' (r x) v)
def ZG(GB:Gh)(P:Program)(f:FuncId)(ds:List DV)(b:Nat)(ty:TypeId)(cs:List DV)(ι:Type)(r:ι->DV)(cs':ι->List DV):Prop:=
 ∀G vs m lo,ba GB G->IsLs G ds vs->IsLs G cs m->qp P f vs [⟨b,m,ty,lo⟩] G (fun v css G'=> ∃x,Is G' (r x) v/\ ∃m',css=[m']/\IsLs G' (cs' x) m')
def PN(GB:Gh)(P:Program)(f:FuncId)(ds:List DV)(ty:TypeId)(ι:Type)(cs:ι->List DV):Prop:=
 ∀G vs,ba GB G->IsLs G ds vs->iD P f vs [] G (fun v own' G'=> ∃x b m,v= .pointer (some ⟨b,0,none⟩)/\own'=[⟨b,m,ty,true⟩]/\IsLs G' (cs x) m)
inductive Ba:List cj->Nat->List DV->TypeId->Bool->List cj->List cj->Prop
 |hd (b:Nat) (cs:List DV) (ty:TypeId) (lo:Bool) (t:List cj):Ba (⟨b,cs,ty,lo⟩::t) b cs ty lo [] t
 |tl (o:cj) (t:List cj) (b:Nat) (cs:List DV) (ty:TypeId) (lo:Bool) (L R:List cj) (h:Ba t b cs ty lo L R):Ba (o::t) b cs ty lo (o::L) R
end
section
variable {P:Program} {GB:Gh} {C:az} {n:Nat} {fr:di} {own:List cj} {bs:List cI}
def PMR(GB:Gh)(P:Program)(f:FuncId)(ds:List DV)(b:Nat)(ty:TypeId)(cs:List DV)(s:Nat)(ty2:TypeId)(ι:Type)(rows:ι->List DV)(cs':ι->List DV):Prop:=
 ∀G vs m lo,ba GB G->IsLs G ds vs->IsLs G cs m->iD P f vs [⟨b,m,ty,lo⟩] G (fun v own' G'=> ∃x w m' B,v= .slice w.a w.n w.c/\own'=⟨b,m',ty,false⟩::B/\IsLs G' (cs' x) m'/\cG G' ⟨w,s,ty2,rows x,true⟩ B/\ ∀o∈B,b≠o.b)
variable {dst:Option Nat} {t t' ty':TypeId} {pos:String} {af:Array Edge} {gd:Option (Nat×Bool)} {x y z:Operand}
def Xj{fr:Fr}{own:List av}{G:Gh}{fn:Func}{K:Value->List av->Gh->Prop}{vs:List Value}(hr:gc P fr own fn.results.toList vs)(own2 own3:List av)(hp:own.Perm own2)(hs:own3.Sublist own2)(hk:own3.Pairwise (fun x y=>x.b≠y.b)->K (i4 vs) own3 G):St C n fr own G (dx C P fn (nn C K) .ret):=
 fun a w rl hmk=>⟨rl.df.trans hmk,_,nv hr rl.fr rl.h,_,own3,G,J,(rl.h.perm hp).drop hs,hk ((rl.h.perm hp).drop hs).nd⟩
variable {e s by_:Nat}
def Od{G:Gh}{l:List DV}{w:SV}{es:List Value}{s' nhi mx':Nat}(hsl:ee G s' w es)(hl:IsLs G l es)(ho:dl s l)(h2:nhi<=l.length)(hm1:nhi<=mx')(hm2:mx'<=w.c):Is G (.sl (l.take nhi)) (.slice w.a nhi mx'):=by
 have hn:=hsl.len;have hcap:=hsl.cap;have hll:=hl.len;have e9: ∀s,jn w.a w.n w.c 0 nhi mx' s= .slice w.a nhi mx':=by
  intro s;unfold jn
  cases w.a with
  |none=>simp
  |some ad=>simp[Addr.add]
 rcases wg hsl hl ho with he|he
 .subst he
  have:l=[]:=cV (by rw[<-hll];rfl);subst this;have e1:nhi=0:=by simp at h2;exact h2
  subst e1;refine fe.2 ⟨s,⟨_,0,mx'⟩,[],J,⟨J,bJ _, .inl J⟩,by simpa using IsLs.nil⟩
 .subst he
  have k:=hsl.sub 0 nhi mx' (bJ _) (by omega) hm1 hm2;have k2:=fe.2 ⟨s',⟨_,_,_⟩,_,J,k,(hl.take nhi).drop 0⟩;rw[fZ] at k2;have e:=e9 s';unfold jn at e;revert k2;simp only[] at*;intro k2
  first|exact e▸k2|(simp at e k2⊢;first|exact k2|(cases hw:w.a<;>simp_all [Addr.add]))
end
end Go.Sx
end
section
namespace Go.Sx
open Go Go.Proofs Tryz
section
variable {P:Program} {T:TT} {GB:Gh} {C:az} {n:Nat} {lk:LK} {bk:BM} {ρ:NE} {G:Gh} {ov:List av} {a:Act} {w:World}
variable {dst:Option Nat} {t t' ty':TypeId} {pos:String} {af:Array Edge} {gd:Option (Nat×Bool)} {x y:Operand} {e s by_:Nat}
def P2[hT:c8 P t e s by_]{k:IntKind}{l:List DV}{d:DV}{i:Int}(hx:evD lk x=some (.sl l))(hy:aB lk y=some (.d (.v (.int k i))))(h0:0<=i)(he:l[i.toNat]? =some d)(hd:(d.okc&&Nat.beq d.cells.length s)=true):
  bw P GB C n lk bk ⟨dst, .indexAddr t x y,ty',pos,af,gd⟩ (.ep d.cells) [] []:= .yd fun ρ G ov a w r=>by
 simp only[bQ] at hd;obtain⟨hd,hs⟩:=hd;obtain⟨u,h1,h2⟩:=r.evD hx;obtain⟨q,g1,g2⟩:=r.ev hy;rw[ce] at g2;subst g2;obtain⟨s',z,es,rfl,hsl,hl⟩:=fe.1 h2;obtain⟨v,h3,h4⟩:=hl.get he;obtain⟨h5,h6⟩:=aT.1 h3;have hc:=(h4.cells hd).1.len;replace hs:=aU hs;rcases hsl.mem with h|⟨b,off,cs,ha,hg,hcs⟩
 .rw[h] at h5;simp at h5
 .have h7:=hcs i.toNat h5
  rw[h6] at h7;have h8:=vH h7;have:s'=s:=by omega
  subst this;rw[ha] at h1;have hn:=hsl.len;refine⟨.pointer (some ⟨b,off+i.toNat*s',none⟩),⟨b,_,cs,aF v,J,hg,?_,(h4.cells hd).1⟩,BV h1 g1 h0 (by omega)⟩;rw[<-hc,h8];exact h7
def vt(ag:Option Nat)(cs:List DV)(j:Nat):Option DV:=match ag with
 |some k=>match takeD cs j k with
  |some l=>some (.ag l)
  |none=>none
 |none=>cs[j]?
def ME{i:TI}{ag:Option Nat}{nm sz k j:Nat}{ty:TypeId}{ds:List DV}{lo:Bool}{d c:DV}(hi:dC P t=some i)(ha:i.ag=some ag)(hx:aB lk x=some (.be nm sz k j))(hb:bk nm=some (.b ty sz ds lo))(he:ds[k]? =some d)(hd:d.okc=true)(hl:vt ag d.cells j=some c):
  bw P GB C n lk bk ⟨dst, .load t x,ty',pos,af,gd⟩ (.d c) [] []:= .x1 hx fun ρ G ov a w y _ r h1 h2=>by
 obtain⟨b,hwb,rfl⟩:=h2;obtain⟨B,hB,hmem⟩:=r.row (y:= .nilFunc) hb;obtain⟨b',m,rest,lo',l0,e1,rfl,h3,h4⟩:=hB.elem he hd;simp only[] at e1 h3;rw[hwb] at e1;cases e1;have oat:ie ov b (m++rest) ty lo':=⟨hmem _ aX⟩
 cases ag with
 |some k'=>
  have:=sB hi ha;simp only[vt] at hl;split at hl<;>cases hl;rename_i hl;obtain⟨l',h5,h6⟩:=h4.takeD hl;exact⟨.agg ⟨l'⟩,dt.2 ⟨l',J,h6⟩,A6 h1 (Hp h3 h5)⟩
 |none=>
  have:=qh hi ha;simp only[vt] at hl;obtain⟨l',h5,h6⟩:=h4.get hl;have hj:j<sz:=by
   have:=vH h3;have h7:=(aT.1 h5).1;omega
  exact⟨l',h6,Ku h1 (by rw[Bt h3 hj];exact h5)⟩
def cG.toBk{nm:Nat}{s:Nat}{ty:TypeId}{ds:List DV}{lo:Bool}{B:List av}{x:SV}(h:cG G ⟨x,s,ty,ds,lo⟩ B)(e:ρ nm=x):gr ρ G nm (.b ty s ds lo) B:=by
 obtain⟨vs,h1,h2,h3,h4⟩:=h;exact⟨vs,by rw[e];exact h1,h2,h3,h4⟩
def bu.newRow(r:bu GB C n lk bk ρ G ov a w){d:Nat}{z:SV}{ty:TypeId}{s:Nat}{ds:List DV}{B ov':List av}{K:Act->World->Prop}{a':Act}{w':World}(hf:i6 [d] (some d) lk bk)(hB:cG G ⟨z,s,ty,ds,true⟩ B)(hos: ∀o∈B,o∈ov')
  (hov: ∀m B',m≠d->bk m=some B'-> ∀o∈ov,(ρ m).a=some ⟨o.b,0,none⟩->o∈ov'/\z.a≠some ⟨o.b,0,none⟩)
  (hk:SX GB C n (c7 lk (some d) (.rw d)) (Sx.upB bk [(d,some (.b ty s ds true))]) K)(rl:eB C n (Sx.put (cg a) (some d) (.slice z.a z.n z.c)) ov' G a' w'):K a' w':=
 hk.run _ _ _ a' w' (r.new' (x:=z) (f:= .rw d) (y:= .slice z.a z.n z.c) hf (ba.refl _) rl.h (hB.toBk (by simp)) hos hov (by show _=_;simp) (i7 rl))
def jy(i:TI):Option DV:=match i.z with
 |some z=>match iq z with
  |some zs=>bif i.za then(bif zs.all DV.flat then some (.ag zs) else none) else(match zs with
   |[d]=>bif d.flat then some d else none
   |_=>none)
  |none=>none
 |none=>none
def Sv{d:DV}(h:d.flat=true):d.cells=[d]/\d.okc=true:=by
 cases d<;>first|exact⟨J,h⟩|cases h
theorem uB{i:TI}{d:DV}(hi:dC P e=some i)(h:jy i=some d): ∃v,gg P e v/\(∀G,Is G d v)/\d.okc=true:=by
 obtain⟨j,hj,hij⟩:=lx hi;unfold jy at h;split at h<;>try (cases h;done)
 rename_i z hz;split at h<;>try (cases h;done)
 rename_i zs hzs;obtain⟨v,h1,h2⟩:=yV hi hz;have h3: ∀G,IsLs G zs (aF v):=fun G=>q7 (h2 (fun _=>⟨none,0,0⟩) G) hzs;have hzv:j.zero=some v:=by have:=h1.inf;rw[hj] at this;simpa using this
 have hza:i.za=BX (some v):=by rw[hij,<-hzv]
 cases hb:i.za with
 |true=>
  rw[hb] at h hza
  cases hc:zs.all DV.flat with
  |false=>rw[hc] at h;cases h
  |true=>
   rw[hc] at h;cases h
   cases v<;>first|(cases hza;done)|skip
   rename_i cs;exact⟨_,h1,fun G=>dt.2 ⟨cs.toList,by simp,h3 G⟩,hc⟩
 |false=>
  rw[hb,cond_false] at h;rw[hb] at hza;split at h<;>try (cases h;done)
  rename_i u
  cases hc:u.flat with
  |false=>rw[hc] at h;cases h
  |true=>
   rw[hc] at h;cases h;have hv:aF v=[v]:=by cases v<;>first|rfl|(cases hza;done)
   refine⟨v,h1,fun G=>?_,(Sv hc).2⟩;have:=h3 G;rw[hv] at this;exact this.uncons.1
def UH{d:Nat}{i:TI}{z:DV}{k k':IntKind}{l:Int}{ds:List DV}[hT:c8 P t e s by_](hi:dC P e=some i)(hz:jy i=some z)(hs:Nat.beq z.cells.length s=true)(hx:aB lk x=some (.d (.v (.int k l))))(hy:aB lk y=some (.d (.v (.int k' l))))(h0:0<=l)(hb:by_*l<=140737488355328)(hl:l<=1152921504606846976)(hds:List.replicate l.toNat z=ds):
  bw P GB C n lk bk ⟨some d, .makeSlice t x y,ty',pos,af,gd⟩ (.rw d) [(d,some (.b e s ds true))] [d]:=by
 intro hd tl tb K s1 s2 hf hk;refine⟨fun ρ G ov a w r Q=>?_⟩;subst hds;obtain⟨v,hz1,hz2,hz3⟩:=uB hi hz;obtain⟨q1,p1,p2⟩:=(r.mono s1 s2).ev hx;obtain⟨q2,p3,p4⟩:=(r.mono s1 s2).ev hy;rw[ce] at p2 p4;subst p2 p4;have c1:=((hz2 G).cells hz3).1.len;replace hs:=aU hs;have e1: ∀u∈List.replicate l.toNat v,(aF u).length=s:=fun u hu=>by rw[jR hu,c1,hs]
 refine WJ p1 p3 h0 hb hl (by rw[c1,hs]) hd (fun b a' w' rl=>?_) a w Q ⟨r.h,r.sz,ci a,r.df⟩;have hnd:=(bZ.1 rl.h.nd).1;refine r.newRow (z:=⟨some ⟨b,0,none⟩,l.toNat,l.toNat⟩) (B:=[⟨b,dA v l.toNat,e,true⟩]) hf ⟨List.replicate l.toNat v, .inr ⟨b,[],true,by simp,by rw[VA,lW],fj _ e1,by rw[fj _ e1];simp,by simp⟩,J2 (hz2 G) _,e1,fun _ o ho=>by rw[aL.1 ho]⟩
  (fun o ho=>by rw[aL.1 ho];exact aX) (fun m B' _ _ o ho _=>⟨aK _ ho,fun e'=>?_⟩) hk rl
 cases e';exact hnd o ho J
def qc(lk:LK):Nat->List (Nat×Operand)->Option (List DV)
 |_,[]=>some []
 |j,(i,x)::r=>match evD lk x,qc lk (j+1) r with
  |some d,some l=>bif Nat.beq i j then some (d::l) else none
  |_,_=>none
def LJ(r:bu GB C n lk bk ρ G ov a w){zv:Value}(hz:(aF zv).length=s): ∀(ps:List (Nat×Operand)) (j:Nat) (pre:List Value) (ds:List DV),qc lk j ps=some ds->pre.length=j*s->(∀d∈ds,d.okc=true/\d.cells.length=s)->
  ∃vs,o5 (cg a) s (pre++dA zv ps.length) ps=some (pre++bc vs)/\IsLs G ds vs/\(∀v∈vs,(aF v).length=s)/\vs.length=ps.length
 |[],j,pre,ds,e,hp,hd=>by
  simp only[qc] at e;cases e;exact⟨[],by simp[o5,dA,bc], .nil,by simp,J⟩
 |(i,x)::ps,j,pre,ds,e,hp,hd=>by
  simp only[qc] at e;split at e
  .rename_i d l hx hl
   cases hb:Nat.beq i j with
   |false=>rw[hb] at e;cases e
   |true=>
    rw[hb] at e
    cases e
    have:=aU hb;subst this;obtain⟨y,hy,hy'⟩:=r.evD hx;obtain⟨k1,k2⟩:=hd d aX;have c1:=(hy'.cells k1).1.len;have hov:c9 (pre++dA zv (ps.length+1)) (i*s) (aF y)=(pre++aF y)++dA zv ps.length:=by
     rw[Qj,<-hp,G6 _ _ _ _ (by rw[c1,k2,hz]),dL]
    obtain⟨vs,h1,h2,h3,h4⟩:=LJ r hz ps (i+1) (pre++aF y) l hl (by rw[aN,c1,k2,hp,gR]) (fun d hd'=>hd d (aK _ hd'));refine⟨y::vs,?_, .cons hy' h2,fun v hv=>?_,by simp[h4]⟩
    .simp only[o5,hy,bR]
     rw[if_pos ⟨by rw[c1,k2],by rw[aN,qm,hz,hp,gR];omega⟩,hov,h1];simp[bc]
    .rcases aR.1 hv with rfl|hv
     .rw[c1,k2]
     .exact h3 v hv
  .cases e
def DM{d:Nat}{i:TI}{z:DV}{len:Nat}{parts:Array (Nat×Operand)}{ds:List DV}[hT:c8 P t e s by_](hi:dC P e=some i)(hz:jy i=some z)(hs:Nat.beq z.cells.length s=true)(hb:qc lk 0 parts.toList=some ds)(hok:yN s ds=true)(hlen:Nat.beq parts.toList.length len=true)(hsm:Nat.ble (len*s) 1000=true)(hs0:Nat.blt 0 (len*s)=true):
  bw P GB C n lk bk ⟨some d, .buildSlice t len parts,ty',pos,af,gd⟩ (.rw d) [(d,some (.b e s ds true))] [d]:=by
 intro hd tl tb K s1 s2 hf hk;refine⟨fun ρ G ov a w r Q=>?_⟩;obtain⟨v,hz1,hz2,hz3⟩:=uB hi hz;have c1:=((hz2 G).cells hz3).1.len;replace hs:=aU hs;have hlen':=aU hlen;obtain⟨vs,h1,h2,h3,h4⟩:=LJ (r.mono s1 s2) (s:=s) (zv:=v) (by rw[c1,hs]) parts.toList 0 [] ds hb (by simp) (w5 hok);rw[jV,jV] at h1;refine WA (z:=v) (out:=bc vs) (by rw[c1,hs]) (by rw[<-hlen'];exact h1) hsm hs0 hd (fun b a' w' rl=>?_) a w Q ⟨r.h,r.sz,ci a,r.df⟩;have hnd:=(bZ.1 rl.h.nd).1;have hvl:vs.length=len:=by rw[h4,hlen']
 refine r.newRow (z:=⟨some ⟨b,0,none⟩,len,len⟩) (B:=[⟨b,bc vs,e,true⟩]) hf ⟨vs, .inr ⟨b,[],true,by rw[hvl],by rw[lW],fj _ h3,by rw[fj _ h3,hvl];simp,by rw[hvl];exact aM _⟩,h2,h3,fun _ o ho=>by rw[aL.1 ho]⟩
  (fun o ho=>by rw[aL.1 ho];exact aX) (fun m B' _ _ o ho _=>⟨aK _ ho,fun e'=>?_⟩) hk rl
 cases e';exact hnd o ho J
def Sh{d:Nat}[hT:c8 P t e s by_]:bw P GB C n lk bk ⟨some d, .buildSlice t 0 #[],ty',pos,af,gd⟩ (.rw d) [(d,some (.b e s [] true))] [d]:=by
 intro hd tl tb K s1 s2 hf hk;refine⟨fun ρ G ov a w r Q=>?_⟩;refine Iw hd (fun b a' w' rl=>?_) a w Q ⟨r.h,r.sz,ci a,r.df⟩;have hnd:=(bZ.1 rl.h.nd).1;refine r.newRow (z:=⟨some ⟨b,0,none⟩,0,0⟩) (B:=[⟨b,[],e,true⟩]) hf ⟨[], .inr ⟨b,[],true,J,by simp[bc],by simp[bc],by simp[bc],by simp⟩, .nil,by simp,fun _ o ho=>by rw[aL.1 ho]⟩
  (fun o ho=>by rw[aL.1 ho];exact aX) (fun m B' _ _ o ho _=>⟨aK _ ho,fun e'=>?_⟩) hk rl
 cases e';exact hnd o ho J
def bw.frz{o:Oper}{d:Nat}{B:Bk}{f:FX}{v:DV}(hd:o.dst=some d)(h:bw P GB C n lk bk o f [(d,some B)] [d])
  (hz: ∀lk bk ρ G ov a w,bu GB C n lk bk ρ G ov a w->bk d=some B-> ∃G' ov',ba G G'/\bj C ov' G' w/\(∀o∈ov,(ρ d).a≠some ⟨o.b,0,none⟩->o∈ov')/\ ∀y,bz ρ G f y->Is G' v y):bw P GB C n lk bk o (.d v) [(d,none)] [d]:=by
 intro hd' tl tb K s1 s2 hf hk;refine h hd' tl tb K s1 s2 hf ?_;rw[hd] at hk⊢;refine⟨fun ρ G ov a w r=>?_⟩;have hbd:Sx.upB tb [(d,some B)] d=some B:=by simp[Sx.upB]
 obtain⟨G',ov',h1,h2,h3,h4⟩:=hz _ _ ρ G ov a w r hbd;refine hk.run ρ G' ov' a w ⟨r.gb.trans h1,h2,r.sz,r.df,fun k g e=>?_,fun m B' e=>?_,fun m m' B1 B2 e e'=>?_,r.fxd⟩
 .by_cases hk:k=d
  .subst hk
   simp only[c7,if_true] at e;cases e;obtain⟨y,g1,g2⟩:=r.fx k f (by simp[c7]);exact⟨y,g1,h4 y g2⟩
  .simp only[c7,hk,if_false] at e
   obtain⟨y,g1,g2⟩:=r.fx k g (by simp[c7,hk,e]);exact⟨y,g1,g2.up h1⟩
 .simp only[Sx.upB] at e
  split at e
  .cases e
  .rename_i hm
   have e':Sx.upB tb [(d,some B)] m=some B':=by simp[Sx.upB,hm,e]
   obtain⟨os,g1,g2⟩:=r.bx m B' e';exact⟨os,g1.up h1,fun o ho=>h3 o (g2 o ho) fun hc=>r.dj m d B' B e' hbd hm _ (g1.blk ho) hc⟩
 .simp only[Sx.upB] at e e'
  split at e
  .cases e
  .rename_i hm
   split at e'
   .cases e'
   .rename_i hm'
    exact r.dj m m' B1 B2 (by simp[Sx.upB,hm,e]) (by simp[Sx.upB,hm',e'])
def bw.frzRow{o:Oper}{d:Nat}{ty:TypeId}{s:Nat}{ds:List DV}(hd:o.dst=some d)(h:bw P GB C n lk bk o (.rw d) [(d,some (.b ty s ds true))] [d]):bw P GB C n lk bk o (.d (.sl ds)) [(d,none)] [d]:=
 h.frz hd fun _ _ _ _ _ _ _ r hb=>r.frzRow hb
def V'{d:Nat}{f:FX}{l:List DV}(e:aB lk x=some f)(hc:f.okc=true)(hn:sW f d=true)(hl:iq f.cells=some l):bw P GB C n lk bk ⟨some d, .box t x,ty',pos,af,gd⟩ (.d (.pt l)) [(d,none)] [d]:=
 (I3 e hc hn).frz J fun _ _ _ _ _ _ _ r hb=>r.frzVar hb hl
def nI(lk:LK)(bk:BM)(s:Nat)(y:Operand):Option (List DV):=match aB lk y with
 |some (.rw nm)=>match bk nm with
  |some (.b _ s' ds _)=>bif Nat.beq s' s then some ds else none
  |_=>none
 |some f=>match gw f with
  |some (.sl l)=>some l
  |_=>none
 |none=>none
def CF{ds:List DV}(r:bu GB C n lk bk ρ G ov a w)(h:nI lk bk s y=some ds)(hk:dl s ds):
  ∃(z:SV) (vs:List Value),aC (cg a) y=some (.slice z.a z.n z.c)/\z.n=vs.length/\IsLs G ds vs/\(∀v∈vs,(aF v).length=s)/\(∀v∈bc vs,Sx.flat v=true)/\l6 P C ov G s z.n (.slice z.a z.n z.c) (bc vs):=by
 have hfl: ∀vs:List Value,IsLs G ds vs->(∀v∈vs,(aF v).length=s)/\ ∀v∈bc vs,Sx.flat v=true:=by
  intro vs hl;refine⟨fun v hv=>?_,fun v hv=>?_⟩
  .obtain⟨d,hd,h3⟩:=hl.all v hv
   obtain⟨k1,k2⟩:=hk d hd;rw[(h3.cells k1).1.len,k2]
  .simp only[bc,List.mem_flatten,bV] at hv
   obtain⟨l,⟨u,hu,rfl⟩,hv⟩:=hv;obtain⟨d,hd,h3⟩:=hl.all u hu;exact(h3.cells (hk d hd).1).2 v hv
 unfold nI at h;split at h
 .rename_i nm hy
  split at h<;>try (cases h;done)
  rename_i ty s' ds' lo hb
  cases hs:Nat.beq s' s with
  |false=>rw[hs] at h;cases h
  |true=>
   rw[hs] at h;cases h
   cases aU hs
   obtain⟨u,h1,h2⟩:=r.ev hy
   cases h2
   obtain⟨B,⟨vs,hB,hv,hs,_⟩,hmem⟩:=r.row (y:= .nilFunc) hb;obtain⟨f1,f2⟩:=hfl _ hv;refine⟨ρ nm,vs,h1,hB.len,hv,f1,f2,?_⟩;rcases hB with⟨e1,e2,e3⟩|⟨b,rest,lo',h3,h4,h5,h6,h7⟩
   .simp only[] at e2
    subst e1;rw[e2];exact tg
   .simp only[] at h3 h4 h5 h6 h7
    have oat:ie ov b (bc vs++rest) ty lo':=⟨hmem _ (by rw[h4];exact aX)⟩;rw[show(ρ nm).a=some ⟨b,0,none⟩ by rw[h3],show(ρ nm).n=vs.length by rw[h3]];refine W6 oat ?_;rw[ja _ _ _ (by rw[aN];omega),fZ,fQ (by omega),cW (by omega)]
 .rename_i f _ hy
  split at h<;>cases h;rename_i hd;obtain⟨u,h3,h4⟩:=r.ev hy;obtain⟨s',z,es,rfl,hsl,hl⟩:=fe.1 (lu h4 hd);obtain⟨f1,f2⟩:=hfl _ hl;refine⟨z,es,h3,hsl.len,hl,f1,f2,?_⟩;rcases wg hsl hl hk with he|he
  .subst he
   rw[hsl.len];exact tg
  .subst he;exact Pz hsl
 .cases h
def Wm{d nm:Nat}{i:TI}{z:DV}{ds ds2:List DV}[hT:c8 P t e s by_][hN:lI P t'](hi:dC P e=some i)(hz:jy i=some z)(hs:Nat.beq z.cells.length s=true)(hx:aB lk x=some (.rw nm))(hb:bk nm=some (.b e s ds true))(hy:nI lk bk s y=some ds2)(hk2:dl s ds2)
  (hby:Nat.blt 0 by_=true)(hbd:(ds.length+ds2.length)*by_<=140737488355328)(hnd:Nat.beq nm d=false){ds':List DV}(hds:ds++ds2=ds'):
  bw P GB C n lk bk ⟨some d, .call ⟨.builtin .append, #[x,y], #[t,t']⟩,ty',pos,af,gd⟩ (.rw d) [(nm,none),(d,some (.b e s ds' true))] [d]:=by
 intro hd tl tb K s1 s2 hf hk;refine⟨fun ρ G ov a w r Q=>?_⟩;subst hds;have r1:=r.mono s1 s2;obtain⟨v,hz1,hz2,hz3⟩:=uB hi hz;have cz:=((hz2 G).cells hz3).1.len;replace hs:=aU hs;rw[lS] at hby
 have hne:nm≠d:=fun e=>by subst e;simp at hnd
 obtain⟨u,hx',hx2⟩:=r1.ev hx
 cases hx2
 obtain⟨B,⟨vs,hB,hv,hvs,hlo⟩,hBo⟩:=r1.row (y:= .nilFunc) hb;simp only[] at hB hv hvs;obtain⟨w2,us,hy',h2,h3,h4,h5,h6⟩:=CF (P:=P) r1 hy hk2;have hus:(bc us).length=us.length*s:=fj us h4;have hbd':(vs.length+us.length)*by_<=140737488355328:=by rw[hv.len,h3.len];exact hbd
 have hall: ∀v∈vs++us,(aF v).length=s:=fun v hv=>by
  rcases cM.1 hv with hv|hv
  .exact hvs v hv
  .exact h4 v hv
 have rd:=r.dropB nm;have hf':i6 [d] (some d) tl (Sx.upB tb [(nm,none)]):=fun m hm=>by
  obtain⟨g1,g2⟩:=hf m hm;refine⟨g1,fun k B' hk e=>g2 k B' hk ?_⟩;simp only[Sx.upB] at e;split at e
  .cases e
  .exact e
 have hbk: ∀m B',(Sx.upB tb [(nm,none)]) m=some B'->m≠nm/\tb m=some B':=fun m B' e=>by
  simp only[Sx.upB] at e;split at e
  .cases e
  .exact⟨by assumption,e⟩
 have hfin: ∀(b:Nat) (cap':Nat) (rest':List Value) (ov1:List av) a' w',vs.length+us.length<=cap'->rest'.length+(vs.length+us.length)*s=cap'*s->(∀o∈ov,(ρ nm).a≠some ⟨o.b,0,none⟩->o∈ov1)->
   eB C n (put (cg a) (some d) (.slice (some ⟨b,0,none⟩) (vs.length+us.length) cap')) (⟨b,bc (vs++us)++rest',e,true⟩::ov1) G a' w'->K a' w':=by
  intro b cap' rest' ov1 a' w' hc hr ho1 rl;have hnd':=(bZ.1 rl.h.nd).1;refine rd.newRow (z:=⟨some ⟨b,0,none⟩,vs.length+us.length,cap'⟩) (B:=[⟨b,bc (vs++us)++rest',e,true⟩]) hf' ⟨vs++us, .inr ⟨b,rest',true,by simp,J,fj _ hall,?_,by simpa using hc⟩,hv.app h3,hall,fun _ o ho=>by rw[aL.1 ho]⟩
   (fun o ho=>by rw[aL.1 ho];exact aX) (fun m B' hm e o ho hmo=>?_) hk rl
  .rw[fj _ hall,aN]
   simp only[];omega
  .obtain⟨h7,h8⟩:=hbk m B' e
   have ho2:=ho1 o ho fun hc=>r.dj m nm B' _ h8 (s2 _ _ hb) h7 _ hmo hc;exact⟨aK _ ho2,fun e'=>by cases e';exact hnd' o ho2 J⟩
 rcases hB with⟨e1,e2,e3⟩|⟨b,rest,lo',k3,k4,k5,k6,k7⟩
 .subst e1
  rw[e2] at hx';by_cases hne:us=[]
  .subst hne
   have:ds2=[]:=cV (by rw[<-h3.len];rfl);subst this;rw[h2] at hy';refine VE hx' hy' hd (fun a' w' rl=>?_) a w Q ⟨r.h,r.sz,ci a,r.df⟩;refine rd.newRow (z:=⟨none,0,0⟩) (B:=[]) hf' ⟨[], .inl ⟨J,J,J⟩,by simpa using hv,by simp,fun _ o ho=>by cases ho⟩ (fun o ho=>by cases ho) (fun m B' hm e o ho hmo=>⟨ho,fun e'=>by cases e'⟩) hk rl
  .have hup:0<us.length:=qL.2 hne
   rw[h2] at hy' h6;refine Hf (z:=v) (xs:=[]) (ys:=bc us) hx' hy' tg h6 (by show(0:Nat)<0+us.length;omega) hby (by simpa using hbd') hd (fun b cap' hc a' w' rl=>?_) a w Q ⟨r.h,r.sz,ci a,r.df⟩;exact hfin b cap' (dA v (cap'-us.length)) ov a' w' (by simpa using hc) (by rw[qm,cz,hs,<-cS];simp at hc⊢;congr 1;omega) (fun o ho _=>ho) (by simpa using rl)
 .have hl:=hlo J
  subst k4;have hlo':lo'=true:=hl _ aX;subst hlo';have ha:(ρ nm).a=some ⟨b,0,none⟩:=by rw[k3]
  have hn:(ρ nm).n=vs.length:=by rw[k3]
  rw[ha,hn] at hx';rw[h2] at hy' h6;obtain⟨ov1,o1,o2⟩:=ik.of_mem (hBo _ aX);refine JM (z:=v) (xs:=bc vs) (ys:=bc us) (rest:=rest) (own1:=ov1) hx' hy' o1 k5 k6 k7 h6 hus h5 hby hbd' (by rw[cz,hs]) hd (fun b' cap' rest' hc hr a' w' rl=>?_) a w Q ⟨r.h,r.sz,ci a,r.df⟩;rw[<-ot] at rl;exact hfin b' cap' rest' ov1 a' w' hc hr (fun o ho hne=>o2 o ho fun e'=>hne (by rw[ha,e'])) rl
end
section
variable {P:Program} {T:TT} {GB:Gh} {C:az} {n:Nat} {lk:LK} {bk:BM} {ρ:NE} {G:Gh} {ov:List av} {a:Act} {w:World}
variable {dst:Option Nat} {t t' ty':TypeId} {pos:String} {af:Array Edge} {gd:Option (Nat×Bool)} {x y:Operand} {e s by_:Nat}
def zM{vs:List Value}{rest cs:List Value}{i sz j:Nat}{v':Value}(hil:i<vs.length)(hvs: ∀v∈vs,(aF v).length=sz)(hv':aF v'=c9 (aF vs[i]) j cs)(hj:j+cs.length<=sz):c9 (bc vs++rest) (i*sz+j) cs=bc (vs.set i v')++rest:=by
 have hm:(aF vs[i]).length=sz:=hvs _ (iL hil);have hl':(aF v').length=sz:=by rw[hv',xI,hm]
 rw[<-PQ (rest:=rest) (u:=v') vs i hil hvs hl',hv'];have hlv:=fj vs hvs;have hle:i*sz+sz<=vs.length*sz:=by rw[<-gR];exact bK _ hil
 generalize hmm:aF vs[i]=m at*;have hX:bc vs++rest=(bc vs).take (i*sz)++(m++((bc vs).drop (i*sz+sz)++rest)):=by
  have t1:=BU (rest:=rest) hvs hil;rw[hmm] at t1;obtain⟨_,t2⟩:=uj t1;have t3:m=((bc vs).drop (i*sz)).take sz:=by
   have:m=((bc vs++rest).drop (i*sz)).take sz:=t2;rw[this,iK (by omega),fQ (by rw[jY];omega)]
  rw[t3]
  conv=>lhs;rw[<-lJ (i*sz) (bc vs),<-lJ sz ((bc vs).drop (i*sz)),nJ]
  simp[dL]
 have hP:((bc vs).take (i*sz)).length=i*sz:=by rw[aS];omega
 generalize (bc vs).take (i*sz)=A at hX hP;generalize (bc vs).drop (i*sz+sz)++rest=Z at hX;rw[hX,<-hP,G6 A m Z (c9 m j cs) (by rw[xI])];rw[qj _ m j (by omega),qj _ _ _ (by simp only[aN];omega)];rw[List.take_append,cW (by omega),Nat.add_sub_cancel_left,fQ (by omega)];rw[List.drop_append,iZ (by omega),jV,show A.length+j+cs.length-A.length=j+cs.length by omega,iK (by omega)];simp[dL]
def w9(ag:Option Nat)(d:DV)(j:Nat)(u:DV):Option DV:=match d with
 | .ag l=>match ag with
  |some k=>bif u.okc&&(Nat.beq u.cells.length k&&Nat.ble (j+k) l.length) then some (.ag (tP l j u.cells)) else none
  |none=>bif u.flat&&Nat.blt j l.length then some (.ag (l.set j u)) else none
 |d=>match ag with
  |some _=>none
  |none=>bif d.flat&&(u.flat&&Nat.beq j 0) then some u else none
def bu.wroteRow{nm b:Nat}{ty:TypeId}{sz:Nat}{ds ds':List DV}{lo lo':Bool}{m':List Value}{own':List av}(r:bu GB C n lk bk ρ G ov a w)(hb:bk nm=some (.b ty sz ds lo))(ha:(ρ nm).a=some ⟨b,0,none⟩)(hB:cG G ⟨ρ nm,sz,ty,ds',lo⟩ [⟨b,m',ty,lo'⟩])
  (h1:⟨b,m',ty,lo'⟩∈own')(h2: ∀o∈ov,o.b≠b->o∈own'){K:Act->World->Prop}(hk:SX GB C n (c7 lk dst .un) (Sx.upB bk [(nm,some (.b ty sz ds' lo))]) K){a':Act}{w':World}(rl:eB C n (Sx.put (cg a) dst undef) own' G a' w'):K a' w':=by
 have r2:=r.upB (G':=G) (ov':=own') (w':=w') (B':= .b ty sz ds' lo) (ba.refl _) rl.h (hB.toBk J) (fun o ho=>by rw[aL.1 ho];exact h1) (fun o ho hne=>h2 o ho fun e=>hne (by rw[ha,e])) ⟨_,hb⟩;exact hk.run _ _ _ a' w' (r2.put J (i7 rl))
def Jn(cs:List Value)(o:Nat)(v:Value):c9 cs o [v]=cs.set o v:=rfl
def VH{i:TI}{ag:Option Nat}{nm sz k j:Nat}{ty:TypeId}{ds ds':List DV}{lo:Bool}{d d' u:DV}(hi:dC P t=some i)(ha:i.ag=some ag)(hx:aB lk x=some (.be nm sz k j))(hb:bk nm=some (.b ty sz ds lo))(hy:evD lk y=some u)(he:ds[k]? =some d)(hl:w9 ag d j u=some d')(hds:ds.set k d'=ds'):
  bw P GB C n lk bk ⟨dst, .store t x y,ty',pos,af,gd⟩ .un [(nm,some (.b ty sz ds' lo))] []:=by
 intro hd tl tb K s1 s2 hf hk;refine⟨fun ρ G ov a w r Q=>?_⟩;subst hds;have r1:=r.mono s1 s2;obtain⟨y',h1,h2⟩:=r1.evD hy;obtain⟨x',h3,b,hwb,rfl⟩:=r1.ev hx;obtain⟨B,hB,hBo⟩:=r1.row (y:= .nilFunc) hb;obtain⟨b',vs,rest,lo',e1,rfl,hv,hvs,hil,hup⟩:=hB.upd he;rw[hwb] at e1;cases e1;obtain⟨v,g1,g2⟩:=hv.get he;obtain⟨g3,g4⟩:=aT.1 g1;have hlv:=fj vs hvs;have hle:k*sz+sz<=vs.length*sz:=by rw[<-gR];exact bK _ hil
 have hml:(aF v).length=sz:=hvs _ (aW g1)
 cases ag with
 |some q=>
  have:=sB hi ha;unfold w9 at hl;split at hl
  .rename_i l
   simp only at hl
   cases hc:(u.okc&&(Nat.beq u.cells.length q&&Nat.ble (j+q) l.length)) with
   |false=>rw[hc] at hl;cases hl
   |true=>
    rw[hc] at hl;cases hl;simp only[bQ,Nat.ble_eq] at hc;obtain⟨c1,c2,c3⟩:=hc;replace c2:=aU c2;obtain⟨c4,c5⟩:=h2.cells c1;obtain⟨m,rfl,hm⟩:=dt.1 g2;have hcl:(aF y').length=q:=by rw[c4.len,c2]
    have hmd:=hm.len;have hsz:m.length=sz:=hml;have key:=hup (.agg ⟨c9 m j (aF y')⟩) (.ag (tP l j u.cells)) (dt.2 ⟨_,J,hm.ov c4⟩) (by show(c9 m j (aF y')).length=sz;rw[xI,hsz]);have hov:=zM (rest:=rest) (v':= .agg ⟨c9 m j (aF y')⟩) (cs:=aF y') (j:=j) hil hvs (by rw[g4];rfl) (by omega);obtain⟨own',u1,u2,u3⟩:=f5.of_mem (cs':=c9 (bc vs++rest) (k*sz+j) (aF y')) (hBo _ aX);refine A2 h3 h1 u1 hcl (by rw[aN];omega) (dJ.2 c5) hd (fun a' w' rl=>?_) a w Q ⟨r.h,r.sz,ci a,r.df⟩;rw[hov] at u2;exact r.wroteRow (s2 _ _ hb) hwb key u2 u3 hk rl
  .simp at hl
 |none=>
  have:=qh hi ha;unfold w9 at hl;split at hl
  .rename_i l
   simp only at hl
   cases hc:(u.flat&&Nat.blt j l.length) with
   |false=>rw[hc] at hl;cases hl
   |true=>
    rw[hc] at hl;cases hl;simp only[bQ,lS] at hc;obtain⟨c1,c2⟩:=hc;have hfl:=h2.flat c1;have hcl:=uI hfl;obtain⟨m,rfl,hm⟩:=dt.1 g2;have hmd:=hm.len;have hsz:m.length=sz:=hml;have key:=hup (.agg ⟨m.set j y'⟩) (.ag (l.set j u)) (dt.2 ⟨_,J,hm.set j h2⟩) (by show(m.set j y').length=sz;rw[aY,hsz]);have hov:=zM (rest:=rest) (v':= .agg ⟨m.set j y'⟩) (cs:=[y']) (j:=j) hil hvs (by rw[g4];rfl) (by simp;omega);rw[Jn] at hov;obtain⟨own',u1,u2,u3⟩:=f5.of_mem (cs':=(bc vs++rest).set (k*sz+j) y') (hBo _ aX);refine AP h3 h1 u1 (by rw[aN];omega) hfl hd (fun a' w' rl=>?_) a w Q ⟨r.h,r.sz,ci a,r.df⟩;rw[hov] at u2;exact r.wroteRow (s2 _ _ hb) hwb key u2 u3 hk rl
  .rename_i hna
   simp only at hl
   cases hc:(d.flat&&(u.flat&&Nat.beq j 0)) with
   |false=>rw[hc] at hl;cases hl
   |true=>
    rw[hc] at hl;cases hl;simp only[bQ] at hc;obtain⟨c0,c1,c2⟩:=hc
    cases aU c2
    have hfl:=h2.flat c1;have hcl:=uI hfl;have hvl:=uI (g2.flat c0);have h1z:1=sz:=by rw[<-hml,hvl];rfl
    have key:=hup y' d' h2 (by rw[hcl,<-h1z];rfl);have hov:=zM (rest:=rest) (v':=y') (cs:=[y']) (j:=0) hil hvs (by rw[g4,hvl,hcl];rfl) (by simp;omega);rw[Jn] at hov;obtain⟨own',u1,u2,u3⟩:=f5.of_mem (cs':=(bc vs++rest).set (k*sz+0) y') (hBo _ aX);refine AP h3 h1 u1 (by rw[aN];omega) hfl hd (fun a' w' rl=>?_) a w Q ⟨r.h,r.sz,ci a,r.df⟩;rw[hov] at u2;exact r.wroteRow (s2 _ _ hb) hwb key u2 u3 hk rl
def iI(lk:LK)(dflt:Nat):Option Operand->Option Int
 |none=>some (dflt:Nat)
 |some o=>match aB lk o with
  |some (.d (.v (.int .i64 i)))=>some i
  |_=>none
def UI{l:List DV}{lo hi:Option Operand}{nlo nhi:Nat}[hT:c8 P t e s by_](hx:evD lk x=some (.sl l))(ho:dl s l)(hlo:iI lk 0 lo=some (nlo:Int))(hhi:iI lk l.length hi=some (nhi:Int))(h1:nlo<=nhi)(h2:nhi<=l.length):
  bw P GB C n lk bk ⟨dst, .slice t x lo hi none,ty',pos,af,gd⟩ (.d (.sl ((l.take nhi).drop nlo))) [] []:= .yd fun ρ G ov a w r=>by
 obtain⟨u,h3,h4⟩:=r.evD hx;obtain⟨s',z,es,rfl,hsl,hl⟩:=fe.1 h4;have hn:=hsl.len;have hcap:=hsl.cap;have hll:=hl.len;have key: ∀mx',nhi<=mx'->mx'<=z.c->Is G (.sl ((l.take nhi).drop nlo)) (jn z.a z.n z.c nlo nhi mx' s):=by
  intro mx' hm1 hm2;rcases wg hsl hl ho with he|he
  .subst he
   have:l=[]:=cV (by rw[<-hll];rfl);subst this;have e1:nhi=0:=by simp at h2;exact h2
   have e2:nlo=0:=by omega
   subst e1 e2;refine fe.2 ⟨s,⟨_,0,mx'⟩,[],J,⟨J,bJ _, .inl J⟩,by simpa using IsLs.nil⟩
  .subst he
   refine fe.2 ⟨s',⟨_,_,_⟩,_,J,hsl.sub nlo nhi mx' h1 (by omega) hm1 hm2,(hl.take nhi).drop nlo⟩
 have bnd: ∀{o:Operand} {d:Nat} {i:Int},iI lk d (some o)=some i->aC (cg a) o=some (.int .i64 i):=fun{o d i} h=>by
  simp only[iI] at h;split at h<;>cases h;rename_i he;obtain⟨q,g1,g2⟩:=r.ev he;rw[ce] at g2;subst g2;exact g1
 match lo,hi,hlo,hhi with
 |none,none,hlo,hhi=>
  simp only[iI,Option.some.injEq] at hlo hhi;have e1:nlo=0:=by omega
  have e2:nhi=l.length:=by omega
  subst e1 e2;refine⟨_,key z.c (by omega) (aM _),?_⟩;intro a w0 hf hh;simp only[execOp,bh hf h3,oK];have h9:=uH (P:=P) (t:=t) (ad:=z.a) (len:=z.n) (cap:=z.c) w0 (lo:=none) (hi:=none) (mx:=none) (l:=0) (h:=l.length) (m:=z.c) (fun w0=>by
   simp[Instr.sliceBounds,Result.andThen,run_pure];omega)
  exact cp h9
 |none,some o2,hlo,hhi=>
  simp only[iI,Option.some.injEq] at hlo;have e1:nlo=0:=by omega
  subst e1;refine⟨_,key z.c (by omega) (aM _),?_⟩;have h9:=GS (P:=P) (C:=C) (own:=ov) (G:=G) (t:=t) (dst:=dst) (ty':=ty') (pos:=pos) (af:=af) (gd:=gd) h3 (bnd hhi);have e9:jn z.a z.n z.c 0 nhi z.c s= .slice z.a nhi z.c:=by
   unfold jn
   cases z.a with
   |none=>simp
   |some ad=>simp[Addr.add]
  rw[e9];simpa using h9
 |some o1,none,hlo,hhi=>
  simp only[iI,Option.some.injEq] at hhi;have e2:nhi=l.length:=by omega
  subst e2;refine⟨_,key z.c (by omega) (aM _),?_⟩;have h9:=Ip (P:=P) (C:=C) (own:=ov) (G:=G) (t:=t) (dst:=dst) (ty':=ty') (pos:=pos) (af:=af) (gd:=gd) h3 (bnd hlo) (by omega) (by omega);have e9:z.n=l.length:=by omega
  rw[fU,e9] at h9;rw[e9];exact h9
 |some o1,some o2,hlo,hhi=>
  refine⟨_,key z.c (by omega) (aM _),?_⟩;have h9:=TE (P:=P) (C:=C) (own:=ov) (G:=G) (t:=t) (dst:=dst) (ty':=ty') (pos:=pos) (af:=af) (gd:=gd) h3 (bnd hlo) (bnd hhi) (by omega) (by omega) (by omega);simpa using h9
def QP{l:List DV}{hi mx:Operand}{nhi:Nat}[hT:c8 P t e s by_](hx:evD lk x=some (.sl l))(ho:dl s l)(hhi:iI lk 0 (some hi)=some (nhi:Int))(hmx:iI lk 0 (some mx)=some (nhi:Int))(h2:nhi<=l.length):
  bw P GB C n lk bk ⟨dst, .slice t x none (some hi) (some mx),ty',pos,af,gd⟩ (.ct (l.take nhi)) [] []:= .yd fun ρ G ov a w r=>by
 obtain⟨u,h3,h4⟩:=r.evD hx;obtain⟨s',z,es,rfl,hsl,hl⟩:=fe.1 h4;have hn:=hsl.len;have hcap:=hsl.cap;have hll:=hl.len;have bnd: ∀{o:Operand} {d:Nat} {i:Int},iI lk d (some o)=some i->aC (cg a) o=some (.int .i64 i):=fun{o d i} h=>by
  simp only[iI] at h;split at h<;>cases h;rename_i he;obtain⟨q,g1,g2⟩:=r.ev he;rw[ce] at g2;subst g2;exact g1
 refine⟨.slice z.a nhi nhi,⟨⟨_,_,J⟩,Od hsl hl ho h2 (aM _) (by omega)⟩,?_⟩;have h9:=QB (P:=P) (C:=C) (own:=ov) (G:=G) (t:=t) (dst:=dst) (ty':=ty') (pos:=pos) (af:=af) (gd:=gd) h3 (bnd hhi) (bnd hmx) (by omega) (Int.le_refl _) (by omega);simpa using h9
def H6{d:Nat}{i:TI}{z:DV}{ds ds2:List DV}[hT:c8 P t e s by_][hN:lI P t'](hi:dC P e=some i)(hz:jy i=some z)(hs:Nat.beq z.cells.length s=true)(hx:aB lk x=some (.ct ds)\/(aB lk x=some .nl/\ds=[]))(ox:dl s ds)(hy:nI lk bk s y=some ds2)(hk2:dl s ds2)(hne:0<ds2.length)
  (hby:Nat.blt 0 by_=true)(hbd:(ds.length+ds2.length)*by_<=140737488355328){ds':List DV}(hds:ds++ds2=ds'):
  bw P GB C n lk bk ⟨some d, .call ⟨.builtin .append, #[x,y], #[t,t']⟩,ty',pos,af,gd⟩ (.rw d) [(d,some (.b e s ds' true))] [d]:=by
 intro hd tl tb K s1 s2 hf hk;refine⟨fun ρ G ov a w r Q=>?_⟩;subst hds;have r1:=r.mono s1 s2;obtain⟨v,hz1,hz2,hz3⟩:=uB hi hz;have cz:=((hz2 G).cells hz3).1.len;replace hs:=aU hs;rw[lS] at hby
 obtain⟨w2,us,h1,h2,h3,h4,h5,h6⟩:=CF (P:=P) r1 hy hk2;have hxs:nI lk bk s x=some ds:=by
  unfold nI;rcases hx with hx|⟨hx,rfl⟩<;>rw[hx]<;>rfl
 obtain⟨w1,vs,g1,g2,g3,g4,g5,g6⟩:=CF (P:=P) r1 hxs ox;have hc1:w1.c=w1.n:=by
  rcases hx with hx|⟨hx,rfl⟩
  .obtain⟨y1,k1,⟨a1,n1,rfl⟩,_⟩:=r1.ev hx
   rw[k1] at g1;simp only[Option.some.injEq,Value.slice.injEq] at g1;omega
  .obtain⟨y1,k1,k2⟩:=r1.ev hx
   cases k2
   rw[k1] at g1;simp only[Option.some.injEq,Value.slice.injEq] at g1;omega
 have hl3:=h3.len;have hl4:=g3.len;have hall: ∀v∈vs++us,(aF v).length=s:=fun v hv=>by
  rcases cM.1 hv with hv|hv
  .exact g4 v hv
  .exact h4 v hv
 refine Hf (z:=v) (xs:=bc vs) (ys:=bc us) (ad:=w1.a) (len:=w1.n) (cap:=w1.c) g1 h1 g6 h6 (by omega) hby (by rw[g2,h2,hl3,hl4];exact hbd) hd (fun b cap' hc a' w' rl=>?_) a w Q ⟨r.h,r.sz,ci a,r.df⟩;rw[<-ot] at rl;have hnd':=(bZ.1 rl.h.nd).1;refine r.newRow (z:=⟨some ⟨b,0,none⟩,w1.n+w2.n,cap'⟩) (B:=[⟨b,bc (vs++us)++dA v (cap'-(w1.n+w2.n)),e,true⟩]) hf ⟨vs++us, .inr ⟨b,_,true,by simp[g2,h2],J,fj _ hall,?_,by simpa[g2,h2] using hc⟩,g3.app h3,hall,fun _ o ho=>by rw[aL.1 ho]⟩
  (fun o ho=>by rw[aL.1 ho];exact aX) (fun m B' hm e o ho _=>⟨aK _ ho,fun e'=>by cases e';exact hnd' o ho J⟩) hk rl
 rw[fj _ hall,aN,qm,cz,hs,<-cS,g2,h2];congr 1;rw[g2,h2] at hc;dsimp only;omega
end
section
variable {GB:Gh} {C:az} {n:Nat} {Q0:Exit->Act->World->Prop} {fr fr':ao} {own own':aA} {cf cf':Cf} {vc:List Prop} {ops:Array Oper} {o:Oper} {K:List Kt} {r:List Oper}
def bE(fr:ao)(cf:Cf):Option Oper:=match y0 cf with
 |some (ops,o)=>bif qG ops (aP fr cf) o.guard then some o else none
 |none=>none
def A3(h:bE fr cf=some o): ∃ops,y0 cf=some (ops,o)/\qG ops (aP fr cf) o.guard=true:=by
 unfold bE at h;split at h<;>try (cases h;done)
 rename_i ops o' hh
 cases hg:qG ops (aP fr cf) o'.guard with
 |false=>rw[hg] at h;cases h
 |true=>rw[hg] at h;cases h;exact⟨ops,hh,hg⟩
def us{q:Nat}{f:FX}{bl:List (Nat×Option Bk)}{nw:List Nat}(hh:bE fr cf=some o)(h:bw prog GB C n (aP fr cf) (dO fr own cf) o f bl nw)
  (hgo:bP tt n q fr own cf f bl nw=⟨vc,fr',own',cf'⟩)(hv:aj vc)(k:ak prog GB C n Q0 fr' own' cf'):ak prog GB C n Q0 fr own cf:=by
 obtain⟨ops,h1,h2⟩:=A3 hh;exact uo h1 h2 h hgo hv k
def sv(fr:ao)(cf:Cf):Option (FuncId×List DV):=match bE fr cf with
 |some ⟨_, .call ⟨.value fo,args,_⟩,_,_,_,_⟩=>ke (aP fr cf) fo args
 |_=>none
def cl[fu:Fu]{f:FuncId}{ds:List DV}{rv:DV}(ha:sv fr cf=some (f,ds))(hF:PF GB prog f ds rv)(hgo:bP tt n fu.n fr own cf (.d rv) [] []=⟨vc,fr',own',cf'⟩)(k:ak prog GB C n Q0 fr' own' cf')
  (hv:autoParam (aj vc) fn._auto_1):ak prog GB C n Q0 fr own cf:=by
 unfold sv at ha;split at ha<;>try (cases ha;done)
 rename_i hh;exact us hh (KS ha hF) hgo hv k
def PT{P:Program}{lk:LK}{bk:BM}{fo:Operand}{args:Array Operand}{tys:Array TypeId}{f:FuncId}{ds:List DV}{ι:Type}{rv:ι->DV}{dst:Option Nat}{ty:TypeId}{pos:String}{af:Array Edge}(ha:ke lk fo args=some (f,ds))(hF:PX GB P f ds ι rv)(hd:cC n dst=true)
  {Q:Exit->Act->World->Prop}{ops:Array Oper}(hk: ∀x,SX GB C n (c7 lk dst (.d (rv x))) bk (wpListIn (FW C.rd) 0 P ops Q r)):SX GB C n lk bk (wpListIn (FW C.rd) 0 P ops Q (⟨dst, .call ⟨.value fo,args,tys⟩,ty,pos,af,none⟩::r)):=by
 refine⟨fun ρ G ov a w rl0=>?_⟩;obtain⟨h1,h2⟩:=s6 ha;obtain⟨y,hy,hy'⟩:=rl0.ev h1;rw[(aH (G:=G)).1 hy'] at hy;obtain⟨vs,h3,h4⟩:=rl0.evDs h2;have hch:=zC (n:=n) (dst:=dst) (tys:=tys) (ty':=ty) (pos:=pos) (af:=af) (gd:=none) (Φ:=fun a w=>a.defers=C.mks/\wpListIn (FW C.rd) 0 P ops Q r a w) hy h3 (hF G vs rl0.gb h4) hd (fun v G' hG hK a' w' rl=>by
  obtain⟨x,hx⟩:=hK;exact⟨rl.df,(hk x).run ρ G' ov a' w' ⟨rl0.gb.trans hG.le,rl.h,rl.sz,rl.df,(i7 rl).fx (fun k g _ e=>by obtain⟨u,h5,h6⟩:=rl0.fx k g e;exact⟨u,h5,h6.up hG.le⟩) hx,
   fun nm B e=>by obtain⟨os,h5,h6⟩:=rl0.bx nm B e;exact⟨os,h5.up hG.le,h6⟩,rl0.dj,rl0.fxd⟩⟩)
 have:=fun Q=>hch a w Q ⟨rl0.h,rl0.sz,ci a,rl0.df⟩;simp only[wpListIn,Region.wanted,if_true];exact tG this fun a' w' k=>⟨k.1.trans rl0.df.symm,k.2⟩
def cx[fu:Fu]{fo:Operand}{args:Array Operand}{tys:Array TypeId}{dst:Option Nat}{ty:TypeId}{pos:String}{af:Array Edge}{f:FuncId}{ds:List DV}{ι:Type}{rv:ι->DV}{vc:ι->List Prop}{fr':ι->ao}{own':ι->aA}{cf':ι->Cf}(ha:ke (aD fr) fo args=some (f,ds))(hF:PX GB prog f ds ι rv)
  (hgo: ∀x,bP tt n fu.n fr own (.ops ops (⟨dst, .call ⟨.value fo,args,tys⟩,ty,pos,af,none⟩::r) K) (.d (rv x)) [] []=⟨vc x,fr' x,own' x,cf' x⟩)(k: ∀x,ak prog GB C n Q0 (fr' x) (own' x) (cf' x))
  (hd:cC n dst=true:=by rfl)(hv: ∀x,aj (vc x):=by intro;first|exact trivial|(simp only[aj];kernel_rfl)|(simp only[aj];omega)|(simp only[aj,aZ,aY,aV];omega)):ak prog GB C n Q0 fr own (.ops ops (⟨dst, .call ⟨.value fo,args,tys⟩,ty,pos,af,none⟩::r) K):=by
 refine PT ha hF hd fun x=>?_;have h1:=hgo x;unfold bP at h1;simp only[mw,List.all_nil,hd,pL,cond_true,kr,qx] at h1;have:=dw (GB:=GB) (C:=C) (Q0:=Q0) h1 (hv x) (k x);show SX GB C n _ _ _;rw[<-vr];exact this
def Ef(fr:ao)(cf:Cf):Option (List DV×Int×Nat):=match bE fr cf with
 |some ⟨_, .indexAddr t x y,_,_,_,_⟩=>match evD (aP fr cf) x with
  |some (.sl l)=>match aB (aP fr cf) y with
   |some (.d (.v (.int _ i)))=>match co tt t with
    |some ⟨.sl _ s _,_,_,_⟩=>some (l,i,s)
    |_=>none
   |_=>none
  |_=>none
 |_=>none
def Er(n q:Nat)(fr:ao)(own:aA)(cf:Cf)(d:DV)(s:Nat):sf:=bif d.okc&&Nat.beq d.cells.length s then gv d.cells fun cs=>bP tt n q fr own cf (.ep cs) [] [] else jq
def ix[fu:Fu](d:DV){l:List DV}{i:Int}{s:Nat}(h:Ef fr cf=some (l,i,s))(he:l[i.toNat]? =some d)(hgo:Er n fu.n fr own cf d s=⟨vc,fr',own',cf'⟩)(k:ak prog GB C n Q0 fr' own' cf')(h0:0<=i:=by omega)
  (hv:autoParam (aj vc) fn._auto_1):ak prog GB C n Q0 fr own cf:=by
 unfold Ef at h;split at h<;>try (cases h;done)
 rename_i hh;split at h<;>try (cases h;done)
 rename_i hx;split at h<;>try (cases h;done)
 rename_i hy;split at h<;>cases h;rename_i hT;have:=gy (dz _ _ hT) J;unfold Er at hgo
 cases hc:(d.okc&&Nat.beq d.cells.length s) with
 |false=>simp only[hc,cond_false,jq] at hgo;cases hgo;exact absurd hv (fun x=>x)
 |true=>
  simp only[hc,cond_true,oo] at hgo;exact us hh (P2 hx hy h0 he hc) hgo hv k
structure UE where
 ds:List DV
 k:Nat
 j:Nat
 ag:Option Nat
def J0(fr:ao)(own:aA)(cf:Cf):Option UE:=match bE fr cf with
 |some ⟨_, .load t x,_,_,_,_⟩=>match aB (aP fr cf) x with
  |some (.be nm sz k j)=>match dO fr own cf nm with
   |some (.b _ s ds _)=>bif Nat.beq s sz then(match co tt t with
    |some i=>match i.ag with
     |some ag=>some ⟨ds,k,j,ag⟩
     |none=>none
    |none=>none) else none
   |_=>none
  |_=>none
 |_=>none
def Hv(n q:Nat)(fr:ao)(own:aA)(cf:Cf)(d:DV)(ag:Option Nat)(j:Nat):sf:=bif d.okc then(match vt ag d.cells j with
 |some c=>bP tt n q fr own cf (.d c) [] []
 |none=>jq) else jq
def lb[fu:Fu](d:DV){ds:List DV}{k' j:Nat}{ag:Option Nat}(h:J0 fr own cf=some ⟨ds,k',j,ag⟩)(he:ds[k']? =some d)(hgo:Hv n fu.n fr own cf d ag j=⟨vc,fr',own',cf'⟩)(k:ak prog GB C n Q0 fr' own' cf')
  (hv:autoParam (aj vc) fn._auto_1):ak prog GB C n Q0 fr own cf:=by
 unfold J0 at h;split at h<;>try (cases h;done)
 rename_i hh;split at h<;>try (cases h;done)
 rename_i hx;split at h<;>try (cases h;done)
 rename_i ty s ds' lo hb;rw[cond_eq_ite] at h;split at h<;>try (cases h;done)
 rename_i hs
 cases aU hs
 split at h<;>try (cases h;done)
 rename_i hT;split at h<;>cases h;rename_i ha;unfold Hv at hgo
 cases hc:d.okc with
 |false=>simp only[hc,cond_false,jq] at hgo;cases hgo;exact absurd hv (fun x=>x)
 |true=>
  simp only[hc,cond_true] at hgo
  cases hl:vt ag d.cells j with
  |none=>simp only[hl,jq] at hgo;cases hgo;exact absurd hv (fun x=>x)
  |some c=>simp only[hl] at hgo;exact us hh (ME (dz _ _ hT) ha hx hb he hc hl) hgo hv k
structure MT where
 nm:Nat
 ty:TypeId
 s:Nat
 ds:List DV
 lo:Bool
 k:Nat
 j:Nat
 ag:Option Nat
 u:DV
def Ko(fr:ao)(own:aA)(cf:Cf):Option MT:=match bE fr cf with
 |some ⟨_, .store t x y,_,_,_,_⟩=>match aB (aP fr cf) x with
  |some (.be nm sz k j)=>match dO fr own cf nm with
   |some (.b ty s ds lo)=>bif Nat.beq s sz then(match co tt t with
    |some i=>match i.ag with
     |some ag=>match evD (aP fr cf) y with
      |some u=>some ⟨nm,ty,s,ds,lo,k,j,ag,u⟩
      |none=>none
     |none=>none
    |none=>none) else none
   |_=>none
  |_=>none
 |_=>none
def sb[fu:Fu](d:DV){nm:Nat}{ty:TypeId}{s:Nat}{ds:List DV}{lo:Bool}{k' j:Nat}{ag:Option Nat}{u d':DV}(ds':List DV)(h:Ko fr own cf=some ⟨nm,ty,s,ds,lo,k',j,ag,u⟩)(he:ds[k']? =some d)(hl:w9 ag d j u=some d')(hds:ds.set k' d'=ds')
  (hgo:bP tt n fu.n fr own cf .un [(nm,some (.b ty s ds' lo))] []=⟨vc,fr',own',cf'⟩)(k:ak prog GB C n Q0 fr' own' cf')
  (hv:autoParam (aj vc) fn._auto_1):ak prog GB C n Q0 fr own cf:=by
 unfold Ko at h;split at h<;>try (cases h;done)
 rename_i hh;split at h<;>try (cases h;done)
 rename_i hx;split at h<;>try (cases h;done)
 rename_i hb;rw[cond_eq_ite] at h;split at h<;>try (cases h;done)
 rename_i hs
 cases aU hs
 split at h<;>try (cases h;done)
 rename_i hT;split at h<;>try (cases h;done)
 rename_i ha;split at h<;>cases h;rename_i hy;exact us hh (VH (dz _ _ hT) ha hx hb hy he hl hds) hgo hv k
structure QR where
 d:Nat
 e:Nat
 s:Nat
 b:Nat
 z:DV
 l:Int
def EV(fr:ao)(cf:Cf):Option QR:=match bE fr cf with
 |some ⟨some d, .makeSlice t x y,_,_,_,_⟩=>match aB (aP fr cf) x with
  |some (.d (.v (.int _ l)))=>match co tt t with
   |some ⟨.sl e s b,_,_,_⟩=>match co tt e with
    |some i=>match jy i with
     |some z=>bif Nat.beq z.cells.length s then some ⟨d,e,s,b,z,l⟩ else none
     |none=>none
    |none=>none
   |_=>none
  |_=>none
 |_=>none
def mk[fu:Fu]{d e s b:Nat}{z:DV}{l:Int}{k':IntKind}(ds:List DV)(h:EV fr cf=some ⟨d,e,s,b,z,l⟩)(hy:(match bE fr cf with|some ⟨_, .makeSlice _ _ y,_,_,_,_⟩=>aB (aP fr cf) y|_=>none)=some (.d (.v (.int k' l))))(hds:List.replicate l.toNat z=ds)
  (hgo:bP tt n fu.n fr own cf (.rw d) [(d,some (.b e s ds true))] [d]=⟨vc,fr',own',cf'⟩)(k:ak prog GB C n Q0 fr' own' cf')(h0:0<=l:=by omega)(hb:b*l<=140737488355328:=by omega)(hl:l<=1152921504606846976:=by omega)
  (hv:autoParam (aj vc) fn._auto_1):ak prog GB C n Q0 fr own cf:=by
 unfold EV at h;split at h<;>try (cases h;done)
 rename_i hh;split at h<;>try (cases h;done)
 rename_i hx;split at h<;>try (cases h;done)
 rename_i hT;split at h<;>try (cases h;done)
 rename_i hi;split at h<;>try (cases h;done)
 rename_i hz;rw[cond_eq_ite] at h;split at h<;>cases h;rename_i hs;rw[hh] at hy;have:=gy (dz _ _ hT) J;exact us hh (UH (dz _ _ hi) hz hs hx hy h0 hb hl hds) hgo hv k
structure Jc where
 d:Nat
 e:Nat
 s:Nat
 ds:List DV
def vS(fr:ao)(cf:Cf):Option Jc:=match bE fr cf with
 |some ⟨some d, .buildSlice t len parts,_,_,_,_⟩=>match co tt t with
  |some ⟨.sl e s _,_,_,_⟩=>match co tt e with
   |some i=>match jy i with
    |some z=>match qc (aP fr cf) 0 parts.toList with
     |some ds=>bif Nat.beq z.cells.length s&&(yN s ds&&(Nat.beq parts.toList.length len&&(Nat.ble (len*s) 1000&&Nat.blt 0 (len*s)))) then some ⟨d,e,s,ds⟩ else none
     |none=>none
    |none=>none
   |none=>none
  |_=>none
 |_=>none
def Kr{d e s:Nat}{ds:List DV}(h:vS fr cf=some ⟨d,e,s,ds⟩): ∃o,bE fr cf=some o/\o.dst=some d/\bw prog GB C n (aP fr cf) (dO fr own cf) o (.rw d) [(d,some (.b e s ds true))] [d]:=by
 unfold vS at h;split at h<;>try (cases h;done)
 rename_i hh;split at h<;>try (cases h;done)
 rename_i hT;split at h<;>try (cases h;done)
 rename_i hi;split at h<;>try (cases h;done)
 rename_i hz;split at h<;>try (cases h;done)
 rename_i hr;rw[cond_eq_ite] at h;split at h<;>cases h;rename_i hc;simp only[bQ] at hc;have:=gy (dz _ _ hT) J;exact⟨_,hh,J,DM (dz _ _ hi) hz hc.1 hr hc.2.1 hc.2.2.1 hc.2.2.2.1 hc.2.2.2.2⟩
def ro[fu:Fu]{d e s:Nat}{ds:List DV}(h:vS fr cf=some ⟨d,e,s,ds⟩)(hgo:bP tt n fu.n fr own cf (.rw d) [(d,some (.b e s ds true))] [d]=⟨vc,fr',own',cf'⟩)(k:ak prog GB C n Q0 fr' own' cf')
  (hv:autoParam (aj vc) fn._auto_1):ak prog GB C n Q0 fr own cf:=by
 obtain⟨o,h1,_,h3⟩:=Kr (GB:=GB) (C:=C) (n:=n) (own:=own) h;exact us h1 h3 hgo hv k
def rf[fu:Fu]{d e s:Nat}{ds:List DV}(h:vS fr cf=some ⟨d,e,s,ds⟩)(hgo:bP tt n fu.n fr own cf (.d (.sl ds)) [(d,none)] [d]=⟨vc,fr',own',cf'⟩)(k:ak prog GB C n Q0 fr' own' cf')
  (hv:autoParam (aj vc) fn._auto_1):ak prog GB C n Q0 fr own cf:=by
 obtain⟨o,h1,h2,h3⟩:=Kr (GB:=GB) (C:=C) (n:=n) (own:=own) h;exact us h1 (h3.frzRow h2) hgo hv k
def FY(fr:ao)(cf:Cf):Option (Nat×Nat×Nat):=match bE fr cf with
 |some ⟨some d, .buildSlice t 0 ⟨[]⟩,_,_,_,_⟩=>match co tt t with
  |some ⟨.sl e s _,_,_,_⟩=>some (d,e,s)
  |_=>none
 |_=>none
def su[fu:Fu]{d e s:Nat}(h:FY fr cf=some (d,e,s))(hgo:bP tt n fu.n fr own cf (.rw d) [(d,some (.b e s [] true))] [d]=⟨vc,fr',own',cf'⟩)(k:ak prog GB C n Q0 fr' own' cf')
  (hv:autoParam (aj vc) fn._auto_1):ak prog GB C n Q0 fr own cf:=by
 unfold FY at h;split at h<;>try (cases h;done)
 rename_i hh;split at h<;>cases h;rename_i hT;have:=gy (dz _ _ hT) J;exact us hh Sh hgo hv k
structure VK where
 d:Nat
 nm:Option Nat
 e:Nat
 s:Nat
 b:Nat
 ds:List DV
 ds2:List DV
def wB(fr:ao)(own:aA)(cf:Cf):Option VK:=match bE fr cf with
 |some ⟨some d, .call ⟨.builtin .append,⟨[x,y]⟩,⟨[t,t']⟩⟩,_,_,_,_⟩=>match co tt t with
  |some ⟨.sl e s b,_,_,_⟩=>match co tt t' with
   |some ⟨.sl _ _ _,_,_,_⟩=>match co tt e with
    |some i=>match jy i with
     |some z=>bif Nat.beq z.cells.length s&&Nat.blt 0 b then(match nI (aP fr cf) (dO fr own cf) s y with
      |some ds2=>match aB (aP fr cf) x with
       |some (.rw nm)=>match dO fr own cf nm with
        |some (.b e' s' ds true)=>bif (Nat.beq e' e&&Nat.beq s' s)&&!Nat.beq nm d then some ⟨d,some nm,e,s,b,ds,ds2⟩ else none
        |_=>none
       |some (.ct ds)=>some ⟨d,none,e,s,b,ds,ds2⟩
       |some .nl=>some ⟨d,none,e,s,b,[],ds2⟩
       |_=>none
      |none=>none) else none
     |none=>none
    |none=>none
   |_=>none
  |_=>none
 |_=>none
def D0(d:Nat)(nm:Option Nat)(B:Bk):List (Nat×Option Bk):=match nm with
 |some nm=>[(nm,none),(d,some B)]
 |none=>[(d,some B)]
def Iz{d:Nat}{nm:Option Nat}{e s b:Nat}{ds ds2:List DV}(h:wB fr own cf=some ⟨d,nm,e,s,b,ds,ds2⟩)(ds':List DV)(hds:ds++ds2=ds')(ho:nm.isNone=true->dl s ds/\0<ds2.length)(ho2:dl s ds2)(hbd:(ds.length+ds2.length)*b<=140737488355328):
  ∃o,bE fr cf=some o/\o.dst=some d/\bw prog GB C n (aP fr cf) (dO fr own cf) o (.rw d) (D0 d nm (.b e s ds' true)) [d]:=by
 unfold wB at h;split at h<;>try (cases h;done)
 rename_i hh;split at h<;>try (cases h;done)
 rename_i hT;split at h<;>try (cases h;done)
 rename_i hT';split at h<;>try (cases h;done)
 rename_i hi;split at h<;>try (cases h;done)
 rename_i hz;rw[cond_eq_ite] at h;split at h<;>try (cases h;done)
 rename_i hc;simp only[bQ] at hc;split at h<;>try (cases h;done)
 rename_i hy;have:=gy (dz _ _ hT) J;have hN:lI prog _:=⟨_,(gy (dz _ _ hT') J).un⟩;refine⟨_,hh,?_⟩;split at h<;>try (cases h;done)
 .rename_i hx
  split at h<;>try (cases h;done)
  rename_i hb;rw[cond_eq_ite] at h;split at h<;>cases h;rename_i hq;simp only[bQ,gU] at hq
  cases aU hq.1.1
  cases aU hq.1.2
  exact⟨J,Wm (dz _ _ hi) hz hc.1 hx hb hy ho2 hc.2 hbd hq.2 hds⟩
 .rename_i hx
  cases h
  obtain⟨h1,h2⟩:=ho rfl;exact⟨J,H6 (dz _ _ hi) hz hc.1 (.inl hx) h1 hy ho2 h2 hc.2 hbd hds⟩
 .rename_i hx
  cases h
  obtain⟨h1,h2⟩:=ho rfl;exact⟨J,H6 (dz _ _ hi) hz hc.1 (.inr ⟨hx,J⟩) h1 hy ho2 h2 hc.2 hbd hds⟩
def ap[fu:Fu]{d:Nat}{nm:Option Nat}{e s b:Nat}{ds ds2:List DV}(ds':List DV)(h:wB fr own cf=some ⟨d,nm,e,s,b,ds,ds2⟩)(hds:ds++ds2=ds')(ho2:dl s ds2)(hgo:bP tt n fu.n fr own cf (.rw d) (D0 d nm (.b e s ds' true)) [d]=⟨vc,fr',own',cf'⟩)(k:ak prog GB C n Q0 fr' own' cf')
  (ho:nm.isNone=true->dl s ds/\0<ds2.length:=by intro h;first|(cases h;done)|exact⟨w5 rfl,by simp⟩)(hbd:(ds.length+ds2.length)*b<=140737488355328:=by simp;omega)
  (hv:autoParam (aj vc) fn._auto_1):ak prog GB C n Q0 fr own cf:=by
 obtain⟨o,h1,_,h3⟩:=Iz (GB:=GB) (C:=C) (n:=n) h ds' hds ho ho2 hbd;exact us h1 h3 hgo hv k
def I5(fr:ao)(cf:Cf):Option (List DV×Int×Int×Nat×Bool):=match bE fr cf with
 |some ⟨_, .slice t x lo hi mx,_,_,_,_⟩=>match evD (aP fr cf) x with
  |some (.sl l)=>match co tt t with
   |some ⟨.sl _ s _,_,_,_⟩=>match iI (aP fr cf) 0 lo,iI (aP fr cf) l.length hi with
    |some i,some j=>match mx with
     |none=>some (l,i,j,s,false)
     |some _=>none
    |_,_=>none
   |_=>none
  |_=>none
 |_=>none
def jx[fu:Fu]{l:List DV}{i j:Int}{s:Nat}(nlo nhi:Nat)(ls:List DV)(h:I5 fr cf=some (l,i,j,s,false))(ei:i=nlo)(ej:j=nhi)(hls:(l.take nhi).drop nlo=ls)(ho:dl s l)(h1:nlo<=nhi)(h2:nhi<=l.length)
  (hgo:bP tt n fu.n fr own cf (.d (.sl ls)) [] []=⟨vc,fr',own',cf'⟩)(k:ak prog GB C n Q0 fr' own' cf')
  (hv:autoParam (aj vc) fn._auto_1):ak prog GB C n Q0 fr own cf:=by
 unfold I5 at h;split at h<;>try (cases h;done)
 rename_i hh;split at h<;>try (cases h;done)
 rename_i hx;split at h<;>try (cases h;done)
 rename_i hT;split at h<;>try (cases h;done)
 rename_i hi hj;split at h<;>cases h;have:=gy (dz _ _ hT) J;subst ei ej hls;exact us hh (UI hx ho hi hj h1 h2) hgo hv k
def Jt(fr:ao)(cf:Cf):Option (List DV×Int×Int×Nat):=match bE fr cf with
 |some ⟨_, .slice t x none (some hi) (some mx),_,_,_,_⟩=>match evD (aP fr cf) x with
  |some (.sl l)=>match co tt t with
   |some ⟨.sl _ s _,_,_,_⟩=>match iI (aP fr cf) 0 (some hi),iI (aP fr cf) 0 (some mx) with
    |some i,some j=>some (l,i,j,s)
    |_,_=>none
   |_=>none
  |_=>none
 |_=>none
def s3[fu:Fu]{l:List DV}{i j:Int}{s:Nat}(nhi:Nat)(ls:List DV)(h:Jt fr cf=some (l,i,j,s))(ei:i=nhi)(ej:j=nhi)(hls:l.take nhi=ls)(ho:dl s l)(h2:nhi<=l.length)
  (hgo:bP tt n fu.n fr own cf (.ct ls) [] []=⟨vc,fr',own',cf'⟩)(k:ak prog GB C n Q0 fr' own' cf')
  (hv:autoParam (aj vc) fn._auto_1):ak prog GB C n Q0 fr own cf:=by
 unfold Jt at h;split at h<;>try (cases h;done)
 rename_i hh;split at h<;>try (cases h;done)
 rename_i hx;split at h<;>try (cases h;done)
 rename_i hT;split at h<;>cases h;rename_i hi hj;have:=gy (dz _ _ hT) J;subst ei ej hls;exact us hh (QP hx ho hi hj h2) hgo hv k
def E3(fr:ao)(cf:Cf):Option (Nat×List DV):=match bE fr cf with
 |some ⟨some d, .box _ x,_,_,_,_⟩=>match aB (aP fr cf) x with
  |some f=>bif f.okc&&sW f d then(match iq f.cells with
   |some l=>some (d,l)
   |none=>none) else none
  |none=>none
 |_=>none
end
end Go.Sx
end
