import Derived.Test.YtnnpcjkdmmjknaaGreatDoorMg7
set_option linter.all false
set_option maxRecDepth 100000
section
namespace Go.Sx
open Go Go.Proofs Tryz
variable {GB G G':Gh}{n nm s k:Nat}{fr' fr1 kf:aC}{own' own1 ko:aH}{α X:Type}{f:FX}{row:Bool}{l ds:List DV}{ρ:NE}{ov ov':List av}{a:Act}{w:World}{lk:LK}{bk:BM}{ty:TypeId}{c d:Code}
section
variable {C:aD}{Q0:Exit->Act->World->Prop}{fr:aC}{own:aH}{cf cf':Cf}{vc vc':List Prop}{ops:Array Oper}{r:List Oper}{o:Oper}{K:List Kt}
def oP(row:Bool)(nm:Nat)(l:List DV):FX->FX
 | .rw m=>bif Nat.beq m nm then(bif row then .d (.sl l) else .no) else .rw m
 | .ov m off=>bif Nat.beq m nm then(bif row then .no else(match off with
  |0=> .d (.pt l)
  |_+1=> .no)) else .ov m off
 | .be m s i j=>bif Nat.beq m nm then .no else .be m s i j
 | .rs m s i j=>bif Nat.beq m nm then .no else .rs m s i j
 | .bx tp pre m post=>bif Nat.beq m nm then(bif row then(match tp with
  |true=> .d (.tp (pre++ .sl l::post))
  |false=> .d (.ag (pre++ .sl l::post))) else .no) else .bx tp pre m post
 |f=>f
def AY(f:FX)(k:FX->α):α:=match f with
 | .d x=>k (.d x)
 | .rw m=>k (.rw m)
 | .ov a b=>k (.ov a b)
 | .be a b c d=>k (.be a b c d)
 | .rs a b c d=>k (.rs a b c d)
 |f=>k f
def CH{k:FX->α}:AY f k=k f:=by cases f<;>rfl
def Ca{α:Type}(row:Bool)(nm:Nat)(l:List DV):aC->(aC->α)->α
 |[],k=>k []
 |(j,f)::t,k=>Ca row nm l t fun t'=>AY (oP row nm l f) fun f'=>k ((j,f')::t')
def EM{α:Type}(row:Bool)(nm:Nat)(l:List DV):List FX->(List FX->α)->α
 |[],k=>k []
 |f::t,k=>EM row nm l t fun t'=>AY (oP row nm l f) fun f'=>k (f'::t')
def Cl{α:Type}(row:Bool)(nm:Nat)(l:List DV):aH->(aH->α)->α
 |[],k=>k []
 |(j,B)::t,k=>Cl row nm l t fun t'=>bif Nat.beq j nm then k ((j,none)::t') else match B with
  |some (.o ty cs lo)=>EM row nm l cs fun cs'=>k ((j,some (.o ty cs' lo))::t')
  |B=>k ((j,B)::t')
def uZ(row:Bool)(nm:Nat)(l:List DV):Option Bk->Option Bk
 |some (.o ty cs lo)=>some (.o ty (cs.map (oP row nm l)) lo)
 |B=>B
def PG{α:Type}{row:Bool}{nm:Nat}{l:List DV}: ∀{cs:List FX} {k:List FX->α},EM row nm l cs k=k (cs.map (oP row nm l))
 |[],k=>rfl
 |f::t,k=>by simp only[EM,CH];rw[PG];rfl
def F9{α:Type}{row:Bool}{nm:Nat}{l:List DV}: ∀{fr:aC} {k:aC->α},Ca row nm l fr k=k (fr.map fun e=>(e.1,oP row nm l e.2))
 |[],k=>rfl
 |(j,f)::t,k=>by simp only[Ca,CH];rw[F9];rfl
def KC{α:Type}{row:Bool}{nm:Nat}{l:List DV}: ∀{own:aH} {k:aH->α},Cl row nm l own k=k (own.map fun e=>(e.1,bif Nat.beq e.1 nm then none else uZ row nm l e.2))
 |[],k=>rfl
 |(j,B)::t,k=>by
  simp only[Cl,KC (own:=t),bT]
  cases Nat.beq j nm with
  |true=>rfl
  |false=>
   cases B with
   |none=>rfl
   |some B=>cases B<;>simp only[cond_false,PG,uZ]
def C8{g:FX->FX}: ∀{fr:aC} {k:Nat},bh (fr.map fun e=>(e.1,g e.2)) k=(bh fr k).map g
 |[],k=>rfl
 |(j,f)::t,k=>by
  simp only[bT];rw[kn,kn,C8 (fr:=t)];split<;>rfl
def Pe{row:Bool}{nm:Nat}{l:List DV}: ∀{own:aH} {k:Nat},bp (own.map fun e=>(e.1,bif Nat.beq e.1 nm then none else uZ row nm l e.2)) k=if k=nm then none else uZ row nm l (bp own k)
 |[],k=>by simp[bp,uZ]
 |(j,B)::t,k=>by
  simp only[bT];rw[jH,jH,Pe (own:=t)];by_cases h:k=j
  .subst h
   simp only[if_true];by_cases e:k=nm
   .subst e;simp
   .have:Nat.beq k nm=false:=by
     cases hb:Nat.beq k nm with
     |false=>rfl
     |true=>exact absurd (aN hb) e
    simp[this,e]
  .simp[h]
structure BR where
 fr:aC
 own:aH
def AK(fr:aC)(own:aH)(nm:Nat):Option BR:=match bp own nm with
 |some (.b _ _ ds true)=>Ca true nm ds fr fun fr'=>Cl true nm ds own fun own'=>some ⟨fr',own'⟩
 |some (.o _ cs true)=>match jq cs with
  |some l=>Ca false nm l fr fun fr'=>Cl false nm l own fun own'=>some ⟨fr',own'⟩
  |none=>none
 |_=>none
def kh.of_mem{o:av}: ∀{own:List av},o∈own-> ∃own',kh own o own'/\ ∀x∈own,x.b≠o.b->x∈own'
 |[],h=>by cases h
 |x::t,h=>by
  rcases aW.1 h with rfl|h
  .exact⟨t, .hd ..,fun y hy hb=>(aW.1 hy).elim (fun e=>absurd (by rw[e]) hb) id⟩
  .obtain⟨own',h1,h2⟩:=kh.of_mem h
   exact⟨x::own', .tl _ _ _ _ h1,fun y hy hb=>(aW.1 hy).elim (fun e=>by rw[e];exact aQ) (fun e=>aJ _ (h2 y e hb))⟩
def RZ{y:Value}(hg:bI G G')(h:bO ρ G f y)(hr:row=true-> ∀y,bO ρ G (.rw nm) y->Is G' (.sl l) y)(ho:row=false-> ∀y,bO ρ G (.ov nm 0) y->Is G' (.pt l) y):bO ρ G' (oP row nm l f) y:=by
 cases f with
 |rw m=>
  simp only[oP]
  cases hb:Nat.beq m nm with
  |false=>exact h.up hg
  |true=>
   cases aN hb
   cases row with
   |true=>exact hr J y h
   |false=>trivial
 |ov m off=>
  simp only[oP]
  cases hb:Nat.beq m nm with
  |false=>exact h.up hg
  |true=>
   cases aN hb
   cases row with
   |true=>trivial
   |false=>cases off with
    |zero=>exact ho J y h
    |succ=>trivial
 |be m s i j=>
  simp only[oP]
  cases hb:Nat.beq m nm with
  |false=>exact h.up hg
  |true=>trivial
 |rs m s i j=>
  simp only[oP]
  cases hb:Nat.beq m nm with
  |false=>exact h.up hg
  |true=>trivial
 |bx tp pre m post=>
  simp only[oP]
  cases hb:Nat.beq m nm with
  |false=>exact h.up hg
  |true=>
   cases aN hb
   cases row with
   |false=>trivial
   |true=>
    obtain⟨m1,m2,e,h1,h2⟩:=h;have hl:=(h1.up hg).app (.cons (hr J _ J) (h2.up hg))
    cases tp with
    |true=>exact jj.2 ⟨_,e,hl⟩
    |false=>exact d9.2 ⟨_,e,hl⟩
 |_=>exact h.up hg
def Mx{row:Bool}{nm:Nat}{l:List DV}{ρ:NE}{G G':Gh}(hg:bI G G')(hr:row=true-> ∀y,bO ρ G (.rw nm) y->Is G' (.sl l) y)(ho:row=false-> ∀y,bO ρ G (.ov nm 0) y->Is G' (.pt l) y): ∀{cs:List FX} {m:List Value},dk ρ G cs m->dk ρ G' (cs.map (oP row nm l)) m
 |[],m,h=>h
 |f::t,m,⟨y,q,e,h1,h2⟩=>⟨y,q,e,RZ hg h1 hr ho,Mx hg hr ho h2⟩
def bH.frz(h:bH GB C n (bh fr) (bp own) ρ G ov a w)(hg:bI G G')(hh:bF C ov' G' w)(hv: ∀o∈ov,(ρ nm).a≠some ⟨o.b,0,none⟩->o∈ov'){B0:Bk}(hb:bp own nm=some B0)
  (hr:row=true-> ∀y,bO ρ G (.rw nm) y->Is G' (.sl l) y)(ho:row=false-> ∀y,bO ρ G (.ov nm 0) y->Is G' (.pt l) y):
  bH GB C n (bh (fr.map fun e=>(e.1,oP row nm l e.2))) (bp (own.map fun e=>(e.1,bif Nat.beq e.1 nm then none else uZ row nm l e.2))) ρ G' ov' a w:=by
 have inv: ∀m B,bp (own.map fun e=>(e.1,bif Nat.beq e.1 nm then none else uZ row nm l e.2)) m=some B->m≠nm/\ ∃B1,bp own m=some B1/\uZ row nm l (some B1)=some B:=fun m B e=>by
  rw[Pe] at e;split at e
  .cases e
  .rename_i hm
   refine⟨hm,?_⟩
   cases hl:bp own m with
   |none=>rw[hl] at e;cases e
   |some B1=>rw[hl] at e;exact⟨B1,J,e⟩
 refine⟨h.gb.trans hg,hh,h.sz,h.df,fun k f e=>?_,fun m B e=>?_,fun m m' B B' e e'=>?_,h.fxd⟩
 .rw[C8] at e
  cases hf:bh fr k with
  |none=>rw[hf] at e;cases e
  |some g=>
   rw[hf] at e;cases e;obtain⟨y,h1,h2⟩:=h.fx k g hf;exact⟨y,h1,RZ hg h2 hr ho⟩
 .obtain⟨hm,B1,h1,h2⟩:=inv m B e
  obtain⟨os,h3,h4⟩:=h.bx m B1 h1;refine⟨os,?_,fun o ho'=>hv o (h4 o ho') fun hc=>h.dj m nm B1 B0 h1 hb hm _ (h3.blk ho') hc⟩
  cases B1 with
  |b=>cases h2;exact h3.up hg
  |c=>cases h2;exact h3.up hg
  |o ty cs lo=>cases h2;obtain⟨b,q,h5,h6,h7⟩:=h3;exact⟨b,q,h5,h6,Mx hg hr ho h7⟩
 .obtain⟨_,B1,h1,_⟩:=inv m B e
  obtain⟨_,B2,h2,_⟩:=inv m' B' e';exact h.dj m m' B1 B2 h1 h2
def bH.frzRow(r:bH GB C n lk bk ρ G ov a w)(hb:bk nm=some (.b ty s ds true)):
  ∃G' ov',bI G G'/\bF C ov' G' w/\(∀o∈ov,(ρ nm).a≠some ⟨o.b,0,none⟩->o∈ov')/\ ∀y,bO ρ G (.rw nm) y->Is G' (.sl ds) y:=by
 obtain⟨B,⟨vs,hB,hv,hs,hlo⟩,hBo⟩:=r.row (y:= .nilFunc) hb;rcases hB with⟨e1,e2,e3⟩|⟨b,rest,lo',e2,e3,h5,h6,h7⟩
 .subst e1
  have ed:ds=[]:=bM (by rw[<-hv.len];rfl);subst ed;simp only at e2;refine⟨G,ov,bI.refl _,r.h,fun o ho _=>ho,fun y hy=>?_⟩;rw[show y=_ from hy,e2];exact gw.2 ⟨0,⟨none,0,0⟩,[],J, .nil G 0, .nil⟩
 .subst e3
  have hl:=hlo J _ aQ;simp only at hl;subst hl;obtain⟨ov',o1,o2⟩:=kh.of_mem (hBo _ aQ);obtain⟨f1,f2⟩:=r.h.freeze o1;simp only at e2;refine⟨_,ov',f2,f1,fun o ho hne=>o2 o ho fun e=>hne (by rw[e2,e]),fun y hy=>?_⟩;rw[show y=_ from hy,e2];exact gw.2 ⟨s,⟨some ⟨b,0,none⟩,vs.length,_⟩,vs,J,fw.of_flat hs (if_pos J) h7,hv.up f2⟩
def bH.frzVar{cs:List FX}(r:bH GB C n lk bk ρ G ov a w)(hb:bk nm=some (.o ty cs true))(hl:jq cs=some l):
  ∃G' ov',bI G G'/\bF C ov' G' w/\(∀o∈ov,(ρ nm).a≠some ⟨o.b,0,none⟩->o∈ov')/\ ∀y,bO ρ G (.ov nm 0) y->Is G' (.pt l) y:=by
 obtain⟨os,⟨b,m,h3,rfl,h4⟩,h5⟩:=r.bx _ _ hb;obtain⟨ov',o1,o2⟩:=kh.of_mem (h5 _ aQ);obtain⟨f1,f2⟩:=r.h.freeze o1;refine⟨_,ov',f2,f1,fun o ho hne=>o2 o ho fun e=>hne (by rw[h3,e]),fun y hy=>?_⟩;obtain⟨b',h6,rfl⟩:=hy;rw[h3] at h6;cases h6;exact li.2 ⟨b,m,J,if_pos J,(tf h4 hl).up f2⟩
def FN{Φ:Act->World->Prop}{R:BR}(h:AK fr own nm=some R)(hk:SX GB C n (bh R.fr) (bp R.own) Φ):SX GB C n (bh fr) (bp own) Φ:=by
 refine⟨fun ρ G ov a w r=>?_⟩;unfold AK at h;split at h<;>try (cases h;done)
 .rename_i ty s ds hb
  rw[F9,KC] at h;cases h;obtain⟨G',ov',h1,h2,h3,h4⟩:=r.frzRow hb;exact hk.run ρ G' ov' a w (r.frz (row:=true) h1 h2 h3 hb (fun _=>h4) (fun e=>by cases e))
 .rename_i ty cs hb
  split at h<;>try (cases h;done)
  rename_i l hl;rw[F9,KC] at h;cases h;obtain⟨G',ov',h1,h2,h3,h4⟩:=r.frzVar hb hl;exact hk.run ρ G' ov' a w (r.frz (row:=false) h1 h2 h3 hb (fun e=>by cases e) (fun _=>h4))
def fz[fu:Fu](nm:Nat)(h:AK fr own nm=some ⟨fr1,own1⟩)(hgo:go tt n fu.n [] fr1 own1 (.ops ops r K)=⟨vc,fr',own',cf'⟩)(k:aw prog GB C n Q0 fr' own' cf')(hv:aj vc:=by first|exact trivial|(simp only[aj];kernel_rfl)|(simp only[aj];omega)|(simp only[aj,aX,bY,aL];omega)):aw prog GB C n Q0 fr own (.ops ops r K):=
 FN h (f7 hgo hv k)
def ir(nm:Nat){e:Exit}(h:AK fr own nm=some ⟨fr1,own1⟩)(k:aw prog GB C n Q0 fr1 own1 (.ex e K)):aw prog GB C n Q0 fr own (.ex e K):=FN h k
def tj(nm:Nat)(h:AK fr own nm=some ⟨fr1,own1⟩)(k:aw prog GB C n Q0 fr1 own1 (.code c K)):aw prog GB C n Q0 fr own (.code c K):=FN h k
def uW:aC->aC->Prop
 |[],_=>True
 |(k,v)::t,fr=>bh fr k=some v/\uW t fr
def wV:aH->aH->Prop
 |[],_=>True
 |(k,v)::t,own=>bp own k=v/\wV t own
def xf: ∀{f:aC},uW f fr->kD (bh f) (bh fr)
 |[],_,k,x,h=>by cases h
 |(j,v)::t,h,k,x,e=>by
  rw[kn] at e;split at e
  .cases e;rename_i hk;rw[hk];exact h.1
  .exact xf h.2 k x e
def vh: ∀{f:aH},wV f own->kD (bp f) (bp own)
 |[],_,k,x,h=>by cases h
 |(j,v)::t,h,k,x,e=>by
  rw[jH] at e;split at e
  .rename_i hk;rw[hk,h.1,e]
  .exact vh h.2 k x e
def qz{q:IntKind}{a b:Int}(h:bh fr k=some (.d (.v (.int q a))))(e:a=b):bh fr k=some (.d (.v (.int q b))):=e▸h
def GN(GB:Gh)(C:aD)(n:Nat)(F:X->aC)(O:X->aH)(I:X->Prop)(a:Act)(w:World):Prop:=
 ∃x ρ G ov,I x/\bH GB C n (bh (F x)) (bp (O x)) ρ G ov a w
def JZ:List Oper->List Nat->List Nat
 |[],l=>l
 |o::r,l=>match o.dst with
  |some d=>d::JZ r l
  |none=>JZ r l
def vH:Code->List Nat->List Nat
 | .region _ ops _,l=>JZ ops.toList l
 | .seq a b,l=>vH a (vH b l)
 | .cond _ a b,l=>vH a (vH b l)
 | .block _ a,l=>vH a l
 | .loop a,l=>vH a l
 | .scope a,l=>vH a l
 |_,l=>l
def H7{α:Type}:List Nat->aC->(aC->α)->α
 |_,[],k=>k []
 |l,(j,f)::t,k=>bif vf l j then H7 l t k else H7 (j::l) t fun t'=>k ((j,f)::t')
def CP{α:Type}:List Nat->aH->(aH->α)->α
 |_,[],k=>k []
 |l,(j,B)::t,k=>bif vf l j then CP l t k else match B with
  |some B=>CP l t fun t'=>k ((j,some B)::t')
  |none=>CP l t k
structure Kp where
 fr:aC
 own:aH
def keep(c:Code)(uf uo:List Nat)(fr:aC)(own:aH):Kp:=lH (vH c uo) fun m=>lH (uf++m) fun m'=>H7 m' fr fun fr'=>CP m own fun own'=>⟨fr',own'⟩
def lp[fu:Fu](U:X->aC)(V:X->aH)(I:X->Prop)(μ:X->Nat)(x0:X){cf':X->Cf}{fr':X->aC}{own':X->aH}{vc:X->List Prop}(hkp:keep c ((U x0).map (·.1)) ((V x0).map (·.1)) fr own=⟨kf,ko⟩)(hI:I x0)
  (hgo: ∀x,go tt n fu.n [] (U x++kf) (V x++ko) (.code c (.ag (GN GB C n (fun y=>U y++kf) (fun y=>V y++ko) (fun y=>I y/\μ y<μ x))::K))=⟨vc x,fr' x,own' x,cf' x⟩)
  (round: ∀x,I x->aw prog GB C n Q0 (fr' x) (own' x) (cf' x))(hF:uW (U x0++kf) fr:=by repeat (first|exact trivial|refine And.intro J ?_|refine And.intro (qz J (by first|omega|(dsimp only;omega))) ?_|refine And.intro (qz J (by simp)) ?_))(hO:wV (V x0++ko) own:=by repeat (first|exact trivial|refine And.intro J ?_))
  (hv: ∀x,I x->aj (vc x):=by intros;first|exact trivial|(simp only[aj];kernel_rfl)|(simp only[aj];omega)|(simp only[aj,aX,bY,aL];omega)):aw prog GB C n Q0 fr own (.code (.loop c) K):=by
 refine⟨fun ρ G ov a w r=>?_⟩;have r0:=r.mono (xf hF) (vh hO);intro b k cs hro hb hrm;have key: ∀m a w,(∃x ρ G ov,I x/\μ x=m/\bH GB C n (bh (U x++kf)) (bp (V x++ko)) ρ G ov a w)->
   ∃e a' w',cQ C.rd prog Q0 K e a' w'/\ArrivesIn (Machine.fenced prog (FW C.rd)) prog (lone (b.atR a (.code c:: .inLoop c::k)) cs w) b k cs e a' w':=by
  intro m
  induction m using Nat.strongRecOn with
  |_ m ih=>
   intro a w ⟨x,ρ,G,ov,hx,hm,hr⟩;have h1:=f7 (GB:=GB) (C:=C) (Q0:=Q0) (hgo x) (hv x hx) (round x hx);obtain⟨e,a₁,w₁,hq,harr⟩:=h1.run ρ G ov a w hr b (.inLoop c::k) cs hro hb hrm
   cases e with
   |normal=>
    obtain⟨x',ρ',G',ov',⟨hx',hlt⟩,hr'⟩:=hq;obtain⟨e₂,a₂,w₂,hq₂,harr₂⟩:=ih (μ x') (hm▸hlt) a₁ w₁ ⟨x',ρ',G',ov',hx',rfl,hr'⟩;exact⟨e₂,a₂,w₂,hq₂, .of_steps (StepsIn.trans harr (.one (fenced_calm hb hrm J) stepR_inLoop)) harr₂⟩
   |exit id=>exact⟨_,a₁,w₁,hq, .pass (x:= .inLoop c) J (fun _ _=> .inl (by simp)) harr⟩
   |goto l=>exact⟨_,a₁,w₁,hq, .pass (x:= .inLoop c) J (fun _ _=> .inl (by simp)) harr⟩
   |ret=>exact⟨_,a₁,w₁,hq, .pass (x:= .inLoop c) J (fun _ _=> .inl (by simp)) harr⟩
   |panic ch=>exact⟨_,a₁,w₁,hq, .pass (x:= .inLoop c) J (fun _ _=> .inl (by simp)) harr⟩
   |outgrown=>exact⟨_,a₁,w₁,hq, .pass (x:= .inLoop c) J (fun _ _=> .inl (by simp)) harr⟩
 obtain⟨e,a',w',q,rr⟩:=key (μ x0) a w ⟨x0,ρ,G,ov,hI,rfl,r0⟩;exact⟨e,a',w',q, .of_steps (.one (fenced_calm hb hrm J) stepR_loop) rr⟩
def at_{F:X->aC}{O:X->aH}{I:X->Prop}(x:X)(hI:I x)(hF:uW (F x) fr:=by repeat (first|exact trivial|refine And.intro J ?_|refine And.intro (qz J (by first|omega|(dsimp only;omega))) ?_|refine And.intro (qz J (by simp)) ?_))(hO:wV (O x) own:=by repeat (first|exact trivial|refine And.intro J ?_)):aw prog GB C n Q0 fr own (.ex .normal (.ag (GN GB C n F O I)::K)):=
 ⟨fun ρ G ov a w r=>⟨x,ρ,G,ov,hI,r.mono (xf hF) (vh hO)⟩⟩
def mg[fu:Fu](U:X->aC)(V:X->aH)(I:X->Prop){cf':X->Cf}{fr':X->aC}{own':X->aH}{vc:X->List Prop}(u0 v0:List Nat)(hkp:keep c u0 v0 fr own=⟨kf,ko⟩)
  (h1:aw prog GB C n Q0 fr own (.code c (.ag (GN GB C n (fun y=>U y++kf) (fun y=>V y++ko) I)::K)))
  (hgo: ∀x,go tt n fu.n [] (U x++kf) (V x++ko) (.code d K)=⟨vc x,fr' x,own' x,cf' x⟩)(k: ∀x,I x->aw prog GB C n Q0 (fr' x) (own' x) (cf' x))(hv: ∀x,I x->aj (vc x):=by intros;first|exact trivial|(simp only[aj];kernel_rfl)|(simp only[aj];omega)|(simp only[aj,aX,bY,aL];omega)):aw prog GB C n Q0 fr own (.code c (.sq d::K)):=by
 refine SX.imp h1 fun a w h=>TX h ?_;intro e a w h
 cases e with
 |normal=>
  obtain⟨x,ρ,G,ov,hI,hr⟩:=h;have:=f7 (GB:=GB) (C:=C) (Q0:=Q0) (hgo x) (hv x hI) (k x hI);exact this.run ρ G ov a w hr
 |_=>exact h
end
end Go.Sx
end
section
namespace Go.Sx
open Go
variable {P:Program}{ops:Array Oper}{Q:Exit->Act->World->Prop}{π₂ π:List (Nat×Bool)}{GB G:Gh}{C:aD}{n e s by_ s' nhi mx':Nat}{fr fr':nk}{own' own0 own1 own1':List lw}{bs bs0 bs1 bs1' bs':List jt}{E:uU}{r:List Oper}{Φ:Act->World->Prop}{dst:Option Nat}{t t' ty' ty:TypeId}{pos:String}{af:Array Edge}{gd:Option (Nat×Bool)}{x y z:Operand}{w:SV}{ds l:List DV}{vs es:List Value}
section
variable {S:World->Prop}
end
section
variable {own:List lw}{fd:List FD}
structure SR (GB:Gh) (C:aD) (n:Nat) (fr:nk) (own0:List lw) (bs0:List jt) (own1:List lw) (bs1:List jt) (fd:List FD) (K:List Nat->(World->Prop)->Act->World->Prop):Prop where
 run: ∀G frv o0 o1,bI GB G->EC G fr frv->OB G own0 bs0 o0->OB G own1 bs1 o1-> ∀fs:Fs,St C n (frv++J8 fd fs) (o1++(o0++Kw fd fs)) G (K (M7 fd fs) (HS C o0 G))
instance {GB:Gh} {C:aD} {n:Nat} {fr:nk} {own0:List lw} {bs0:List jt} {own1:List lw} {bs1:List jt} {fd:List FD} {K:List Nat->(World->Prop)->Act->World->Prop}:CoeFun (SR GB C n fr own0 bs0 own1 bs1 fd K) (fun _=> ∀G frv o0 o1,bI GB G->EC G fr frv->OB G own0 bs0 o0->OB G own1 bs1 o1-> ∀fs:Fs,St C n (frv++J8 fd fs) (o1++(o0++Kw fd fs)) G (K (M7 fd fs) (HS C o0 G))):=⟨SR.run⟩
end
section
variable {own:List lw}
def PB(GB:Gh)(P:Program)(f:FuncId)(mk:SV->List DV)(s:Nat)(ty:TypeId)(dsi:List DV)(mkr:SV->DV)(dso:List DV):Prop:=
 ∀G w vs B,bI GB G->eh G ⟨w,s,ty,dsi,false⟩ B->IsLs G (mk w) vs->iu P f vs B G (fun v own' G'=> ∃w',Is G' (mkr w') v/\eh G' ⟨w',s,ty,dso,false⟩ own')
def eh.asB{G:Gh}{w:SV}{ty:TypeId}{ds:List DV}{lo:Bool}{B:List av}(h:eh G ⟨w,s,ty,ds,lo⟩ B):eh G ⟨w,s,ty,ds,false⟩ (Sx.asB B):=by
 obtain⟨vs,h1,h2,h3,h4⟩:=h;exact⟨vs,h1.asB,h2,h3,fun h=>by cases h⟩
def eh.weak{lo:Bool}{B:List av}(h:eh G ⟨w,s,ty,ds,lo⟩ B):eh G ⟨w,s,ty,ds,false⟩ B:=by
 obtain⟨vs,h1,h2,h3,h4⟩:=h;exact⟨vs,h1,h2,h3,fun h=>by cases h⟩
end
section
variable {own:List lw}
def PN(GB:Gh)(P:Program)(f:FuncId)(ds:List DV)(ty:TypeId)(ι:Type)(cs:ι->List DV):Prop:=
 ∀G vs,bI GB G->IsLs G ds vs->iu P f vs [] G (fun v own' G'=> ∃x b m,v= .pointer (some ⟨b,0,none⟩)/\own'=[⟨b,m,ty,true⟩]/\IsLs G' (cs x) m)
end
section
variable {own:List lw}
def Yz{fr:Fr}{own:List av}{fn:Func}{K:Value->List av->Gh->Prop}(hr:kz P fr own fn.results.toList vs)(own2 own3:List av)(hp:own.Perm own2)(hs:own3.Sublist own2)(hk:own3.Pairwise (fun x y=>x.b≠y.b)->K (gI vs) own3 G):St C n fr own G (fg C P fn (sE C K) .ret):=
 fun a w rl hmk=>⟨rl.df.trans hmk,_,tC hr rl.fr rl.h,_,own3,G,J,(rl.h.perm hp).drop hs,hk ((rl.h.perm hp).drop hs).nd⟩
def X6(hsl:fw G s' w es)(hl:IsLs G l es)(ho:cP s l)(h2:nhi<=l.length)(hm1:nhi<=mx')(hm2:mx'<=w.c):Is G (.sl (l.take nhi)) (.slice w.a nhi mx'):=by
 have hn:=hsl.len;have hcap:=hsl.cap;have hll:=hl.len;have e9: ∀s,nF w.a w.n w.c 0 nhi mx' s= .slice w.a nhi mx':=by
  intro s;unfold nF
  cases w.a with
  |none=>simp
  |some ad=>simp[Addr.add]
 rcases Ad hsl hl ho with he|he
 .subst he
  have:l=[]:=bM (by rw[<-hll];rfl);subst this;have e1:nhi=0:=by simp at h2;exact h2
  subst e1;refine gw.2 ⟨s,⟨_,0,mx'⟩,[],J,⟨J,bZ _, .inl J⟩,by simpa using IsLs.nil⟩
 .subst he
  have k:=hsl.sub 0 nhi mx' (bZ _) (by omega) hm1 hm2;have k2:=gw.2 ⟨s',⟨_,_,_⟩,_,J,k,(hl.take nhi).drop 0⟩;rw[jV] at k2;have e:=e9 s';unfold nF at e;revert k2;simp only[] at*;intro k2
  first|exact e▸k2|(simp at e k2⊢;first|exact k2|(cases hw:w.a<;>simp_all [Addr.add]))
end
end Go.Sx
end
section
namespace Go.Sx
open Go Go.Proofs Tryz
variable {P:Program}{T:TT}{GB G:Gh}{C:aD}{n by_ sz len nlo nhi q:Nat}{lk:LK}{bk:BM}{ρ:NE}{ov B ov' own':List av}{a a':Act}{w w':World}{dst:Option Nat}{t t' ty':TypeId}{pos:String}{af:Array Edge}{gd:Option (Nat×Bool)}{x y mx:Operand}{i:TI}{c v d' rv:DV}{K:Act->World->Prop}{k':IntKind}{o:Oper}{f:FX}{ds':List DV}{vs rest m':List Value}
section
variable {e s:Nat}
def ZJ[hT:cv P t e s by_]{k:IntKind}{l:List DV}{d:DV}{i:Int}(hx:evD lk x=some (.sl l))(hy:bj lk y=some (.d (.v (.int k i))))(h0:0<=i)(he:l[i.toNat]? =some d)(hd:(d.okc&&Nat.beq d.cells.length s)=true):
  bP P GB C n lk bk ⟨dst, .indexAddr t x y,ty',pos,af,gd⟩ (.ep d.cells) [] []:= .yd fun ρ G ov a w r=>by
 simp only[cZ] at hd;obtain⟨hd,hs⟩:=hd;obtain⟨u,h1,h2⟩:=r.evD hx;obtain⟨q,g1,g2⟩:=r.ev hy;rw[dq] at g2;subst g2;obtain⟨s',z,es,rfl,hsl,hl⟩:=gw.1 h2;obtain⟨v,h3,h4⟩:=hl.get he;obtain⟨h5,h6⟩:=aY.1 h3;have hc:=(h4.cells hd).1.len;replace hs:=aN hs;rcases hsl.mem with h|⟨b,off,cs,ha,hg,hcs⟩
 .rw[h] at h5;simp at h5
 .have h7:=hcs i.toNat h5
  rw[h6] at h7;have h8:=Db h7;have:s'=s:=by omega
  subst this;rw[ha] at h1;have hn:=hsl.len;refine⟨.pointer (some ⟨b,off+i.toNat*s',none⟩),⟨b,_,cs,aE v,J,hg,?_,(h4.cells hd).1⟩,r7 h1 g1 h0 (by omega)⟩;rw[<-hc,h8];exact h7
def Cq(ag:Option Nat)(cs:List DV)(j:Nat):Option DV:=match ag with
 |some k=>match takeD cs j k with
  |some l=>some (.ag l)
  |none=>none
 |none=>cs[j]?
def TO{ag:Option Nat}{nm k j:Nat}{ty:TypeId}{ds:List DV}{lo:Bool}{d:DV}(hi:e7 P t=some i)(ha:i.ag=some ag)(hx:bj lk x=some (.be nm sz k j))(hb:bk nm=some (.b ty sz ds lo))(he:ds[k]? =some d)(hd:d.okc=true)(hl:Cq ag d.cells j=some c):
  bP P GB C n lk bk ⟨dst, .load t x,ty',pos,af,gd⟩ (.d c) [] []:= .x1 hx fun ρ G ov a w y _ r h1 h2=>by
 obtain⟨b,hwb,rfl⟩:=h2;obtain⟨B,hB,hmem⟩:=r.row (y:= .nilFunc) hb;obtain⟨b',m,rest,lo',l0,e1,rfl,h3,h4⟩:=hB.elem he hd;simp only[] at e1 h3;rw[hwb] at e1;cases e1;have oat:i6 ov b (m++rest) ty lo':=⟨hmem _ aQ⟩
 cases ag with
 |some k'=>
  have:=y6 hi ha;simp only[Cq] at hl;split at hl<;>cases hl;rename_i hl;obtain⟨l',h5,h6⟩:=h4.takeD hl;exact⟨.agg ⟨l'⟩,d9.2 ⟨l',J,h6⟩,CT h1 (Ma h3 h5)⟩
 |none=>
  have:=wI hi ha;simp only[Cq] at hl;obtain⟨l',h5,h6⟩:=h4.get hl;have hj:j<sz:=by
   have:=Db h3;have h7:=(aY.1 h5).1;omega
  exact⟨l',h6,ik h1 (by rw[Jq h3 hj];exact h5)⟩
def eh.toBk{nm:Nat}{s:Nat}{ty:TypeId}{ds:List DV}{lo:Bool}{x:SV}(h:eh G ⟨x,s,ty,ds,lo⟩ B)(e:ρ nm=x):ma ρ G nm (.b ty s ds lo) B:=by
 obtain⟨vs,h1,h2,h3,h4⟩:=h;exact⟨vs,by rw[e];exact h1,h2,h3,h4⟩
def bH.newRow(r:bH GB C n lk bk ρ G ov a w){d:Nat}{z:SV}{ty:TypeId}{s:Nat}{ds:List DV}(hf:lv [d] (some d) lk bk)(hB:eh G ⟨z,s,ty,ds,true⟩ B)(hos: ∀o∈B,o∈ov')
  (hov: ∀m B',m≠d->bk m=some B'-> ∀o∈ov,(ρ m).a=some ⟨o.b,0,none⟩->o∈ov'/\z.a≠some ⟨o.b,0,none⟩)
  (hk:SX GB C n (ef lk (some d) (.rw d)) (Sx.upB bk [(d,some (.b ty s ds true))]) K)(rl:gD C n (Sx.put (cx a) (some d) (.slice z.a z.n z.c)) ov' G a' w'):K a' w':=
 hk.run _ _ _ a' w' (r.new' (x:=z) (f:= .rw d) (y:= .slice z.a z.n z.c) hf (bI.refl _) rl.h (hB.toBk (by simp)) hos hov (by show _=_;simp) (jG rl))
def pe(i:TI):Option DV:=match i.z with
 |some z=>match jq z with
  |some zs=>bif i.za then(bif zs.all DV.flat then some (.ag zs) else none) else(match zs with
   |[d]=>bif d.flat then some d else none
   |_=>none)
  |none=>none
 |none=>none
def Tn{d:DV}(h:d.flat=true):d.cells=[d]/\d.okc=true:=by
 cases d<;>first|exact⟨J,h⟩|cases h
theorem y8{d:DV}(hi:e7 P e=some i)(h:pe i=some d): ∃v,gq P e v/\(∀G,Is G d v)/\d.okc=true:=by
 obtain⟨j,hj,hij⟩:=qO hi;unfold pe at h;split at h<;>try (cases h;done)
 rename_i z hz;split at h<;>try (cases h;done)
 rename_i zs hzs;obtain⟨v,h1,h2⟩:=BX hi hz;have h3: ∀G,IsLs G zs (aE v):=fun G=>tf (h2 (fun _=>⟨none,0,0⟩) G) hzs;have hzv:j.zero=some v:=by have:=h1.inf;rw[hj] at this;simpa using this
 have hza:i.za=Kq (some v):=by rw[hij,<-hzv]
 cases hb:i.za with
 |true=>
  rw[hb] at h hza
  cases hc:zs.all DV.flat with
  |false=>rw[hc] at h;cases h
  |true=>
   rw[hc] at h;cases h
   cases v<;>first|(cases hza;done)|skip
   rename_i cs;exact⟨_,h1,fun G=>d9.2 ⟨cs.toList,by simp,h3 G⟩,hc⟩
 |false=>
  rw[hb,cond_false] at h;rw[hb] at hza;split at h<;>try (cases h;done)
  rename_i u
  cases hc:u.flat with
  |false=>rw[hc] at h;cases h
  |true=>
   rw[hc] at h;cases h;have hv:aE v=[v]:=by cases v<;>first|rfl|(cases hza;done)
   refine⟨v,h1,fun G=>?_,(Tn hc).2⟩;have:=h3 G;rw[hv] at this;exact this.uncons.1
def aDo{d:Nat}{z:DV}{k:IntKind}{l:Int}{ds:List DV}[hT:cv P t e s by_](hi:e7 P e=some i)(hz:pe i=some z)(hs:Nat.beq z.cells.length s=true)(hx:bj lk x=some (.d (.v (.int k l))))(hy:bj lk y=some (.d (.v (.int k' l))))(h0:0<=l)(hb:by_*l<=140737488355328)(hl:l<=1152921504606846976)(hds:List.replicate l.toNat z=ds):
  bP P GB C n lk bk ⟨some d, .makeSlice t x y,ty',pos,af,gd⟩ (.rw d) [(d,some (.b e s ds true))] [d]:=by
 intro hd tl tb K s1 s2 hf hk;refine⟨fun ρ G ov a w r Q=>?_⟩;subst hds;obtain⟨v,hz1,hz2,hz3⟩:=y8 hi hz;obtain⟨q1,p1,p2⟩:=(r.mono s1 s2).ev hx;obtain⟨q2,p3,p4⟩:=(r.mono s1 s2).ev hy;rw[dq] at p2 p4;subst p2 p4;have c1:=((hz2 G).cells hz3).1.len;replace hs:=aN hs;have e1: ∀u∈List.replicate l.toNat v,(aE u).length=s:=fun u hu=>by rw[List.eq_of_mem_replicate hu,c1,hs]
 refine s9 p1 p3 h0 hb hl (by rw[c1,hs]) hd (fun b a' w' rl=>?_) a w Q ⟨r.h,r.sz,cC a,r.df⟩;have hnd:=(cV.1 rl.h.nd).1;refine r.newRow (z:=⟨some ⟨b,0,none⟩,l.toNat,l.toNat⟩) (B:=[⟨b,de v l.toNat,e,true⟩]) hf ⟨List.replicate l.toNat v, .inr ⟨b,[],true,by simp,by rw[akF,gK],eG _ e1,by rw[eG _ e1];simp,by simp⟩,Rw (hz2 G) _,e1,fun _ o ho=>by rw[aS.1 ho]⟩
  (fun o ho=>by rw[aS.1 ho];exact aQ) (fun m B' _ _ o ho _=>⟨aJ _ ho,fun e'=>?_⟩) hk rl
 cases e';exact hnd o ho J
def wL(lk:LK):Nat->List (Nat×Operand)->Option (List DV)
 |_,[]=>some []
 |j,(i,x)::r=>match evD lk x,wL lk (j+1) r with
  |some d,some l=>bif Nat.beq i j then some (d::l) else none
  |_,_=>none
def Q6(r:bH GB C n lk bk ρ G ov a w){zv:Value}(hz:(aE zv).length=s): ∀(ps:List (Nat×Operand)) (j:Nat) (pre:List Value) (ds:List DV),wL lk j ps=some ds->pre.length=j*s->(∀d∈ds,d.okc=true/\d.cells.length=s)->
  ∃vs,uQ (cx a) s (pre++de zv ps.length) ps=some (pre++aF vs)/\IsLs G ds vs/\(∀v∈vs,(aE v).length=s)/\vs.length=ps.length
 |[],j,pre,ds,e,hp,hd=>by
  simp only[wL] at e;cases e;exact⟨[],by simp[uQ,de,aF], .nil,by simp,J⟩
 |(i,x)::ps,j,pre,ds,e,hp,hd=>by
  simp only[wL] at e;split at e
  .rename_i d l hx hl
   cases hb:Nat.beq i j with
   |false=>rw[hb] at e;cases e
   |true=>
    rw[hb] at e
    cases e
    have:=aN hb;subst this;obtain⟨y,hy,hy'⟩:=r.evD hx;obtain⟨k1,k2⟩:=hd d aQ;have c1:=(hy'.cells k1).1.len;have hov:cA (pre++de zv (ps.length+1)) (i*s) (aE y)=(pre++aE y)++de zv ps.length:=by
     rw[as1,<-hp,Lk _ _ _ _ (by rw[c1,k2,hz]),dW]
    obtain⟨vs,h1,h2,h3,h4⟩:=Q6 r hz ps (i+1) (pre++aE y) l hl (by rw[aU,c1,k2,hp,gJ]) (fun d hd'=>hd d (aJ _ hd'));refine⟨y::vs,?_, .cons hy' h2,fun v hv=>?_,by simp[h4]⟩
    .simp only[uQ,hy,bJ]
     rw[if_pos ⟨by rw[c1,k2],by rw[aU,pc,hz,hp,gJ];omega⟩,hov,h1];simp[aF]
    .rcases aW.1 hv with rfl|hv
     .rw[c1,k2]
     .exact h3 v hv
  .cases e
def Sv{d:Nat}{z:DV}{parts:Array (Nat×Operand)}{ds:List DV}[hT:cv P t e s by_](hi:e7 P e=some i)(hz:pe i=some z)(hs:Nat.beq z.cells.length s=true)(hb:wL lk 0 parts.toList=some ds)(hok:DY s ds=true)(hlen:Nat.beq parts.toList.length len=true)(hsm:Nat.ble (len*s) 1000=true)(hs0:Nat.blt 0 (len*s)=true):
  bP P GB C n lk bk ⟨some d, .buildSlice t len parts,ty',pos,af,gd⟩ (.rw d) [(d,some (.b e s ds true))] [d]:=by
 intro hd tl tb K s1 s2 hf hk;refine⟨fun ρ G ov a w r Q=>?_⟩;obtain⟨v,hz1,hz2,hz3⟩:=y8 hi hz;have c1:=((hz2 G).cells hz3).1.len;replace hs:=aN hs;have hlen':=aN hlen;obtain⟨vs,h1,h2,h3,h4⟩:=Q6 (r.mono s1 s2) (s:=s) (zv:=v) (by rw[c1,hs]) parts.toList 0 [] ds hb (by simp) (KH hok);rw[jN,jN] at h1;refine DB (z:=v) (out:=aF vs) (by rw[c1,hs]) (by rw[<-hlen'];exact h1) hsm hs0 hd (fun b a' w' rl=>?_) a w Q ⟨r.h,r.sz,cC a,r.df⟩;have hnd:=(cV.1 rl.h.nd).1;have hvl:vs.length=len:=by rw[h4,hlen']
 refine r.newRow (z:=⟨some ⟨b,0,none⟩,len,len⟩) (B:=[⟨b,aF vs,e,true⟩]) hf ⟨vs, .inr ⟨b,[],true,by rw[hvl],by rw[gK],eG _ h3,by rw[eG _ h3,hvl];simp,by rw[hvl];exact bX _⟩,h2,h3,fun _ o ho=>by rw[aS.1 ho]⟩
  (fun o ho=>by rw[aS.1 ho];exact aQ) (fun m B' _ _ o ho _=>⟨aJ _ ho,fun e'=>?_⟩) hk rl
 cases e';exact hnd o ho J
def Ts{d:Nat}[hT:cv P t e s by_]:bP P GB C n lk bk ⟨some d, .buildSlice t 0 #[],ty',pos,af,gd⟩ (.rw d) [(d,some (.b e s [] true))] [d]:=by
 intro hd tl tb K s1 s2 hf hk;refine⟨fun ρ G ov a w r Q=>?_⟩;refine Ms hd (fun b a' w' rl=>?_) a w Q ⟨r.h,r.sz,cC a,r.df⟩;have hnd:=(cV.1 rl.h.nd).1;refine r.newRow (z:=⟨some ⟨b,0,none⟩,0,0⟩) (B:=[⟨b,[],e,true⟩]) hf ⟨[], .inr ⟨b,[],true,J,by simp[aF],by simp[aF],by simp[aF],by simp⟩, .nil,by simp,fun _ o ho=>by rw[aS.1 ho]⟩
  (fun o ho=>by rw[aS.1 ho];exact aQ) (fun m B' _ _ o ho _=>⟨aJ _ ho,fun e'=>?_⟩) hk rl
 cases e';exact hnd o ho J
def bP.frz{d:Nat}{B:Bk}(hd:o.dst=some d)(h:bP P GB C n lk bk o f [(d,some B)] [d])
  (hz: ∀lk bk ρ G ov a w,bH GB C n lk bk ρ G ov a w->bk d=some B-> ∃G' ov',bI G G'/\bF C ov' G' w/\(∀o∈ov,(ρ d).a≠some ⟨o.b,0,none⟩->o∈ov')/\ ∀y,bO ρ G f y->Is G' v y):bP P GB C n lk bk o (.d v) [(d,none)] [d]:=by
 intro hd' tl tb K s1 s2 hf hk;refine h hd' tl tb K s1 s2 hf ?_;rw[hd] at hk⊢;refine⟨fun ρ G ov a w r=>?_⟩;have hbd:Sx.upB tb [(d,some B)] d=some B:=by simp[Sx.upB]
 obtain⟨G',ov',h1,h2,h3,h4⟩:=hz _ _ ρ G ov a w r hbd;refine hk.run ρ G' ov' a w ⟨r.gb.trans h1,h2,r.sz,r.df,fun k g e=>?_,fun m B' e=>?_,fun m m' B1 B2 e e'=>?_,r.fxd⟩
 .by_cases hk:k=d
  .subst hk
   simp only[ef,if_true] at e;cases e;obtain⟨y,g1,g2⟩:=r.fx k f (by simp[ef]);exact⟨y,g1,h4 y g2⟩
  .simp only[ef,hk,if_false] at e
   obtain⟨y,g1,g2⟩:=r.fx k g (by simp[ef,hk,e]);exact⟨y,g1,g2.up h1⟩
 .simp only[Sx.upB] at e
  split at e
  .cases e
  .rename_i hm
   have e':Sx.upB tb [(d,some B)] m=some B':=by simp[Sx.upB,hm,e]
   obtain⟨os,g1,g2⟩:=r.bx m B' e';exact⟨os,g1.up h1,fun o ho=>h3 o (g2 o ho) fun hc=>r.dj m d B' B e' hbd hm _ (g1.blk ho) hc⟩
 .simp only[Sx.upB] at e e'
  split at e
  .cases e
  .rename_i hm
   split at e'
   .cases e'
   .rename_i hm'
    exact r.dj m m' B1 B2 (by simp[Sx.upB,hm,e]) (by simp[Sx.upB,hm',e'])
def bP.frzRow{o:Oper}{d:Nat}{ty:TypeId}{s:Nat}{ds:List DV}(hd:o.dst=some d)(h:bP P GB C n lk bk o (.rw d) [(d,some (.b ty s ds true))] [d]):bP P GB C n lk bk o (.d (.sl ds)) [(d,none)] [d]:=
 h.frz hd fun _ _ _ _ _ _ _ r hb=>r.frzRow hb
def aDh{d:Nat}{l:List DV}(e:bj lk x=some f)(hc:f.okc=true)(hn:AD f d=true)(hl:jq f.cells=some l):bP P GB C n lk bk ⟨some d, .box t x,ty',pos,af,gd⟩ (.d (.pt l)) [(d,none)] [d]:=
 (M8 e hc hn).frz J fun _ _ _ _ _ _ _ r hb=>r.frzVar hb hl
def rB(lk:LK)(bk:BM)(s:Nat)(y:Operand):Option (List DV):=match bj lk y with
 |some (.rw nm)=>match bk nm with
  |some (.b _ s' ds _)=>bif Nat.beq s' s then some ds else none
  |_=>none
 |some f=>match jO f with
  |some (.sl l)=>some l
  |_=>none
 |none=>none
def BH{ds:List DV}(r:bH GB C n lk bk ρ G ov a w)(h:rB lk bk s y=some ds)(hk:cP s ds):
  ∃(z:SV) (vs:List Value),aA (cx a) y=some (.slice z.a z.n z.c)/\z.n=vs.length/\IsLs G ds vs/\(∀v∈vs,(aE v).length=s)/\(∀v∈aF vs,Sx.flat v=true)/\nv P C ov G s z.n (.slice z.a z.n z.c) (aF vs):=by
 have hfl: ∀vs:List Value,IsLs G ds vs->(∀v∈vs,(aE v).length=s)/\ ∀v∈aF vs,Sx.flat v=true:=by
  intro vs hl;refine⟨fun v hv=>?_,fun v hv=>?_⟩
  .obtain⟨d,hd,h3⟩:=hl.all v hv
   obtain⟨k1,k2⟩:=hk d hd;rw[(h3.cells k1).1.len,k2]
  .simp only[aF,List.mem_flatten,aT] at hv
   obtain⟨l,⟨u,hu,rfl⟩,hv⟩:=hv;obtain⟨d,hd,h3⟩:=hl.all u hu;exact(h3.cells (hk d hd).1).2 v hv
 unfold rB at h;split at h
 .rename_i nm hy
  split at h<;>try (cases h;done)
  rename_i ty s' ds' lo hb
  cases hs:Nat.beq s' s with
  |false=>rw[hs] at h;cases h
  |true=>
   rw[hs] at h;cases h
   cases aN hs
   obtain⟨u,h1,h2⟩:=r.ev hy
   cases h2
   obtain⟨B,⟨vs,hB,hv,hs,_⟩,hmem⟩:=r.row (y:= .nilFunc) hb;obtain⟨f1,f2⟩:=hfl _ hv;refine⟨ρ nm,vs,h1,hB.len,hv,f1,f2,?_⟩;rcases hB with⟨e1,e2,e3⟩|⟨b,rest,lo',h3,h4,h5,h6,h7⟩
   .simp only[] at e2
    subst e1;rw[e2];exact vt
   .simp only[] at h3 h4 h5 h6 h7
    have oat:i6 ov b (aF vs++rest) ty lo':=⟨hmem _ (by rw[h4];exact aQ)⟩;rw[show(ρ nm).a=some ⟨b,0,none⟩ by rw[h3],show(ρ nm).n=vs.length by rw[h3]];refine xk oat ?_;rw[l8 _ _ _ (by rw[aU];omega),jV,gW (by omega),aM (by omega)]
 .rename_i f _ hy
  split at h<;>cases h;rename_i hd;obtain⟨u,h3,h4⟩:=r.ev hy;obtain⟨s',z,es,rfl,hsl,hl⟩:=gw.1 (nq h4 hd);obtain⟨f1,f2⟩:=hfl _ hl;refine⟨z,es,h3,hsl.len,hl,f1,f2,?_⟩;rcases Ad hsl hl hk with he|he
  .subst he
   rw[hsl.len];exact vt
  .subst he;exact aEY hsl
 .cases h
def Yu{d nm:Nat}{z:DV}{ds ds2:List DV}[hT:cv P t e s by_][hN:ke P t'](hi:e7 P e=some i)(hz:pe i=some z)(hs:Nat.beq z.cells.length s=true)(hx:bj lk x=some (.rw nm))(hb:bk nm=some (.b e s ds true))(hy:rB lk bk s y=some ds2)(hk2:cP s ds2)
  (hby:Nat.blt 0 by_=true)(hbd:(ds.length+ds2.length)*by_<=140737488355328)(hnd:Nat.beq nm d=false)(hds:ds++ds2=ds'):
  bP P GB C n lk bk ⟨some d, .call ⟨.builtin .append, #[x,y], #[t,t']⟩,ty',pos,af,gd⟩ (.rw d) [(nm,none),(d,some (.b e s ds' true))] [d]:=by
 intro hd tl tb K s1 s2 hf hk;refine⟨fun ρ G ov a w r Q=>?_⟩;subst hds;have r1:=r.mono s1 s2;obtain⟨v,hz1,hz2,hz3⟩:=y8 hi hz;have cz:=((hz2 G).cells hz3).1.len;replace hs:=aN hs;rw[mM] at hby
 have hne:nm≠d:=fun e=>by subst e;simp at hnd
 obtain⟨u,hx',hx2⟩:=r1.ev hx
 cases hx2
 obtain⟨B,⟨vs,hB,hv,hvs,hlo⟩,hBo⟩:=r1.row (y:= .nilFunc) hb;simp only[] at hB hv hvs;obtain⟨w2,us,hy',h2,h3,h4,h5,h6⟩:=BH (P:=P) r1 hy hk2;have hus:(aF us).length=us.length*s:=eG us h4;have hbd':(vs.length+us.length)*by_<=140737488355328:=by rw[hv.len,h3.len];exact hbd
 have hall: ∀v∈vs++us,(aE v).length=s:=fun v hv=>by
  rcases bW.1 hv with hv|hv
  .exact hvs v hv
  .exact h4 v hv
 have rd:=r.dropB nm;have hf':lv [d] (some d) tl (Sx.upB tb [(nm,none)]):=fun m hm=>by
  obtain⟨g1,g2⟩:=hf m hm;refine⟨g1,fun k B' hk e=>g2 k B' hk ?_⟩;simp only[Sx.upB] at e;split at e
  .cases e
  .exact e
 have hbk: ∀m B',(Sx.upB tb [(nm,none)]) m=some B'->m≠nm/\tb m=some B':=fun m B' e=>by
  simp only[Sx.upB] at e;split at e
  .cases e
  .exact⟨by assumption,e⟩
 have hfin: ∀(b:Nat) (cap':Nat) (rest':List Value) (ov1:List av) a' w',vs.length+us.length<=cap'->rest'.length+(vs.length+us.length)*s=cap'*s->(∀o∈ov,(ρ nm).a≠some ⟨o.b,0,none⟩->o∈ov1)->
   gD C n (put (cx a) (some d) (.slice (some ⟨b,0,none⟩) (vs.length+us.length) cap')) (⟨b,aF (vs++us)++rest',e,true⟩::ov1) G a' w'->K a' w':=by
  intro b cap' rest' ov1 a' w' hc hr ho1 rl;have hnd':=(cV.1 rl.h.nd).1;refine rd.newRow (z:=⟨some ⟨b,0,none⟩,vs.length+us.length,cap'⟩) (B:=[⟨b,aF (vs++us)++rest',e,true⟩]) hf' ⟨vs++us, .inr ⟨b,rest',true,by simp,J,eG _ hall,?_,by simpa using hc⟩,hv.app h3,hall,fun _ o ho=>by rw[aS.1 ho]⟩
   (fun o ho=>by rw[aS.1 ho];exact aQ) (fun m B' hm e o ho hmo=>?_) hk rl
  .rw[eG _ hall,aU]
   simp only[];omega
  .obtain⟨h7,h8⟩:=hbk m B' e
   have ho2:=ho1 o ho fun hc=>r.dj m nm B' _ h8 (s2 _ _ hb) h7 _ hmo hc;exact⟨aJ _ ho2,fun e'=>by cases e';exact hnd' o ho2 J⟩
 rcases hB with⟨e1,e2,e3⟩|⟨b,rest,lo',k3,k4,k5,k6,k7⟩
 .subst e1
  rw[e2] at hx';by_cases hne:us=[]
  .subst hne
   have:ds2=[]:=bM (by rw[<-h3.len];rfl);subst this;rw[h2] at hy';refine Oh hx' hy' hd (fun a' w' rl=>?_) a w Q ⟨r.h,r.sz,cC a,r.df⟩;refine rd.newRow (z:=⟨none,0,0⟩) (B:=[]) hf' ⟨[], .inl ⟨J,J,J⟩,by simpa using hv,by simp,fun _ o ho=>by cases ho⟩ (fun o ho=>by cases ho) (fun m B' hm e o ho hmo=>⟨ho,fun e'=>by cases e'⟩) hk rl
  .have hup:0<us.length:=oS.2 hne
   rw[h2] at hy' h6;refine A5 (z:=v) (xs:=[]) (ys:=aF us) hx' hy' vt h6 (by show(0:Nat)<0+us.length;omega) hby (by simpa using hbd') hd (fun b cap' hc a' w' rl=>?_) a w Q ⟨r.h,r.sz,cC a,r.df⟩;exact hfin b cap' (de v (cap'-us.length)) ov a' w' (by simpa using hc) (by rw[pc,cz,hs,<-dJ];simp at hc⊢;congr 1;omega) (fun o ho _=>ho) (by simpa using rl)
 .have hl:=hlo J
  subst k4;have hlo':lo'=true:=hl _ aQ;subst hlo';have ha:(ρ nm).a=some ⟨b,0,none⟩:=by rw[k3]
  have hn:(ρ nm).n=vs.length:=by rw[k3]
  rw[ha,hn] at hx';rw[h2] at hy' h6;obtain⟨ov1,o1,o2⟩:=kh.of_mem (hBo _ aQ);refine Sk (z:=v) (xs:=aF vs) (ys:=aF us) (rest:=rest) (own1:=ov1) hx' hy' o1 k5 k6 k7 h6 hus h5 hby hbd' (by rw[cz,hs]) hd (fun b' cap' rest' hc hr a' w' rl=>?_) a w Q ⟨r.h,r.sz,cC a,r.df⟩;rw[<-qp] at rl;exact hfin b' cap' rest' ov1 a' w' hc hr (fun o ho hne=>o2 o ho fun e'=>hne (by rw[ha,e'])) rl
end
section
variable {e s:Nat}
def Gu{cs:List Value}{i j:Nat}{v':Value}(hil:i<vs.length)(hvs: ∀v∈vs,(aE v).length=sz)(hv':aE v'=cA (aE vs[i]) j cs)(hj:j+cs.length<=sz):cA (aF vs++rest) (i*sz+j) cs=aF (vs.set i v')++rest:=by
 have hm:(aE vs[i]).length=sz:=hvs _ (cN hil);have hl':(aE v').length=sz:=by rw[hv',Bw,hm]
 rw[<-WR (rest:=rest) (u:=v') vs i hil hvs hl',hv'];have hlv:=eG vs hvs;have hle:i*sz+sz<=vs.length*sz:=by rw[<-gJ];exact bL _ hil
 generalize hmm:aE vs[i]=m at*;have hX:aF vs++rest=(aF vs).take (i*sz)++(m++((aF vs).drop (i*sz+sz)++rest)):=by
  have t1:=JU (rest:=rest) hvs hil;rw[hmm] at t1;obtain⟨_,t2⟩:=Co t1;have t3:m=((aF vs).drop (i*sz)).take sz:=by
   have:m=((aF vs++rest).drop (i*sz)).take sz:=t2;rw[this,kN (by omega),gW (by rw[gL];omega)]
  rw[t3]
  conv=>lhs;rw[<-lZ (i*sz) (aF vs),<-lZ sz ((aF vs).drop (i*sz)),List.drop_drop]
  simp[dW]
 have hP:((aF vs).take (i*sz)).length=i*sz:=by rw[cR];omega
 generalize (aF vs).take (i*sz)=A at hX hP;generalize (aF vs).drop (i*sz+sz)++rest=Z at hX;rw[hX,<-hP,Lk A m Z (cA m j cs) (by rw[Bw])];rw[q9 _ m j (by omega),q9 _ _ _ (by simp only[aU];omega)];rw[List.take_append,aM (by omega),Nat.add_sub_cancel_left,gW (by omega)];rw[nJ,iV (by omega),jN,show A.length+j+cs.length-A.length=j+cs.length by omega,kN (by omega)];simp[dW]
def Eq(ag:Option Nat)(d:DV)(j:Nat)(u:DV):Option DV:=match d with
 | .ag l=>match ag with
  |some k=>bif u.okc&&(Nat.beq u.cells.length k&&Nat.ble (j+k) l.length) then some (.ag (Ei l j u.cells)) else none
  |none=>bif u.flat&&Nat.blt j l.length then some (.ag (l.set j u)) else none
 |d=>match ag with
  |some _=>none
  |none=>bif d.flat&&(u.flat&&Nat.beq j 0) then some u else none
def bH.wroteRow{nm b:Nat}{ty:TypeId}{ds:List DV}{lo lo':Bool}(r:bH GB C n lk bk ρ G ov a w)(hb:bk nm=some (.b ty sz ds lo))(ha:(ρ nm).a=some ⟨b,0,none⟩)(hB:eh G ⟨ρ nm,sz,ty,ds',lo⟩ [⟨b,m',ty,lo'⟩])
  (h1:⟨b,m',ty,lo'⟩∈own')(h2: ∀o∈ov,o.b≠b->o∈own')(hk:SX GB C n (ef lk dst .un) (Sx.upB bk [(nm,some (.b ty sz ds' lo))]) K)(rl:gD C n (Sx.put (cx a) dst undef) own' G a' w'):K a' w':=by
 have r2:=r.upB (G':=G) (ov':=own') (w':=w') (B':= .b ty sz ds' lo) (bI.refl _) rl.h (hB.toBk J) (fun o ho=>by rw[aS.1 ho];exact h1) (fun o ho hne=>h2 o ho fun e=>hne (by rw[ha,e])) ⟨_,hb⟩;exact hk.run _ _ _ a' w' (r2.put J (jG rl))
def Qu(cs:List Value)(o:Nat)(v:Value):cA cs o [v]=cs.set o v:=rfl
def aEI{ag:Option Nat}{nm k j:Nat}{ty:TypeId}{ds:List DV}{lo:Bool}{d u:DV}(hi:e7 P t=some i)(ha:i.ag=some ag)(hx:bj lk x=some (.be nm sz k j))(hb:bk nm=some (.b ty sz ds lo))(hy:evD lk y=some u)(he:ds[k]? =some d)(hl:Eq ag d j u=some d')(hds:ds.set k d'=ds'):
  bP P GB C n lk bk ⟨dst, .store t x y,ty',pos,af,gd⟩ .un [(nm,some (.b ty sz ds' lo))] []:=by
 intro hd tl tb K s1 s2 hf hk;refine⟨fun ρ G ov a w r Q=>?_⟩;subst hds;have r1:=r.mono s1 s2;obtain⟨y',h1,h2⟩:=r1.evD hy;obtain⟨x',h3,b,hwb,rfl⟩:=r1.ev hx;obtain⟨B,hB,hBo⟩:=r1.row (y:= .nilFunc) hb;obtain⟨b',vs,rest,lo',e1,rfl,hv,hvs,hil,hup⟩:=hB.upd he;rw[hwb] at e1;cases e1;obtain⟨v,g1,g2⟩:=hv.get he;obtain⟨g3,g4⟩:=aY.1 g1;have hlv:=eG vs hvs;have hle:k*sz+sz<=vs.length*sz:=by rw[<-gJ];exact bL _ hil
 have hml:(aE v).length=sz:=hvs _ (aV g1)
 cases ag with
 |some q=>
  have:=y6 hi ha;unfold Eq at hl;split at hl
  .rename_i l
   simp only at hl
   cases hc:(u.okc&&(Nat.beq u.cells.length q&&Nat.ble (j+q) l.length)) with
   |false=>rw[hc] at hl;cases hl
   |true=>
    rw[hc] at hl;cases hl;simp only[cZ,Nat.ble_eq] at hc;obtain⟨c1,c2,c3⟩:=hc;replace c2:=aN c2;obtain⟨c4,c5⟩:=h2.cells c1;obtain⟨m,rfl,hm⟩:=d9.1 g2;have hcl:(aE y').length=q:=by rw[c4.len,c2]
    have hmd:=hm.len;have hsz:m.length=sz:=hml;have key:=hup (.agg ⟨cA m j (aE y')⟩) (.ag (Ei l j u.cells)) (d9.2 ⟨_,J,hm.ov c4⟩) (by show(cA m j (aE y')).length=sz;rw[Bw,hsz]);have hov:=Gu (rest:=rest) (v':= .agg ⟨cA m j (aE y')⟩) (cs:=aE y') (j:=j) hil hvs (by rw[g4];rfl) (by omega);obtain⟨own',u1,u2,u3⟩:=fC.of_mem (cs':=cA (aF vs++rest) (k*sz+j) (aE y')) (hBo _ aQ);refine Ee h3 h1 u1 hcl (by rw[aU];omega) (dK.2 c5) hd (fun a' w' rl=>?_) a w Q ⟨r.h,r.sz,cC a,r.df⟩;rw[hov] at u2;exact r.wroteRow (s2 _ _ hb) hwb key u2 u3 hk rl
  .simp at hl
 |none=>
  have:=wI hi ha;unfold Eq at hl;split at hl
  .rename_i l
   simp only at hl
   cases hc:(u.flat&&Nat.blt j l.length) with
   |false=>rw[hc] at hl;cases hl
   |true=>
    rw[hc] at hl;cases hl;simp only[cZ,mM] at hc;obtain⟨c1,c2⟩:=hc;have hfl:=h2.flat c1;have hcl:=B5 hfl;obtain⟨m,rfl,hm⟩:=d9.1 g2;have hmd:=hm.len;have hsz:m.length=sz:=hml;have key:=hup (.agg ⟨m.set j y'⟩) (.ag (l.set j u)) (d9.2 ⟨_,J,hm.set j h2⟩) (by show(m.set j y').length=sz;rw[bY,hsz]);have hov:=Gu (rest:=rest) (v':= .agg ⟨m.set j y'⟩) (cs:=[y']) (j:=j) hil hvs (by rw[g4];rfl) (by simp;omega);rw[Qu] at hov;obtain⟨own',u1,u2,u3⟩:=fC.of_mem (cs':=(aF vs++rest).set (k*sz+j) y') (hBo _ aQ);refine pG h3 h1 u1 (by rw[aU];omega) hfl hd (fun a' w' rl=>?_) a w Q ⟨r.h,r.sz,cC a,r.df⟩;rw[hov] at u2;exact r.wroteRow (s2 _ _ hb) hwb key u2 u3 hk rl
  .rename_i hna
   simp only at hl
   cases hc:(d.flat&&(u.flat&&Nat.beq j 0)) with
   |false=>rw[hc] at hl;cases hl
   |true=>
    rw[hc] at hl;cases hl;simp only[cZ] at hc;obtain⟨c0,c1,c2⟩:=hc
    cases aN c2
    have hfl:=h2.flat c1;have hcl:=B5 hfl;have hvl:=B5 (g2.flat c0);have h1z:1=sz:=by rw[<-hml,hvl];rfl
    have key:=hup y' d' h2 (by rw[hcl,<-h1z];rfl);have hov:=Gu (rest:=rest) (v':=y') (cs:=[y']) (j:=0) hil hvs (by rw[g4,hvl,hcl];rfl) (by simp;omega);rw[Qu] at hov;obtain⟨own',u1,u2,u3⟩:=fC.of_mem (cs':=(aF vs++rest).set (k*sz+0) y') (hBo _ aQ);refine pG h3 h1 u1 (by rw[aU];omega) hfl hd (fun a' w' rl=>?_) a w Q ⟨r.h,r.sz,cC a,r.df⟩;rw[hov] at u2;exact r.wroteRow (s2 _ _ hb) hwb key u2 u3 hk rl
def mI(lk:LK)(dflt:Nat):Option Operand->Option Int
 |none=>some (dflt:Nat)
 |some o=>match bj lk o with
  |some (.d (.v (.int .i64 i)))=>some i
  |_=>none
def Xu{l:List DV}{lo hi:Option Operand}[hT:cv P t e s by_](hx:evD lk x=some (.sl l))(ho:cP s l)(hlo:mI lk 0 lo=some (nlo:Int))(hhi:mI lk l.length hi=some (nhi:Int))(h1:nlo<=nhi)(h2:nhi<=l.length):
  bP P GB C n lk bk ⟨dst, .slice t x lo hi none,ty',pos,af,gd⟩ (.d (.sl ((l.take nhi).drop nlo))) [] []:= .yd fun ρ G ov a w r=>by
 obtain⟨u,h3,h4⟩:=r.evD hx;obtain⟨s',z,es,rfl,hsl,hl⟩:=gw.1 h4;have hn:=hsl.len;have hcap:=hsl.cap;have hll:=hl.len;have key: ∀mx',nhi<=mx'->mx'<=z.c->Is G (.sl ((l.take nhi).drop nlo)) (nF z.a z.n z.c nlo nhi mx' s):=by
  intro mx' hm1 hm2;rcases Ad hsl hl ho with he|he
  .subst he
   have:l=[]:=bM (by rw[<-hll];rfl);subst this;have e1:nhi=0:=by simp at h2;exact h2
   have e2:nlo=0:=by omega
   subst e1 e2;refine gw.2 ⟨s,⟨_,0,mx'⟩,[],J,⟨J,bZ _, .inl J⟩,by simpa using IsLs.nil⟩
  .subst he
   refine gw.2 ⟨s',⟨_,_,_⟩,_,J,hsl.sub nlo nhi mx' h1 (by omega) hm1 hm2,(hl.take nhi).drop nlo⟩
 have bnd: ∀{o:Operand} {d:Nat} {i:Int},mI lk d (some o)=some i->aA (cx a) o=some (.int .i64 i):=fun{o d i} h=>by
  simp only[mI] at h;split at h<;>cases h;rename_i he;obtain⟨q,g1,g2⟩:=r.ev he;rw[dq] at g2;subst g2;exact g1
 match lo,hi,hlo,hhi with
 |none,none,hlo,hhi=>
  simp only[mI,Option.some.injEq] at hlo hhi;have e1:nlo=0:=by omega
  have e2:nhi=l.length:=by omega
  subst e1 e2;refine⟨_,key z.c (by omega) (bX _),?_⟩;intro a w0 hf hh;simp only[execOp,bw hf h3,rU];have h9:=Cu (P:=P) (t:=t) (ad:=z.a) (len:=z.n) (cap:=z.c) w0 (lo:=none) (hi:=none) (mx:=none) (l:=0) (h:=l.length) (m:=z.c) (fun w0=>by
   simp[Instr.sliceBounds,Result.andThen,run_pure];omega)
  exact cE h9
 |none,some o2,hlo,hhi=>
  simp only[mI,Option.some.injEq] at hlo;have e1:nlo=0:=by omega
  subst e1;refine⟨_,key z.c (by omega) (bX _),?_⟩;have h9:=yg (P:=P) (C:=C) (own:=ov) (G:=G) (t:=t) (dst:=dst) (ty':=ty') (pos:=pos) (af:=af) (gd:=gd) h3 (bnd hhi);have e9:nF z.a z.n z.c 0 nhi z.c s= .slice z.a nhi z.c:=by
   unfold nF
   cases z.a with
   |none=>simp
   |some ad=>simp[Addr.add]
  rw[e9];simpa using h9
 |some o1,none,hlo,hhi=>
  simp only[mI,Option.some.injEq] at hhi;have e2:nhi=l.length:=by omega
  subst e2;refine⟨_,key z.c (by omega) (bX _),?_⟩;have h9:=Ki (P:=P) (C:=C) (own:=ov) (G:=G) (t:=t) (dst:=dst) (ty':=ty') (pos:=pos) (af:=af) (gd:=gd) h3 (bnd hlo);have e9:z.n=l.length:=by omega
  rw[aR,e9] at h9;rw[e9];exact h9
 |some o1,some o2,hlo,hhi=>
  refine⟨_,key z.c (by omega) (bX _),?_⟩;have h9:=Zn (P:=P) (C:=C) (own:=ov) (G:=G) (t:=t) (dst:=dst) (ty':=ty') (pos:=pos) (af:=af) (gd:=gd) h3 (bnd hlo) (bnd hhi) (by omega) (by omega) (by omega);simpa using h9
def aC9{l:List DV}{hi:Operand}[hT:cv P t e s by_](hx:evD lk x=some (.sl l))(ho:cP s l)(hhi:mI lk 0 (some hi)=some (nhi:Int))(hmx:mI lk 0 (some mx)=some (nhi:Int))(h2:nhi<=l.length):
  bP P GB C n lk bk ⟨dst, .slice t x none (some hi) (some mx),ty',pos,af,gd⟩ (.ct (l.take nhi)) [] []:= .yd fun ρ G ov a w r=>by
 obtain⟨u,h3,h4⟩:=r.evD hx;obtain⟨s',z,es,rfl,hsl,hl⟩:=gw.1 h4;have hn:=hsl.len;have hcap:=hsl.cap;have hll:=hl.len;have bnd: ∀{o:Operand} {d:Nat} {i:Int},mI lk d (some o)=some i->aA (cx a) o=some (.int .i64 i):=fun{o d i} h=>by
  simp only[mI] at h;split at h<;>cases h;rename_i he;obtain⟨q,g1,g2⟩:=r.ev he;rw[dq] at g2;subst g2;exact g1
 refine⟨.slice z.a nhi nhi,⟨⟨_,_,J⟩,X6 hsl hl ho h2 (bX _) (by omega)⟩,?_⟩;have h9:=Y0 (P:=P) (C:=C) (own:=ov) (G:=G) (t:=t) (dst:=dst) (ty':=ty') (pos:=pos) (af:=af) (gd:=gd) h3 (bnd hhi) (bnd hmx) (by omega) (Int.le_refl _) (by omega);simpa using h9
def Qq{d:Nat}{z:DV}{ds ds2:List DV}[hT:cv P t e s by_][hN:ke P t'](hi:e7 P e=some i)(hz:pe i=some z)(hs:Nat.beq z.cells.length s=true)(hx:bj lk x=some (.ct ds)\/(bj lk x=some .nl/\ds=[]))(ox:cP s ds)(hy:rB lk bk s y=some ds2)(hk2:cP s ds2)(hne:0<ds2.length)
  (hby:Nat.blt 0 by_=true)(hbd:(ds.length+ds2.length)*by_<=140737488355328)(hds:ds++ds2=ds'):
  bP P GB C n lk bk ⟨some d, .call ⟨.builtin .append, #[x,y], #[t,t']⟩,ty',pos,af,gd⟩ (.rw d) [(d,some (.b e s ds' true))] [d]:=by
 intro hd tl tb K s1 s2 hf hk;refine⟨fun ρ G ov a w r Q=>?_⟩;subst hds;have r1:=r.mono s1 s2;obtain⟨v,hz1,hz2,hz3⟩:=y8 hi hz;have cz:=((hz2 G).cells hz3).1.len;replace hs:=aN hs;rw[mM] at hby
 obtain⟨w2,us,h1,h2,h3,h4,h5,h6⟩:=BH (P:=P) r1 hy hk2;have hxs:rB lk bk s x=some ds:=by
  unfold rB;rcases hx with hx|⟨hx,rfl⟩<;>rw[hx]<;>rfl
 obtain⟨w1,vs,g1,g2,g3,g4,g5,g6⟩:=BH (P:=P) r1 hxs ox;have hc1:w1.c=w1.n:=by
  rcases hx with hx|⟨hx,rfl⟩
  .obtain⟨y1,k1,⟨a1,n1,rfl⟩,_⟩:=r1.ev hx
   rw[k1] at g1;simp only[Option.some.injEq,Value.slice.injEq] at g1;omega
  .obtain⟨y1,k1,k2⟩:=r1.ev hx
   cases k2
   rw[k1] at g1;simp only[Option.some.injEq,Value.slice.injEq] at g1;omega
 have hl3:=h3.len;have hl4:=g3.len;have hall: ∀v∈vs++us,(aE v).length=s:=fun v hv=>by
  rcases bW.1 hv with hv|hv
  .exact g4 v hv
  .exact h4 v hv
 refine A5 (z:=v) (xs:=aF vs) (ys:=aF us) (ad:=w1.a) (len:=w1.n) (cap:=w1.c) g1 h1 g6 h6 (by omega) hby (by rw[g2,h2,hl3,hl4];exact hbd) hd (fun b cap' hc a' w' rl=>?_) a w Q ⟨r.h,r.sz,cC a,r.df⟩;rw[<-qp] at rl;have hnd':=(cV.1 rl.h.nd).1;refine r.newRow (z:=⟨some ⟨b,0,none⟩,w1.n+w2.n,cap'⟩) (B:=[⟨b,aF (vs++us)++de v (cap'-(w1.n+w2.n)),e,true⟩]) hf ⟨vs++us, .inr ⟨b,_,true,by simp[g2,h2],J,eG _ hall,?_,by simpa[g2,h2] using hc⟩,g3.app h3,hall,fun _ o ho=>by rw[aS.1 ho]⟩
  (fun o ho=>by rw[aS.1 ho];exact aQ) (fun m B' hm e o ho _=>⟨aJ _ ho,fun e'=>by cases e';exact hnd' o ho J⟩) hk rl
 rw[eG _ hall,aU,pc,cz,hs,<-dJ,g2,h2];congr 1;rw[g2,h2] at hc;dsimp only;omega
end
section
variable {Q0:Exit->Act->World->Prop}{fr fr':aC}{own own':aH}{cf cf':Cf}{vc:List Prop}{ops:Array Oper}{K:List Kt}{r:List Oper}
def dd(fr:aC)(cf:Cf):Option Oper:=match F4 cf with
 |some (ops,o)=>bif wW ops (b9 fr cf) o.guard then some o else none
 |none=>none
def JV(h:dd fr cf=some o): ∃ops,F4 cf=some (ops,o)/\wW ops (b9 fr cf) o.guard=true:=by
 unfold dd at h;split at h<;>try (cases h;done)
 rename_i ops o' hh
 cases hg:wW ops (b9 fr cf) o'.guard with
 |false=>rw[hg] at h;cases h
 |true=>rw[hg] at h;cases h;exact⟨ops,hh,hg⟩
def us{bl:List (Nat×Option Bk)}{nw:List Nat}(hh:dd fr cf=some o)(h:bP prog GB C n (b9 fr cf) (jv fr own cf) o f bl nw)
  (hgo:cI tt n q fr own cf f bl nw=⟨vc,fr',own',cf'⟩)(hv:aj vc)(k:aw prog GB C n Q0 fr' own' cf'):aw prog GB C n Q0 fr own cf:=by
 obtain⟨ops,h1,h2⟩:=JV hh;exact uo h1 h2 h hgo hv k
def Ac(fr:aC)(cf:Cf):Option (FuncId×List DV):=match dd fr cf with
 |some ⟨_, .call ⟨.value fo,args,_⟩,_,_,_,_⟩=>vj (b9 fr cf) fo args
 |_=>none
def cl[fu:Fu]{f:FuncId}{ds:List DV}(ha:Ac fr cf=some (f,ds))(hF:PF GB prog f ds rv)(hgo:cI tt n fu.n fr own cf (.d rv) [] []=⟨vc,fr',own',cf'⟩)(k:aw prog GB C n Q0 fr' own' cf')
  (hv:autoParam (aj vc) fn._auto_1):aw prog GB C n Q0 fr own cf:=by
 unfold Ac at ha;split at ha<;>try (cases ha;done)
 rename_i hh;exact us hh (Ow ha hF) hgo hv k
def Lq(fr:aC)(cf:Cf):Option (List DV×Int×Nat):=match dd fr cf with
 |some ⟨_, .indexAddr t x y,_,_,_,_⟩=>match evD (b9 fr cf) x with
  |some (.sl l)=>match bj (b9 fr cf) y with
   |some (.d (.v (.int _ i)))=>match d8 tt t with
    |some ⟨.sl _ s _,_,_,_⟩=>some (l,i,s)
    |_=>none
   |_=>none
  |_=>none
 |_=>none
def Nw(n q:Nat)(fr:aC)(own:aH)(cf:Cf)(d:DV)(s:Nat):Aa:=bif d.okc&&Nat.beq d.cells.length s then lH d.cells fun cs=>cI tt n q fr own cf (.ep cs) [] [] else bad
def ix[fu:Fu](d:DV){l:List DV}{i:Int}{s:Nat}(h:Lq fr cf=some (l,i,s))(he:l[i.toNat]? =some d)(hgo:Nw n fu.n fr own cf d s=⟨vc,fr',own',cf'⟩)(k:aw prog GB C n Q0 fr' own' cf')(h0:0<=i:=by omega)
  (hv:autoParam (aj vc) fn._auto_1):aw prog GB C n Q0 fr own cf:=by
 unfold Lq at h;split at h<;>try (cases h;done)
 rename_i hh;split at h<;>try (cases h;done)
 rename_i hx;split at h<;>try (cases h;done)
 rename_i hy;split at h<;>cases h;rename_i hT;have:=lP (eE _ _ hT) J;unfold Nw at hgo
 cases hc:(d.okc&&Nat.beq d.cells.length s) with
 |false=>simp only[hc,cond_false,bad] at hgo;cases hgo;exact absurd hv (fun x=>x)
 |true=>
  simp only[hc,cond_true,uk] at hgo;exact us hh (ZJ hx hy h0 he hc) hgo hv k
structure Wx where
 ds:List DV
 k:Nat
 j:Nat
 ag:Option Nat
def Te(fr:aC)(own:aH)(cf:Cf):Option Wx:=match dd fr cf with
 |some ⟨_, .load t x,_,_,_,_⟩=>match bj (b9 fr cf) x with
  |some (.be nm sz k j)=>match jv fr own cf nm with
   |some (.b _ s ds _)=>bif Nat.beq s sz then(match d8 tt t with
    |some i=>match i.ag with
     |some ag=>some ⟨ds,k,j,ag⟩
     |none=>none
    |none=>none) else none
   |_=>none
  |_=>none
 |_=>none
def LM(n q:Nat)(fr:aC)(own:aH)(cf:Cf)(d:DV)(ag:Option Nat)(j:Nat):Aa:=bif d.okc then(match Cq ag d.cells j with
 |some c=>cI tt n q fr own cf (.d c) [] []
 |none=>bad) else bad
def lb[fu:Fu](d:DV){ds:List DV}{k' j:Nat}{ag:Option Nat}(h:Te fr own cf=some ⟨ds,k',j,ag⟩)(he:ds[k']? =some d)(hgo:LM n fu.n fr own cf d ag j=⟨vc,fr',own',cf'⟩)(k:aw prog GB C n Q0 fr' own' cf')
  (hv:autoParam (aj vc) fn._auto_1):aw prog GB C n Q0 fr own cf:=by
 unfold Te at h;split at h<;>try (cases h;done)
 rename_i hh;split at h<;>try (cases h;done)
 rename_i hx;split at h<;>try (cases h;done)
 rename_i ty s ds' lo hb;rw[cond_eq_ite] at h;split at h<;>try (cases h;done)
 rename_i hs
 cases aN hs
 split at h<;>try (cases h;done)
 rename_i hT;split at h<;>cases h;rename_i ha;unfold LM at hgo
 cases hc:d.okc with
 |false=>simp only[hc,cond_false,bad] at hgo;cases hgo;exact absurd hv (fun x=>x)
 |true=>
  simp only[hc,cond_true] at hgo
  cases hl:Cq ag d.cells j with
  |none=>simp only[hl,bad] at hgo;cases hgo;exact absurd hv (fun x=>x)
  |some c=>simp only[hl] at hgo;exact us hh (TO (eE _ _ hT) ha hx hb he hc hl) hgo hv k
structure Vm where
 nm:Nat
 ty:TypeId
 s:Nat
 ds:List DV
 lo:Bool
 k:Nat
 j:Nat
 ag:Option Nat
 u:DV
def Lh(fr:aC)(own:aH)(cf:Cf):Option Vm:=match dd fr cf with
 |some ⟨_, .store t x y,_,_,_,_⟩=>match bj (b9 fr cf) x with
  |some (.be nm sz k j)=>match jv fr own cf nm with
   |some (.b ty s ds lo)=>bif Nat.beq s sz then(match d8 tt t with
    |some i=>match i.ag with
     |some ag=>match evD (b9 fr cf) y with
      |some u=>some ⟨nm,ty,s,ds,lo,k,j,ag,u⟩
      |none=>none
     |none=>none
    |none=>none) else none
   |_=>none
  |_=>none
 |_=>none
def sb[fu:Fu](d:DV){nm:Nat}{ty:TypeId}{s:Nat}{ds:List DV}{lo:Bool}{k' j:Nat}{ag:Option Nat}{u:DV}(ds':List DV)(h:Lh fr own cf=some ⟨nm,ty,s,ds,lo,k',j,ag,u⟩)(he:ds[k']? =some d)(hl:Eq ag d j u=some d')(hds:ds.set k' d'=ds')
  (hgo:cI tt n fu.n fr own cf .un [(nm,some (.b ty s ds' lo))] []=⟨vc,fr',own',cf'⟩)(k:aw prog GB C n Q0 fr' own' cf')
  (hv:autoParam (aj vc) fn._auto_1):aw prog GB C n Q0 fr own cf:=by
 unfold Lh at h;split at h<;>try (cases h;done)
 rename_i hh;split at h<;>try (cases h;done)
 rename_i hx;split at h<;>try (cases h;done)
 rename_i hb;rw[cond_eq_ite] at h;split at h<;>try (cases h;done)
 rename_i hs
 cases aN hs
 split at h<;>try (cases h;done)
 rename_i hT;split at h<;>try (cases h;done)
 rename_i ha;split at h<;>cases h;rename_i hy;exact us hh (aEI (eE _ _ hT) ha hx hb hy he hl hds) hgo hv k
structure MkA where
 d:Nat
 e:Nat
 s:Nat
 b:Nat
 z:DV
 l:Int
def Fb(fr:aC)(cf:Cf):Option MkA:=match dd fr cf with
 |some ⟨some d, .makeSlice t x y,_,_,_,_⟩=>match bj (b9 fr cf) x with
  |some (.d (.v (.int _ l)))=>match d8 tt t with
   |some ⟨.sl e s b,_,_,_⟩=>match d8 tt e with
    |some i=>match pe i with
     |some z=>bif Nat.beq z.cells.length s then some ⟨d,e,s,b,z,l⟩ else none
     |none=>none
    |none=>none
   |_=>none
  |_=>none
 |_=>none
def mk[fu:Fu]{d e s b:Nat}{z:DV}{l:Int}(ds:List DV)(h:Fb fr cf=some ⟨d,e,s,b,z,l⟩)(hy:(match dd fr cf with|some ⟨_, .makeSlice _ _ y,_,_,_,_⟩=>bj (b9 fr cf) y|_=>none)=some (.d (.v (.int k' l))))(hds:List.replicate l.toNat z=ds)
  (hgo:cI tt n fu.n fr own cf (.rw d) [(d,some (.b e s ds true))] [d]=⟨vc,fr',own',cf'⟩)(k:aw prog GB C n Q0 fr' own' cf')(h0:0<=l:=by omega)(hb:b*l<=140737488355328:=by omega)(hl:l<=1152921504606846976:=by omega)
  (hv:autoParam (aj vc) fn._auto_1):aw prog GB C n Q0 fr own cf:=by
 unfold Fb at h;split at h<;>try (cases h;done)
 rename_i hh;split at h<;>try (cases h;done)
 rename_i hx;split at h<;>try (cases h;done)
 rename_i hT;split at h<;>try (cases h;done)
 rename_i hi;split at h<;>try (cases h;done)
 rename_i hz;rw[cond_eq_ite] at h;split at h<;>cases h;rename_i hs;rw[hh] at hy;have:=lP (eE _ _ hT) J;exact us hh (aDo (eE _ _ hi) hz hs hx hy h0 hb hl hds) hgo hv k
structure Lz where
 d:Nat
 e:Nat
 s:Nat
 ds:List DV
def CZ(fr:aC)(cf:Cf):Option Lz:=match dd fr cf with
 |some ⟨some d, .buildSlice t len parts,_,_,_,_⟩=>match d8 tt t with
  |some ⟨.sl e s _,_,_,_⟩=>match d8 tt e with
   |some i=>match pe i with
    |some z=>match wL (b9 fr cf) 0 parts.toList with
     |some ds=>bif Nat.beq z.cells.length s&&(DY s ds&&(Nat.beq parts.toList.length len&&(Nat.ble (len*s) 1000&&Nat.blt 0 (len*s)))) then some ⟨d,e,s,ds⟩ else none
     |none=>none
    |none=>none
   |none=>none
  |_=>none
 |_=>none
def LH{d e s:Nat}{ds:List DV}(h:CZ fr cf=some ⟨d,e,s,ds⟩): ∃o,dd fr cf=some o/\o.dst=some d/\bP prog GB C n (b9 fr cf) (jv fr own cf) o (.rw d) [(d,some (.b e s ds true))] [d]:=by
 unfold CZ at h;split at h<;>try (cases h;done)
 rename_i hh;split at h<;>try (cases h;done)
 rename_i hT;split at h<;>try (cases h;done)
 rename_i hi;split at h<;>try (cases h;done)
 rename_i hz;split at h<;>try (cases h;done)
 rename_i hr;rw[cond_eq_ite] at h;split at h<;>cases h;rename_i hc;simp only[cZ] at hc;have:=lP (eE _ _ hT) J;exact⟨_,hh,J,Sv (eE _ _ hi) hz hc.1 hr hc.2.1 hc.2.2.1 hc.2.2.2.1 hc.2.2.2.2⟩
def ro[fu:Fu]{d e s:Nat}{ds:List DV}(h:CZ fr cf=some ⟨d,e,s,ds⟩)(hgo:cI tt n fu.n fr own cf (.rw d) [(d,some (.b e s ds true))] [d]=⟨vc,fr',own',cf'⟩)(k:aw prog GB C n Q0 fr' own' cf')
  (hv:autoParam (aj vc) fn._auto_1):aw prog GB C n Q0 fr own cf:=by
 obtain⟨o,h1,_,h3⟩:=LH (GB:=GB) (C:=C) (n:=n) (own:=own) h;exact us h1 h3 hgo hv k
def rf[fu:Fu]{d e s:Nat}{ds:List DV}(h:CZ fr cf=some ⟨d,e,s,ds⟩)(hgo:cI tt n fu.n fr own cf (.d (.sl ds)) [(d,none)] [d]=⟨vc,fr',own',cf'⟩)(k:aw prog GB C n Q0 fr' own' cf')
  (hv:autoParam (aj vc) fn._auto_1):aw prog GB C n Q0 fr own cf:=by
 obtain⟨o,h1,h2,h3⟩:=LH (GB:=GB) (C:=C) (n:=n) (own:=own) h;exact us h1 (h3.frzRow h2) hgo hv k
def N9(fr:aC)(cf:Cf):Option (Nat×Nat×Nat):=match dd fr cf with
 |some ⟨some d, .buildSlice t 0 ⟨[]⟩,_,_,_,_⟩=>match d8 tt t with
  |some ⟨.sl e s _,_,_,_⟩=>some (d,e,s)
  |_=>none
 |_=>none
def s5[fu:Fu]{d e s:Nat}(h:N9 fr cf=some (d,e,s))(hgo:cI tt n fu.n fr own cf (.rw d) [(d,some (.b e s [] true))] [d]=⟨vc,fr',own',cf'⟩)(k:aw prog GB C n Q0 fr' own' cf')
  (hv:autoParam (aj vc) fn._auto_1):aw prog GB C n Q0 fr own cf:=by
 unfold N9 at h;split at h<;>try (cases h;done)
 rename_i hh;split at h<;>cases h;rename_i hT;have:=lP (eE _ _ hT) J;exact us hh Ts hgo hv k
structure UE where
 d:Nat
 nm:Option Nat
 e:Nat
 s:Nat
 b:Nat
 ds:List DV
 ds2:List DV
def D2(fr:aC)(own:aH)(cf:Cf):Option UE:=match dd fr cf with
 |some ⟨some d, .call ⟨.builtin .append,⟨[x,y]⟩,⟨[t,t']⟩⟩,_,_,_,_⟩=>match d8 tt t with
  |some ⟨.sl e s b,_,_,_⟩=>match d8 tt t' with
   |some ⟨.sl _ _ _,_,_,_⟩=>match d8 tt e with
    |some i=>match pe i with
     |some z=>bif Nat.beq z.cells.length s&&Nat.blt 0 b then(match rB (b9 fr cf) (jv fr own cf) s y with
      |some ds2=>match bj (b9 fr cf) x with
       |some (.rw nm)=>match jv fr own cf nm with
        |some (.b e' s' ds true)=>bif (Nat.beq e' e&&Nat.beq s' s)&&!Nat.beq nm d then some ⟨d,some nm,e,s,b,ds,ds2⟩ else none
        |_=>none
       |some (.ct ds)=>some ⟨d,none,e,s,b,ds,ds2⟩
       |some .nl=>some ⟨d,none,e,s,b,[],ds2⟩
       |_=>none
      |none=>none) else none
     |none=>none
    |none=>none
   |_=>none
  |_=>none
 |_=>none
def Nc(d:Nat)(nm:Option Nat)(B:Bk):List (Nat×Option Bk):=match nm with
 |some nm=>[(nm,none),(d,some B)]
 |none=>[(d,some B)]
def S5{d:Nat}{nm:Option Nat}{e s b:Nat}{ds ds2:List DV}(h:D2 fr own cf=some ⟨d,nm,e,s,b,ds,ds2⟩)(ds':List DV)(hds:ds++ds2=ds')(ho:nm.isNone=true->cP s ds/\0<ds2.length)(ho2:cP s ds2)(hbd:(ds.length+ds2.length)*b<=140737488355328):
  ∃o,dd fr cf=some o/\o.dst=some d/\bP prog GB C n (b9 fr cf) (jv fr own cf) o (.rw d) (Nc d nm (.b e s ds' true)) [d]:=by
 unfold D2 at h;split at h<;>try (cases h;done)
 rename_i hh;split at h<;>try (cases h;done)
 rename_i hT;split at h<;>try (cases h;done)
 rename_i hT';split at h<;>try (cases h;done)
 rename_i hi;split at h<;>try (cases h;done)
 rename_i hz;rw[cond_eq_ite] at h;split at h<;>try (cases h;done)
 rename_i hc;simp only[cZ] at hc;split at h<;>try (cases h;done)
 rename_i hy;have:=lP (eE _ _ hT) J;have hN:ke prog _:=⟨_,(lP (eE _ _ hT') J).un⟩;refine⟨_,hh,?_⟩;split at h<;>try (cases h;done)
 .rename_i hx
  split at h<;>try (cases h;done)
  rename_i hb;rw[cond_eq_ite] at h;split at h<;>cases h;rename_i hq;simp only[cZ,iM] at hq
  cases aN hq.1.1
  cases aN hq.1.2
  exact⟨J,Yu (eE _ _ hi) hz hc.1 hx hb hy ho2 hc.2 hbd hq.2 hds⟩
 .rename_i hx
  cases h
  obtain⟨h1,h2⟩:=ho rfl;exact⟨J,Qq (eE _ _ hi) hz hc.1 (.inl hx) h1 hy ho2 h2 hc.2 hbd hds⟩
 .rename_i hx
  cases h
  obtain⟨h1,h2⟩:=ho rfl;exact⟨J,Qq (eE _ _ hi) hz hc.1 (.inr ⟨hx,J⟩) h1 hy ho2 h2 hc.2 hbd hds⟩
def ap[fu:Fu]{d:Nat}{nm:Option Nat}{e s b:Nat}{ds ds2:List DV}(ds':List DV)(h:D2 fr own cf=some ⟨d,nm,e,s,b,ds,ds2⟩)(hds:ds++ds2=ds')(ho2:cP s ds2)(hgo:cI tt n fu.n fr own cf (.rw d) (Nc d nm (.b e s ds' true)) [d]=⟨vc,fr',own',cf'⟩)(k:aw prog GB C n Q0 fr' own' cf')
  (ho:nm.isNone=true->cP s ds/\0<ds2.length:=by intro h;first|(cases h;done)|exact⟨KH rfl,by simp⟩)(hbd:(ds.length+ds2.length)*b<=140737488355328:=by simp;omega)
  (hv:autoParam (aj vc) fn._auto_1):aw prog GB C n Q0 fr own cf:=by
 obtain⟨o,h1,_,h3⟩:=S5 (GB:=GB) (C:=C) (n:=n) h ds' hds ho ho2 hbd;exact us h1 h3 hgo hv k
def QM(fr:aC)(cf:Cf):Option (List DV×Int×Int×Nat×Bool):=match dd fr cf with
 |some ⟨_, .slice t x lo hi mx,_,_,_,_⟩=>match evD (b9 fr cf) x with
  |some (.sl l)=>match d8 tt t with
   |some ⟨.sl _ s _,_,_,_⟩=>match mI (b9 fr cf) 0 lo,mI (b9 fr cf) l.length hi with
    |some i,some j=>match mx with
     |none=>some (l,i,j,s,false)
     |some _=>none
    |_,_=>none
   |_=>none
  |_=>none
 |_=>none
def mE[fu:Fu]{l:List DV}{i j:Int}{s:Nat}(nlo nhi:Nat)(ls:List DV)(h:QM fr cf=some (l,i,j,s,false))(ei:i=nlo)(ej:j=nhi)(hls:(l.take nhi).drop nlo=ls)(ho:cP s l)(h1:nlo<=nhi)(h2:nhi<=l.length)
  (hgo:cI tt n fu.n fr own cf (.d (.sl ls)) [] []=⟨vc,fr',own',cf'⟩)(k:aw prog GB C n Q0 fr' own' cf')
  (hv:autoParam (aj vc) fn._auto_1):aw prog GB C n Q0 fr own cf:=by
 unfold QM at h;split at h<;>try (cases h;done)
 rename_i hh;split at h<;>try (cases h;done)
 rename_i hx;split at h<;>try (cases h;done)
 rename_i hT;split at h<;>try (cases h;done)
 rename_i hi hj;split at h<;>cases h;have:=lP (eE _ _ hT) J;subst ei ej hls;exact us hh (Xu hx ho hi hj h1 h2) hgo hv k
def QX(fr:aC)(cf:Cf):Option (List DV×Int×Int×Nat):=match dd fr cf with
 |some ⟨_, .slice t x none (some hi) (some mx),_,_,_,_⟩=>match evD (b9 fr cf) x with
  |some (.sl l)=>match d8 tt t with
   |some ⟨.sl _ s _,_,_,_⟩=>match mI (b9 fr cf) 0 (some hi),mI (b9 fr cf) 0 (some mx) with
    |some i,some j=>some (l,i,j,s)
    |_,_=>none
   |_=>none
  |_=>none
 |_=>none
def s3[fu:Fu]{l:List DV}{i j:Int}{s:Nat}(nhi:Nat)(ls:List DV)(h:QX fr cf=some (l,i,j,s))(ei:i=nhi)(ej:j=nhi)(hls:l.take nhi=ls)(ho:cP s l)(h2:nhi<=l.length)
  (hgo:cI tt n fu.n fr own cf (.ct ls) [] []=⟨vc,fr',own',cf'⟩)(k:aw prog GB C n Q0 fr' own' cf')
  (hv:autoParam (aj vc) fn._auto_1):aw prog GB C n Q0 fr own cf:=by
 unfold QX at h;split at h<;>try (cases h;done)
 rename_i hh;split at h<;>try (cases h;done)
 rename_i hx;split at h<;>try (cases h;done)
 rename_i hT;split at h<;>cases h;rename_i hi hj;have:=lP (eE _ _ hT) J;subst ei ej hls;exact us hh (aC9 hx ho hi hj h2) hgo hv k
def QB(fr:aC)(cf:Cf):Option (Nat×List DV):=match dd fr cf with
 |some ⟨some d, .box _ x,_,_,_,_⟩=>match bj (b9 fr cf) x with
  |some f=>bif f.okc&&AD f d then(match jq f.cells with
   |some l=>some (d,l)
   |none=>none) else none
  |none=>none
 |_=>none
end
end Go.Sx
end
