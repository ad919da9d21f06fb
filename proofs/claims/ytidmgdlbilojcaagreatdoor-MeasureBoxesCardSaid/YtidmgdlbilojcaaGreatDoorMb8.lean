import Derived.Test.YtidmgdlbilojcaaGreatDoorMb7
set_option linter.all false
set_option maxRecDepth 100000
section
namespace Go.Sx
open Go Go.Proofs Tryz
section
variable {GB:Gh} {C:aB} {n:Nat} {Q0:Exit->Act->World->Prop} {fr fr':az} {own own':aC} {cf cf':Cf} {vc vc':List Prop} {ops:Array Oper} {r:List Oper} {o:Oper} {K:List Kt}
def ot(row:Bool)(nm:Nat)(l:List DV):FX->FX
 | .rw m=>bif Nat.beq m nm then(bif row then .d (.sl l) else .no) else .rw m
 | .ov m off=>bif Nat.beq m nm then(bif row then .no else(match off with
  |0=> .d (.pt l)
  |_+1=> .no)) else .ov m off
 | .be m s i j=>bif Nat.beq m nm then .no else .be m s i j
 | .rs m s i j=>bif Nat.beq m nm then .no else .rs m s i j
 | .bx tp pre m post=>bif Nat.beq m nm then(bif row then(match tp with
  |true=> .d (.tp (pre++ .sl l::post))
  |false=> .d (.ag (pre++ .sl l::post))) else .no) else .bx tp pre m post
 |f=>f
def Bc{α:Type}(f:FX)(k:FX->α):α:=match f with
 | .d x=>k (.d x)
 | .rw m=>k (.rw m)
 | .ov a b=>k (.ov a b)
 | .be a b c d=>k (.be a b c d)
 | .rs a b c d=>k (.rs a b c d)
 |f=>k f
def EZ{α:Type}{f:FX}{k:FX->α}:Bc f k=k f:=by cases f<;>rfl
def AY{α:Type}(row:Bool)(nm:Nat)(l:List DV):az->(az->α)->α
 |[],k=>k []
 |(j,f)::t,k=>AY row nm l t fun t'=>Bc (ot row nm l f) fun f'=>k ((j,f')::t')
def Fq{α:Type}(row:Bool)(nm:Nat)(l:List DV):List FX->(List FX->α)->α
 |[],k=>k []
 |f::t,k=>Fq row nm l t fun t'=>Bc (ot row nm l f) fun f'=>k (f'::t')
def AO{α:Type}(row:Bool)(nm:Nat)(l:List DV):aC->(aC->α)->α
 |[],k=>k []
 |(j,B)::t,k=>AO row nm l t fun t'=>bif Nat.beq j nm then k ((j,none)::t') else match B with
  |some (.o ty cs lo)=>Fq row nm l cs fun cs'=>k ((j,some (.o ty cs' lo))::t')
  |B=>k ((j,B)::t')
def um(row:Bool)(nm:Nat)(l:List DV):Option Bk->Option Bk
 |some (.o ty cs lo)=>some (.o ty (cs.map (ot row nm l)) lo)
 |B=>B
def Sl{α:Type}{row:Bool}{nm:Nat}{l:List DV}: ∀{cs:List FX} {k:List FX->α},Fq row nm l cs k=k (cs.map (ot row nm l))
 |[],k=>rfl
 |f::t,k=>by simp only[Fq,EZ];rw[Sl];rfl
def I'{α:Type}{row:Bool}{nm:Nat}{l:List DV}: ∀{fr:az} {k:az->α},AY row nm l fr k=k (fr.map fun e=>(e.1,ot row nm l e.2))
 |[],k=>rfl
 |(j,f)::t,k=>by simp only[AY,EZ];rw[I'];rfl
def Ju{α:Type}{row:Bool}{nm:Nat}{l:List DV}: ∀{own:aC} {k:aC->α},AO row nm l own k=k (own.map fun e=>(e.1,bif Nat.beq e.1 nm then none else um row nm l e.2))
 |[],k=>rfl
 |(j,B)::t,k=>by
  simp only[AO,Ju (own:=t),cK]
  cases Nat.beq j nm with
  |true=>rfl
  |false=>
   cases B with
   |none=>rfl
   |some B=>cases B<;>simp only[cond_false,Sl,um]
def Ed{g:FX->FX}: ∀{fr:az} {k:Nat},aH (fr.map fun e=>(e.1,g e.2)) k=(aH fr k).map g
 |[],k=>rfl
 |(j,f)::t,k=>by
  simp only[cK];rw[kl,kl,Ed (fr:=t)];split<;>rfl
def Q1{row:Bool}{nm:Nat}{l:List DV}: ∀{own:aC} {k:Nat},aP (own.map fun e=>(e.1,bif Nat.beq e.1 nm then none else um row nm l e.2)) k=if k=nm then none else um row nm l (aP own k)
 |[],k=>by simp[aP,um]
 |(j,B)::t,k=>by
  simp only[cK];rw[jA,jA,Q1 (own:=t)];by_cases h:k=j
  ·subst h
   simp only[if_true];by_cases e:k=nm
   ·subst e;simp
   ·have:Nat.beq k nm=false:=by
     cases hb:Nat.beq k nm with
     |false=>rfl
     |true=>exact absurd (aR hb) e
    simp[this,e]
  ·simp[h]
structure BV where
 fr:az
 own:aC
def CL(fr:az)(own:aC)(nm:Nat):Option BV:=match aP own nm with
 |some (.b _ _ ds true)=>AY true nm ds fr fun fr'=>AO true nm ds own fun own'=>some ⟨fr',own'⟩
 |some (.o _ cs true)=>match ji cs with
  |some l=>AY false nm l fr fun fr'=>AO false nm l own fun own'=>some ⟨fr',own'⟩
  |none=>none
 |_=>none
def j9.of_mem{o:av}: ∀{own:List av},o∈own-> ∃own',j9 own o own'/\ ∀x∈own,x.b≠o.b->x∈own'
 |[],h=>by cases h
 |x::t,h=>by
  rcases aW.1 h with rfl|h
  ·exact⟨t, .hd ..,fun y hy hb=>(aW.1 hy).elim (fun e=>absurd (by rw[e]) hb) id⟩
  ·obtain⟨own',h1,h2⟩:=j9.of_mem h
   exact⟨x::own', .tl _ _ _ _ h1,fun y hy hb=>(aW.1 hy).elim (fun e=>by rw[e];exact aQ) (fun e=>aJ _ (h2 y e hb))⟩
def Nc{row:Bool}{nm:Nat}{l:List DV}{ρ:NE}{G G':Gh}{f:FX}{y:Value}(hg:bp G G')(h:bE ρ G f y)(hr:row=true-> ∀y,bE ρ G (.rw nm) y->Is G' (.sl l) y)(ho:row=false-> ∀y,bE ρ G (.ov nm 0) y->Is G' (.pt l) y):bE ρ G' (ot row nm l f) y:=by
 cases f with
 |rw m=>
  simp only[ot]
  cases hb:Nat.beq m nm with
  |false=>exact h.up hg
  |true=>
   cases aR hb
   cases row with
   |true=>exact hr J y h
   |false=>trivial
 |ov m off=>
  simp only[ot]
  cases hb:Nat.beq m nm with
  |false=>exact h.up hg
  |true=>
   cases aR hb
   cases row with
   |true=>trivial
   |false=>cases off with
    |zero=>exact ho J y h
    |succ=>trivial
 |be m s i j=>
  simp only[ot]
  cases hb:Nat.beq m nm with
  |false=>exact h.up hg
  |true=>trivial
 |rs m s i j=>
  simp only[ot]
  cases hb:Nat.beq m nm with
  |false=>exact h.up hg
  |true=>trivial
 |bx tp pre m post=>
  simp only[ot]
  cases hb:Nat.beq m nm with
  |false=>exact h.up hg
  |true=>
   cases aR hb
   cases row with
   |false=>trivial
   |true=>
    obtain⟨m1,m2,e,h1,h2⟩:=h;have hl:=(h1.up hg).app (.cons (hr J _ J) (h2.up hg))
    cases tp with
    |true=>exact iH.2 ⟨_,e,hl⟩
    |false=>exact d6.2 ⟨_,e,hl⟩
 |_=>exact h.up hg
def OJ{row:Bool}{nm:Nat}{l:List DV}{ρ:NE}{G G':Gh}(hg:bp G G')(hr:row=true-> ∀y,bE ρ G (.rw nm) y->Is G' (.sl l) y)(ho:row=false-> ∀y,bE ρ G (.ov nm 0) y->Is G' (.pt l) y): ∀{cs:List FX} {m:List Value},de ρ G cs m->de ρ G' (cs.map (ot row nm l)) m
 |[],m,h=>h
 |f::t,m,⟨y,q,e,h1,h2⟩=>⟨y,q,e,Nc hg h1 hr ho,OJ hg hr ho h2⟩
def bw.frz{ρ:NE}{G G':Gh}{ov ov':List av}{a:Act}{w:World}{row:Bool}{nm:Nat}{l:List DV}(h:bw GB C n (aH fr) (aP own) ρ G ov a w)(hg:bp G G')(hh:bt C ov' G' w)(hv: ∀o∈ov,(ρ nm).a≠some ⟨o.b,0,none⟩->o∈ov'){B0:Bk}(hb:aP own nm=some B0)
  (hr:row=true-> ∀y,bE ρ G (.rw nm) y->Is G' (.sl l) y)(ho:row=false-> ∀y,bE ρ G (.ov nm 0) y->Is G' (.pt l) y):
  bw GB C n (aH (fr.map fun e=>(e.1,ot row nm l e.2))) (aP (own.map fun e=>(e.1,bif Nat.beq e.1 nm then none else um row nm l e.2))) ρ G' ov' a w:=by
 have inv: ∀m B,aP (own.map fun e=>(e.1,bif Nat.beq e.1 nm then none else um row nm l e.2)) m=some B->m≠nm/\ ∃B1,aP own m=some B1/\um row nm l (some B1)=some B:=fun m B e=>by
  rw[Q1] at e;split at e
  ·cases e
  ·rename_i hm
   refine⟨hm,?_⟩
   cases hl:aP own m with
   |none=>rw[hl] at e;cases e
   |some B1=>rw[hl] at e;exact⟨B1,J,e⟩
 refine⟨h.gb.trans hg,hh,h.sz,h.df,fun k f e=>?_,fun m B e=>?_,fun m m' B B' e e'=>?_,h.fxd⟩
 ·rw[Ed] at e
  cases hf:aH fr k with
  |none=>rw[hf] at e;cases e
  |some g=>
   rw[hf] at e;cases e;obtain⟨y,h1,h2⟩:=h.fx k g hf;exact⟨y,h1,Nc hg h2 hr ho⟩
 ·obtain⟨hm,B1,h1,h2⟩:=inv m B e
  obtain⟨os,h3,h4⟩:=h.bx m B1 h1;refine⟨os,?_,fun o ho'=>hv o (h4 o ho') fun hc=>h.dj m nm B1 B0 h1 hb hm _ (h3.blk ho') hc⟩
  cases B1 with
  |b=>cases h2;exact h3.up hg
  |c=>cases h2;exact h3.up hg
  |o ty cs lo=>cases h2;obtain⟨b,q,h5,h6,h7⟩:=h3;exact⟨b,q,h5,h6,OJ hg hr ho h7⟩
 ·obtain⟨_,B1,h1,_⟩:=inv m B e
  obtain⟨_,B2,h2,_⟩:=inv m' B' e';exact h.dj m m' B1 B2 h1 h2
def bw.frzRow{lk:LK}{bk:BM}{ρ:NE}{G:Gh}{ov:List av}{a:Act}{w:World}{nm:Nat}{ty:TypeId}{s:Nat}{ds:List DV}(r:bw GB C n lk bk ρ G ov a w)(hb:bk nm=some (.b ty s ds true)):
  ∃G' ov',bp G G'/\bt C ov' G' w/\(∀o∈ov,(ρ nm).a≠some ⟨o.b,0,none⟩->o∈ov')/\ ∀y,bE ρ G (.rw nm) y->Is G' (.sl ds) y:=by
 obtain⟨B,⟨vs,hB,hv,hs,hlo⟩,hBo⟩:=r.row (y:= .nilFunc) hb;rcases hB with⟨e1,e2,e3⟩|⟨b,rest,lo',e2,e3,h5,h6,h7⟩
 ·subst e1
  have ed:ds=[]:=bU (by rw[<-hv.len];rfl);subst ed;simp only at e2;refine⟨G,ov,bp.refl _,r.h,fun o ho _=>ho,fun y hy=>?_⟩;rw[show y=_ from hy,e2];exact iB.2 ⟨0,⟨none,0,0⟩,[],J, .nil G 0, .nil⟩
 ·subst e3
  have hl:=hlo J _ aQ;simp only at hl;subst hl;obtain⟨ov',o1,o2⟩:=j9.of_mem (hBo _ aQ);obtain⟨f1,f2⟩:=r.h.freeze o1;simp only at e2;refine⟨_,ov',f2,f1,fun o ho hne=>o2 o ho fun e=>hne (by rw[e2,e]),fun y hy=>?_⟩;rw[show y=_ from hy,e2];exact iB.2 ⟨s,⟨some ⟨b,0,none⟩,vs.length,_⟩,vs,J,eH.of_flat hs (if_pos J) h7,hv.up f2⟩
def bw.frzVar{lk:LK}{bk:BM}{ρ:NE}{G:Gh}{ov:List av}{a:Act}{w:World}{nm:Nat}{ty:TypeId}{cs:List FX}{l:List DV}(r:bw GB C n lk bk ρ G ov a w)(hb:bk nm=some (.o ty cs true))(hl:ji cs=some l):
  ∃G' ov',bp G G'/\bt C ov' G' w/\(∀o∈ov,(ρ nm).a≠some ⟨o.b,0,none⟩->o∈ov')/\ ∀y,bE ρ G (.ov nm 0) y->Is G' (.pt l) y:=by
 obtain⟨os,⟨b,m,h3,rfl,h4⟩,h5⟩:=r.bx _ _ hb;obtain⟨ov',o1,o2⟩:=j9.of_mem (h5 _ aQ);obtain⟨f1,f2⟩:=r.h.freeze o1;refine⟨_,ov',f2,f1,fun o ho hne=>o2 o ho fun e=>hne (by rw[h3,e]),fun y hy=>?_⟩;obtain⟨b',h6,rfl⟩:=hy;rw[h3] at h6;cases h6;exact so.2 ⟨b,m,J,if_pos J,(rO h4 hl).up f2⟩
def Js{nm:Nat}{Φ:Act->World->Prop}{R:BV}(h:CL fr own nm=some R)(hk:SX GB C n (aH R.fr) (aP R.own) Φ):SX GB C n (aH fr) (aP own) Φ:=by
 refine⟨fun ρ G ov a w r=>?_⟩;unfold CL at h;split at h<;>try (cases h;done)
 ·rename_i ty s ds hb
  rw[I',Ju] at h;cases h;obtain⟨G',ov',h1,h2,h3,h4⟩:=r.frzRow hb;exact hk.run ρ G' ov' a w (r.frz (row:=true) h1 h2 h3 hb (fun _=>h4) (fun e=>by cases e))
 ·rename_i ty cs hb
  split at h<;>try (cases h;done)
  rename_i l hl;rw[I',Ju] at h;cases h;obtain⟨G',ov',h1,h2,h3,h4⟩:=r.frzVar hb hl;exact hk.run ρ G' ov' a w (r.frz (row:=false) h1 h2 h3 hb (fun e=>by cases e) (fun _=>h4))
def fz[fu:Fu](nm:Nat){fr1:az}{own1:aC}(h:CL fr own nm=some ⟨fr1,own1⟩)(hgo:go tt n fu.n [] fr1 own1 (.ops ops r K)=⟨vc,fr',own',cf'⟩)(k:ak prog GB C n Q0 fr' own' cf')(hv:ac vc:=by first|exact trivial|(simp only[ac];kernel_rfl)|(simp only[ac];omega)|(simp only[ac,aK,aM,aY];omega)):ak prog GB C n Q0 fr own (.ops ops r K):=
 Js h (f7 hgo hv k)
def iE(nm:Nat){fr1:az}{own1:aC}{e:Exit}(h:CL fr own nm=some ⟨fr1,own1⟩)(k:ak prog GB C n Q0 fr1 own1 (.ex e K)):ak prog GB C n Q0 fr own (.ex e K):=Js h k
def z7(nm:Nat){fr1:az}{own1:aC}{c:Code}(h:CL fr own nm=some ⟨fr1,own1⟩)(k:ak prog GB C n Q0 fr1 own1 (.code c K)):ak prog GB C n Q0 fr own (.code c K):=Js h k
def vz:az->az->Prop
 |[],_=>True
 |(k,v)::t,fr=>aH fr k=some v/\vz t fr
def ze:aC->aC->Prop
 |[],_=>True
 |(k,v)::t,own=>aP own k=v/\ze t own
def wT: ∀{f:az},vz f fr->j0 (aH f) (aH fr)
 |[],_,k,x,h=>by cases h
 |(j,v)::t,h,k,x,e=>by
  rw[kl] at e;split at e
  ·cases e;rename_i hk;rw[hk];exact h.1
  ·exact wT h.2 k x e
def xj: ∀{f:aC},ze f own->j0 (aP f) (aP own)
 |[],_,k,x,h=>by cases h
 |(j,v)::t,h,k,x,e=>by
  rw[jA] at e;split at e
  ·rename_i hk;rw[hk,h.1,e]
  ·exact xj h.2 k x e
def pG{k:Nat}{q:IntKind}{a b:Int}(h:aH fr k=some (.d (.v (.int q a))))(e:a=b):aH fr k=some (.d (.v (.int q b))):=e▸h
def Jl(GB:Gh)(C:aB)(n:Nat){X:Type}(F:X->az)(O:X->aC)(I:X->Prop)(a:Act)(w:World):Prop:=
 ∃x ρ G ov,I x/\bw GB C n (aH (F x)) (aP (O x)) ρ G ov a w
def KF:List Oper->List Nat->List Nat
 |[],l=>l
 |o::r,l=>match o.dst with
  |some d=>d::KF r l
  |none=>KF r l
def uG:Code->List Nat->List Nat
 | .region _ ops _,l=>KF ops.toList l
 | .seq a b,l=>uG a (uG b l)
 | .cond _ a b,l=>uG a (uG b l)
 | .block _ a,l=>uG a l
 | .loop a,l=>uG a l
 | .scope a,l=>uG a l
 |_,l=>l
def Hj{α:Type}:List Nat->az->(az->α)->α
 |_,[],k=>k []
 |l,(j,f)::t,k=>bif vo l j then Hj l t k else Hj (j::l) t fun t'=>k ((j,f)::t')
def ET{α:Type}:List Nat->aC->(aC->α)->α
 |_,[],k=>k []
 |l,(j,B)::t,k=>bif vo l j then ET l t k else match B with
  |some B=>ET l t fun t'=>k ((j,some B)::t')
  |none=>ET l t k
structure Kp where
 fr:az
 own:aC
def keep(c:Code)(uf uo:List Nat)(fr:az)(own:aC):Kp:=lE (uG c uo) fun m=>lE (uf++m) fun m'=>Hj m' fr fun fr'=>ET m own fun own'=>⟨fr',own'⟩
def lp[fu:Fu]{c:Code}{X:Type}(U:X->az)(V:X->aC)(I:X->Prop)(μ:X->Nat)(x0:X){kf:az}{ko:aC}{cf':X->Cf}{fr':X->az}{own':X->aC}{vc:X->List Prop}(hkp:keep c ((U x0).map (·.1)) ((V x0).map (·.1)) fr own=⟨kf,ko⟩)(hI:I x0)
  (hgo: ∀x,go tt n fu.n [] (U x++kf) (V x++ko) (.code c (.ag (Jl GB C n (fun y=>U y++kf) (fun y=>V y++ko) (fun y=>I y/\μ y<μ x))::K))=⟨vc x,fr' x,own' x,cf' x⟩)
  (round: ∀x,I x->ak prog GB C n Q0 (fr' x) (own' x) (cf' x))(hF:vz (U x0++kf) fr:=by repeat (first|exact trivial|refine And.intro J ?_|refine And.intro (pG J (by first|omega|(dsimp only;omega))) ?_|refine And.intro (pG J (by simp)) ?_))(hO:ze (V x0++ko) own:=by repeat (first|exact trivial|refine And.intro J ?_))
  (hv: ∀x,I x->ac (vc x):=by intros;first|exact trivial|(simp only[ac];kernel_rfl)|(simp only[ac];omega)|(simp only[ac,aK,aM,aY];omega)):ak prog GB C n Q0 fr own (.code (.loop c) K):=by
 refine⟨fun ρ G ov a w r=>?_⟩;have r0:=r.mono (wT hF) (xj hO);intro b k cs hro hb hrm;have key: ∀m a w,(∃x ρ G ov,I x/\μ x=m/\bw GB C n (aH (U x++kf)) (aP (V x++ko)) ρ G ov a w)->
   ∃e a' w',cQ C.rd prog Q0 K e a' w'/\ArrivesIn (Machine.fenced prog (FW C.rd)) prog (lone (b.atR a (.code c:: .inLoop c::k)) cs w) b k cs e a' w':=by
  intro m
  induction m using Nat.strongRecOn with
  |_ m ih=>
   intro a w ⟨x,ρ,G,ov,hx,hm,hr⟩;have h1:=f7 (GB:=GB) (C:=C) (Q0:=Q0) (hgo x) (hv x hx) (round x hx);obtain⟨e,a₁,w₁,hq,harr⟩:=h1.run ρ G ov a w hr b (.inLoop c::k) cs hro hb hrm
   cases e with
   |normal=>
    obtain⟨x',ρ',G',ov',⟨hx',hlt⟩,hr'⟩:=hq;obtain⟨e₂,a₂,w₂,hq₂,harr₂⟩:=ih (μ x') (hm▸hlt) a₁ w₁ ⟨x',ρ',G',ov',hx',rfl,hr'⟩;exact⟨e₂,a₂,w₂,hq₂, .of_steps (StepsIn.trans harr (.one (fenced_calm hb hrm J) stepR_inLoop)) harr₂⟩
   |exit id=>exact⟨_,a₁,w₁,hq, .pass (x:= .inLoop c) J (fun _ _=> .inl (by simp)) harr⟩
   |goto l=>exact⟨_,a₁,w₁,hq, .pass (x:= .inLoop c) J (fun _ _=> .inl (by simp)) harr⟩
   |ret=>exact⟨_,a₁,w₁,hq, .pass (x:= .inLoop c) J (fun _ _=> .inl (by simp)) harr⟩
   |panic ch=>exact⟨_,a₁,w₁,hq, .pass (x:= .inLoop c) J (fun _ _=> .inl (by simp)) harr⟩
   |outgrown=>exact⟨_,a₁,w₁,hq, .pass (x:= .inLoop c) J (fun _ _=> .inl (by simp)) harr⟩
 obtain⟨e,a',w',q,rr⟩:=key (μ x0) a w ⟨x0,ρ,G,ov,hI,rfl,r0⟩;exact⟨e,a',w',q, .of_steps (.one (fenced_calm hb hrm J) stepR_loop) rr⟩
def at_{X:Type}{F:X->az}{O:X->aC}{I:X->Prop}(x:X)(hI:I x)(hF:vz (F x) fr:=by repeat (first|exact trivial|refine And.intro J ?_|refine And.intro (pG J (by first|omega|(dsimp only;omega))) ?_|refine And.intro (pG J (by simp)) ?_))(hO:ze (O x) own:=by repeat (first|exact trivial|refine And.intro J ?_)):ak prog GB C n Q0 fr own (.ex .normal (.ag (Jl GB C n F O I)::K)):=
 ⟨fun ρ G ov a w r=>⟨x,ρ,G,ov,hI,r.mono (wT hF) (xj hO)⟩⟩
def mg[fu:Fu]{c d:Code}{X:Type}(U:X->az)(V:X->aC)(I:X->Prop){kf:az}{ko:aC}{cf':X->Cf}{fr':X->az}{own':X->aC}{vc:X->List Prop}(u0 v0:List Nat)(hkp:keep c u0 v0 fr own=⟨kf,ko⟩)
  (h1:ak prog GB C n Q0 fr own (.code c (.ag (Jl GB C n (fun y=>U y++kf) (fun y=>V y++ko) I)::K)))
  (hgo: ∀x,go tt n fu.n [] (U x++kf) (V x++ko) (.code d K)=⟨vc x,fr' x,own' x,cf' x⟩)(k: ∀x,I x->ak prog GB C n Q0 (fr' x) (own' x) (cf' x))(hv: ∀x,I x->ac (vc x):=by intros;first|exact trivial|(simp only[ac];kernel_rfl)|(simp only[ac];omega)|(simp only[ac,aK,aM,aY];omega)):ak prog GB C n Q0 fr own (.code c (.sq d::K)):=by
 refine SX.imp h1 fun a w h=>VT h ?_;intro e a w h
 cases e with
 |normal=>
  obtain⟨x,ρ,G,ov,hI,hr⟩:=h;have:=f7 (GB:=GB) (C:=C) (Q0:=Q0) (hgo x) (hv x hI) (k x hI);exact this.run ρ G ov a w hr
 |_=>exact h
end
end Go.Sx
end
section
namespace Go.Sx
open Go
section
variable {P:Program} {ops:Array Oper} {Q:Exit->Act->World->Prop} {S:World->Prop} {π₂:List (Nat×Bool)}
abbrev aJ4:Nat->Bool:=fun _=>false
def vT(S:World->Prop)(K:(World->Prop)->Act->World->Prop)(a:Act)(w:World):Prop:= ∃S':World->Prop,(∀w,S' w->S w)/\S' w/\K S' a w
def zp(P:Program)(ops:Array Oper)(Q:Exit->Act->World->Prop)(K:(World->Prop)->Act->World->Prop):List Nat->List (Nat×Bool)->(World->Prop)->Act->World->Prop
 |[],[],S,a,w=>K S a w
 |k::ks,[],S,a,w=> ∀j,(h:j∈k::ks)->wpOp P ops Q j (vT S (zp P ops Q K (bz (k::ks) j) [])) a w
 |ks,(i,true)::r,S,a,w=> ∃o v,ops[i]? =some o/\S w/\YieldsIf P ops S o v a/\zp P ops Q K ks r S (a.put o.dst v) w
 |ks,(i,false)::r,S,a,w=>wpOp P ops Q i (vT S (zp P ops Q K ks r)) a w/\
   ∀j,(h:j∈ks)->wpOp P ops Q j (vT S (zp P ops Q K (bz ks j) ((i,false)::r))) a w
termination_by ks π=>ks.length+π.length
decreasing_by
 all_goals (first|(have:=Jd h;simp only[bX,fU] at*;omega)|(simp only[bX];omega))
def aJ1(Q:Exit->Act->World->Prop):(World->Prop)->Act->World->Prop:=fun _ a w=>Q .normal a w
end
section
variable {P:Program} {GB:Gh} {C:aB} {n:Nat} {fr fr':eo} {own own' own0 own1 own1':List c9} {bs bs0 bs1 bs1':List dB} {ops:Array Oper} {Q:Exit->Act->World->Prop} {fd:List FD} {π π₂:List (Nat×Bool)}
structure SR (GB:Gh) (C:aB) (n:Nat) (fr:eo) (own0:List c9) (bs0:List dB) (own1:List c9) (bs1:List dB) (fd:List FD) (K:List Nat->(World->Prop)->Act->World->Prop):Prop where
 run: ∀G frv o0 o1,bp GB G->CT G fr frv->OB G own0 bs0 o0->OB G own1 bs1 o1-> ∀fs:Fs,St C n (frv++Gs fd fs) (o1++(o0++GN fd fs)) G (K (HW fd fs) (HS C o0 G))
instance {GB:Gh} {C:aB} {n:Nat} {fr:eo} {own0:List c9} {bs0:List dB} {own1:List c9} {bs1:List dB} {fd:List FD} {K:List Nat->(World->Prop)->Act->World->Prop}:CoeFun (SR GB C n fr own0 bs0 own1 bs1 fd K) (fun _=> ∀G frv o0 o1,bp GB G->CT G fr frv->OB G own0 bs0 o0->OB G own1 bs1 o1-> ∀fs:Fs,St C n (frv++Gs fd fs) (o1++(o0++GN fd fs)) G (K (HW fd fs) (HS C o0 G))):=⟨SR.run⟩
abbrev dwK (P:Program) (ops:Array Oper) (Q:Exit->Act->World->Prop) (K:(World->Prop)->Act->World->Prop) (π:List (Nat×Bool)):List Nat->(World->Prop)->Act->World->Prop:=fun ks S=>zp P ops (fP Q) K ks π S
def Za:List FD->List Nat->eo
 |f::fd,b::bl=>(f.d, .d (.v (.pointer (some ⟨b,0,none⟩))))::Za fd bl
 |_,_=>[]
def owB:List FD->List (List DV)->List Nat->List c9
 |f::fd,c::cl,b::bl=>⟨b,c,f.t,true⟩::owB fd cl bl
 |_,_,_=>[]
def Vr:List FD->List (List DV)->Prop
 |f::fd,c::cl=>IsLs (fun _=>none) c (aD f.z)/\Vr fd cl
 |[],[]=>True
 |_,_=>False
end
def aIY{α:Type}(idx:List Nat)(l:List α):List α:=idx.filterMap (l[·]?)
section
variable {P:Program} {GB:Gh} {C:aB} {n:Nat} {E:pn} {fr fr':eo} {own own':List c9} {bs bs' bs1:List dB} {ops:Array Oper} {Q:Exit->Act->World->Prop} {r:List Oper} {Φ:Act->World->Prop}
variable {dst:Option Nat} {t t' ty':TypeId} {pos:String} {af:Array Edge} {gd:Option (Nat×Bool)} {x y z:Operand} {e s by_:Nat}
def PB(GB:Gh)(P:Program)(f:FuncId)(mk:SV->List DV)(s:Nat)(ty:TypeId)(dsi:List DV)(mkr:SV->DV)(dso:List DV):Prop:=
 ∀G w vs B,bp GB G->di G ⟨w,s,ty,dsi,false⟩ B->IsLs G (mk w) vs->mz P f vs B G (fun v own' G'=> ∃w',Is G' (mkr w') v/\di G' ⟨w',s,ty,dso,false⟩ own')
def Z6(fr:eo):List Operand->Option (List DV)
 |[]=>some []
 |x::t=>match GM fr x,Z6 fr t with
  |some (.d d),some l=>some (d::l)
  |_,_=>none
def di.asB{G:Gh}{w:SV}{ty:TypeId}{ds:List DV}{lo:Bool}{B:List av}(h:di G ⟨w,s,ty,ds,lo⟩ B):di G ⟨w,s,ty,ds,false⟩ (Sx.asB B):=by
 obtain⟨vs,h1,h2,h3,h4⟩:=h;exact⟨vs,h1.asB,h2,h3,fun h=>by cases h⟩
def di.weak{G:Gh}{w:SV}{ty:TypeId}{ds:List DV}{lo:Bool}{B:List av}(h:di G ⟨w,s,ty,ds,lo⟩ B):di G ⟨w,s,ty,ds,false⟩ B:=by
 obtain⟨vs,h1,h2,h3,h4⟩:=h;exact⟨vs,h1,h2,h3,fun h=>by cases h⟩
inductive Iu (fr:eo):List ResultVar->List DV->Prop
 |nil:Iu fr [] []
 |tmp {t:Nat} {v:DV} {rs:List ResultVar} {vs:List DV} (h:vQ fr t=some (.d v)) (k:Iu fr rs vs):Iu fr (.tmp t::rs) (v::vs)
end
section
variable {P:Program} {GB:Gh} {C:aB} {n:Nat} {E:pn} {fr fr':eo} {own own':List c9} {bs bs' bs1:List dB} {ops:Array Oper} {Q:Exit->Act->World->Prop} {r:List Oper} {Φ:Act->World->Prop}
variable {dst:Option Nat} {t t' ty':TypeId} {pos:String} {af:Array Edge} {gd:Option (Nat×Bool)} {x y z:Operand} {e s by_:Nat}
def PX(GB:Gh)(P:Program)(f:FuncId)(ds:List DV)(ι:Type)(r:ι->DV):Prop:=
 ∀G vs,bp GB G->IsLs G ds vs->Fn P f vs G (fun v G'=> ∃x,Is G' (r x) v)
def PMX(GB:Gh)(P:Program)(f:FuncId)(ds:List DV)(b:Nat)(ty:TypeId)(cs:List DV)(ι:Type)(r:ι->DV)(cs':ι->List DV):Prop:=
 ∀G vs m lo,bp GB G->IsLs G ds vs->IsLs G cs m->jO P f vs [⟨b,m,ty,lo⟩] G (fun v css G'=> ∃x,Is G' (r x) v/\ ∃m',css=[m']/\IsLs G' (cs' x) m')
def PN(GB:Gh)(P:Program)(f:FuncId)(ds:List DV)(ty:TypeId)(ι:Type)(cs:ι->List DV):Prop:=
 ∀G vs,bp GB G->IsLs G ds vs->mz P f vs [] G (fun v own' G'=> ∃x b m,v= .pointer (some ⟨b,0,none⟩)/\own'=[⟨b,m,ty,true⟩]/\IsLs G' (cs x) m)
inductive Gi:List c9->Nat->List DV->TypeId->Bool->List c9->List c9->Prop
 |hd (b:Nat) (cs:List DV) (ty:TypeId) (lo:Bool) (t:List c9):Gi (⟨b,cs,ty,lo⟩::t) b cs ty lo [] t
 |tl (o:c9) (t:List c9) (b:Nat) (cs:List DV) (ty:TypeId) (lo:Bool) (L R:List c9) (h:Gi t b cs ty lo L R):Gi (o::t) b cs ty lo (o::L) R
end
section
variable {P:Program} {GB:Gh} {C:aB} {n:Nat} {fr:eo} {own:List c9} {bs:List dB}
def PMR(GB:Gh)(P:Program)(f:FuncId)(ds:List DV)(b:Nat)(ty:TypeId)(cs:List DV)(s:Nat)(ty2:TypeId)(ι:Type)(rows:ι->List DV)(cs':ι->List DV):Prop:=
 ∀G vs m lo,bp GB G->IsLs G ds vs->IsLs G cs m->mz P f vs [⟨b,m,ty,lo⟩] G (fun v own' G'=> ∃x w m' B,v= .slice w.a w.n w.c/\own'=⟨b,m',ty,false⟩::B/\IsLs G' (cs' x) m'/\di G' ⟨w,s,ty2,rows x,true⟩ B/\ ∀o∈B,b≠o.b)
variable {dst:Option Nat} {t t' ty':TypeId} {pos:String} {af:Array Edge} {gd:Option (Nat×Bool)} {x y z:Operand}
def at4{fr:Fr}{own:List av}{G:Gh}{fn:Func}{K:Value->List av->Gh->Prop}{vs:List Value}(hr:kt P fr own fn.results.toList vs)(own2 own3:List av)(hp:own.Perm own2)(hs:own3.Sublist own2)(hk:own3.Pairwise (fun x y=>x.b≠y.b)->K (ip vs) own3 G):St C n fr own G (ge C P fn (tY C K) .ret):=
 fun a w rl hmk=>⟨rl.df.trans hmk,_,u9 hr rl.fr rl.h,_,own3,G,J,(rl.h.perm hp).drop hs,hk ((rl.h.perm hp).drop hs).nd⟩
variable {e s by_:Nat}
def avR{G:Gh}{l:List DV}{w:SV}{es:List Value}{s' nhi mx':Nat}(hsl:eH G s' w es)(hl:IsLs G l es)(ho:cP s l)(h2:nhi<=l.length)(hm1:nhi<=mx')(hm2:mx'<=w.c):Is G (.sl (l.take nhi)) (.slice w.a nhi mx'):=by
 have hn:=hsl.len;have hcap:=hsl.cap;have hll:=hl.len;have e9: ∀s,nq w.a w.n w.c 0 nhi mx' s= .slice w.a nhi mx':=by
  intro s;unfold nq
  cases w.a with
  |none=>simp
  |some ad=>simp[Addr.add]
 rcases CE hsl hl ho with he|he
 ·subst he
  have:l=[]:=bU (by rw[<-hll];rfl);subst this;have e1:nhi=0:=by simp at h2;exact h2
  subst e1;refine iB.2 ⟨s,⟨_,0,mx'⟩,[],J,⟨J,bV _, .inl J⟩,by simpa using IsLs.nil⟩
 ·subst he
  have k:=hsl.sub 0 nhi mx' (bV _) (by omega) hm1 hm2;have k2:=iB.2 ⟨s',⟨_,_,_⟩,_,J,k,(hl.take nhi).drop 0⟩;rw[iX] at k2;have e:=e9 s';unfold nq at e;revert k2;simp only[] at*;intro k2
  first|exact e▸k2|(simp at e k2⊢;first|exact k2|(cases hw:w.a<;>simp_all [Addr.add]))
end
end Go.Sx
end
section
namespace Go.Sx
open Go Go.Proofs Tryz
section
variable {P:Program} {T:TT} {GB:Gh} {C:aB} {n:Nat} {lk:LK} {bk:BM} {ρ:NE} {G:Gh} {ov:List av} {a:Act} {w:World}
variable {dst:Option Nat} {t t' ty':TypeId} {pos:String} {af:Array Edge} {gd:Option (Nat×Bool)} {x y:Operand} {e s by_:Nat}
def aF2[hT:cv P t e s by_]{k:IntKind}{l:List DV}{d:DV}{i:Int}(hx:evD lk x=some (.sl l))(hy:aF lk y=some (.d (.v (.int k i))))(h0:0<=i)(he:l[i.toNat]? =some d)(hd:(d.okc&&Nat.beq d.cells.length s)=true):
  bD P GB C n lk bk ⟨dst, .indexAddr t x y,ty',pos,af,gd⟩ (.ep d.cells) [] []:= .yd fun ρ G ov a w r=>by
 simp only[bL] at hd;obtain⟨hd,hs⟩:=hd;obtain⟨u,h1,h2⟩:=r.evD hx;obtain⟨q,g1,g2⟩:=r.ev hy;rw[c8] at g2;subst g2;obtain⟨s',z,es,rfl,hsl,hl⟩:=iB.1 h2;obtain⟨v,h3,h4⟩:=hl.get he;obtain⟨h5,h6⟩:=aS.1 h3;have hc:=(h4.cells hd).1.len;replace hs:=aR hs;rcases hsl.mem with h|⟨b,off,cs,ha,hg,hcs⟩
 ·rw[h] at h5;simp at h5
 ·have h7:=hcs i.toNat h5
  rw[h6] at h7;have h8:=D8 h7;have:s'=s:=by omega
  subst this;rw[ha] at h1;have hn:=hsl.len;refine⟨.pointer (some ⟨b,off+i.toNat*s',none⟩),⟨b,_,cs,aD v,J,hg,?_,(h4.cells hd).1⟩,BB h1 g1 h0 (by omega)⟩;rw[<-hc,h8];exact h7
def BC(ag:Option Nat)(cs:List DV)(j:Nat):Option DV:=match ag with
 |some k=>match takeD cs j k with
  |some l=>some (.ag l)
  |none=>none
 |none=>cs[j]?
def V8{i:TI}{ag:Option Nat}{nm sz k j:Nat}{ty:TypeId}{ds:List DV}{lo:Bool}{d c:DV}(hi:eO P t=some i)(ha:i.ag=some ag)(hx:aF lk x=some (.be nm sz k j))(hb:bk nm=some (.b ty sz ds lo))(he:ds[k]? =some d)(hd:d.okc=true)(hl:BC ag d.cells j=some c):
  bD P GB C n lk bk ⟨dst, .load t x,ty',pos,af,gd⟩ (.d c) [] []:= .x1 hx fun ρ G ov a w y _ r h1 h2=>by
 obtain⟨b,hwb,rfl⟩:=h2;obtain⟨B,hB,hmem⟩:=r.row (y:= .nilFunc) hb;obtain⟨b',m,rest,lo',l0,e1,rfl,h3,h4⟩:=hB.elem he hd;simp only[] at e1 h3;rw[hwb] at e1;cases e1;have oat:io ov b (m++rest) ty lo':=⟨hmem _ aQ⟩
 cases ag with
 |some k'=>
  have:=wZ hi ha;simp only[BC] at hl;split at hl<;>cases hl;rename_i hl;obtain⟨l',h5,h6⟩:=h4.takeD hl;exact⟨.agg ⟨l'⟩,d6.2 ⟨l',J,h6⟩,Bh h1 (M6 h3 h5)⟩
 |none=>
  have:=yb hi ha;simp only[BC] at hl;obtain⟨l',h5,h6⟩:=h4.get hl;have hj:j<sz:=by
   have:=D8 h3;have h7:=(aS.1 h5).1;omega
  exact⟨l',h6,mr h1 (by rw[Qt h3 hj];exact h5)⟩
def di.toBk{nm:Nat}{s:Nat}{ty:TypeId}{ds:List DV}{lo:Bool}{B:List av}{x:SV}(h:di G ⟨x,s,ty,ds,lo⟩ B)(e:ρ nm=x):lh ρ G nm (.b ty s ds lo) B:=by
 obtain⟨vs,h1,h2,h3,h4⟩:=h;exact⟨vs,by rw[e];exact h1,h2,h3,h4⟩
def bw.newRow(r:bw GB C n lk bk ρ G ov a w){d:Nat}{z:SV}{ty:TypeId}{s:Nat}{ds:List DV}{B ov':List av}{K:Act->World->Prop}{a':Act}{w':World}(hf:kr [d] (some d) lk bk)(hB:di G ⟨z,s,ty,ds,true⟩ B)(hos: ∀o∈B,o∈ov')
  (hov: ∀m B',m≠d->bk m=some B'-> ∀o∈ov,(ρ m).a=some ⟨o.b,0,none⟩->o∈ov'/\z.a≠some ⟨o.b,0,none⟩)
  (hk:SX GB C n (ek lk (some d) (.rw d)) (Sx.upB bk [(d,some (.b ty s ds true))]) K)(rl:gg C n (Sx.put (cH a) (some d) (.slice z.a z.n z.c)) ov' G a' w'):K a' w':=
 hk.run _ _ _ a' w' (r.new' (x:=z) (f:= .rw d) (y:= .slice z.a z.n z.c) hf (bp.refl _) rl.h (hB.toBk (by simp)) hos hov (by show _=_;simp) (jI rl))
def n7(i:TI):Option DV:=match i.z with
 |some z=>match ji z with
  |some zs=>bif i.za then(bif zs.all DV.flat then some (.ag zs) else none) else(match zs with
   |[d]=>bif d.flat then some d else none
   |_=>none)
  |none=>none
 |none=>none
def YI{d:DV}(h:d.flat=true):d.cells=[d]/\d.okc=true:=by
 cases d<;>first|exact⟨J,h⟩|cases h
theorem ya{i:TI}{d:DV}(hi:eO P e=some i)(h:n7 i=some d): ∃v,iu P e v/\(∀G,Is G d v)/\d.okc=true:=by
 obtain⟨j,hj,hij⟩:=qn hi;unfold n7 at h;split at h<;>try (cases h;done)
 rename_i z hz;split at h<;>try (cases h;done)
 rename_i zs hzs;obtain⟨v,h1,h2⟩:=Bg hi hz;have h3: ∀G,IsLs G zs (aD v):=fun G=>rO (h2 (fun _=>⟨none,0,0⟩) G) hzs;have hzv:j.zero=some v:=by have:=h1.inf;rw[hj] at this;simpa using this
 have hza:i.za=Ig (some v):=by rw[hij,<-hzv]
 cases hb:i.za with
 |true=>
  rw[hb] at h hza
  cases hc:zs.all DV.flat with
  |false=>rw[hc] at h;cases h
  |true=>
   rw[hc] at h;cases h
   cases v<;>first|(cases hza;done)|skip
   rename_i cs;exact⟨_,h1,fun G=>d6.2 ⟨cs.toList,by simp,h3 G⟩,hc⟩
 |false=>
  rw[hb,cond_false] at h;rw[hb] at hza;split at h<;>try (cases h;done)
  rename_i u
  cases hc:u.flat with
  |false=>rw[hc] at h;cases h
  |true=>
   rw[hc] at h;cases h;have hv:aD v=[v]:=by cases v<;>first|rfl|(cases hza;done)
   refine⟨v,h1,fun G=>?_,(YI hc).2⟩;have:=h3 G;rw[hv] at this;exact this.uncons.1
def aBD{d:Nat}{i:TI}{z:DV}{k k':IntKind}{l:Int}{ds:List DV}[hT:cv P t e s by_](hi:eO P e=some i)(hz:n7 i=some z)(hs:Nat.beq z.cells.length s=true)(hx:aF lk x=some (.d (.v (.int k l))))(hy:aF lk y=some (.d (.v (.int k' l))))(h0:0<=l)(hb:by_*l<=140737488355328)(hl:l<=1152921504606846976)(hds:List.replicate l.toNat z=ds):
  bD P GB C n lk bk ⟨some d, .makeSlice t x y,ty',pos,af,gd⟩ (.rw d) [(d,some (.b e s ds true))] [d]:=by
 intro hd tl tb K s1 s2 hf hk;refine⟨fun ρ G ov a w r Q=>?_⟩;subst hds;obtain⟨v,hz1,hz2,hz3⟩:=ya hi hz;obtain⟨q1,p1,p2⟩:=(r.mono s1 s2).ev hx;obtain⟨q2,p3,p4⟩:=(r.mono s1 s2).ev hy;rw[c8] at p2 p4;subst p2 p4;have c1:=((hz2 G).cells hz3).1.len;replace hs:=aR hs;have e1: ∀u∈List.replicate l.toNat v,(aD u).length=s:=fun u hu=>by rw[mZ hu,c1,hs]
 refine t6 p1 p3 h0 hb hl (by rw[c1,hs]) hd (fun b a' w' rl=>?_) a w Q ⟨r.h,r.sz,c6 a,r.df⟩;have hnd:=(bR.1 rl.h.nd).1;refine r.newRow (z:=⟨some ⟨b,0,none⟩,l.toNat,l.toNat⟩) (B:=[⟨b,dm v l.toNat,e,true⟩]) hf ⟨List.replicate l.toNat v, .inr ⟨b,[],true,by simp,by rw[ajJ,mS],eB _ e1,by rw[eB _ e1];simp,by simp⟩,Qg (hz2 G) _,e1,fun _ o ho=>by rw[aU.1 ho]⟩
  (fun o ho=>by rw[aU.1 ho];exact aQ) (fun m B' _ _ o ho _=>⟨aJ _ ho,fun e'=>?_⟩) hk rl
 cases e';exact hnd o ho J
def wx(lk:LK):Nat->List (Nat×Operand)->Option (List DV)
 |_,[]=>some []
 |j,(i,x)::r=>match evD lk x,wx lk (j+1) r with
  |some d,some l=>bif Nat.beq i j then some (d::l) else none
  |_,_=>none
def OY(r:bw GB C n lk bk ρ G ov a w){zv:Value}(hz:(aD zv).length=s): ∀(ps:List (Nat×Operand)) (j:Nat) (pre:List Value) (ds:List DV),wx lk j ps=some ds->pre.length=j*s->(∀d∈ds,d.okc=true/\d.cells.length=s)->
  ∃vs,vE (cH a) s (pre++dm zv ps.length) ps=some (pre++aA vs)/\IsLs G ds vs/\(∀v∈vs,(aD v).length=s)/\vs.length=ps.length
 |[],j,pre,ds,e,hp,hd=>by
  simp only[wx] at e;cases e;exact⟨[],by simp[vE,dm,aA], .nil,by simp,J⟩
 |(i,x)::ps,j,pre,ds,e,hp,hd=>by
  simp only[wx] at e;split at e
  ·rename_i d l hx hl
   cases hb:Nat.beq i j with
   |false=>rw[hb] at e;cases e
   |true=>
    rw[hb] at e
    cases e
    have:=aR hb;subst this;obtain⟨y,hy,hy'⟩:=r.evD hx;obtain⟨k1,k2⟩:=hd d aQ;have c1:=(hy'.cells k1).1.len;have hov:cC (pre++dm zv (ps.length+1)) (i*s) (aD y)=(pre++aD y)++dm zv ps.length:=by
     rw[asu,<-hp,Qr _ _ _ _ (by rw[c1,k2,hz]),gW]
    obtain⟨vs,h1,h2,h3,h4⟩:=OY r hz ps (i+1) (pre++aD y) l hl (by rw[aV,c1,k2,hp,iR]) (fun d hd'=>hd d (aJ _ hd'));refine⟨y::vs,?_, .cons hy' h2,fun v hv=>?_,by simp[h4]⟩
    ·simp only[vE,hy,bX]
     rw[if_pos ⟨by rw[c1,k2],by rw[aV,pD,hz,hp,iR];omega⟩,hov,h1];simp[aA]
    ·rcases aW.1 hv with rfl|hv
     ·rw[c1,k2]
     ·exact h3 v hv
  ·cases e
def Um{d:Nat}{i:TI}{z:DV}{len:Nat}{parts:Array (Nat×Operand)}{ds:List DV}[hT:cv P t e s by_](hi:eO P e=some i)(hz:n7 i=some z)(hs:Nat.beq z.cells.length s=true)(hb:wx lk 0 parts.toList=some ds)(hok:C4 s ds=true)(hlen:Nat.beq parts.toList.length len=true)(hsm:Nat.ble (len*s) 1000=true)(hs0:Nat.blt 0 (len*s)=true):
  bD P GB C n lk bk ⟨some d, .buildSlice t len parts,ty',pos,af,gd⟩ (.rw d) [(d,some (.b e s ds true))] [d]:=by
 intro hd tl tb K s1 s2 hf hk;refine⟨fun ρ G ov a w r Q=>?_⟩;obtain⟨v,hz1,hz2,hz3⟩:=ya hi hz;have c1:=((hz2 G).cells hz3).1.len;replace hs:=aR hs;have hlen':=aR hlen;obtain⟨vs,h1,h2,h3,h4⟩:=OY (r.mono s1 s2) (s:=s) (zv:=v) (by rw[c1,hs]) parts.toList 0 [] ds hb (by simp) (Ii hok);rw[kS,kS] at h1;refine Ik (z:=v) (out:=aA vs) (by rw[c1,hs]) (by rw[<-hlen'];exact h1) hsm hs0 hd (fun b a' w' rl=>?_) a w Q ⟨r.h,r.sz,c6 a,r.df⟩;have hnd:=(bR.1 rl.h.nd).1;have hvl:vs.length=len:=by rw[h4,hlen']
 refine r.newRow (z:=⟨some ⟨b,0,none⟩,len,len⟩) (B:=[⟨b,aA vs,e,true⟩]) hf ⟨vs, .inr ⟨b,[],true,by rw[hvl],by rw[mS],eB _ h3,by rw[eB _ h3,hvl];simp,by rw[hvl];exact aN _⟩,h2,h3,fun _ o ho=>by rw[aU.1 ho]⟩
  (fun o ho=>by rw[aU.1 ho];exact aQ) (fun m B' _ _ o ho _=>⟨aJ _ ho,fun e'=>?_⟩) hk rl
 cases e';exact hnd o ho J
def aBp{d:Nat}[hT:cv P t e s by_]:bD P GB C n lk bk ⟨some d, .buildSlice t 0 #[],ty',pos,af,gd⟩ (.rw d) [(d,some (.b e s [] true))] [d]:=by
 intro hd tl tb K s1 s2 hf hk;refine⟨fun ρ G ov a w r Q=>?_⟩;refine RD hd (fun b a' w' rl=>?_) a w Q ⟨r.h,r.sz,c6 a,r.df⟩;have hnd:=(bR.1 rl.h.nd).1;refine r.newRow (z:=⟨some ⟨b,0,none⟩,0,0⟩) (B:=[⟨b,[],e,true⟩]) hf ⟨[], .inr ⟨b,[],true,J,by simp[aA],by simp[aA],by simp[aA],by simp⟩, .nil,by simp,fun _ o ho=>by rw[aU.1 ho]⟩
  (fun o ho=>by rw[aU.1 ho];exact aQ) (fun m B' _ _ o ho _=>⟨aJ _ ho,fun e'=>?_⟩) hk rl
 cases e';exact hnd o ho J
def bD.frz{o:Oper}{d:Nat}{B:Bk}{f:FX}{v:DV}(hd:o.dst=some d)(h:bD P GB C n lk bk o f [(d,some B)] [d])
  (hz: ∀lk bk ρ G ov a w,bw GB C n lk bk ρ G ov a w->bk d=some B-> ∃G' ov',bp G G'/\bt C ov' G' w/\(∀o∈ov,(ρ d).a≠some ⟨o.b,0,none⟩->o∈ov')/\ ∀y,bE ρ G f y->Is G' v y):bD P GB C n lk bk o (.d v) [(d,none)] [d]:=by
 intro hd' tl tb K s1 s2 hf hk;refine h hd' tl tb K s1 s2 hf ?_;rw[hd] at hk⊢;refine⟨fun ρ G ov a w r=>?_⟩;have hbd:Sx.upB tb [(d,some B)] d=some B:=by simp[Sx.upB]
 obtain⟨G',ov',h1,h2,h3,h4⟩:=hz _ _ ρ G ov a w r hbd;refine hk.run ρ G' ov' a w ⟨r.gb.trans h1,h2,r.sz,r.df,fun k g e=>?_,fun m B' e=>?_,fun m m' B1 B2 e e'=>?_,r.fxd⟩
 ·by_cases hk:k=d
  ·subst hk
   simp only[ek,if_true] at e;cases e;obtain⟨y,g1,g2⟩:=r.fx k f (by simp[ek]);exact⟨y,g1,h4 y g2⟩
  ·simp only[ek,hk,if_false] at e
   obtain⟨y,g1,g2⟩:=r.fx k g (by simp[ek,hk,e]);exact⟨y,g1,g2.up h1⟩
 ·simp only[Sx.upB] at e
  split at e
  ·cases e
  ·rename_i hm
   have e':Sx.upB tb [(d,some B)] m=some B':=by simp[Sx.upB,hm,e]
   obtain⟨os,g1,g2⟩:=r.bx m B' e';exact⟨os,g1.up h1,fun o ho=>h3 o (g2 o ho) fun hc=>r.dj m d B' B e' hbd hm _ (g1.blk ho) hc⟩
 ·simp only[Sx.upB] at e e'
  split at e
  ·cases e
  ·rename_i hm
   split at e'
   ·cases e'
   ·rename_i hm'
    exact r.dj m m' B1 B2 (by simp[Sx.upB,hm,e]) (by simp[Sx.upB,hm',e'])
def bD.frzRow{o:Oper}{d:Nat}{ty:TypeId}{s:Nat}{ds:List DV}(hd:o.dst=some d)(h:bD P GB C n lk bk o (.rw d) [(d,some (.b ty s ds true))] [d]):bD P GB C n lk bk o (.d (.sl ds)) [(d,none)] [d]:=
 h.frz hd fun _ _ _ _ _ _ _ r hb=>r.frzRow hb
def aAQ{d:Nat}{f:FX}{l:List DV}(e:aF lk x=some f)(hc:f.okc=true)(hn:Aa f d=true)(hl:ji f.cells=some l):bD P GB C n lk bk ⟨some d, .box t x,ty',pos,af,gd⟩ (.d (.pt l)) [(d,none)] [d]:=
 (Rf e hc hn).frz J fun _ _ _ _ _ _ _ r hb=>r.frzVar hb hl
def qp(lk:LK)(bk:BM)(s:Nat)(y:Operand):Option (List DV):=match aF lk y with
 |some (.rw nm)=>match bk nm with
  |some (.b _ s' ds _)=>bif Nat.beq s' s then some ds else none
  |_=>none
 |some f=>match jD f with
  |some (.sl l)=>some l
  |_=>none
 |none=>none
def CA{ds:List DV}(r:bw GB C n lk bk ρ G ov a w)(h:qp lk bk s y=some ds)(hk:cP s ds):
  ∃(z:SV) (vs:List Value),ax (cH a) y=some (.slice z.a z.n z.c)/\z.n=vs.length/\IsLs G ds vs/\(∀v∈vs,(aD v).length=s)/\(∀v∈aA vs,Sx.flat v=true)/\om P C ov G s z.n (.slice z.a z.n z.c) (aA vs):=by
 have hfl: ∀vs:List Value,IsLs G ds vs->(∀v∈vs,(aD v).length=s)/\ ∀v∈aA vs,Sx.flat v=true:=by
  intro vs hl;refine⟨fun v hv=>?_,fun v hv=>?_⟩
  ·obtain⟨d,hd,h3⟩:=hl.all v hv
   obtain⟨k1,k2⟩:=hk d hd;rw[(h3.cells k1).1.len,k2]
  ·simp only[aA,List.mem_flatten,bQ] at hv
   obtain⟨l,⟨u,hu,rfl⟩,hv⟩:=hv;obtain⟨d,hd,h3⟩:=hl.all u hu;exact(h3.cells (hk d hd).1).2 v hv
 unfold qp at h;split at h
 ·rename_i nm hy
  split at h<;>try (cases h;done)
  rename_i ty s' ds' lo hb
  cases hs:Nat.beq s' s with
  |false=>rw[hs] at h;cases h
  |true=>
   rw[hs] at h;cases h
   cases aR hs
   obtain⟨u,h1,h2⟩:=r.ev hy
   cases h2
   obtain⟨B,⟨vs,hB,hv,hs,_⟩,hmem⟩:=r.row (y:= .nilFunc) hb;obtain⟨f1,f2⟩:=hfl _ hv;refine⟨ρ nm,vs,h1,hB.len,hv,f1,f2,?_⟩;rcases hB with⟨e1,e2,e3⟩|⟨b,rest,lo',h3,h4,h5,h6,h7⟩
   ·simp only[] at e2
    subst e1;rw[e2];exact xe
   ·simp only[] at h3 h4 h5 h6 h7
    have oat:io ov b (aA vs++rest) ty lo':=⟨hmem _ (by rw[h4];exact aQ)⟩;rw[show(ρ nm).a=some ⟨b,0,none⟩ by rw[h3],show(ρ nm).n=vs.length by rw[h3]];refine AW oat ?_;rw[mj _ _ _ (by rw[aV];omega),iX,eY (by omega),aL (by omega)]
 ·rename_i f _ hy
  split at h<;>cases h;rename_i hd;obtain⟨u,h3,h4⟩:=r.ev hy;obtain⟨s',z,es,rfl,hsl,hl⟩:=iB.1 (mF h4 hd);obtain⟨f1,f2⟩:=hfl _ hl;refine⟨z,es,h3,hsl.len,hl,f1,f2,?_⟩;rcases CE hsl hl hk with he|he
  ·subst he
   rw[hsl.len];exact xe
  ·subst he;exact WI hsl
 ·cases h
def Ub{d nm:Nat}{i:TI}{z:DV}{ds ds2:List DV}[hT:cv P t e s by_][hN:lj P t'](hi:eO P e=some i)(hz:n7 i=some z)(hs:Nat.beq z.cells.length s=true)(hx:aF lk x=some (.rw nm))(hb:bk nm=some (.b e s ds true))(hy:qp lk bk s y=some ds2)(hk2:cP s ds2)
  (hby:Nat.blt 0 by_=true)(hbd:(ds.length+ds2.length)*by_<=140737488355328)(hnd:Nat.beq nm d=false){ds':List DV}(hds:ds++ds2=ds'):
  bD P GB C n lk bk ⟨some d, .call ⟨.builtin .append, #[x,y], #[t,t']⟩,ty',pos,af,gd⟩ (.rw d) [(nm,none),(d,some (.b e s ds' true))] [d]:=by
 intro hd tl tb K s1 s2 hf hk;refine⟨fun ρ G ov a w r Q=>?_⟩;subst hds;have r1:=r.mono s1 s2;obtain⟨v,hz1,hz2,hz3⟩:=ya hi hz;have cz:=((hz2 G).cells hz3).1.len;replace hs:=aR hs;rw[mU] at hby
 have hne:nm≠d:=fun e=>by subst e;simp at hnd
 obtain⟨u,hx',hx2⟩:=r1.ev hx
 cases hx2
 obtain⟨B,⟨vs,hB,hv,hvs,hlo⟩,hBo⟩:=r1.row (y:= .nilFunc) hb;simp only[] at hB hv hvs;obtain⟨w2,us,hy',h2,h3,h4,h5,h6⟩:=CA (P:=P) r1 hy hk2;have hus:(aA us).length=us.length*s:=eB us h4;have hbd':(vs.length+us.length)*by_<=140737488355328:=by rw[hv.len,h3.len];exact hbd
 have hall: ∀v∈vs++us,(aD v).length=s:=fun v hv=>by
  rcases bK.1 hv with hv|hv
  ·exact hvs v hv
  ·exact h4 v hv
 have rd:=r.dropB nm;have hf':kr [d] (some d) tl (Sx.upB tb [(nm,none)]):=fun m hm=>by
  obtain⟨g1,g2⟩:=hf m hm;refine⟨g1,fun k B' hk e=>g2 k B' hk ?_⟩;simp only[Sx.upB] at e;split at e
  ·cases e
  ·exact e
 have hbk: ∀m B',(Sx.upB tb [(nm,none)]) m=some B'->m≠nm/\tb m=some B':=fun m B' e=>by
  simp only[Sx.upB] at e;split at e
  ·cases e
  ·exact⟨by assumption,e⟩
 have hfin: ∀(b:Nat) (cap':Nat) (rest':List Value) (ov1:List av) a' w',vs.length+us.length<=cap'->rest'.length+(vs.length+us.length)*s=cap'*s->(∀o∈ov,(ρ nm).a≠some ⟨o.b,0,none⟩->o∈ov1)->
   gg C n (put (cH a) (some d) (.slice (some ⟨b,0,none⟩) (vs.length+us.length) cap')) (⟨b,aA (vs++us)++rest',e,true⟩::ov1) G a' w'->K a' w':=by
  intro b cap' rest' ov1 a' w' hc hr ho1 rl;have hnd':=(bR.1 rl.h.nd).1;refine rd.newRow (z:=⟨some ⟨b,0,none⟩,vs.length+us.length,cap'⟩) (B:=[⟨b,aA (vs++us)++rest',e,true⟩]) hf' ⟨vs++us, .inr ⟨b,rest',true,by simp,J,eB _ hall,?_,by simpa using hc⟩,hv.app h3,hall,fun _ o ho=>by rw[aU.1 ho]⟩
   (fun o ho=>by rw[aU.1 ho];exact aQ) (fun m B' hm e o ho hmo=>?_) hk rl
  ·rw[eB _ hall,aV]
   simp only[];omega
  ·obtain⟨h7,h8⟩:=hbk m B' e
   have ho2:=ho1 o ho fun hc=>r.dj m nm B' _ h8 (s2 _ _ hb) h7 _ hmo hc;exact⟨aJ _ ho2,fun e'=>by cases e';exact hnd' o ho2 J⟩
 rcases hB with⟨e1,e2,e3⟩|⟨b,rest,lo',k3,k4,k5,k6,k7⟩
 ·subst e1
  rw[e2] at hx';by_cases hne:us=[]
  ·subst hne
   have:ds2=[]:=bU (by rw[<-h3.len];rfl);subst this;rw[h2] at hy';refine Ro hx' hy' hd (fun a' w' rl=>?_) a w Q ⟨r.h,r.sz,c6 a,r.df⟩;refine rd.newRow (z:=⟨none,0,0⟩) (B:=[]) hf' ⟨[], .inl ⟨J,J,J⟩,by simpa using hv,by simp,fun _ o ho=>by cases ho⟩ (fun o ho=>by cases ho) (fun m B' hm e o ho hmo=>⟨ho,fun e'=>by cases e'⟩) hk rl
  ·have hup:0<us.length:=mM.2 hne
   rw[h2] at hy' h6;refine CU (z:=v) (xs:=[]) (ys:=aA us) hx' hy' xe h6 (by show(0:Nat)<0+us.length;omega) hby (by simpa using hbd') hd (fun b cap' hc a' w' rl=>?_) a w Q ⟨r.h,r.sz,c6 a,r.df⟩;exact hfin b cap' (dm v (cap'-us.length)) ov a' w' (by simpa using hc) (by rw[pD,cz,hs,<-cS];simp at hc⊢;congr 1;omega) (fun o ho _=>ho) (by simpa using rl)
 ·have hl:=hlo J
  subst k4;have hlo':lo'=true:=hl _ aQ;subst hlo';have ha:(ρ nm).a=some ⟨b,0,none⟩:=by rw[k3]
  have hn:(ρ nm).n=vs.length:=by rw[k3]
  rw[ha,hn] at hx';rw[h2] at hy' h6;obtain⟨ov1,o1,o2⟩:=j9.of_mem (hBo _ aQ);refine P8 (z:=v) (xs:=aA vs) (ys:=aA us) (rest:=rest) (own1:=ov1) hx' hy' o1 k5 k6 k7 h6 hus h5 hby hbd' (by rw[cz,hs]) hd (fun b' cap' rest' hc hr a' w' rl=>?_) a w Q ⟨r.h,r.sz,c6 a,r.df⟩;rw[<-qC] at rl;exact hfin b' cap' rest' ov1 a' w' hc hr (fun o ho hne=>o2 o ho fun e'=>hne (by rw[ha,e'])) rl
end
section
variable {P:Program} {T:TT} {GB:Gh} {C:aB} {n:Nat} {lk:LK} {bk:BM} {ρ:NE} {G:Gh} {ov:List av} {a:Act} {w:World}
variable {dst:Option Nat} {t t' ty':TypeId} {pos:String} {af:Array Edge} {gd:Option (Nat×Bool)} {x y:Operand} {e s by_:Nat}
def Gt{vs:List Value}{rest cs:List Value}{i sz j:Nat}{v':Value}(hil:i<vs.length)(hvs: ∀v∈vs,(aD v).length=sz)(hv':aD v'=cC (aD vs[i]) j cs)(hj:j+cs.length<=sz):cC (aA vs++rest) (i*sz+j) cs=aA (vs.set i v')++rest:=by
 have hm:(aD vs[i]).length=sz:=hvs _ (bM hil);have hl':(aD v').length=sz:=by rw[hv',BH,hm]
 rw[<-UI (rest:=rest) (u:=v') vs i hil hvs hl',hv'];have hlv:=eB vs hvs;have hle:i*sz+sz<=vs.length*sz:=by rw[<-iR];exact bW _ hil
 generalize hmm:aD vs[i]=m at*;have hX:aA vs++rest=(aA vs).take (i*sz)++(m++((aA vs).drop (i*sz+sz)++rest)):=by
  have t1:=KB (rest:=rest) hvs hil;rw[hmm] at t1;obtain⟨_,t2⟩:=AM t1;have t3:m=((aA vs).drop (i*sz)).take sz:=by
   have:m=((aA vs++rest).drop (i*sz)).take sz:=t2;rw[this,jY (by omega),eY (by rw[gN];omega)]
  rw[t3]
  conv=>lhs;rw[<-jN (i*sz) (aA vs),<-jN sz ((aA vs).drop (i*sz)),tK]
  simp[gW]
 have hP:((aA vs).take (i*sz)).length=i*sz:=by rw[cW];omega
 generalize (aA vs).take (i*sz)=A at hX hP;generalize (aA vs).drop (i*sz+sz)++rest=Z at hX;rw[hX,<-hP,Qr A m Z (cC m j cs) (by rw[BH])];rw[py _ m j (by omega),py _ _ _ (by simp only[aV];omega)];rw[List.take_append,aL (by omega),Nat.add_sub_cancel_left,eY (by omega)];rw[nK,fL (by omega),kS,show A.length+j+cs.length-A.length=j+cs.length by omega,jY (by omega)];simp[gW]
def FB(ag:Option Nat)(d:DV)(j:Nat)(u:DV):Option DV:=match d with
 | .ag l=>match ag with
  |some k=>bif u.okc&&(Nat.beq u.cells.length k&&Nat.ble (j+k) l.length) then some (.ag (A3 l j u.cells)) else none
  |none=>bif u.flat&&Nat.blt j l.length then some (.ag (l.set j u)) else none
 |d=>match ag with
  |some _=>none
  |none=>bif d.flat&&(u.flat&&Nat.beq j 0) then some u else none
def bw.wroteRow{nm b:Nat}{ty:TypeId}{sz:Nat}{ds ds':List DV}{lo lo':Bool}{m':List Value}{own':List av}(r:bw GB C n lk bk ρ G ov a w)(hb:bk nm=some (.b ty sz ds lo))(ha:(ρ nm).a=some ⟨b,0,none⟩)(hB:di G ⟨ρ nm,sz,ty,ds',lo⟩ [⟨b,m',ty,lo'⟩])
  (h1:⟨b,m',ty,lo'⟩∈own')(h2: ∀o∈ov,o.b≠b->o∈own'){K:Act->World->Prop}(hk:SX GB C n (ek lk dst .un) (Sx.upB bk [(nm,some (.b ty sz ds' lo))]) K){a':Act}{w':World}(rl:gg C n (Sx.put (cH a) dst undef) own' G a' w'):K a' w':=by
 have r2:=r.upB (G':=G) (ov':=own') (w':=w') (B':= .b ty sz ds' lo) (bp.refl _) rl.h (hB.toBk J) (fun o ho=>by rw[aU.1 ho];exact h1) (fun o ho hne=>h2 o ho fun e=>hne (by rw[ha,e])) ⟨_,hb⟩;exact hk.run _ _ _ a' w' (r2.put J (jI rl))
def Og(cs:List Value)(o:Nat)(v:Value):cC cs o [v]=cs.set o v:=rfl
def aEn{i:TI}{ag:Option Nat}{nm sz k j:Nat}{ty:TypeId}{ds ds':List DV}{lo:Bool}{d d' u:DV}(hi:eO P t=some i)(ha:i.ag=some ag)(hx:aF lk x=some (.be nm sz k j))(hb:bk nm=some (.b ty sz ds lo))(hy:evD lk y=some u)(he:ds[k]? =some d)(hl:FB ag d j u=some d')(hds:ds.set k d'=ds'):
  bD P GB C n lk bk ⟨dst, .store t x y,ty',pos,af,gd⟩ .un [(nm,some (.b ty sz ds' lo))] []:=by
 intro hd tl tb K s1 s2 hf hk;refine⟨fun ρ G ov a w r Q=>?_⟩;subst hds;have r1:=r.mono s1 s2;obtain⟨y',h1,h2⟩:=r1.evD hy;obtain⟨x',h3,b,hwb,rfl⟩:=r1.ev hx;obtain⟨B,hB,hBo⟩:=r1.row (y:= .nilFunc) hb;obtain⟨b',vs,rest,lo',e1,rfl,hv,hvs,hil,hup⟩:=hB.upd he;rw[hwb] at e1;cases e1;obtain⟨v,g1,g2⟩:=hv.get he;obtain⟨g3,g4⟩:=aS.1 g1;have hlv:=eB vs hvs;have hle:k*sz+sz<=vs.length*sz:=by rw[<-iR];exact bW _ hil
 have hml:(aD v).length=sz:=hvs _ (aT g1)
 cases ag with
 |some q=>
  have:=wZ hi ha;unfold FB at hl;split at hl
  ·rename_i l
   simp only at hl
   cases hc:(u.okc&&(Nat.beq u.cells.length q&&Nat.ble (j+q) l.length)) with
   |false=>rw[hc] at hl;cases hl
   |true=>
    rw[hc] at hl;cases hl;simp only[bL,Nat.ble_eq] at hc;obtain⟨c1,c2,c3⟩:=hc;replace c2:=aR c2;obtain⟨c4,c5⟩:=h2.cells c1;obtain⟨m,rfl,hm⟩:=d6.1 g2;have hcl:(aD y').length=q:=by rw[c4.len,c2]
    have hmd:=hm.len;have hsz:m.length=sz:=hml;have key:=hup (.agg ⟨cC m j (aD y')⟩) (.ag (A3 l j u.cells)) (d6.2 ⟨_,J,hm.ov c4⟩) (by show(cC m j (aD y')).length=sz;rw[BH,hsz]);have hov:=Gt (rest:=rest) (v':= .agg ⟨cC m j (aD y')⟩) (cs:=aD y') (j:=j) hil hvs (by rw[g4];rfl) (by omega);obtain⟨own',u1,u2,u3⟩:=fE.of_mem (cs':=cC (aA vs++rest) (k*sz+j) (aD y')) (hBo _ aQ);refine CQ h3 h1 u1 hcl (by rw[aV];omega) (dK.2 c5) hd (fun a' w' rl=>?_) a w Q ⟨r.h,r.sz,c6 a,r.df⟩;rw[hov] at u2;exact r.wroteRow (s2 _ _ hb) hwb key u2 u3 hk rl
  ·simp at hl
 |none=>
  have:=yb hi ha;unfold FB at hl;split at hl
  ·rename_i l
   simp only at hl
   cases hc:(u.flat&&Nat.blt j l.length) with
   |false=>rw[hc] at hl;cases hl
   |true=>
    rw[hc] at hl;cases hl;simp only[bL,mU] at hc;obtain⟨c1,c2⟩:=hc;have hfl:=h2.flat c1;have hcl:=Cs hfl;obtain⟨m,rfl,hm⟩:=d6.1 g2;have hmd:=hm.len;have hsz:m.length=sz:=hml;have key:=hup (.agg ⟨m.set j y'⟩) (.ag (l.set j u)) (d6.2 ⟨_,J,hm.set j h2⟩) (by show(m.set j y').length=sz;rw[aM,hsz]);have hov:=Gt (rest:=rest) (v':= .agg ⟨m.set j y'⟩) (cs:=[y']) (j:=j) hil hvs (by rw[g4];rfl) (by simp;omega);rw[Og] at hov;obtain⟨own',u1,u2,u3⟩:=fE.of_mem (cs':=(aA vs++rest).set (k*sz+j) y') (hBo _ aQ);refine wQ h3 h1 u1 (by rw[aV];omega) hfl hd (fun a' w' rl=>?_) a w Q ⟨r.h,r.sz,c6 a,r.df⟩;rw[hov] at u2;exact r.wroteRow (s2 _ _ hb) hwb key u2 u3 hk rl
  ·rename_i hna
   simp only at hl
   cases hc:(d.flat&&(u.flat&&Nat.beq j 0)) with
   |false=>rw[hc] at hl;cases hl
   |true=>
    rw[hc] at hl;cases hl;simp only[bL] at hc;obtain⟨c0,c1,c2⟩:=hc
    cases aR c2
    have hfl:=h2.flat c1;have hcl:=Cs hfl;have hvl:=Cs (g2.flat c0);have h1z:1=sz:=by rw[<-hml,hvl];rfl
    have key:=hup y' d' h2 (by rw[hcl,<-h1z];rfl);have hov:=Gt (rest:=rest) (v':=y') (cs:=[y']) (j:=0) hil hvs (by rw[g4,hvl,hcl];rfl) (by simp;omega);rw[Og] at hov;obtain⟨own',u1,u2,u3⟩:=fE.of_mem (cs':=(aA vs++rest).set (k*sz+0) y') (hBo _ aQ);refine wQ h3 h1 u1 (by rw[aV];omega) hfl hd (fun a' w' rl=>?_) a w Q ⟨r.h,r.sz,c6 a,r.df⟩;rw[hov] at u2;exact r.wroteRow (s2 _ _ hb) hwb key u2 u3 hk rl
def mD(lk:LK)(dflt:Nat):Option Operand->Option Int
 |none=>some (dflt:Nat)
 |some o=>match aF lk o with
  |some (.d (.v (.int .i64 i)))=>some i
  |_=>none
def aEF{l:List DV}{lo hi:Option Operand}{nlo nhi:Nat}[hT:cv P t e s by_](hx:evD lk x=some (.sl l))(ho:cP s l)(hlo:mD lk 0 lo=some (nlo:Int))(hhi:mD lk l.length hi=some (nhi:Int))(h1:nlo<=nhi)(h2:nhi<=l.length):
  bD P GB C n lk bk ⟨dst, .slice t x lo hi none,ty',pos,af,gd⟩ (.d (.sl ((l.take nhi).drop nlo))) [] []:= .yd fun ρ G ov a w r=>by
 obtain⟨u,h3,h4⟩:=r.evD hx;obtain⟨s',z,es,rfl,hsl,hl⟩:=iB.1 h4;have hn:=hsl.len;have hcap:=hsl.cap;have hll:=hl.len;have key: ∀mx',nhi<=mx'->mx'<=z.c->Is G (.sl ((l.take nhi).drop nlo)) (nq z.a z.n z.c nlo nhi mx' s):=by
  intro mx' hm1 hm2;rcases CE hsl hl ho with he|he
  ·subst he
   have:l=[]:=bU (by rw[<-hll];rfl);subst this;have e1:nhi=0:=by simp at h2;exact h2
   have e2:nlo=0:=by omega
   subst e1 e2;refine iB.2 ⟨s,⟨_,0,mx'⟩,[],J,⟨J,bV _, .inl J⟩,by simpa using IsLs.nil⟩
  ·subst he
   refine iB.2 ⟨s',⟨_,_,_⟩,_,J,hsl.sub nlo nhi mx' h1 (by omega) hm1 hm2,(hl.take nhi).drop nlo⟩
 have bnd: ∀{o:Operand} {d:Nat} {i:Int},mD lk d (some o)=some i->ax (cH a) o=some (.int .i64 i):=fun{o d i} h=>by
  simp only[mD] at h;split at h<;>cases h;rename_i he;obtain⟨q,g1,g2⟩:=r.ev he;rw[c8] at g2;subst g2;exact g1
 match lo,hi,hlo,hhi with
 |none,none,hlo,hhi=>
  simp only[mD,Option.some.injEq] at hlo hhi;have e1:nlo=0:=by omega
  have e2:nhi=l.length:=by omega
  subst e1 e2;refine⟨_,key z.c (by omega) (aN _),?_⟩;intro a w0 hf hh;simp only[execOp,bc hf h3,qL];have h9:=Bz (P:=P) (t:=t) (ad:=z.a) (len:=z.n) (cap:=z.c) w0 (lo:=none) (hi:=none) (mx:=none) (l:=0) (h:=l.length) (m:=z.c) (fun w0=>by
   simp[Instr.sliceBounds,Result.andThen,run_pure];omega)
  exact cO h9
 |none,some o2,hlo,hhi=>
  simp only[mD,Option.some.injEq] at hlo;have e1:nlo=0:=by omega
  subst e1;refine⟨_,key z.c (by omega) (aN _),?_⟩;have h9:=z6 (P:=P) (C:=C) (own:=ov) (G:=G) (t:=t) (dst:=dst) (ty':=ty') (pos:=pos) (af:=af) (gd:=gd) h3 (bnd hhi) (by omega) (by omega);have e9:nq z.a z.n z.c 0 nhi z.c s= .slice z.a nhi z.c:=by
   unfold nq
   cases z.a with
   |none=>simp
   |some ad=>simp[Addr.add]
  rw[e9];simpa using h9
 |some o1,none,hlo,hhi=>
  simp only[mD,Option.some.injEq] at hhi;have e2:nhi=l.length:=by omega
  subst e2;refine⟨_,key z.c (by omega) (aN _),?_⟩;have h9:=Ew (P:=P) (C:=C) (own:=ov) (G:=G) (t:=t) (dst:=dst) (ty':=ty') (pos:=pos) (af:=af) (gd:=gd) h3 (bnd hlo) (by omega) (by omega);have e9:z.n=l.length:=by omega
  rw[bJ,e9] at h9;rw[e9];exact h9
 |some o1,some o2,hlo,hhi=>
  refine⟨_,key z.c (by omega) (aN _),?_⟩;have h9:=Yk (P:=P) (C:=C) (own:=ov) (G:=G) (t:=t) (dst:=dst) (ty':=ty') (pos:=pos) (af:=af) (gd:=gd) h3 (bnd hlo) (bnd hhi) (by omega) (by omega) (by omega);simpa using h9
def ZF{l:List DV}{hi mx:Operand}{nhi:Nat}[hT:cv P t e s by_](hx:evD lk x=some (.sl l))(ho:cP s l)(hhi:mD lk 0 (some hi)=some (nhi:Int))(hmx:mD lk 0 (some mx)=some (nhi:Int))(h2:nhi<=l.length):
  bD P GB C n lk bk ⟨dst, .slice t x none (some hi) (some mx),ty',pos,af,gd⟩ (.ct (l.take nhi)) [] []:= .yd fun ρ G ov a w r=>by
 obtain⟨u,h3,h4⟩:=r.evD hx;obtain⟨s',z,es,rfl,hsl,hl⟩:=iB.1 h4;have hn:=hsl.len;have hcap:=hsl.cap;have hll:=hl.len;have bnd: ∀{o:Operand} {d:Nat} {i:Int},mD lk d (some o)=some i->ax (cH a) o=some (.int .i64 i):=fun{o d i} h=>by
  simp only[mD] at h;split at h<;>cases h;rename_i he;obtain⟨q,g1,g2⟩:=r.ev he;rw[c8] at g2;subst g2;exact g1
 refine⟨.slice z.a nhi nhi,⟨⟨_,_,J⟩,avR hsl hl ho h2 (aN _) (by omega)⟩,?_⟩;have h9:=U8 (P:=P) (C:=C) (own:=ov) (G:=G) (t:=t) (dst:=dst) (ty':=ty') (pos:=pos) (af:=af) (gd:=gd) h3 (bnd hhi) (bnd hmx) (by omega) (Int.le_refl _) (by omega);simpa using h9
def LT{d:Nat}{i:TI}{z:DV}{ds ds2:List DV}[hT:cv P t e s by_][hN:lj P t'](hi:eO P e=some i)(hz:n7 i=some z)(hs:Nat.beq z.cells.length s=true)(hx:aF lk x=some (.ct ds)\/(aF lk x=some .nl/\ds=[]))(ox:cP s ds)(hy:qp lk bk s y=some ds2)(hk2:cP s ds2)(hne:0<ds2.length)
  (hby:Nat.blt 0 by_=true)(hbd:(ds.length+ds2.length)*by_<=140737488355328){ds':List DV}(hds:ds++ds2=ds'):
  bD P GB C n lk bk ⟨some d, .call ⟨.builtin .append, #[x,y], #[t,t']⟩,ty',pos,af,gd⟩ (.rw d) [(d,some (.b e s ds' true))] [d]:=by
 intro hd tl tb K s1 s2 hf hk;refine⟨fun ρ G ov a w r Q=>?_⟩;subst hds;have r1:=r.mono s1 s2;obtain⟨v,hz1,hz2,hz3⟩:=ya hi hz;have cz:=((hz2 G).cells hz3).1.len;replace hs:=aR hs;rw[mU] at hby
 obtain⟨w2,us,h1,h2,h3,h4,h5,h6⟩:=CA (P:=P) r1 hy hk2;have hxs:qp lk bk s x=some ds:=by
  unfold qp;rcases hx with hx|⟨hx,rfl⟩<;>rw[hx]<;>rfl
 obtain⟨w1,vs,g1,g2,g3,g4,g5,g6⟩:=CA (P:=P) r1 hxs ox;have hc1:w1.c=w1.n:=by
  rcases hx with hx|⟨hx,rfl⟩
  ·obtain⟨y1,k1,⟨a1,n1,rfl⟩,_⟩:=r1.ev hx
   rw[k1] at g1;simp only[Option.some.injEq,Value.slice.injEq] at g1;omega
  ·obtain⟨y1,k1,k2⟩:=r1.ev hx
   cases k2
   rw[k1] at g1;simp only[Option.some.injEq,Value.slice.injEq] at g1;omega
 have hl3:=h3.len;have hl4:=g3.len;have hall: ∀v∈vs++us,(aD v).length=s:=fun v hv=>by
  rcases bK.1 hv with hv|hv
  ·exact g4 v hv
  ·exact h4 v hv
 refine CU (z:=v) (xs:=aA vs) (ys:=aA us) (ad:=w1.a) (len:=w1.n) (cap:=w1.c) g1 h1 g6 h6 (by omega) hby (by rw[g2,h2,hl3,hl4];exact hbd) hd (fun b cap' hc a' w' rl=>?_) a w Q ⟨r.h,r.sz,c6 a,r.df⟩;rw[<-qC] at rl;have hnd':=(bR.1 rl.h.nd).1;refine r.newRow (z:=⟨some ⟨b,0,none⟩,w1.n+w2.n,cap'⟩) (B:=[⟨b,aA (vs++us)++dm v (cap'-(w1.n+w2.n)),e,true⟩]) hf ⟨vs++us, .inr ⟨b,_,true,by simp[g2,h2],J,eB _ hall,?_,by simpa[g2,h2] using hc⟩,g3.app h3,hall,fun _ o ho=>by rw[aU.1 ho]⟩
  (fun o ho=>by rw[aU.1 ho];exact aQ) (fun m B' hm e o ho _=>⟨aJ _ ho,fun e'=>by cases e';exact hnd' o ho J⟩) hk rl
 rw[eB _ hall,aV,pD,cz,hs,<-cS,g2,h2];congr 1;rw[g2,h2] at hc;dsimp only;omega
end
section
variable {GB:Gh} {C:aB} {n:Nat} {Q0:Exit->Act->World->Prop} {fr fr':az} {own own':aC} {cf cf':Cf} {vc:List Prop} {ops:Array Oper} {o:Oper} {K:List Kt} {r:List Oper}
def cx(fr:az)(cf:Cf):Option Oper:=match Dy cf with
 |some (ops,o)=>bif vh ops (bC fr cf) o.guard then some o else none
 |none=>none
def HK(h:cx fr cf=some o): ∃ops,Dy cf=some (ops,o)/\vh ops (bC fr cf) o.guard=true:=by
 unfold cx at h;split at h<;>try (cases h;done)
 rename_i ops o' hh
 cases hg:vh ops (bC fr cf) o'.guard with
 |false=>rw[hg] at h;cases h
 |true=>rw[hg] at h;cases h;exact⟨ops,hh,hg⟩
def us{q:Nat}{f:FX}{bl:List (Nat×Option Bk)}{nw:List Nat}(hh:cx fr cf=some o)(h:bD prog GB C n (bC fr cf) (ij fr own cf) o f bl nw)
  (hgo:cF tt n q fr own cf f bl nw=⟨vc,fr',own',cf'⟩)(hv:ac vc)(k:ak prog GB C n Q0 fr' own' cf'):ak prog GB C n Q0 fr own cf:=by
 obtain⟨ops,h1,h2⟩:=HK hh;exact uo h1 h2 h hgo hv k
def AG(fr:az)(cf:Cf):Option (FuncId×List DV):=match cx fr cf with
 |some ⟨_, .call ⟨.value fo,args,_⟩,_,_,_,_⟩=>uj (bC fr cf) fo args
 |_=>none
def cl[fu:Fu]{f:FuncId}{ds:List DV}{rv:DV}(ha:AG fr cf=some (f,ds))(hF:PF GB prog f ds rv)(hgo:cF tt n fu.n fr own cf (.d rv) [] []=⟨vc,fr',own',cf'⟩)(k:ak prog GB C n Q0 fr' own' cf')
  (hv:ac vc:=by first|exact trivial|(simp only[ac];kernel_rfl)|(simp only[ac];omega)|(simp only[ac,aK,aM,aY];omega)):ak prog GB C n Q0 fr own cf:=by
 unfold AG at ha;split at ha<;>try (cases ha;done)
 rename_i hh;exact us hh (H2 ha hF) hgo hv k
def QL(fr:az)(cf:Cf):Option (List DV×Int×Nat):=match cx fr cf with
 |some ⟨_, .indexAddr t x y,_,_,_,_⟩=>match evD (bC fr cf) x with
  |some (.sl l)=>match aF (bC fr cf) y with
   |some (.d (.v (.int _ i)))=>match dl tt t with
    |some ⟨.sl _ s _,_,_,_⟩=>some (l,i,s)
    |_=>none
   |_=>none
  |_=>none
 |_=>none
def Pc(n q:Nat)(fr:az)(own:aC)(cf:Cf)(d:DV)(s:Nat):Aj:=bif d.okc&&Nat.beq d.cells.length s then lE d.cells fun cs=>cF tt n q fr own cf (.ep cs) [] [] else bad
def ix[fu:Fu](d:DV){l:List DV}{i:Int}{s:Nat}(h:QL fr cf=some (l,i,s))(he:l[i.toNat]? =some d)(hgo:Pc n fu.n fr own cf d s=⟨vc,fr',own',cf'⟩)(k:ak prog GB C n Q0 fr' own' cf')(h0:0<=i:=by omega)
  (hv:ac vc:=by first|exact trivial|(simp only[ac];kernel_rfl)|(simp only[ac];omega)|(simp only[ac,aK,aM,aY];omega)):ak prog GB C n Q0 fr own cf:=by
 unfold QL at h;split at h<;>try (cases h;done)
 rename_i hh;split at h<;>try (cases h;done)
 rename_i hx;split at h<;>try (cases h;done)
 rename_i hy;split at h<;>cases h;rename_i hT;have:=jg (dP _ _ hT) J;unfold Pc at hgo
 cases hc:(d.okc&&Nat.beq d.cells.length s) with
 |false=>simp only[hc,cond_false,bad] at hgo;cases hgo;exact absurd hv (fun x=>x)
 |true=>
  simp only[hc,cond_true,tn] at hgo;exact us hh (aF2 hx hy h0 he hc) hgo hv k
structure LbA where
 ds:List DV
 k:Nat
 j:Nat
 ag:Option Nat
def RK(fr:az)(own:aC)(cf:Cf):Option LbA:=match cx fr cf with
 |some ⟨_, .load t x,_,_,_,_⟩=>match aF (bC fr cf) x with
  |some (.be nm sz k j)=>match ij fr own cf nm with
   |some (.b _ s ds _)=>bif Nat.beq s sz then(match dl tt t with
    |some i=>match i.ag with
     |some ag=>some ⟨ds,k,j,ag⟩
     |none=>none
    |none=>none) else none
   |_=>none
  |_=>none
 |_=>none
def R3(n q:Nat)(fr:az)(own:aC)(cf:Cf)(d:DV)(ag:Option Nat)(j:Nat):Aj:=bif d.okc then(match BC ag d.cells j with
 |some c=>cF tt n q fr own cf (.d c) [] []
 |none=>bad) else bad
def lb[fu:Fu](d:DV){ds:List DV}{k' j:Nat}{ag:Option Nat}(h:RK fr own cf=some ⟨ds,k',j,ag⟩)(he:ds[k']? =some d)(hgo:R3 n fu.n fr own cf d ag j=⟨vc,fr',own',cf'⟩)(k:ak prog GB C n Q0 fr' own' cf')
  (hv:ac vc:=by first|exact trivial|(simp only[ac];kernel_rfl)|(simp only[ac];omega)|(simp only[ac,aK,aM,aY];omega)):ak prog GB C n Q0 fr own cf:=by
 unfold RK at h;split at h<;>try (cases h;done)
 rename_i hh;split at h<;>try (cases h;done)
 rename_i hx;split at h<;>try (cases h;done)
 rename_i ty s ds' lo hb;rw[cond_eq_ite] at h;split at h<;>try (cases h;done)
 rename_i hs
 cases aR hs
 split at h<;>try (cases h;done)
 rename_i hT;split at h<;>cases h;rename_i ha;unfold R3 at hgo
 cases hc:d.okc with
 |false=>simp only[hc,cond_false,bad] at hgo;cases hgo;exact absurd hv (fun x=>x)
 |true=>
  simp only[hc,cond_true] at hgo
  cases hl:BC ag d.cells j with
  |none=>simp only[hl,bad] at hgo;cases hgo;exact absurd hv (fun x=>x)
  |some c=>simp only[hl] at hgo;exact us hh (V8 (dP _ _ hT) ha hx hb he hc hl) hgo hv k
structure Y3 where
 nm:Nat
 ty:TypeId
 s:Nat
 ds:List DV
 lo:Bool
 k:Nat
 j:Nat
 ag:Option Nat
 u:DV
def Lq(fr:az)(own:aC)(cf:Cf):Option Y3:=match cx fr cf with
 |some ⟨_, .store t x y,_,_,_,_⟩=>match aF (bC fr cf) x with
  |some (.be nm sz k j)=>match ij fr own cf nm with
   |some (.b ty s ds lo)=>bif Nat.beq s sz then(match dl tt t with
    |some i=>match i.ag with
     |some ag=>match evD (bC fr cf) y with
      |some u=>some ⟨nm,ty,s,ds,lo,k,j,ag,u⟩
      |none=>none
     |none=>none
    |none=>none) else none
   |_=>none
  |_=>none
 |_=>none
def sb[fu:Fu](d:DV){nm:Nat}{ty:TypeId}{s:Nat}{ds:List DV}{lo:Bool}{k' j:Nat}{ag:Option Nat}{u d':DV}(ds':List DV)(h:Lq fr own cf=some ⟨nm,ty,s,ds,lo,k',j,ag,u⟩)(he:ds[k']? =some d)(hl:FB ag d j u=some d')(hds:ds.set k' d'=ds')
  (hgo:cF tt n fu.n fr own cf .un [(nm,some (.b ty s ds' lo))] []=⟨vc,fr',own',cf'⟩)(k:ak prog GB C n Q0 fr' own' cf')
  (hv:ac vc:=by first|exact trivial|(simp only[ac];kernel_rfl)|(simp only[ac];omega)|(simp only[ac,aK,aM,aY];omega)):ak prog GB C n Q0 fr own cf:=by
 unfold Lq at h;split at h<;>try (cases h;done)
 rename_i hh;split at h<;>try (cases h;done)
 rename_i hx;split at h<;>try (cases h;done)
 rename_i hb;rw[cond_eq_ite] at h;split at h<;>try (cases h;done)
 rename_i hs
 cases aR hs
 split at h<;>try (cases h;done)
 rename_i hT;split at h<;>try (cases h;done)
 rename_i ha;split at h<;>cases h;rename_i hy;exact us hh (aEn (dP _ _ hT) ha hx hb hy he hl hds) hgo hv k
structure ZM where
 d:Nat
 e:Nat
 s:Nat
 b:Nat
 z:DV
 l:Int
def FJ(fr:az)(cf:Cf):Option ZM:=match cx fr cf with
 |some ⟨some d, .makeSlice t x y,_,_,_,_⟩=>match aF (bC fr cf) x with
  |some (.d (.v (.int _ l)))=>match dl tt t with
   |some ⟨.sl e s b,_,_,_⟩=>match dl tt e with
    |some i=>match n7 i with
     |some z=>bif Nat.beq z.cells.length s then some ⟨d,e,s,b,z,l⟩ else none
     |none=>none
    |none=>none
   |_=>none
  |_=>none
 |_=>none
def mk[fu:Fu]{d e s b:Nat}{z:DV}{l:Int}{k':IntKind}(ds:List DV)(h:FJ fr cf=some ⟨d,e,s,b,z,l⟩)(hy:(match cx fr cf with|some ⟨_, .makeSlice _ _ y,_,_,_,_⟩=>aF (bC fr cf) y|_=>none)=some (.d (.v (.int k' l))))(hds:List.replicate l.toNat z=ds)
  (hgo:cF tt n fu.n fr own cf (.rw d) [(d,some (.b e s ds true))] [d]=⟨vc,fr',own',cf'⟩)(k:ak prog GB C n Q0 fr' own' cf')(h0:0<=l:=by omega)(hb:b*l<=140737488355328:=by omega)(hl:l<=1152921504606846976:=by omega)
  (hv:ac vc:=by first|exact trivial|(simp only[ac];kernel_rfl)|(simp only[ac];omega)|(simp only[ac,aK,aM,aY];omega)):ak prog GB C n Q0 fr own cf:=by
 unfold FJ at h;split at h<;>try (cases h;done)
 rename_i hh;split at h<;>try (cases h;done)
 rename_i hx;split at h<;>try (cases h;done)
 rename_i hT;split at h<;>try (cases h;done)
 rename_i hi;split at h<;>try (cases h;done)
 rename_i hz;rw[cond_eq_ite] at h;split at h<;>cases h;rename_i hs;rw[hh] at hy;have:=jg (dP _ _ hT) J;exact us hh (aBD (dP _ _ hi) hz hs hx hy h0 hb hl hds) hgo hv k
structure Pt where
 d:Nat
 e:Nat
 s:Nat
 ds:List DV
def FP(fr:az)(cf:Cf):Option Pt:=match cx fr cf with
 |some ⟨some d, .buildSlice t len parts,_,_,_,_⟩=>match dl tt t with
  |some ⟨.sl e s _,_,_,_⟩=>match dl tt e with
   |some i=>match n7 i with
    |some z=>match wx (bC fr cf) 0 parts.toList with
     |some ds=>bif Nat.beq z.cells.length s&&(C4 s ds&&(Nat.beq parts.toList.length len&&(Nat.ble (len*s) 1000&&Nat.blt 0 (len*s)))) then some ⟨d,e,s,ds⟩ else none
     |none=>none
    |none=>none
   |none=>none
  |_=>none
 |_=>none
def Si{d e s:Nat}{ds:List DV}(h:FP fr cf=some ⟨d,e,s,ds⟩): ∃o,cx fr cf=some o/\o.dst=some d/\bD prog GB C n (bC fr cf) (ij fr own cf) o (.rw d) [(d,some (.b e s ds true))] [d]:=by
 unfold FP at h;split at h<;>try (cases h;done)
 rename_i hh;split at h<;>try (cases h;done)
 rename_i hT;split at h<;>try (cases h;done)
 rename_i hi;split at h<;>try (cases h;done)
 rename_i hz;split at h<;>try (cases h;done)
 rename_i hr;rw[cond_eq_ite] at h;split at h<;>cases h;rename_i hc;simp only[bL] at hc;have:=jg (dP _ _ hT) J;exact⟨_,hh,J,Um (dP _ _ hi) hz hc.1 hr hc.2.1 hc.2.2.1 hc.2.2.2.1 hc.2.2.2.2⟩
def ro[fu:Fu]{d e s:Nat}{ds:List DV}(h:FP fr cf=some ⟨d,e,s,ds⟩)(hgo:cF tt n fu.n fr own cf (.rw d) [(d,some (.b e s ds true))] [d]=⟨vc,fr',own',cf'⟩)(k:ak prog GB C n Q0 fr' own' cf')
  (hv:ac vc:=by first|exact trivial|(simp only[ac];kernel_rfl)|(simp only[ac];omega)|(simp only[ac,aK,aM,aY];omega)):ak prog GB C n Q0 fr own cf:=by
 obtain⟨o,h1,_,h3⟩:=Si (GB:=GB) (C:=C) (n:=n) (own:=own) h;exact us h1 h3 hgo hv k
def rf[fu:Fu]{d e s:Nat}{ds:List DV}(h:FP fr cf=some ⟨d,e,s,ds⟩)(hgo:cF tt n fu.n fr own cf (.d (.sl ds)) [(d,none)] [d]=⟨vc,fr',own',cf'⟩)(k:ak prog GB C n Q0 fr' own' cf')
  (hv:ac vc:=by first|exact trivial|(simp only[ac];kernel_rfl)|(simp only[ac];omega)|(simp only[ac,aK,aM,aY];omega)):ak prog GB C n Q0 fr own cf:=by
 obtain⟨o,h1,h2,h3⟩:=Si (GB:=GB) (C:=C) (n:=n) (own:=own) h;exact us h1 (h3.frzRow h2) hgo hv k
def SU(fr:az)(cf:Cf):Option (Nat×Nat×Nat):=match cx fr cf with
 |some ⟨some d, .buildSlice t 0 ⟨[]⟩,_,_,_,_⟩=>match dl tt t with
  |some ⟨.sl e s _,_,_,_⟩=>some (d,e,s)
  |_=>none
 |_=>none
def rp[fu:Fu]{d e s:Nat}(h:SU fr cf=some (d,e,s))(hgo:cF tt n fu.n fr own cf (.rw d) [(d,some (.b e s [] true))] [d]=⟨vc,fr',own',cf'⟩)(k:ak prog GB C n Q0 fr' own' cf')
  (hv:ac vc:=by first|exact trivial|(simp only[ac];kernel_rfl)|(simp only[ac];omega)|(simp only[ac,aK,aM,aY];omega)):ak prog GB C n Q0 fr own cf:=by
 unfold SU at h;split at h<;>try (cases h;done)
 rename_i hh;split at h<;>cases h;rename_i hT;have:=jg (dP _ _ hT) J;exact us hh aBp hgo hv k
structure ApA where
 d:Nat
 nm:Option Nat
 e:Nat
 s:Nat
 b:Nat
 ds:List DV
 ds2:List DV
def Ds(fr:az)(own:aC)(cf:Cf):Option ApA:=match cx fr cf with
 |some ⟨some d, .call ⟨.builtin .append,⟨[x,y]⟩,⟨[t,t']⟩⟩,_,_,_,_⟩=>match dl tt t with
  |some ⟨.sl e s b,_,_,_⟩=>match dl tt t' with
   |some ⟨.sl _ _ _,_,_,_⟩=>match dl tt e with
    |some i=>match n7 i with
     |some z=>bif Nat.beq z.cells.length s&&Nat.blt 0 b then(match qp (bC fr cf) (ij fr own cf) s y with
      |some ds2=>match aF (bC fr cf) x with
       |some (.rw nm)=>match ij fr own cf nm with
        |some (.b e' s' ds true)=>bif (Nat.beq e' e&&Nat.beq s' s)&&!Nat.beq nm d then some ⟨d,some nm,e,s,b,ds,ds2⟩ else none
        |_=>none
       |some (.ct ds)=>some ⟨d,none,e,s,b,ds,ds2⟩
       |some .nl=>some ⟨d,none,e,s,b,[],ds2⟩
       |_=>none
      |none=>none) else none
     |none=>none
    |none=>none
   |_=>none
  |_=>none
 |_=>none
def Qe(d:Nat)(nm:Option Nat)(B:Bk):List (Nat×Option Bk):=match nm with
 |some nm=>[(nm,none),(d,some B)]
 |none=>[(d,some B)]
def Pa{d:Nat}{nm:Option Nat}{e s b:Nat}{ds ds2:List DV}(h:Ds fr own cf=some ⟨d,nm,e,s,b,ds,ds2⟩)(ds':List DV)(hds:ds++ds2=ds')(ho:nm.isNone=true->cP s ds/\0<ds2.length)(ho2:cP s ds2)(hbd:(ds.length+ds2.length)*b<=140737488355328):
  ∃o,cx fr cf=some o/\o.dst=some d/\bD prog GB C n (bC fr cf) (ij fr own cf) o (.rw d) (Qe d nm (.b e s ds' true)) [d]:=by
 unfold Ds at h;split at h<;>try (cases h;done)
 rename_i hh;split at h<;>try (cases h;done)
 rename_i hT;split at h<;>try (cases h;done)
 rename_i hT';split at h<;>try (cases h;done)
 rename_i hi;split at h<;>try (cases h;done)
 rename_i hz;rw[cond_eq_ite] at h;split at h<;>try (cases h;done)
 rename_i hc;simp only[bL] at hc;split at h<;>try (cases h;done)
 rename_i hy;have:=jg (dP _ _ hT) J;have hN:lj prog _:=⟨_,(jg (dP _ _ hT') J).un⟩;refine⟨_,hh,?_⟩;split at h<;>try (cases h;done)
 ·rename_i hx
  split at h<;>try (cases h;done)
  rename_i hb;rw[cond_eq_ite] at h;split at h<;>cases h;rename_i hq;simp only[bL,gV] at hq
  cases aR hq.1.1
  cases aR hq.1.2
  exact⟨J,Ub (dP _ _ hi) hz hc.1 hx hb hy ho2 hc.2 hbd hq.2 hds⟩
 ·rename_i hx
  cases h
  obtain⟨h1,h2⟩:=ho rfl;exact⟨J,LT (dP _ _ hi) hz hc.1 (.inl hx) h1 hy ho2 h2 hc.2 hbd hds⟩
 ·rename_i hx
  cases h
  obtain⟨h1,h2⟩:=ho rfl;exact⟨J,LT (dP _ _ hi) hz hc.1 (.inr ⟨hx,J⟩) h1 hy ho2 h2 hc.2 hbd hds⟩
def ap[fu:Fu]{d:Nat}{nm:Option Nat}{e s b:Nat}{ds ds2:List DV}(ds':List DV)(h:Ds fr own cf=some ⟨d,nm,e,s,b,ds,ds2⟩)(hds:ds++ds2=ds')(ho2:cP s ds2)(hgo:cF tt n fu.n fr own cf (.rw d) (Qe d nm (.b e s ds' true)) [d]=⟨vc,fr',own',cf'⟩)(k:ak prog GB C n Q0 fr' own' cf')
  (ho:nm.isNone=true->cP s ds/\0<ds2.length:=by intro h;first|(cases h;done)|exact⟨Ii rfl,by simp⟩)(hbd:(ds.length+ds2.length)*b<=140737488355328:=by simp;omega)
  (hv:ac vc:=by first|exact trivial|(simp only[ac];kernel_rfl)|(simp only[ac];omega)|(simp only[ac,aK,aM,aY];omega)):ak prog GB C n Q0 fr own cf:=by
 obtain⟨o,h1,_,h3⟩:=Pa (GB:=GB) (C:=C) (n:=n) h ds' hds ho ho2 hbd;exact us h1 h3 hgo hv k
def Mm(fr:az)(cf:Cf):Option (List DV×Int×Int×Nat×Bool):=match cx fr cf with
 |some ⟨_, .slice t x lo hi mx,_,_,_,_⟩=>match evD (bC fr cf) x with
  |some (.sl l)=>match dl tt t with
   |some ⟨.sl _ s _,_,_,_⟩=>match mD (bC fr cf) 0 lo,mD (bC fr cf) l.length hi with
    |some i,some j=>match mx with
     |none=>some (l,i,j,s,false)
     |some _=>none
    |_,_=>none
   |_=>none
  |_=>none
 |_=>none
def m6[fu:Fu]{l:List DV}{i j:Int}{s:Nat}(nlo nhi:Nat)(ls:List DV)(h:Mm fr cf=some (l,i,j,s,false))(ei:i=nlo)(ej:j=nhi)(hls:(l.take nhi).drop nlo=ls)(ho:cP s l)(h1:nlo<=nhi)(h2:nhi<=l.length)
  (hgo:cF tt n fu.n fr own cf (.d (.sl ls)) [] []=⟨vc,fr',own',cf'⟩)(k:ak prog GB C n Q0 fr' own' cf')
  (hv:ac vc:=by first|exact trivial|(simp only[ac];kernel_rfl)|(simp only[ac];omega)|(simp only[ac,aK,aM,aY];omega)):ak prog GB C n Q0 fr own cf:=by
 unfold Mm at h;split at h<;>try (cases h;done)
 rename_i hh;split at h<;>try (cases h;done)
 rename_i hx;split at h<;>try (cases h;done)
 rename_i hT;split at h<;>try (cases h;done)
 rename_i hi hj;split at h<;>cases h;have:=jg (dP _ _ hT) J;subst ei ej hls;exact us hh (aEF hx ho hi hj h1 h2) hgo hv k
def PE(fr:az)(cf:Cf):Option (List DV×Int×Int×Nat):=match cx fr cf with
 |some ⟨_, .slice t x none (some hi) (some mx),_,_,_,_⟩=>match evD (bC fr cf) x with
  |some (.sl l)=>match dl tt t with
   |some ⟨.sl _ s _,_,_,_⟩=>match mD (bC fr cf) 0 (some hi),mD (bC fr cf) 0 (some mx) with
    |some i,some j=>some (l,i,j,s)
    |_,_=>none
   |_=>none
  |_=>none
 |_=>none
def s3[fu:Fu]{l:List DV}{i j:Int}{s:Nat}(nhi:Nat)(ls:List DV)(h:PE fr cf=some (l,i,j,s))(ei:i=nhi)(ej:j=nhi)(hls:l.take nhi=ls)(ho:cP s l)(h2:nhi<=l.length)
  (hgo:cF tt n fu.n fr own cf (.ct ls) [] []=⟨vc,fr',own',cf'⟩)(k:ak prog GB C n Q0 fr' own' cf')
  (hv:ac vc:=by first|exact trivial|(simp only[ac];kernel_rfl)|(simp only[ac];omega)|(simp only[ac,aK,aM,aY];omega)):ak prog GB C n Q0 fr own cf:=by
 unfold PE at h;split at h<;>try (cases h;done)
 rename_i hh;split at h<;>try (cases h;done)
 rename_i hx;split at h<;>try (cases h;done)
 rename_i hT;split at h<;>cases h;rename_i hi hj;have:=jg (dP _ _ hT) J;subst ei ej hls;exact us hh (ZF hx ho hi hj h2) hgo hv k
def PD(fr:az)(cf:Cf):Option (Nat×List DV):=match cx fr cf with
 |some ⟨some d, .box _ x,_,_,_,_⟩=>match aF (bC fr cf) x with
  |some f=>bif f.okc&&Aa f d then(match ji f.cells with
   |some l=>some (d,l)
   |none=>none) else none
  |none=>none
 |_=>none
end
end Go.Sx
end
