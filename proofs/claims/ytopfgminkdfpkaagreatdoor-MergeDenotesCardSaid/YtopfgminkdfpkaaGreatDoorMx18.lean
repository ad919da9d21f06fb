/- Part 18 of a proof. -/
import Derived.Test.YtopfgminkdfpkaaGreatDoorMx17
import Derived.Shelf.SlSortCmp.NoneTotal
import Derived.Test.YtopfgminkdfpkaaGreatDoorProg
set_option linter.unusedSimpArgs false
set_option maxHeartbeats 1000000
set_option maxRecDepth 100000
set_option linter.unusedVariables false
section
namespace Go.Sx
open Go Go.Proofs Tryz
variable {GB:Gh}
section
variable {GB:Gh} {C:Ctx} {n:Nat} {Q0:Exit→Act→World→Prop} {fr fr':FrX} {own own':OwX} {cf cf':Cf} {vc:List Prop}
theorem axq{lk:LK}{bk:BM}{fo:Operand}{args:Array Operand}{tys:Array TypeId}{f:FuncId}{nm d:Nat}{l:List (Option DV)}{s:Nat}{ty ty0:TypeId}{pos:String}{af:Array Edge}{gd:Option (Nat×Bool)}{dsi dso:List DV}{lo:Bool}(hne:Nat.beq nm d=false)
  (ha:anA lk fo args=some (f,nm,l))(hb:bk nm=some (.b ty0 s dsi lo))(hF:PB GB prog f (mkB l) s ty0 dsi (fun w=> .v (.slice w.a w.n w.c)) dso):OpR prog GB C n lk bk ⟨some d, .call ⟨.value fo,args,tys⟩,ty,pos,af,gd⟩ (.rw d) [(nm,none),(d,some (.b ty0 s dso lo))] [d]:=by
 intro hd tl tb K' s1 s2 hf hk
 refine⟨fun ρ G ov a w r Q=>?_⟩
 have r1:=r.mono s1 s2
 unfold anA at ha
 split at ha<;>try (cases ha;done)
 rename_i h1
 split at ha<;>cases ha
 rename_i h2
 obtain⟨y,hy,hy'⟩:=r1.ev h1
 rw[(aaP (G:=G)).1 hy'] at hy
 obtain⟨B,g1,g2⟩:=r1.bx _ _ hb
 have hB:abb G ⟨ρ nm,s,ty0,dsi,lo⟩ B:=g1
 obtain⟨vs,h7,h8⟩:=ajh r1 (z:=ρ nm) h2 (fun nm e=>by cases e;rfl)
 have hp: ∃rest,ov.Perm (B++rest)∧ ∀o∈ov,(∀o'∈B,o.b≠o'.b)→o∈rest:=by
  rcases hB with⟨vs',⟨_,_,e⟩|⟨b0,r0,lo0,_,e,_⟩,_⟩
  ·rw[e];exact⟨ov,List.Perm.refl _,fun o ho _=>ho⟩
  ·rw[e] at g2⊢
   obtain⟨l1,l2,e2⟩:=kJ (g2 _ aQ)
   rw[e2]
   refine⟨l1++l2,lM,fun o ho hno=>?_⟩
   rcases bV.1 ho with ho|ho
   ·exact bN _ ho
   ·rcases aT.1 ho with rfl|ho
    ·exact absurd rfl (hno _ aQ)
    ·exact cJ _ ho
 obtain⟨rest,h5,h6⟩:=hp
 refine ad3 (M:=B) (rest:=rest) hy h7 h5 (hF G (ρ nm) vs B r.gb hB.weak h8) hd (fun v own1 G' hG hK a' w' rl=>?_) a w Q ⟨r.h,r.sz,aaQ a,r.df⟩
 obtain⟨z,hr,vs',k1,k2,k3,k4⟩:=hK
 have k1':=k1.relo (flM B)
 have e2:lo=true→ ∀o∈own1.map (relo (flM B)),o.lo=true:=fun hl o ho=>by
  obtain⟨o',_,rfl⟩:=bR.1 ho
  obtain⟨_,_,_,_,hlo⟩:=hB
  exact ahc _ (hlo hl)
 generalize own1.map (relo (flM B))=B' at rl e2 k1'
 have rl':Rel C n (Sx.put (frA a) (some d) v) (B'++rest) G' a' w':=rl
 have hdis:=(gU.1 rl'.h.nd).2.2
 have r2:=r.dropB nm
 have hnn:nm≠d:=fun e=>by subst e;rw[mM] at hne;cases hne
 have hf2:acN [d] (some d) tl (Sx.upB tb [(nm,none)]):=fun q hq=>by
  obtain⟨f1,f2⟩:=hf q hq
  refine⟨f1,fun k B e1 e=>?_⟩
  simp only[Sx.upB] at e
  split at e
  ·cases e
  ·exact f2 k B e1 e
 have hsep: ∀q B0,Sx.upB tb [(nm,none)] q=some B0→ ∀o∈ov,(ρ q).a=some ⟨o.b,0,none⟩→o∈rest:=fun q B0 e o ho hbq=>by
  simp only[Sx.upB] at e
  split at e
  ·cases e
  ·rename_i hqn
   refine h6 o ho fun o' ho' he=>?_
   exact r.dj nm q _ _ (s2 _ _ hb) e (Ne.symm hqn) o'.b (g1.blk ho') (by rw[hbq,he])
 rw[aaP.1 hr] at rl'
 have r3:=r2.new' (x:=z) (B':= .b ty0 s dso lo) (os:=B') (ov':=B'++rest) (f:= .rw d) (y:= .slice z.a z.n z.c) hf2 hG.le rl'.h ⟨vs',by simpa using k1',k2,k3,e2⟩ (fun o ho=>bN _ ho)
  (fun q B0 hq e o ho hbq=>⟨cJ _ (hsep q B0 e o ho hbq),fun hc=>by
   have hx: ∃o1∈B',o1.b=o.b:=by
    rcases k1' with⟨_,h,_⟩|⟨b0,rest0,lo0,h,hB,_⟩
    ·rw[show z=_ from h] at hc;cases hc
    ·rw[show z=_ from h] at hc;cases hc;exact⟨⟨_,aag vs'++rest0,_,lo0⟩,by rw[hB];exact aQ,rfl⟩
   obtain⟨o1,ho1,he1⟩:=hx
   exact hdis o1 ho1 o (hsep q B0 e o ho hbq) he1⟩) (by simp[IsX]) (abg rl')
 exact hk.run _ G' _ a' w' r3
theorem cq[fu:Fu]{f:FuncId}{nm d:Nat}{l:List (Option DV)}{ty:TypeId}{s:Nat}{dsi dso:List DV}{lo:Bool}(dso':List DV)(ha:aDP fr own cf=some ⟨f,nm,l,ty,s,dsi,lo,d⟩)(hF:PB GB prog f (mkB l) s ty dsi (fun w=> .v (.slice w.a w.n w.c)) dso)(he:dso=dso')
  (hgo:goA tt n fu.n fr own cf (.rw d) [(nm,none),(d,some (.b ty s dso' lo))] [d]=⟨vc,fr',own',cf'⟩)(k:CfS prog GB C n Q0 fr' own' cf')
  (hv:aai vc:=by first|exact trivial|(simp only[aai];kernel_rfl)|(simp only[aai];omega)|(simp only[aai,aJ,aS,aW];omega)):CfS prog GB C n Q0 fr own cf:=by
 subst he
 unfold aDP at ha
 split at ha<;>try (cases ha;done)
 rename_i hh
 split at ha<;>try (cases ha;done)
 rename_i h1
 split at ha<;>try (cases ha;done)
 rename_i h2
 rw[cond_eq_ite] at ha
 split at ha<;>cases ha
 rename_i h3
 exact us hh (axq (by cases hq:Nat.beq nm d with|false=>rfl|true=>exact absurd hq h3) h1 h2 hF) hgo hv k
def asv(C:Ctx)(s:Nat)(ty:TypeId)(dso:List DV):Ending→World→Prop:=af2 C (fun v own' G'=> ∃w',Is G' (.v (.slice w'.a w'.n w'.c)) v∧abb G' ⟨w',s,ty,dso,false⟩ own')
theorem fnQ[fu:Fu]{f:FuncId}{fb:Func}{c:Code}{k s:Nat}{l:List (Option DV)}{dsi dso:List DV}{ty:TypeId}(hf:prog.funcs[f]? =some fb)(hb:fb.body=some c)(hn:(fb.name== "runtime.NumGoroutine")=false)(hm:fb.ntmps=k)(hlen:Nat.ble l.length k=true)
  (hgo:go tt k fu.n [] (ai3 0 l) [(NM,some (.b ty s dsi false))] (.code c [])=⟨vc,fr,own,cf⟩)(h: ∀C,CfS prog GB C k (bodyPost prog fb (asv C s ty dso)) fr own cf)
  (hv:aai vc:=by first|exact trivial|(simp only[aai];kernel_rfl)|(simp only[aai];omega)|(simp only[aai,aJ,aS,aW];omega)):PB GB prog f (mkB l) s ty dsi (fun w=> .v (.slice w.a w.n w.c)) dso:=by
 intro G w vs B hg hB hvs
 refine FnO.intro hf hb hn hm (by rw[hvs.len,alD];exact hlen) fun C _ hmb=>?_
 intro a wd rl
 have h1:=gx' (GB:=GB) (C:=C) (Q0:=bodyPost prog fb (asv C s ty dso)) hgo hv (h C)
 refine h1.run (fun _=>w) G (Sx.asB B) a wd ⟨hg,rl.h,rl.sz,rl.df,fun k f e=>?_,fun nm B' e=>?_,fun nm nm' B' B2 e e' hne=>?_⟩
 ·obtain⟨y,⟨j,hj,hy⟩,h2⟩:=ae5 (ρ:=fun _=>w) (w:=w) rfl 0 hvs k f e
  refine⟨y,rl.fr k y ?_,h2⟩
  rw[hj];exact acD vs 0 j y hy
 ·rw[aaM] at e
  split at e
  ·cases e;exact⟨Sx.asB B,hB.asB,fun o ho=>ho⟩
  ·cases e
 ·rw[aaM] at e e'
  split at e<;>split at e'
  ·rename_i h2 h3;exact absurd (h2.trans h3.symm) hne
  ·cases e'
  ·cases e
  ·cases e
theorem rzQ{fb:Func}{t d s:Nat}{ty:TypeId}{ds dso:List DV}(hr:fb.results.toList=[.tmp t])(hl:aay fr t=some (.rw d))(hw:aaA own d=some (.b ty s ds false))(ed:ds=dso):
  CfS prog GB C n (bodyPost prog fb (asv C s ty dso)) fr own (.ex .ret []):=by
 subst ed
 refine⟨fun ρ G ov a w r=>?_⟩
 obtain⟨B,g1,g2⟩:=r.bx _ _ hw
 have hB:abb G ⟨ρ d,s,ty,ds,false⟩ B:=g1
 obtain⟨rest,hp⟩:=alG hB g2
 obtain⟨y,hy,hy'⟩:=r.ev (x:= .tmp t) (f:= .rw d) hl
 cases (show y=_ from hy')
 exact aeH (C:=C) (n:=n) (fr:=frA a) (own:=ov) (G:=G) (vs:=[.slice (ρ d).a (ρ d).n (ρ d).c]) (by rw[hr];exact .tmp hy .nil) (B++rest) B hp (nQ _ _) ⟨ρ d,aaP.2 rfl,hB⟩ a w ⟨r.h,r.sz,aaQ a,r.df⟩
/-! the same with nil as the row of nothing, the last argument -/
def aBa(lk:LK):List Operand→Option (List (Option DV))
 |[]=>none
 |[x]=>match evX lk x with
  |some .nl=>some [none]
  |_=>none
 |x::t=>match evX lk x,aBa lk t with
  |some f,some l=>match akt f with
   |some d=>some (some d::l)
   |none=>none
  |_,_=>none
def aAG(lk:LK)(fo:Operand)(args:Array Operand):Option (FuncId×List (Option DV)):=match evX lk fo with
 |some (.d (.v (.func (.func f) ⟨[]⟩ ⟨[]⟩)))=>match aBa lk args.toList with
  |some l=>some (f,l)
  |_=>none
 |_=>none
theorem arH{lk:LK}{bk:BM}{ρ:NE}{G:Gh}{ov:List Own}{a:Act}{w:World}(r:RlX GB C n lk bk ρ G ov a w): ∀{x:List Operand} {l:List (Option DV)},aBa lk x=some l→ ∃y,af4 (frA a) x=some y∧IsLs G (mkB l ⟨none,0,0⟩) y
 |[],l,e=>by cases e
 |[x],l,e=>by
  simp only[aBa] at e
  split at e<;>cases e
  rename_i h1
  obtain⟨y,h3,h4⟩:=r.ev h1
  cases (show y=_ from h4)
  exact⟨[Value.slice none 0 0],by simp only[af4,h3], .cons ((aaP (G:=G)).2 rfl) .nil⟩
 |x::x2::t,l,e=>by
  simp only[aBa] at e
  split at e
  ·rename_i f l' h1 h2
   cases hd:akt f with
   |none=>rw[hd] at e;cases e
   |some d=>
   rw[hd] at e;cases e
   obtain⟨y,h3,h4⟩:=r.ev h1
   obtain⟨ys,h5,h6⟩:=arH r (x:=x2::t) (by simpa only[aBa] using h2)
   exact⟨y::ys,by simp only[af4,h3] at h5⊢;rw[h5], .cons (acA h4 hd) h6⟩
  ·cases e
theorem asa{lk:LK}{bk:BM}{fo:Operand}{args:Array Operand}{tys:Array TypeId}{f:FuncId}{d:Nat}{l:List (Option DV)}{s:Nat}{ty ty0:TypeId}{pos:String}{af:Array Edge}{gd:Option (Nat×Bool)}{dso:List DV}
  (ha:aAG lk fo args=some (f,l))(hF:PB GB prog f (mkB l) s ty0 [] (fun w=> .v (.slice w.a w.n w.c)) dso):OpR prog GB C n lk bk ⟨some d, .call ⟨.value fo,args,tys⟩,ty,pos,af,gd⟩ (.rw d) [(d,some (.b ty0 s dso true))] [d]:=by
 intro hd tl tb K' s1 s2 hf hk
 refine⟨fun ρ G ov a w r Q=>?_⟩
 have r1:=r.mono s1 s2
 unfold aAG at ha
 split at ha<;>try (cases ha;done)
 rename_i h1
 split at ha<;>cases ha
 rename_i h2
 obtain⟨y,hy,hy'⟩:=r1.ev h1
 rw[(aaP (G:=G)).1 hy'] at hy
 obtain⟨vs,h7,h8⟩:=arH r1 h2
 refine ad3 (M:=[]) (rest:=ov) hy h7 (List.Perm.refl _) (hF G ⟨none,0,0⟩ vs [] r.gb ⟨[], .nil _ _, .nil,by simp,fun h=>by cases h⟩ h8) hd (fun v own1 G' hG hK a' w' rl=>?_) a w Q ⟨r.h,r.sz,aaQ a,r.df⟩
 obtain⟨z,hr,vs',k1,k2,k3,k4⟩:=hK
 have k1':=k1.relo (flM [])
 have e2: ∀o∈own1.map (relo (flM [])),o.lo=true:=fun o ho=>by
  obtain⟨o',_,rfl⟩:=bR.1 ho
  rfl
 generalize own1.map (relo (flM []))=B' at rl e2 k1'
 have rl':Rel C n (Sx.put (frA a) (some d) v) (B'++ov) G' a' w':=rl
 have hdis:=(gU.1 rl'.h.nd).2.2
 rw[aaP.1 hr] at rl'
 have r3:=r.new (x:=z) (B':= .b ty0 s dso true) (os:=B') (ov':=B'++ov) (f:= .rw d) (y:= .slice z.a z.n z.c) hf hG.le rl'.h ⟨vs',by simpa using k1',k2,k3,fun _=>e2⟩ (fun o ho=>bN _ ho) (fun o ho=>cJ _ ho)
  (fun o ho hc=>by
   have hx: ∃o1∈B',o1.b=o.b:=by
    rcases k1' with⟨_,h,_⟩|⟨b0,rest0,lo0,h,hB,_⟩
    ·rw[show z=_ from h] at hc;cases hc
    ·rw[show z=_ from h] at hc;cases hc;exact⟨⟨_,aag vs'++rest0,_,lo0⟩,by rw[hB];exact aQ,rfl⟩
   obtain⟨o1,ho1,he1⟩:=hx
   exact hdis o1 ho1 o ho he1) (by simp[IsX]) (abg rl')
 exact hk.run _ G' _ a' w' r3
def aBA(fr:FrX)(cf:Cf):Option (FuncId×List (Option DV)×Nat):=match opC fr cf with
 |some ⟨some d, .call ⟨.value fo,args,_⟩,_,_,_,_⟩=>match aAG (lkC fr cf) fo args with
  |some (f,l)=>some (f,l,d)
  |none=>none
 |_=>none
theorem cqn[fu:Fu]{f:FuncId}{d:Nat}{l:List (Option DV)}{ty:TypeId}{s:Nat}{dso:List DV}(dso':List DV)(ha:aBA fr cf=some (f,l,d))(hF:PB GB prog f (mkB l) s ty [] (fun w=> .v (.slice w.a w.n w.c)) dso)(he:dso=dso')
  (hgo:goA tt n fu.n fr own cf (.rw d) [(d,some (.b ty s dso' true))] [d]=⟨vc,fr',own',cf'⟩)(k:CfS prog GB C n Q0 fr' own' cf')
  (hv:aai vc:=by first|exact trivial|(simp only[aai];kernel_rfl)|(simp only[aai];omega)|(simp only[aai,aJ,aS,aW];omega)):CfS prog GB C n Q0 fr own cf:=by
 subst he
 unfold aBA at ha
 split at ha<;>try (cases ha;done)
 rename_i hh
 split at ha<;>cases ha
 rename_i h1
 exact us hh (asa h1 hF) hgo hv k
end
/-! append to a row that was handed over -/
section
variable {P:Program} {T:TT} {GB:Gh} {C:Ctx} {n:Nat} {lk:LK} {bk:BM} {ρ:NE} {G:Gh} {ov:List Own} {a:Act} {w:World}
variable {dst:Option Nat} {t t' ty':TypeId} {pos:String} {af:Array Edge} {gd:Option (Nat×Bool)} {x y:Operand} {e s by_:Nat}
theorem avQ{d nm:Nat}{i:TI}{z:DV}{ds ds2:List DV}[hT:acz P t e s by_][hN:TyN P t'](hi:afo P e=some i)(hz:zeE i=some z)(hs:Nat.beq z.cells.length s=true)(hx:evX lk x=some (.rw nm))(hb:bk nm=some (.b e s ds false))(hy:asR lk bk s y=some ds2)(hk2:adB s ds2)
  (hby:Nat.blt 0 by_=true)(hbd:(ds.length+ds2.length)*by_≤140737488355328)(hnd:Nat.beq nm d=false){ds':List DV}(hds:ds++ds2=ds'):
  OpR P GB C n lk bk ⟨some d, .call ⟨.builtin .append, #[x,y], #[t,t']⟩,ty',pos,af,gd⟩ (.rw d) [(nm,none),(d,some (.b e s ds' false))] [d]:=by
 intro hd tl tb K s1 s2 hf hk
 refine⟨fun ρ G ov a w r Q=>?_⟩
 subst hds
 have r1:=r.mono s1 s2
 obtain⟨v,hz1,hz2,hz3⟩:=ajQ hi hz
 have cz:=((hz2 G).cells hz3).1.len
 replace hs:=aU hs
 rw[oV] at hby
 have hne:nm≠d:=fun e=>by subst e;simp at hnd
 obtain⟨u,hx',hx2⟩:=r1.ev hx
 cases hx2
 obtain⟨B,hB0,hBo⟩:=r1.bx _ _ hb
 have hB1:abb G ⟨ρ nm,s,e,ds,false⟩ B:=hB0
 clear hB0
 obtain⟨vs,hB,hv,hvs,_⟩:=hB1
 simp only[] at hB hv hvs
 obtain⟨w2,us,hy',h2,h3,h4,h5,h6⟩:=an4 (P:=P) r1 hy hk2
 have hus:(aag us).length=us.length*s:=aao us h4
 have hbd':(vs.length+us.length)*by_≤140737488355328:=by rw[hv.len,h3.len];exact hbd
 have hall: ∀v∈vs++us,(aae v).length=s:=fun v hv=>by
  rcases bV.1 hv with hv|hv
  ·exact hvs v hv
  ·exact h4 v hv
 have rd:=r.dropB nm
 have hf':acN [d] (some d) tl (Sx.upB tb [(nm,none)]):=fun m hm=>by
  obtain⟨g1,g2⟩:=hf m hm
  refine⟨g1,fun k B' hk e=>g2 k B' hk ?_⟩
  simp only[Sx.upB] at e
  split at e
  ·cases e
  ·exact e
 have hbk: ∀m B',(Sx.upB tb [(nm,none)]) m=some B'→m≠nm∧tb m=some B':=fun m B' e=>by
  simp only[Sx.upB] at e
  split at e
  ·cases e
  ·exact⟨by assumption,e⟩
 have hnew: ∀{z:SV} {ov':List Own} {B1:List Own} {a':Act} {w':World} {dz:List DV},abb G ⟨z,s,e,dz,false⟩ B1→(∀o∈B1,o∈ov')→(∀m B',m≠d→(Sx.upB tb [(nm,none)]) m=some B'→ ∀o∈ov,(ρ m).a=some ⟨o.b,0,none⟩→o∈ov'∧z.a≠some ⟨o.b,0,none⟩)→
   SX GB C n (upL tl (some d) (.rw d)) (Sx.upB (Sx.upB tb [(nm,none)]) [(d,some (.b e s dz false))]) K→Rel C n (Sx.put (frA a) (some d) (.slice z.a z.n z.c)) ov' G a' w'→K a' w':=fun hB1 hos hov hk1 rl=>
  hk1.run _ _ _ _ _ (rd.new' (f:= .rw d) (y:= .slice _ _ _) hf' (GLe.refl _) rl.h (hB1.toBk (by simp)) hos hov (by show _=_;simp) (abg rl))
 have hfin: ∀(b:Nat) (lo1:Bool) (cap':Nat) (rest':List Value) (ov1:List Own) a' w',vs.length+us.length≤cap'→rest'.length+(vs.length+us.length)*s=cap'*s→(∀o∈ov,(ρ nm).a≠some ⟨o.b,0,none⟩→o∈ov1)→
   Rel C n (put (frA a) (some d) (.slice (some ⟨b,0,none⟩) (vs.length+us.length) cap')) (⟨b,aag (vs++us)++rest',e,lo1⟩::ov1) G a' w'→K a' w':=by
  intro b lo1 cap' rest' ov1 a' w' hc hr ho1 rl
  have hnd':=(bS.1 rl.h.nd).1
  refine hnew (z:=⟨some ⟨b,0,none⟩,vs.length+us.length,cap'⟩) (B1:=[⟨b,aag (vs++us)++rest',e,lo1⟩]) ⟨vs++us, .inr ⟨b,rest',lo1,by simp,rfl,aao _ hall,?_,by simpa using hc⟩,hv.app h3,hall,fun h=>by cases h⟩
   (fun o ho=>by rw[aR.1 ho];exact aQ) (fun m B' hm e o ho hmo=>?_) hk rl
  ·rw[aao _ hall,aV]
   simp only[]
   omega
  ·obtain⟨h7,h8⟩:=hbk m B' e
   have ho2:=ho1 o ho fun hc=>r.dj m nm B' _ h8 (s2 _ _ hb) h7 _ hmo hc
   exact⟨aX _ ho2,fun e'=>by cases e';exact hnd' o ho2 rfl⟩
 rcases hB with⟨e1,e2,e3⟩|⟨b,rest,lo',k3,k4,k5,k6,k7⟩
 ·subst e1
  rw[e2] at hx'
  by_cases hne:us=[]
  ·subst hne
   have:ds2=[]:=bT (by rw[←h3.len];rfl)
   subst this
   rw[h2] at hy'
   refine agI hx' hy' hd (fun a' w' rl=>?_) a w Q ⟨r.h,r.sz,aaQ a,r.df⟩
   refine hnew (z:=⟨none,0,0⟩) (B1:=[]) ⟨[], .inl ⟨rfl,rfl,rfl⟩,by simpa using hv,by simp,fun h=>by cases h⟩ (fun o ho=>by cases ho) (fun m B' hm e o ho hmo=>⟨ho,fun e'=>by cases e'⟩) hk rl
  ·have hup:0<us.length:=lK.2 hne
   rw[h2] at hy' h6
   refine acq (z:=v) (xs:=[]) (ys:=aag us) hx' hy' adV h6 (by show(0:Nat)<0+us.length;omega) hby (by simpa using hbd') hd (fun b cap' hc a' w' rl=>?_) a w Q ⟨r.h,r.sz,aaQ a,r.df⟩
   exact hfin b true cap' (aa2 v (cap'-us.length)) ov a' w' (by simpa using hc) (by rw[abu,cz,hs,←cW];simp at hc⊢;congr 1;omega) (fun o ho _=>ho) (by simpa using rl)
 ·subst k4
  have ha:(ρ nm).a=some ⟨b,0,none⟩:=by rw[k3]
  have hn:(ρ nm).n=vs.length:=by rw[k3]
  rw[ha,hn] at hx'
  rw[h2] at hy' h6
  obtain⟨ov1,o1,o2⟩:=akQ.of_mem (hBo _ aQ)
  refine aeX (z:=v) (xs:=aag vs) (ys:=aag us) (rest:=rest) (own1:=ov1) hx' hy' o1 k5 k6 k7 h6 hus h5 hby hbd' (by rw[cz,hs]) hd (fun b' lo2 cap' rest' hc hr a' w' rl=>?_) a w Q ⟨r.h,r.sz,aaQ a,r.df⟩
  rw[←abf] at rl
  exact hfin b' lo2 cap' rest' ov1 a' w' hc hr (fun o ho hne=>o2 o ho fun e'=>hne (by rw[ha,e'])) rl
end
section
variable {GB:Gh} {C:Ctx} {n:Nat} {Q0:Exit→Act→World→Prop} {fr fr':FrX} {own own':OwX} {cf cf':Cf} {vc:List Prop}
def aF2(fr:FrX)(own:OwX)(cf:Cf):Option (Nat×Nat×Nat×Nat×Nat×List DV×List DV):=match opC fr cf with
 |some ⟨some d, .call ⟨.builtin .append,⟨[x,y]⟩,⟨[t,t']⟩⟩,_,_,_,_⟩=>match abi tt t with
  |some ⟨.sl e s b,_,_,_⟩=>match abi tt t' with
   |some ⟨.sl _ _ _,_,_,_⟩=>match abi tt e with
    |some i=>match zeE i with
     |some z=>bif Nat.beq z.cells.length s&&Nat.blt 0 b then(match asR (lkC fr cf) (bkC fr own cf) s y with
      |some ds2=>match evX (lkC fr cf) x with
       |some (.rw nm)=>match bkC fr own cf nm with
        |some (.b e' s' ds false)=>bif (Nat.beq e' e&&Nat.beq s' s)&&!Nat.beq nm d then some (d,nm,e,s,b,ds,ds2) else none
        |_=>none
       |_=>none
      |none=>none) else none
     |none=>none
    |none=>none
   |_=>none
  |_=>none
 |_=>none
theorem apB[fu:Fu]{d nm:Nat}{e s b:Nat}{ds ds2:List DV}(ds':List DV)(h:aF2 fr own cf=some (d,nm,e,s,b,ds,ds2))(hds:ds++ds2=ds')(ho2:adB s ds2)(hgo:goA tt n fu.n fr own cf (.rw d) [(nm,none),(d,some (.b e s ds' false))] [d]=⟨vc,fr',own',cf'⟩)(k:CfS prog GB C n Q0 fr' own' cf')
  (hbd:(ds.length+ds2.length)*b≤140737488355328:=by simp;omega)
  (hv:aai vc:=by first|exact trivial|(simp only[aai];kernel_rfl)|(simp only[aai];omega)|(simp only[aai,aJ,aS,aW];omega)):CfS prog GB C n Q0 fr own cf:=by
 unfold aF2 at h
 split at h<;>try (cases h;done)
 rename_i hh
 split at h<;>try (cases h;done)
 rename_i hT
 split at h<;>try (cases h;done)
 rename_i hT'
 split at h<;>try (cases h;done)
 rename_i hi
 split at h<;>try (cases h;done)
 rename_i hz
 rw[cond_eq_ite] at h
 split at h<;>try (cases h;done)
 rename_i hc
 simp only[cZ] at hc
 split at h<;>try (cases h;done)
 rename_i hy
 have:=aeb (abK _ _ hT) rfl
 have hN:TyN prog _:=⟨_,(aeb (abK _ _ hT') rfl).un⟩
 split at h<;>try (cases h;done)
 rename_i hx
 split at h<;>try (cases h;done)
 rename_i hb
 rw[cond_eq_ite] at h
 split at h<;>cases h
 rename_i hq
 simp only[cZ,gX] at hq
 cases aU hq.1.1
 cases aU hq.1.2
 exact us hh (avQ (abK _ _ hi) hz hc.1 hx hb hy ho2 hc.2 hbd hq.2 hds) hgo hv k
end
def ePa(x:Bool×aan):DV:= .ag [.sl (x.2.map eFr),eU (.leaf x.1)]
def eC(c:aan):DV:= .sl (c.map eFr)
def aF1(ps:List (Bool×aan)):List aan:=(ps.filter (·.1)).map (·.2)
theorem asP(l:List PtQ):adB 6 (l.map eZ):=fun d hd=>by
 obtain⟨x,_,rfl⟩:=bR.1 hd
 exact⟨rfl,rfl⟩
instance BPt.negp (p:PtQ) (i:Nat) [h:BPt p i]:BPt (ack p) i:=⟨inferInstanceAs (BQ (-p.x) i),inferInstanceAs (BQ (-p.y) i)⟩
instance BPt.prip (l:LnQ) [LB l]:BPt (aeg l.dir) 500:=by
 have h:=(inferInstance:BPt (l.dir.scale (rgcd l.dir.x l.dir.y)⁻¹) _)
 exact⟨h.x.mono (by decide),h.y.mono (by decide)⟩
theorem aDh{p:PtQ}{i:Nat}[h:BPt p i](hi:i≤900000000:=by decide):PF GB prog 214 [eZ p] (eZ (ack p)):=by
 refine fn func214 J J ntmps214 J J (fun C=>?_)
 refine cl rfl (aff (q:=p.x) (i:=i) hi) rfl<|cl rfl (aff (q:=p.y) (i:=i) hi) rfl<|?_
 exact rz J J
theorem aAt{p:PtQ}{i:Nat}[h:BPt p i](hi:i≤900000000:=by decide):PF GB prog 207 [eZ p] (eZ (ae9 p)):=by
 refine fn func207 J J ntmps207 J J (fun C=>?_)
 refine cl rfl (aff (q:=p.y) (i:=i) hi) rfl<|?_
 exact rz J J
theorem ay8{p:PtQ}{i:Nat}[h:BPt p i](hi:i≤1000000:=by decide):PF GB prog 213 [eZ p] (eZ (aeg p)):=by
 refine fn func213 J J ntmps213 J J (fun C=>?_)
 refine cl rfl (ahe (p:=p.x) (q:=p.y) (i:=i) (j:=i) (by omega) (by omega)) rfl<|cl rfl (axA (q:=rgcd p.x p.y) (i:=i+i+(i+i)) (by omega)) rfl<|?_
 refine cl rfl (alA (p:=p) (c:=(rgcd p.x p.y)⁻¹) (i:=i) (j:=i+i+(i+i)) (by omega) (by omega)) rfl<|?_
 exact rz J J
theorem afH(l:LnQ)(x y:Tr)(p:PtQ):abv (.node l x y) p=(if Int.sign (l.value p).num=0 then [aeg l.dir,ack (aeg l.dir)] else [])++((if 0≤Int.sign (l.value p).num then abv x p else [])++(if Int.sign (l.value p).num≤0 then abv y p else [])):=by
 unfold abv
 rw[ams,pY,pY]
 congr 1
 ·split<;>simp
 ·congr 1<;>split<;>simp
theorem agG: ∀(t:Tr) (p:PtQ),(abv t p).length≤2*t.size
 | .leaf _,_=>bX _
 | .node l x y,p=>by
  have h1:=agG x p
  have h2:=agG y p
  rw[afH,aV,aV,Tr.size]
  split<;>split<;>split<;>simp only[bJ,dV]<;>omega
theorem aoy{b:Bool}{p:PtQ}{o:List PtQ}:PB GB prog 151 (mkB [some (eU (.leaf b)),some (eZ p),none]) 6 104 (o.map eZ) (fun w=> .v (.slice w.a w.n w.c)) ((o++abv (.leaf b) p).map eZ):=by
 refine fnQ func151 J J ntmps151 J J (fun C=>?_)
 refine cl (fu:=⟨0⟩) rfl abP rfl<|?_
 refine kbT 10 rfl ?_
 refine gx rfl<|?_
 exact rzQ J J J (by show _=(o++[]).map eZ;rw[gL])
theorem av0{l:LnQ}{x y:Tr}{p:PtQ}{i:Nat}[hp:BPt p i](hl:LB l)(hi:i≤10000000){o:List PtQ}(hs:o.length+2*(Tr.node l x y).size≤1000000)(hz:Int.sign (l.value p).num=0)(ihx: ∀{o:List PtQ},o.length+2*x.size≤1000000→PB GB prog 151 (mkB [some (eU x),some (eZ p),none]) 6 104 (o.map eZ) (fun w=> .v (.slice w.a w.n w.c)) ((o++abv x p).map eZ))(ihy: ∀{o:List PtQ},o.length+2*y.size≤1000000→PB GB prog 151 (mkB [some (eU y),some (eZ p),none]) 6 104 (o.map eZ) (fun w=> .v (.slice w.a w.n w.c)) ((o++abv y p).map eZ)):PB GB prog 151 (mkB [some (eU (.node l x y)),some (eZ p),none]) 6 104 (o.map eZ) (fun w=> .v (.slice w.a w.n w.c)) ((o++abv (.node l x y) p).map eZ):=by
 haveI:=hl
 have hz2:(Tr.node l x y).size=1+x.size+y.size:=rfl
 have hp1:=agG x p
 refine fnQ func151 J J ntmps151 J J (fun C=>?_)
 refine cl (fu:=⟨0⟩) rfl abG rfl<|?_
 refine kbF 10 rfl ?_
 refine gx rfl<|cl (fu:=⟨7⟩) rfl (aiI (l:=l) (p:=p) (i:=i) hi) rfl<|knT rfl (by show some (decide _)=some true;rw[decide_eq_true (by omega)]) rfl<|?_
 refine cl rfl (anp (l:=l)) rfl<|cl rfl (ay8 (p:=l.dir) (i:=97)) rfl<|cl rfl (aDh (p:=aeg l.dir) (i:=500)) rfl<|rf J J<|?_
 refine apB (fu:=⟨7⟩) ((o++[aeg l.dir,ack (aeg l.dir)]).map eZ) rfl (by rw[bK]<;>rfl) (asP [aeg l.dir,ack (aeg l.dir)]) rfl<|knT rfl (by show some (decide _)=some true;rw[decide_eq_true (by omega)]) rfl<|?_
 refine cq (fu:=⟨7⟩) (((o++[aeg l.dir,ack (aeg l.dir)])++abv x p).map eZ) rfl (ihx (by rw[aV,bJ,bJ,dV];omega)) J J<|?_
 refine knT rfl (by show some (decide _)=some true;rw[decide_eq_true (by omega)]) rfl<|cq _ rfl (ihy (by rw[aV,aV,bJ,bJ,dV];omega)) J J<|?_
 exact rzQ J J J (by rw[afH,hz];simp)
theorem awy{l:LnQ}{x y:Tr}{p:PtQ}{i:Nat}[hp:BPt p i](hl:LB l)(hi:i≤10000000){o:List PtQ}(hs:o.length+2*(Tr.node l x y).size≤1000000)(hz:Int.sign (l.value p).num=1)(ihx: ∀{o:List PtQ},o.length+2*x.size≤1000000→PB GB prog 151 (mkB [some (eU x),some (eZ p),none]) 6 104 (o.map eZ) (fun w=> .v (.slice w.a w.n w.c)) ((o++abv x p).map eZ)):PB GB prog 151 (mkB [some (eU (.node l x y)),some (eZ p),none]) 6 104 (o.map eZ) (fun w=> .v (.slice w.a w.n w.c)) ((o++abv (.node l x y) p).map eZ):=by
 haveI:=hl
 have hz2:(Tr.node l x y).size=1+x.size+y.size:=rfl
 refine fnQ func151 J J ntmps151 J J (fun C=>?_)
 refine cl (fu:=⟨0⟩) rfl abG rfl<|?_
 refine kbF 10 rfl ?_
 refine gx rfl<|cl (fu:=⟨7⟩) rfl (aiI (l:=l) (p:=p) (i:=i) hi) rfl<|knF (fu:=⟨9⟩) rfl (by show some (decide _)=some false;rw[decide_eq_false (by omega)]) rfl<|?_
 refine knT rfl (by show some (decide _)=some true;rw[decide_eq_true (by omega)]) rfl<|cq (fu:=⟨7⟩) _ rfl (ihx (by omega)) J J<|knF rfl (by show some (decide _)=some false;rw[decide_eq_false (by omega)]) rfl<|?_
 exact rzQ J J J (by rw[afH,hz];simp)
theorem aw9{l:LnQ}{x y:Tr}{p:PtQ}{i:Nat}[hp:BPt p i](hl:LB l)(hi:i≤10000000){o:List PtQ}(hs:o.length+2*(Tr.node l x y).size≤1000000)(hz:Int.sign (l.value p).num= -1)(ihy: ∀{o:List PtQ},o.length+2*y.size≤1000000→PB GB prog 151 (mkB [some (eU y),some (eZ p),none]) 6 104 (o.map eZ) (fun w=> .v (.slice w.a w.n w.c)) ((o++abv y p).map eZ)):PB GB prog 151 (mkB [some (eU (.node l x y)),some (eZ p),none]) 6 104 (o.map eZ) (fun w=> .v (.slice w.a w.n w.c)) ((o++abv (.node l x y) p).map eZ):=by
 haveI:=hl
 have hz2:(Tr.node l x y).size=1+x.size+y.size:=rfl
 refine fnQ func151 J J ntmps151 J J (fun C=>?_)
 refine cl (fu:=⟨0⟩) rfl abG rfl<|?_
 refine kbF 10 rfl ?_
 refine gx rfl<|cl (fu:=⟨7⟩) rfl (aiI (l:=l) (p:=p) (i:=i) hi) rfl<|knF (fu:=⟨9⟩) rfl (by show some (decide _)=some false;rw[decide_eq_false (by omega)]) rfl<|?_
 refine knF (fu:=⟨9⟩) rfl (by show some (decide _)=some false;rw[decide_eq_false (by omega)]) rfl<|knT rfl (by show some (decide _)=some true;rw[decide_eq_true (by omega)]) rfl<|?_
 refine cq _ rfl (ihy (by omega)) J J<|?_
 exact rzQ J J J (by rw[afH,hz];simp)
theorem aml{p:PtQ}{i:Nat}[hp:BPt p i](hi:i≤10000000:=by decide): ∀{t:Tr} {o:List PtQ},t.all LB→o.length+2*t.size≤1000000→PB GB prog 151 (mkB [some (eU t),some (eZ p),none]) 6 104 (o.map eZ) (fun w=> .v (.slice w.a w.n w.c)) ((o++abv t p).map eZ)
 | .leaf _,_,_,_=>aoy
 | .node l x y,_,hb,hs=>by
  have hz2:(Tr.node l x y).size=1+x.size+y.size:=rfl
  rcases mL (l.value p).num 0 with h|h|h
  ·exact aw9 hb.1 hi hs (dR h) fun k=>aml hi hb.2.2 k
  ·exact av0 hb.1 hi hs (by rw[h];rfl) (fun k=>aml hi hb.2.1 k) fun k=>aml hi hb.2.2 k
  ·exact awy hb.1 hi hs (fU h) fun k=>aml hi hb.2.1 k
theorem auX{t:Tr}{p v:PtQ}{i j:Nat}[hp:BPt p i][hv:BPt v j](hb:t.all LB)(hi:i≤10000000:=by decide)(hj:j≤10000000:=by decide):PF GB prog 152 [eU t,eZ p,eZ v] (.tp [vB (ago t p v).1,vB (ago t p v).2]):=by
 refine fn func152 J J ntmps152 J J (fun C=>?_)
 refine lp (X:=Tr) (fun s=>[(0, .d (eU s))]) (fun s=>[]) (fun s=>ago s p v=ago t p v∧s.all LB) (fun s=>s.size) t rfl ⟨rfl,hb⟩ (fun _=>rfl) (fun s hk=>?_)
 obtain⟨h1,hb2⟩:=hk
 rcases s with b|⟨l,x,y⟩
 ·
  have hA:ago t p v=(b,true):=h1.symm
  refine cl (fu:=⟨0⟩) rfl abP rfl<|?_
  refine kbT 10 rfl ?_
  refine gx rfl<|?_
  exact rz rfl (by rw[hA];rfl)
 ·
  have hAn:=h1.symm
  rw[ago,aeB] at hAn
  haveI:=hb2.1
  refine cl (fu:=⟨0⟩) rfl abG rfl<|?_
  refine kbF 10 rfl ?_
  refine gx rfl<|cl (fu:=⟨4⟩) rfl (aiI (l:=l) (p:=p) (i:=i) hi) rfl<|?_
  refine mg (X:=Int) (fun s8=>[(8, .d (vI s8))]) (fun s8=>[]) (fun s8=>s8=(if(l.value p).num.sign=0 then(l.nor.dot v).num.sign else(l.value p).num.sign)) [8] [] rfl ?_ (fun _=>rfl) (fun s8 hs8=>?_)
  ·
   refine gx rfl<|?_
   refine br J J J (fun hc19=>?_) (fun hc19=>?_)
   ·
    refine cl rfl (apT (l:=l)) rfl<|cl rfl (apA (p:=l.nor) (q:=v) (i:=97) (j:=j) (by decide) (by omega)) rfl<|cl rfl (acY (q:=l.nor.dot v) (by omega)) rfl<|?_
    exact at_ (l.nor.dot v).num.sign (if_pos hc19).symm
   ·
    exact at_ (l.value p).num.sign (if_neg hc19).symm
  ·
   rw[←hs8] at hAn
   refine br J J J (fun hc29=>?_) (fun hc29=>?_)
   ·
    exact at_ x ⟨⟨by rw[hAn,hc29];rfl,hb2.2.1⟩,(by simp only[Tr.size];omega)⟩
   ·
    refine br J J J (fun hc35=>?_) (fun hc35=>?_)
    ·
     exact at_ y ⟨⟨by rw[hAn,hc35];rfl,hb2.2.2⟩,(by simp only[Tr.size];omega)⟩
    ·
     exact rz rfl (by rw[hAn];split<;>first|rfl|contradiction)
theorem aBs{q:Rat}{i:Nat}[h:BQ q i](hi:i≤400000000:=by decide):PF GB prog 154 [eR q] (eF q):=by
 haveI:BN q.num.natAbs i:=⟨h.hn⟩
 haveI:BN q.den i:=⟨h.hd⟩
 refine fn func154 J J ntmps154 J J (fun C=>?_)
 refine cl (fu:=⟨0⟩) rfl (adZ (n:=decide (q.num<0)) (a:=q.num.natAbs) (d:=q.den) (i:=i) (j:=i) (by omega) (by omega)) rfl<|?_
 refine eqF 7 (.d (eF q)) rfl (by rw[adq,sQ]) ?_
 refine gx rfl<|?_
 exact rz J J
theorem aBO{p:PtQ}{i:Nat}[h:BPt p i](hi:i≤400000000:=by decide):PF GB prog 76 [ePt p] (eZ p):=by
 refine fn func76 J J ntmps76 J J (fun C=>?_)
 refine cl rfl (aBs (q:=p.x) (i:=i) hi) rfl<|cl rfl (aBs (q:=p.y) (i:=i) hi) rfl<|?_
 exact rz J J
theorem aEt(G:Gh)(y:Value)(h:Is G (.sl [.ag [vI (fn_ 1),vI (fd_ 1),fp_ 1,vI 0,vI 0, .v (.pointer none)]]) y):Is G (.sl ((afa []).map eZ)) y:=by
 obtain⟨s,x,es,rfl,h1,h2⟩:=adl.1 h
 obtain⟨v,m,rfl,k,h3⟩:=aab.1 h2
 cases aaH.1 h3
 refine adl.2 ⟨s,x,_,rfl,h1, .cons ?_ .nil⟩
 obtain⟨m4,rfl,g4⟩:=abD.1 k
 obtain⟨v1,m1,rfl,k1,g1⟩:=aab.1 g4
 obtain⟨v2,m2,rfl,k2,g2⟩:=aab.1 g1
 obtain⟨v3,m3,rfl,k3,g3⟩:=aab.1 g2
 obtain⟨m5,q5,g5⟩:=abD.1 (aDf _ _ (abD.2 ⟨m3,rfl,g3⟩))
 cases q5
 exact abD.2 ⟨_,rfl, .cons k1 (.cons k2 (.cons k3 g5))⟩
theorem at0{ds:List PtQ}{k:Nat}{u w:PtQ}(h1:ds[k]? =some u)(h2:ds[(k+1)%ds.length]? =some w):aru ds k=if 0<Int.sign (u.cross w).num then u.add w else ae9 u:=by
 unfold aru
 rw[aK,aK,h1,h2];rfl
theorem am8(ds:List PtQ)(k:Nat):(List.range (k+1)).map (aru ds)=(List.range k).map (aru ds)++[aru ds k]:=by rw[List.range_succ,bK];rfl
theorem azV:PF GB prog 149 [.sl []] (.sl ((afa []).map eZ)):=by
 refine fn (fu:=⟨10⟩) func149 J J ntmps149 J J (fun C=>?_)
 refine knT rfl (by rfl) rfl<|cl rfl (aj1 (by omega)) rfl<|rf J J<|?_
 exact rzI rfl aEt
theorem aAa{ds:List PtQ}{i:Nat}(h0:0<ds.length)(hb: ∀d∈ds,BPt d i)(hn:ds.length≤10000000)(hi:i≤1000000:=by decide):PF GB prog 149 [.sl (ds.map eZ)] (.sl ((afa ds).map eZ)):=by
 have hml:(ds.map eZ).length=ds.length:=aJ ..
 refine fn (fu:=⟨10⟩) func149 J J ntmps149 J J (fun C=>?_)
 refine eqF 8 (.d (vI (ds.length:Nat))) rfl (by rw[hml]<;>rfl) ?_
 refine gx (fu:=⟨0⟩) rfl<|knF (fu:=⟨15⟩) rfl (by show some (decide _)=some false;rw[decide_eq_false (by omega)]) rfl<|?_
 refine eqF 14 (.d (vI (ds.length:Nat))) rfl (by rw[hml]<;>rfl) ?_
 refine gx rfl<|?_
 refine nr 3 3 104 6 J J J ?_
 refine lp (X:=List PtQ×Nat) (fun⟨acc,k⟩=>[(15, .d (vI (k:Nat))),(3, .rw 3)]) (fun⟨acc,k⟩=>[(3,some (.b 104 6 (acc.map eZ) true))]) (fun⟨acc,k⟩=>acc=(List.range k).map (aru ds)∧k≤ds.length) (fun⟨acc,k⟩=>ds.length-k) ⟨[],0⟩ rfl ⟨rfl,bX _⟩ (fun _=>rfl) (fun⟨acc,k⟩ hk=>?_)
 try dsimp only at hk⊢
 obtain⟨h1,h2⟩:=hk
 have hal:acc.length=k:=by rw[h1,aJ,qR]
 have ham:(acc.map eZ).length=acc.length:=aJ ..
 refine br J J J (fun hc16=>?_) (fun hc16=>?_)
 ·
  obtain⟨u,hx⟩: ∃u,ds[k]? =some u:=⟨_,aZ (by omega)⟩
  obtain⟨w,hw⟩: ∃w,ds[(k+1)%ds.length]? =some w:=⟨_,aZ (dX _ (by omega))⟩
  haveI:=hb u (bQ hx)
  haveI:=hb w (bQ hw)
  refine ix (fu:=⟨13⟩) _ rfl (aav hx) rfl<|?_
  refine eqF 24 (.d (vI (ds.length:Nat))) rfl (by rw[hml]<;>rfl) ?_
  refine gx (fu:=⟨1⟩) rfl<|?_
  refine eqF 25 (.d (vI (((k+1)%ds.length:Nat):Int))) J J ?_
  refine gx rfl<|ix _ rfl (aav hw) rfl<|cl rfl (aqz (p:=u) (q:=w) (by omega) (by omega)) rfl<|cl rfl (acY (q:=u.cross w) (by omega)) rfl<|?_
  refine br J J J (fun hc32=>?_) (fun hc32=>?_)
  ·
   refine cl rfl (axU (p:=u) (q:=w) (by omega) (by omega)) rfl<|rf J J<|ap ((acc++[u.add w]).map eZ) rfl (by rw[bK]<;>rfl) (asP [u.add w]) rfl<|?_
   refine rnE 38 3 rfl ?_
   exact at_ ⟨acc++[u.add w],k+1⟩ (by dsimp only;exact⟨⟨by rw[am8,at0 hx hw,if_pos hc32,←h1],by omega⟩,(by omega)⟩)
  ·
   refine cl rfl (aAt (p:=u) (by omega)) rfl<|rf J J<|ap ((acc++[ae9 u]).map eZ) rfl (by rw[bK]<;>rfl) (asP [ae9 u]) rfl<|?_
   refine rnE 43 3 rfl ?_
   exact at_ ⟨acc++[ae9 u],k+1⟩ (by dsimp only;exact⟨⟨by rw[am8,at0 hx hw,if_neg hc32,←h1],by omega⟩,(by omega)⟩)
 ·
  obtain rfl:k=ds.length:=by omega
  have hS:afa ds=acc:=by unfold afa;rw[if_neg (by omega),h1]
  refine fzE 3 rfl ?_
  exact rz rfl (by rw[hS];rfl)
theorem auT{ds:List PtQ}{i:Nat}(hb: ∀d∈ds,BPt d i)(hn:ds.length≤10000000)(hi:i≤1000000:=by decide):PF GB prog 149 [.sl (ds.map eZ)] (.sl ((afa ds).map eZ)):=by
 cases ds with
 |nil=>exact azV
 |cons d ds=>exact aAa (i:=i) (Nat.zero_lt_succ _) hb hn hi
def PW(GB:Gh)(P:Program)(f:FuncId)(l:List (Option DV))(s:Nat)(ty:TypeId)(dsi:List DV)(rv:DV)(dso:List DV):Prop:=
 ∀G w vs B,GLe GB G→abb G ⟨w,s,ty,dsi,false⟩ B→IsLs G (mkB l w) vs→FnO P f vs B G (fun v own' G'=>Is G' rv v∧abb G' ⟨w,s,ty,dso,false⟩ own')
theorem axg{B:List Own}{G:Gh}{w:SV}{s:Nat}{ty:TypeId}{ds:List DV}{lo:Bool}{ov:List Own}(h:abb G ⟨w,s,ty,ds,lo⟩ B)(g: ∀o∈B,o∈ov): ∃rest,ov.Perm (B++rest)∧ ∀o∈ov,(∀o'∈B,o.b≠o'.b)→o∈rest:=by
 rcases h with⟨vs',⟨_,_,e⟩|⟨b0,r0,lo0,_,e,_⟩,_⟩
 ·rw[e];exact⟨ov,List.Perm.refl _,fun o ho _=>ho⟩
 ·rw[e] at g⊢
  obtain⟨l1,l2,e2⟩:=kJ (g _ aQ)
  rw[e2]
  refine⟨l1++l2,lM,fun o ho hno=>?_⟩
  rcases bV.1 ho with ho|ho
  ·exact bN _ ho
  ·rcases aT.1 ho with rfl|ho
   ·exact absurd rfl (hno _ aQ)
   ·exact cJ _ ho
section
variable {GB:Gh} {C:Ctx} {n:Nat} {Q0:Exit→Act→World→Prop} {fr fr':FrX} {own own':OwX} {cf cf':Cf} {vc:List Prop} {lk:LK} {bk:BM}
variable {dst:Option Nat} {t t' ty':TypeId} {pos:String} {af:Array Edge} {gd:Option (Nat×Bool)} {x y:Operand}
theorem avf{fo:Operand}{args:Array Operand}{tys:Array TypeId}{f:FuncId}{nm:Nat}{l:List (Option DV)}{s:Nat}{ty0:TypeId}{dsi dso:List DV}{lo:Bool}{rv:DV}
  (ha:anA lk fo args=some (f,nm,l))(hb:bk nm=some (.b ty0 s dsi lo))(hF:PW GB prog f l s ty0 dsi rv dso):OpR prog GB C n lk bk ⟨dst, .call ⟨.value fo,args,tys⟩,ty',pos,af,gd⟩ (.d rv) [(nm,some (.b ty0 s dso lo))] []:=by
 intro hd tl tb K' s1 s2 hf hk
 refine⟨fun ρ G ov a w r Q=>?_⟩
 have r1:=r.mono s1 s2
 unfold anA at ha
 split at ha<;>try (cases ha;done)
 rename_i h1
 split at ha<;>cases ha
 rename_i h2
 obtain⟨y,hy,hy'⟩:=r1.ev h1
 rw[(aaP (G:=G)).1 hy'] at hy
 obtain⟨B,g1,g2⟩:=r1.bx _ _ hb
 have hB:abb G ⟨ρ nm,s,ty0,dsi,lo⟩ B:=g1
 obtain⟨vs,h7,h8⟩:=ajh r1 (z:=ρ nm) h2 (fun nm e=>by cases e;rfl)
 obtain⟨rest,h5,h6⟩:=axg hB g2
 refine ad3 (M:=B) (rest:=rest) hy h7 h5 (hF G (ρ nm) vs B r.gb hB.weak h8) hd (fun v own1 G' hG hK a' w' rl=>?_) a w Q ⟨r.h,r.sz,aaQ a,r.df⟩
 obtain⟨hr,vs',k1,k2,k3,k4⟩:=hK
 have k1':=k1.relo (flM B)
 have e2:lo=true→ ∀o∈own1.map (relo (flM B)),o.lo=true:=fun hl o ho=>by
  obtain⟨o',_,rfl⟩:=bR.1 ho
  obtain⟨_,_,_,_,hlo⟩:=hB
  exact ahc _ (hlo hl)
 generalize own1.map (relo (flM B))=B' at rl e2 k1'
 have r2:=r.upB (G':=G') (ov':=B'++rest) (w':=w') (B':= .b ty0 s dso lo) (os:=B') hG.le rl.h ⟨vs',by simpa using k1',k2,k3,e2⟩ (fun o ho=>bN _ ho)
  (fun o ho hne=>cJ _ (h6 o ho fun o' ho' he=>hne (by rw[g1.blk ho',he]))) ⟨_,s2 _ _ hb⟩
 exact hk.run _ G' _ a' w' (r2.put hr (abg rl))
def aFY(fr:FrX)(own:OwX)(cf:Cf):Option (FuncId×Nat×List (Option DV)×TypeId×Nat×List DV×Bool):=match opC fr cf with
 |some ⟨_, .call ⟨.value fo,args,_⟩,_,_,_,_⟩=>match anA (lkC fr cf) fo args with
  |some (f,nm,l)=>match bkC fr own cf nm with
   |some (.b ty s ds lo)=>some (f,nm,l,ty,s,ds,lo)
   |_=>none
  |none=>none
 |_=>none
theorem cw[fu:Fu]{f:FuncId}{nm:Nat}{l:List (Option DV)}{ty:TypeId}{s:Nat}{dsi dso:List DV}{lo:Bool}{rv:DV}(dso':List DV)(ha:aFY fr own cf=some (f,nm,l,ty,s,dsi,lo))(hF:PW GB prog f l s ty dsi rv dso)(he:dso=dso')
  (hgo:goA tt n fu.n fr own cf (.d rv) [(nm,some (.b ty s dso' lo))] []=⟨vc,fr',own',cf'⟩)(k:CfS prog GB C n Q0 fr' own' cf')
  (hv:aai vc:=by first|exact trivial|(simp only[aai];kernel_rfl)|(simp only[aai];omega)|(simp only[aai,aJ,aS,aW];omega)):CfS prog GB C n Q0 fr own cf:=by
 subst he
 unfold aFY at ha
 split at ha<;>try (cases ha;done)
 rename_i hh
 split at ha<;>try (cases ha;done)
 rename_i h1
 split at ha<;>cases ha
 rename_i h2
 exact us hh (avf h1 h2 hF) hgo hv k
/-! slices of a row -/
theorem ax3{G:Gh}{w:SV}{s:Nat}{ty:TypeId}{ds:List DV}{lo:Bool}{B:List Own}(h:abb G ⟨w,s,ty,ds,lo⟩ B)(hn:0<ds.length): ∃b,w=⟨some ⟨b,0,none⟩,ds.length,w.c⟩∧ds.length≤w.c:=by
 obtain⟨vs,h1,h2,_⟩:=h
 rcases h1 with⟨e1,_,_⟩|⟨b,rest,lo',e1,_,_,_,h5⟩
 ·subst e1;have:=h2.len;simp at this;omega
 ·exact⟨b,by rw[←h2.len];exact e1,by rw[←h2.len];exact h5⟩
theorem aCA{P:Program}{e s by_:Nat}[hT:acz P t e s by_]{nm:Nat}{k:IntKind}{j m:Nat}{ty:TypeId}{ds:List DV}{lo:Bool}(hx:evX lk x=some (.rw nm))(hb:bk nm=some (.b ty s ds lo))(hy:evX lk y=some (.d (.v (.int k j))))(hm:j+m=ds.length)(h1:0<m):
  OpR P GB C n lk bk ⟨dst, .slice t x (some y) none none,ty',pos,af,gd⟩ (.rs nm s j m) [] []:= .yd fun ρ G ov a w r=>by
 obtain⟨u,hu,hu2⟩:=r.ev hx
 cases (show u=_ from hu2)
 obtain⟨v,hv,hv2⟩:=r.ev hy
 rw[aaw] at hv2;subst hv2
 obtain⟨B,hB,_⟩:=r.row (y:= .nilFunc) hb
 obtain⟨b,hw,hc⟩:=ax3 hB (by omega)
 rw[hw] at hu
 have hs:=ae4 (P:=P) (C:=C) (own:=ov) (G:=G) (dst:=dst) (ty':=ty') (pos:=pos) (af:=af) (gd:=gd) (t:=t) hu hv (by omega) (by show(j:Int)≤(ds.length:Nat);omega)
 have hne:(ρ nm).c≠j:=by omega
 refine⟨_,⟨b,(ρ nm).c-j,by rw[hw],?_,?_⟩,hs⟩
 ·unfold aoH
  rw[aL,if_neg hne,jK,acu,dK,show ds.length-j=m by omega]
 ·omega
theorem aBU{P:Program}{e s by_:Nat}[hT:acz P t e s by_]{nm sz off m:Nat}(hx:evX lk x=some (.rs nm sz off m)):OpR P GB C n lk bk ⟨dst, .call ⟨.builtin .len, #[x], #[t]⟩,ty',pos,af,gd⟩ (.d (.v (.int .i64 (m:Nat)))) [] []:= .x1 hx fun ρ G ov a w y _ r h1 h2=>by
 obtain⟨b,c,_,rfl,_⟩:=h2
 exact⟨_,aaw.2 rfl,aer h1⟩
theorem aBN{P:Program}{e s by_:Nat}[hT:acz P t e s by_]{nm off m j:Nat}{k:IntKind}{i:Int}(hx:evX lk x=some (.rs nm s off m))(hy:evX lk y=some (.d (.v (.int k i))))(h0:0≤i)(h1:i<(m:Nat))(hj:(off:Int)+i=(j:Nat)):
  OpR P GB C n lk bk ⟨dst, .indexAddr t x y,ty',pos,af,gd⟩ (.be nm s j 0) [] []:= .yd fun ρ G ov a w r=>by
 obtain⟨u,hu,hu2⟩:=r.ev hx
 obtain⟨b,c,hb,rfl,hc⟩:=hu2
 obtain⟨v,hv,hv2⟩:=r.ev hy
 rw[aaw] at hv2;subst hv2
 have:=ahf (P:=P) (C:=C) (own:=ov) (G:=G) (dst:=dst) (ty':=ty') (pos:=pos) (af:=af) (gd:=gd) (t:=t) hu hv h0 h1
 obtain rfl:off+i.toNat=j:=by omega
 exact⟨_,⟨b,hb,rfl⟩,by rw[dY,cW];exact this⟩
def aFv(fr:FrX)(own:OwX)(cf:Cf):Option (Nat×Nat×List DV×Int):=match opC fr cf with
 |some ⟨_, .slice t x (some y) none none,_,_,_,_⟩=>match abi tt t with
  |some ⟨.sl _ s' _,_,_,_⟩=>match evX (lkC fr cf) x with
   |some (.rw nm)=>match bkC fr own cf nm with
    |some (.b _ s ds _)=>match evX (lkC fr cf) y with
     |some (.d (.v (.int _ i)))=>bif Nat.beq s s' then some (nm,s,ds,i) else none
     |_=>none
    |_=>none
   |_=>none
  |_=>none
 |_=>none
theorem rsl[fu:Fu]{nm s:Nat}{ds:List DV}{i:Int}(k m:Nat)(h:aFv fr own cf=some (nm,s,ds,i))(hi:i=(k:Nat))(hm:k+m=ds.length)(hp:0<m)(hgo:goA tt n fu.n fr own cf (.rs nm s k m) [] []=⟨vc,fr',own',cf'⟩)(kk:CfS prog GB C n Q0 fr' own' cf')
  (hv:aai vc:=by first|exact trivial|(simp only[aai];kernel_rfl)|(simp only[aai];omega)|(simp only[aai,aJ,aS,aW];omega)):CfS prog GB C n Q0 fr own cf:=by
 subst hi
 unfold aFv at h
 split at h<;>try (cases h;done)
 rename_i hh
 split at h<;>try (cases h;done)
 rename_i hT
 split at h<;>try (cases h;done)
 rename_i hx
 split at h<;>try (cases h;done)
 rename_i hb
 split at h<;>try (cases h;done)
 rename_i hy
 rw[cond_eq_ite] at h
 split at h<;>cases h
 rename_i hq
 cases aU hq
 have:=aeb (abK _ _ hT) rfl
 exact us hh (aCA hx hb hy hm hp) hgo hv kk
def aFZ(fr:FrX)(cf:Cf):Option Nat:=match opC fr cf with
 |some ⟨_, .call ⟨.builtin .len,⟨[x]⟩,⟨[t]⟩⟩,_,_,_,_⟩=>match abi tt t with
  |some ⟨.sl _ _ _,_,_,_⟩=>match evX (lkC fr cf) x with
   |some (.rs _ _ _ m)=>some m
   |_=>none
  |_=>none
 |_=>none
theorem rsn[fu:Fu]{m:Nat}(h:aFZ fr cf=some m)(hgo:goA tt n fu.n fr own cf (.d (.v (.int .i64 (m:Nat)))) [] []=⟨vc,fr',own',cf'⟩)(kk:CfS prog GB C n Q0 fr' own' cf')
  (hv:aai vc:=by first|exact trivial|(simp only[aai];kernel_rfl)|(simp only[aai];omega)|(simp only[aai,aJ,aS,aW];omega)):CfS prog GB C n Q0 fr own cf:=by
 unfold aFZ at h
 split at h<;>try (cases h;done)
 rename_i hh
 split at h<;>try (cases h;done)
 rename_i hT
 split at h<;>cases h
 rename_i hx
 have:=aeb (abK _ _ hT) rfl
 exact us hh (aBU hx) hgo hv kk
def aF6(fr:FrX)(cf:Cf):Option (Nat×Nat×Nat×Nat×Int):=match opC fr cf with
 |some ⟨_, .indexAddr t x y,_,_,_,_⟩=>match abi tt t with
  |some ⟨.sl _ s' _,_,_,_⟩=>match evX (lkC fr cf) x with
   |some (.rs nm s off m)=>match evX (lkC fr cf) y with
    |some (.d (.v (.int _ i)))=>bif Nat.beq s s' then some (nm,s,off,m,i) else none
    |_=>none
   |_=>none
  |_=>none
 |_=>none
theorem rsi[fu:Fu]{nm s off m:Nat}{i:Int}(k:Nat)(h:aF6 fr cf=some (nm,s,off,m,i))(hk:(off:Int)+i=(k:Nat))(h0:0≤i)(h1:i<(m:Nat))(hgo:goA tt n fu.n fr own cf (.be nm s k 0) [] []=⟨vc,fr',own',cf'⟩)(kk:CfS prog GB C n Q0 fr' own' cf')
  (hv:aai vc:=by first|exact trivial|(simp only[aai];kernel_rfl)|(simp only[aai];omega)|(simp only[aai,aJ,aS,aW];omega)):CfS prog GB C n Q0 fr own cf:=by
 unfold aF6 at h
 split at h<;>try (cases h;done)
 rename_i hh
 split at h<;>try (cases h;done)
 rename_i hT
 split at h<;>try (cases h;done)
 rename_i hx
 split at h<;>try (cases h;done)
 rename_i hy
 rw[cond_eq_ite] at h
 split at h<;>cases h
 rename_i hq
 cases aU hq
 have:=aeb (abK _ _ hT) rfl
 exact us hh (aBN hx hy h0 h1 hk) hgo hv kk
/-! a row cut short, under a new name -/
theorem Buf.cut{s:Nat}{ty:TypeId}{z:SV}{vs:List Value}{B:List Own}(h:Buf s ty z vs B)(hs: ∀v∈vs,(aae v).length=s){k:Nat}(hk:k≤vs.length)(hne:0<vs.length):Buf s ty ⟨z.a,k,z.c⟩ (vs.take k) B:=by
 rcases h with⟨h1,_,_⟩|⟨b,rest,lo,h1,h2,h3,h4,h5⟩
 ·subst h1;simp at hne
 ·have e:aag vs=aag (vs.take k)++aag (vs.drop k):=by rw[←abf,jR]
  have hl:=aao (vs.take k) fun v hv=>hs v (cM hv)
  have hm:(vs.take k).length=k:=by rw[cK];omega
  refine .inr ⟨b,aag (vs.drop k)++rest,lo,by rw[hm,h1],by rw[h2,e,cR],hl,?_,by rw[hm];show k≤z.c;omega⟩
  show _=z.c*s
  rw[←h4,e,aV,aV];omega
theorem aBv{P:Program}{e s by_:Nat}[hT:acz P t e s by_]{nm d:Nat}{k:IntKind}{j:Nat}{ty:TypeId}{ds:List DV}{lo:Bool}(hne:Nat.beq nm d=false)(hx:evX lk x=some (.rw nm))(hb:bk nm=some (.b ty s ds lo))(hy:evX lk y=some (.d (.v (.int k j))))(h1:j<ds.length):
  OpR P GB C n lk bk ⟨some d, .slice t x none (some y) none,ty',pos,af,gd⟩ (.rw d) [(nm,none),(d,some (.b ty s (ds.take j) lo))] [d]:=by
 intro hd tl tb K s1 s2 hf hk
 refine⟨fun ρ G ov a w r Q=>?_⟩
 have r1:=r.mono s1 s2
 obtain⟨u,hu,hu2⟩:=r1.ev hx
 cases (show u=_ from hu2)
 obtain⟨v,hv,hv2⟩:=r1.ev hy
 rw[aaw] at hv2;subst hv2
 obtain⟨B,hB0,hBo⟩:=r1.bx _ _ hb
 have hB:abb G ⟨ρ nm,s,ty,ds,lo⟩ B:=hB0
 obtain⟨b,hw,hc⟩:=ax3 hB (by omega)
 obtain⟨vs,g1,g2,g3,g4⟩:=hB
 have hvl:=g2.len
 have hcut:abb G ⟨⟨(ρ nm).a,j,(ρ nm).c⟩,s,ty,ds.take j,lo⟩ B:=⟨vs.take j,Buf.cut g1 g3 (by simp only at hvl⊢;omega) (by simp only at hvl⊢;omega),g2.take _,fun v hv=>g3 v (cM hv),g4⟩
 have hs:=acw (P:=P) (C:=C) (own:=ov) (G:=G) (dst:=some d) (ty':=ty') (pos:=pos) (af:=af) (gd:=gd) (t:=t) hu hv (by omega) (by omega)
 have hnn:nm≠d:=fun e=>by subst e;rw[mM] at hne;cases hne
 have r2:=r.dropB nm
 have hf2:acN [d] (some d) tl (Sx.upB tb [(nm,none)]):=fun q hq=>by
  obtain⟨f1,f2⟩:=hf q hq
  refine⟨f1,fun k B e1 e=>?_⟩
  simp only[Sx.upB] at e
  split at e
  ·cases e
  ·exact f2 k B e1 e
 have r3:=r2.new' (x:=⟨(ρ nm).a,j,(ρ nm).c⟩) (B':= .b ty s (ds.take j) lo) (os:=B) (ov':=ov) (f:= .rw d) (y:= .slice (ρ nm).a j (ρ nm).c) hf2 (GLe.refl _) r.h (hcut.toBk (by simp)) hBo
  (fun m B' hm e o ho hmo=>⟨ho,fun hc=>by
   simp only[Sx.upB] at e
   split at e
   ·cases e
   ·rename_i hmn
    exact r.dj m nm B' _ e (s2 _ _ hb) hmn _ hmo hc⟩) (by simp[IsX]) (r.putA (.slice (ρ nm).a j (ρ nm).c) hd)
 exact aba (hs a w (aaQ a) r.h) (hk.run _ G _ _ w r3)
def aF0(fr:FrX)(own:OwX)(cf:Cf):Option (Nat×Nat×TypeId×Nat×List DV×Bool×Int):=match opC fr cf with
 |some ⟨some d, .slice t x none (some y) none,_,_,_,_⟩=>match abi tt t with
  |some ⟨.sl _ s' _,_,_,_⟩=>match evX (lkC fr cf) x with
   |some (.rw nm)=>match bkC fr own cf nm with
    |some (.b ty s ds lo)=>match evX (lkC fr cf) y with
     |some (.d (.v (.int _ i)))=>bif Nat.beq s s'&&!Nat.beq nm d then some (d,nm,ty,s,ds,lo,i) else none
     |_=>none
    |_=>none
   |_=>none
  |_=>none
 |_=>none
theorem rct[fu:Fu]{d nm s:Nat}{ty:TypeId}{ds:List DV}{lo:Bool}{i:Int}(ds':List DV)(k:Nat)(h:aF0 fr own cf=some (d,nm,ty,s,ds,lo,i))(hi:i=(k:Nat))(hl:k<ds.length)(hd:ds.take k=ds')(hgo:goA tt n fu.n fr own cf (.rw d) [(nm,none),(d,some (.b ty s ds' lo))] [d]=⟨vc,fr',own',cf'⟩)(kk:CfS prog GB C n Q0 fr' own' cf')
  (hv:aai vc:=by first|exact trivial|(simp only[aai];kernel_rfl)|(simp only[aai];omega)|(simp only[aai,aJ,aS,aW];omega)):CfS prog GB C n Q0 fr own cf:=by
 subst hi hd
 unfold aF0 at h
 split at h<;>try (cases h;done)
 rename_i hh
 split at h<;>try (cases h;done)
 rename_i hT
 split at h<;>try (cases h;done)
 rename_i hx
 split at h<;>try (cases h;done)
 rename_i hb
 split at h<;>try (cases h;done)
 rename_i hy
 rw[cond_eq_ite] at h
 split at h<;>cases h
 rename_i hq
 simp only[cZ,gX] at hq
 cases aU hq.1
 have:=aeb (abK _ _ hT) rfl
 exact us hh (aBv hq.2 hx hb hy hl) hgo hv kk
/-! the rest of a row cleared -/
theorem amB(v:Value)(m:Nat):aag (List.replicate m v)=aa2 v m:=by
 unfold aa2
 induction m with
 |zero=>rfl
 |succ m ih=>rw[iK,iK,kV,←ih];rfl
theorem aqs{G:Gh}{z:DV}{v:Value}(h:Is G z v): ∀m:Nat,IsLs G (List.replicate m z) (List.replicate m v)
 |0=> .nil
 |m+1=>by rw[iK,iK];exact .cons h (aqs h m)
theorem aBP{P:Program}{e s by_:Nat}[hT:acz P t e s by_]{i:TI}{z:DV}(hi:afo P e=some i)(hz:zeE i=some z)(hzs:z.cells.length=s){nm off m:Nat}{ty:TypeId}{ds:List DV}{lo:Bool}(hx:evX lk x=some (.rs nm s off (m+1)))(hb:bk nm=some (.b ty s ds lo))(hm:off+(m+1)=ds.length):
  OpR P GB C n lk bk ⟨dst, .call ⟨.builtin .clear, #[x], #[t]⟩,ty',pos,af,gd⟩ (.d (.tp [])) [(nm,some (.b ty s (ds.take off++List.replicate (m+1) z) lo))] []:=by
 intro hd tl tb K s1 s2 hf hk
 refine⟨fun ρ G ov a w r Q=>?_⟩
 have r1:=r.mono s1 s2
 obtain⟨v,hz1,hz2,hz3⟩:=ajQ hi hz
 have cz:=((hz2 G).cells hz3).1.len
 have cf:=((hz2 G).cells hz3).2
 rw[hzs] at cz
 obtain⟨u,hu,b,c,hbq,rfl,hc⟩:=r1.ev hx
 obtain⟨B,hB0,hBo⟩:=r1.bx _ _ hb
 have hB:abb G ⟨ρ nm,s,ty,ds,lo⟩ B:=hB0
 obtain⟨vs,g1,g2,g3,g4⟩:=hB
 simp only at g1 g2 g3 g4
 have hvl:=g2.len
 rcases g1 with⟨e1,e2,_⟩|⟨b',rest,lo',k1,k2,k3,k4,k5⟩
 ·subst e1;simp at hvl;omega
 ·have hbe:b'=b:=by rw[k1] at hbq;cases hbq;rfl
  subst hbe
  subst k2
  have hmem:=hBo _ aQ
  have hblk:=(r.h.hown _ hmem).1
  simp only at hblk
  have hzl:(aa2 v (m+1)).length=(m+1)*s:=by rw[abu,cz]
  have hls:vs.length*s=off*s+(m+1)*s:=by rw[←cW];congr 1;omega
  have hst:=abS (P:=P) (aa2 v (m+1)) w (off*s) 0 (aag vs++rest) (fun q hq=>by
   unfold aa2 at hq
   obtain⟨l,hl,hql⟩:=List.mem_flatten.1 hq
   rw[lQ hl] at hql
   exact cf q hql) hblk (by rw[hzl,aV];omega)
  rw[dY] at hst
  have htk:=aao (vs.take off) fun q hq=>g3 q (cM hq)
  have hov:ovw (aag vs++rest) (off*s) (aa2 v (m+1))=aag (vs.take off++List.replicate (m+1) v)++rest:=by
   rw[acs _ _ _ (by rw[hzl,aV];omega),abf,amB]
   have e1:(aag vs++rest).take (off*s)=aag (vs.take off):=by
    rw[dW (by omega),afS vs off g3 (by omega)]
   rw[e1,hzl,←hls,iR (by omega),fL (by omega),iS]
  have hrun:(Builtin.clear_ #[t] ty' #[.slice (some ⟨b',off*s,none⟩) (m+1) c]).run P w= .ok (.tuple #[]) (abx w b' (.cells ⟨aag (vs.take off++List.replicate (m+1) v)++rest⟩ ty (0,0))):=by
   unfold Builtin.clear_
   show(underlying t>>=_).run P w=_
   rw[aaa (hT.u w)]
   show(zeroValue e>>=fun q=>storeCells ⟨b',off*s,none⟩ (Builtin.zeroCells q.cells (m+1)).toList>>=fun _=>pure (Value.tuple #[])).run P w=_
   rw[aaa (hz1.zero w)]
   show(storeCells ⟨b',off*s,none⟩ (Builtin.zeroCells v.cells (m+1)).toList>>=fun _=>pure (Value.tuple #[])).run P w=_
   rw[act,agB,aaa (hov▸hst)];rfl
  obtain⟨own',u1,u2,u3⟩:=agp.of_mem (cs':=aag (vs.take off++List.replicate (m+1) v)++rest) hmem
  have r2:=r.upB (G':=G) (ov':=own') (w':=abx w b' (.cells ⟨aag (vs.take off++List.replicate (m+1) v)++rest⟩ ty (0,0))) (B':= .b ty s (ds.take off++List.replicate (m+1) z) lo) (os:=[⟨b',aag (vs.take off++List.replicate (m+1) v)++rest,ty,lo'⟩]) (GLe.refl _) (r.h.store u1)
   ⟨vs.take off++List.replicate (m+1) v, .inr ⟨b',rest,lo',?_,rfl,?_,?_,?_⟩,(g2.take _).app (aqs (hz2 G) _),?_,?_⟩ (fun o ho=>by rw[aR.1 ho];exact u2) (fun o ho hne=>u3 o ho fun e=>hne (by rw[hbq,e])) ⟨_,s2 _ _ hb⟩
  ·have h3:=hk.run _ G _ _ _ (r2.put (f:= .d (.tp [])) (y:= .tuple #[]) (adQ.2 ⟨[],rfl, .nil⟩) (r2.putA (.tuple #[]) hd))
   refine aba (v:= .tuple #[]) ?_ h3
   simp only[execOp,resolve,fR,bY,gW,aac (aaQ a) hu]
   exact aam hrun
  ·rw[k1,aV,cK,aW,fT (by omega)]
   simp only[SV.mk.injEq,true_and,and_true];omega
  ·refine aao _ fun q hq=>?_
   rcases bV.1 hq with hq|hq
   ·exact g3 q (cM hq)
   ·rw[lQ hq,cz]
  ·rw[abf,amB,aV,htk,hzl,cK,fT (by omega)]
   omega
  ·rw[aV,cK,aW,fT (by omega)];omega
  ·intro q hq
   rcases bV.1 hq with hq|hq
   ·exact g3 q (cM hq)
   ·rw[lQ hq,cz]
  ·intro hl o ho
   have:=g4 hl _ aQ
   rw[aR.1 ho];exact this
def aFU(fr:FrX)(own:OwX)(cf:Cf):Option (Nat×TypeId×Nat×List DV×Bool×Nat×Nat×DV):=match opC fr cf with
 |some ⟨_, .call ⟨.builtin .clear,⟨[x]⟩,⟨[t]⟩⟩,_,_,_,_⟩=>match abi tt t with
  |some ⟨.sl e s' _,_,_,_⟩=>match evX (lkC fr cf) x with
   |some (.rs nm s off m)=>match bkC fr own cf nm with
    |some (.b ty s2 ds lo)=>match abi tt e with
     |some i=>match zeE i with
      |some z=>bif Nat.beq s s'&&(Nat.beq s s2&&Nat.beq z.cells.length s) then some (nm,ty,s,ds,lo,off,m,z) else none
      |none=>none
     |none=>none
    |_=>none
   |_=>none
  |_=>none
 |_=>none
theorem rcl[fu:Fu]{nm s off m:Nat}{ty:TypeId}{ds:List DV}{lo:Bool}{z:DV}(ds':List DV)(h:aFU fr own cf=some (nm,ty,s,ds,lo,off,m,z))(hm:off+m=ds.length)(hp:0<m)(hd:ds.take off++List.replicate m z=ds')(hgo:goA tt n fu.n fr own cf (.d (.tp [])) [(nm,some (.b ty s ds' lo))] []=⟨vc,fr',own',cf'⟩)(kk:CfS prog GB C n Q0 fr' own' cf')
  (hv:aai vc:=by first|exact trivial|(simp only[aai];kernel_rfl)|(simp only[aai];omega)|(simp only[aai,aJ,aS,aW];omega)):CfS prog GB C n Q0 fr own cf:=by
 subst hd
 obtain⟨m,rfl⟩: ∃q,m=q+1:=⟨m-1,by omega⟩
 unfold aFU at h
 split at h<;>try (cases h;done)
 rename_i hh
 split at h<;>try (cases h;done)
 rename_i hT
 split at h<;>try (cases h;done)
 rename_i hx
 split at h<;>try (cases h;done)
 rename_i hb
 split at h<;>try (cases h;done)
 rename_i hi
 split at h<;>try (cases h;done)
 rename_i hz
 rw[cond_eq_ite] at h
 split at h<;>cases h
 rename_i hq
 simp only[cZ] at hq
 cases aU hq.1
 cases aU hq.2.1
 have:=aeb (abK _ _ hT) rfl
 exact us hh (aBP (abK _ _ hi) hz (aU hq.2.2) hx hb hm) hgo hv kk
end
theorem arJ{u v:PtQ}{i j:Nat}[hp:BPt u i][hq:BPt v j](hi:i≤10000000:=by decide)(hj:j≤10000000:=by decide):PF GB prog 211 [eZ u,eZ v] (vB (decide (aaE u v=0))):=by
 refine fn func211 J J ntmps211 J J (fun C=>?_)
 refine cl rfl (aox (u:=u) (v:=v) hi hj) rfl<|?_
 exact rz J J
def amb(x:PtQ):List PtQ→List PtQ
 |[]=>[]
 |y::l=>if aaE y x=0 then amb y l else y::amb y l
def aj6:List PtQ→List PtQ
 |[]=>[]
 |x::l=>x::amb x l
theorem ama{l:List PtQ}{k:Nat}{x y:PtQ}(h:l[k]? =some y):amb x (l.drop k)=if aaE y x=0 then amb y (l.drop (k+1)) else y::amb y (l.drop (k+1)):=by
 obtain⟨h1,h2⟩:=aN.1 h
 rw[aM h1,h2,amb]
theorem as7{l:List PtQ}{k:Nat}{y:PtQ}(h:l[k]? =some y):l.take (k+1)=l.take k++[y]:=by
 rw[iU,h];rfl
def vZ:DV:= .ag [vI 0,vI 0, .v (.pointer none),vI 0,vI 0, .v (.pointer none)]
theorem awv(l:List PtQ)(k:Nat)(y:PtQ):(l.map eZ).set k (eZ y)=(l.set k y).map eZ:=(jY ..).symm
theorem aoO{l:List PtQ}(h:l.length<2):aj6 l=l:=by
 cases l with
 |nil=>rfl
 |cons x l=>cases l with
  |nil=>rfl
  |cons y l=>simp at h;omega
theorem aAC{l:List PtQ}{x:PtQ}(h:l[0]? =some x):aj6 l=l.take 1++amb x (l.drop 1):=by
 cases l with
 |nil=>cases h
 |cons y l=>cases h;rfl
theorem asQ{r l:List PtQ}{a b:Nat}(h:a≤b)(e:r.drop a=l.drop a):r[b]? =l[b]? :=by
 have:=congrArg (·[b-a]?) e
 simpa[nL,show a+(b-a)=b by omega] using this
theorem at1{r l:List PtQ}{a b:Nat}(h:a≤b)(e:r.drop a=l.drop a):r.drop b=l.drop b:=by
 have:=congrArg (List.drop (b-a)) e
 simpa[sZ,show a+(b-a)=b by omega] using this
theorem alY{r:List PtQ}{i:Nat}{u:PtQ}(h:i<r.length):(r.set i u).take (i+1)=r.take i++[u]:=by
 rw[iU,lW h,List.take_set_of_le (bZ _)];rfl
theorem auh{r:List PtQ}{i:Nat}(h:i<r.length):(r.map eZ)[(i:Int).toNat]? =some (eZ r[i]):=by simp[h]
theorem atC{l:List PtQ}{i0:Nat}(hb: ∀d∈l,BPt d i0)(hn:l.length≤10000000)(hi:i0≤10000000):PB GB prog 210 (mkB [none,some (.v (.func (.func 211) #[] #[]))]) 6 104 (l.map eZ) (fun w=> .v (.slice w.a w.n w.c)) ((aj6 l).map eZ):=by
 have hml:(l.map eZ).length=l.length:=aJ ..
 refine fnQ (fu:=⟨10⟩) func210 J J ntmps210 J J (fun C=>?_)
 refine eqF 9 (.d (vI (l.length:Nat))) rfl (by rw[hml]<;>rfl) ?_
 refine gx rfl<|?_
 refine br J J J (fun hc10=>?_) (fun hc10=>?_)
 ·
  exact rzQ J J J (by rw[aoO (by omega)])
 ·
  obtain⟨x0,hx0⟩: ∃x,l[0]? =some x:=⟨_,aZ (by omega)⟩
  refine lp (fu:=⟨6⟩) (X:=Nat×PtQ) (fun⟨k,x⟩=>[(5, .d (vI (k:Nat)))]) (fun⟨k,x⟩=>[]) (fun⟨k,x⟩=>1≤k∧k≤l.length∧l[k-1]? =some x∧aj6 l=l.take k++amb x (l.drop k)) (fun⟨k,x⟩=>l.length-k) ⟨1,x0⟩ rfl ⟨bZ _,by omega,hx0,by rw[aAC hx0]⟩ (fun _=>rfl) (fun⟨k,x⟩ hk=>?_)
  try dsimp only at hk⊢
  obtain⟨h1,h2,h3,h4⟩:=hk
  refine eqF 14 (.d (vI (l.length:Nat))) rfl (by rw[hml]<;>rfl) ?_
  refine gx rfl<|?_
  refine br J J J (fun hc15=>?_) (fun hc15=>?_)
  ·
   obtain⟨y,hy⟩: ∃y,l[k]? =some y:=⟨_,aZ (by omega)⟩
   haveI:=hb y (bQ hy)
   haveI:=hb x (bQ h3)
   refine lb (fu:=⟨3⟩) _ rfl (aav hy) rfl<|?_
   refine eqF 25 (.d (vI ((k-1:Nat):Int))) rfl (by rw[Int.ofNat_sub h1]<;>rfl) ?_
   refine gx rfl<|lb (fu:=⟨0⟩) _ rfl (aav h3) rfl<|cl rfl (arJ (u:=y) (v:=x) hi hi) rfl<|?_
   refine bd (fu1:=⟨4⟩) J J J (fun hc28=>?_) (fun hc28=>?_)
   ·
    have hc28':=hc28
    refine rsl k (l.length-k) J J (by omega) (by omega) rfl<|?_
    refine lp (fu:=⟨5⟩) (X:=Nat×Nat×PtQ×List PtQ) (fun⟨i,m,z,r⟩=>[(5, .d (vI (i:Nat))),(7, .d (vI (m:Nat)))]) (fun⟨i,m,z,r⟩=>[(1000000,some (.b 104 6 (r.map eZ) false))]) (fun⟨i,m,z,r⟩=>1≤m∧k+m≤l.length∧i+1≤k+m∧r.length=l.length∧r.drop (k+m-1)=l.drop (k+m-1)∧l[k+m-1]? =some z∧aj6 l=r.take i++amb z (l.drop (k+m))) (fun⟨i,m,z,r⟩=>l.length-m) ⟨k,1,y,l⟩ rfl ⟨bZ _,by omega,by omega,rfl,rfl,by rw[kX];exact hy,by rw[h4,ama hy,if_pos hc28']⟩ (fun _=>rfl) (fun⟨i,m,z,r⟩ hk=>?_)
    try dsimp only at hk⊢
    obtain⟨g1,g2,g3,g4,g5,g6,g7⟩:=hk
    have hrl:(r.map eZ).length=r.length:=aJ ..
    refine rsn J J<|?_
    refine br (fu1:=⟨9⟩) (fu2:=⟨9⟩) J J J (fun hc35=>?_) (fun hc35=>?_)
    ·
     obtain⟨u,hu⟩: ∃u,l[k+m]? =some u:=⟨_,aZ (by omega)⟩
     haveI:=hb u (bQ hu)
     haveI:=hb z (bQ g6)
     have g8:r[k+m]? =some u:=by rw[←hu];exact asQ (by omega) g5
     have g10:r[k+m-1]? =some z:=by rw[←g6];exact asQ (bZ _) g5
     have g9:r.drop (k+m)=l.drop (k+m):=at1 (by omega) g5
     refine rsi (k+m) rfl (by omega) (by omega) (by omega) rfl<|lb (fu:=⟨3⟩) _ rfl (aav g8) rfl<|rsi (k+m-1) rfl (by omega) (by omega) (by omega) rfl<|?_
     refine lb (fu:=⟨0⟩) _ rfl (aav g10) rfl<|cl rfl (arJ (u:=u) (v:=z) hi hi) rfl<|?_
     refine bb (fu1:=⟨6⟩) J J J (fun hc49=>?_) (fun hc49=>?_)
     ·
      have hc49': ¬aaE u z=0:=by simpa using hc49
      refine rsi (k+m) rfl (by omega) (by omega) (by omega) rfl<|lb _ rfl (aav g8) rfl<|sb _ ((r.set i u).map eZ) rfl (auh (by omega)) rfl (by rw[←awv]<;>rfl) rfl<|?_
      exact at_ ⟨i+1,m+1,u,r.set i u⟩ (by dsimp only;exact⟨⟨by omega,by omega,by omega,by rw[aS];exact g4,by rw[show k+(m+1)-1=k+m by omega,pX (by omega)];exact g9,by rw[show k+(m+1)-1=k+m by omega];exact hu,by rw[g7,ama hu,if_neg hc49',alY (by omega),cR];rfl⟩,(by omega)⟩)
     ·
      have hc49':aaE u z=0:=by simpa using hc49
      exact at_ ⟨i,m+1,u,r⟩ (by dsimp only;exact⟨⟨by omega,by omega,by omega,g4,by rw[show k+(m+1)-1=k+m by omega];exact g9,by rw[show k+(m+1)-1=k+m by omega];exact hu,by rw[g7,ama hu,if_pos hc49'];rfl⟩,(by omega)⟩)
    ·
     obtain hm:k+m=l.length:=by omega
     refine rsl i (l.length-i) J J (by omega) (by omega) rfl<|rcl (fu:=⟨6⟩) _ rfl (by rw[hrl];omega) (by omega) J J<|rct ((r.take i).map eZ) i J J (by rw[aV,cK,aW,hrl];omega) (by rw[dW (by rw[cK,hrl];omega),List.take_take,Nat.min_self,fS]) rfl<|?_
     exact rzQ J J J (by rw[g7,hm,fQ,amb,gL])
   ·
    have hc28':=hc28
    exact at_ ⟨k+1,y⟩ (by dsimp only;exact⟨⟨by omega,by omega,hy,by rw[h4,ama hy,if_neg hc28',as7 hy,cR];rfl⟩,(by omega)⟩)
  ·
   exact rzQ J J J (by rw[h4,show k=l.length by omega,fQ,amb,gL,fZ])
theorem avF{v:Value}(h:Go.Sx.flat v=true):v.oneCell'=true:=by cases v<;>first|rfl|cases h
theorem ajj{α:Type}{k:Nat}: ∀(l:List (List α)) (t:Nat),(∀x∈l,x.length=k)→t<l.length*k→l.flatten[t]? =(l[t/k]?).bind (·[t%k]?)
 |[],t,_,h=>by simp at h
 |x::l,t,h,ht=>by
  have hx:=h x aQ
  have hk:0<k:=by
   rcases eK k with e|e
   ·subst e;simp at ht
   ·exact e
  rw[kV]
  by_cases q:t<k
  ·rw[fX (by omega),iM q,eM q];rfl
  ·rw[fV (by omega),hx,ajj l (t-k) (fun y hy=>h y (aX _ hy)) (by rw[bJ,cW] at ht;omega)]
   have e1:t/k=(t-k)/k+1:=by rw[Nat.div_eq_sub_div hk (by omega)]
   have e2:t%k=(t-k)%k:=by rw[Nat.mod_eq_sub_mod (by omega)]
   rw[e1,e2];rfl
section
variable {α:Type} [Inhabited α]
theorem av9(enc:α→List Value)(k:Nat)(hk: ∀x,(enc x).length=k)(d:Array α):(Go.Sort.flatK enc k d).toList=(d.toList.map enc).flatten:=by
 apply jT
 intro t
 have hlen:(d.toList.map enc).flatten.length=d.size*k:=by
  have: ∀l:List α,(l.map enc).flatten.length=l.length*k:=fun l=>by
   induction l with
   |nil=>simp
   |cons x l ih=>rw[bY,kV,aV,ih,hk,bJ,cW];omega
  simpa using this d.toList
 by_cases ht:t<d.size*k
 ·have hk0:0<k:=by
   rcases eK k with e|e
   ·subst e;simp at ht
   ·exact e
  have hi:t/k<d.size:=rV (by rwa [bL])
  rw[ajj (k:=k) _ _ (fun x hx=>by obtain⟨y,_,rfl⟩:=bR.1 hx;exact hk y) (by simpa using ht)]
  simp only[Go.Sort.flatK,rQ,Array.toList_range,dZ]
  rw[rL ht]
  have hj:t%k<(enc d[t/k]).length:=by rw[hk];exact dX _ hk0
  simp only[jK]
  rw[getElem!_pos d (t/k) hi,getElem!_pos (enc d[t/k]) (t%k) hj]
  simp[hi,hj]
 ·rw[cS (by simp[Go.Sort.flatK];omega),cS (by rw[hlen];omega)]
theorem atJ(enc:α→List Value)(k:Nat)(w:World)(b m:Nat)(dk:Array α)(os:Array Obj){q:Nat}(hq:q<w.heap.size):
  (sortWorldK enc k w b 0 m dk os).heap[q]? =if q=b then(w.heap[q]?).map (Go.Sort.onCells (Go.Sort.putCells id 0 (Go.Sort.flatK enc k dk))) else w.heap[q]? :=by
 show((w.heap.modify b _)++os)[q]? =_
 rw[mQ (by simpa using hq),Array.getElem?_modify]
 by_cases e:b=q
 ·subst e;simp
 ·simp[e,Ne.symm e]
theorem asp{F:Array Value}{xs rest:List Value}(h:xs.length=F.size):Go.Sort.putCells id 0 F ⟨xs++rest⟩=⟨F.toList++rest⟩:=by
 apply Array.ext'
 apply jT
 intro k
 simp only[Go.Sort.putCells,Array.toList_mapIdx,List.getElem?_mapIdx]
 by_cases hk:k<F.size
 ·rw[fX (by omega),fX (by simpa using hk),aZ (by omega)]
  simp[hk]
 ·rw[fV (by omega),fV (by simp;omega),h]
  simp only[pJ]
  cases rest[k-F.size]? with
  |none=>rfl
  |some v=>simp[hk]
end
def ary{A:Type}(cf:A→A→Int)(ds:List A):List A:=ds.mergeSort fun x y=>!decide (cf y x<0)
theorem aey{A:Type}(cf:A→A→Int)(ds:List A):(ary cf ds).Perm ds:=List.mergeSort_perm ..
theorem aqK{A:Type}{cf:A→A→Int}(hO:Go.Sort.SWO (Go.Proofs.ltOf cf))(ds:List A):(ary cf ds).Pairwise fun x y=> ¬cf y x<0:=by
 have:=List.pairwise_mergeSort (le:=fun x y=>!decide (cf y x<0)) (fun a b c h1 h2=>by
  have h1':Go.Proofs.ltOf cf b a=false:=by simpa[Go.Proofs.ltOf] using h1
  have h2':Go.Proofs.ltOf cf c b=false:=by simpa[Go.Proofs.ltOf] using h2
  have:=hO.ntrans c b a h2' h1'
  simpa[Go.Proofs.ltOf] using this) (fun a b=>by
  cases h1:Go.Proofs.ltOf cf b a with
  |false=>
   have: ¬cf b a<0:=by simpa[Go.Proofs.ltOf] using h1
   simp;omega
  |true=>
   cases h2:Go.Proofs.ltOf cf a b with
   |false=>
    have: ¬cf a b<0:=by simpa[Go.Proofs.ltOf] using h2
    simp;omega
   |true=>have:=hO.trans _ _ _ h1 h2;rw[hO.irrefl] at this;cases this) ds
 exact this.imp fun h=>by simpa using h
theorem aFd{P:Program}{ρ:Go.Shelf.Ren}{GB:Gh}(L:SlLaysF0.n6 P ρ)(ha:ads P (ρ.f 6)){s:Nat}(hAg: ∀w,(isAgg (ρ.t 24)).run P w= .ok true w)(hZs: ∀w,(sizeOf (ρ.t 24)).run P w= .ok s w)
  {A:Type}(e:A→DV)(V:A→Prop)(hA: ∀x,∃l,e x= .ag l∧(DV.ag l).okc=true∧l.length=s)(cf:A→A→Int)(hO:Go.Sort.SWO (Go.Proofs.ltOf cf)){g:FuncId}(hg:ads P g)
  (hc: ∀x y,V x→V y→PF GB P g [e x,e y] (.v (.int .i64 (cf x y)))){ty:TypeId}{ds:List A}(hV: ∀x∈ds,V x)(hn:ds.length<4611686018427387904)(hu: ∀x∈ds,∀y∈ds,¬cf x y<0→ ¬cf y x<0→x=y):
  PW GB P (ρ.f 6) [none,some (.v (.func (.func g) #[] #[]))] s ty (ds.map e) (.tp []) ((ary cf ds).map e):=by
 intro G z vs B hgb hB hvs
 refine⟨ha,fun w hw=>?_⟩
 obtain⟨v1,m1,rfl,q1,hvs⟩:=aab.1 hvs
 obtain⟨v2,m2,rfl,q2,hvs⟩:=aab.1 hvs
 cases aaH.1 hvs
 rw[aaP] at q1 q2
 subst q1 q2
 obtain⟨es,k1,k2,k3,_⟩:=hB
 simp only at k1 k2 k3
 have hlen:es.length=ds.length:=by rw[k2.len,aJ]
 by_cases h0:ds=[]
 ·subst h0
  have hes:es=[]:=bT (by simpa using hlen)
  have hz:z.n=0:=by rw[k1.len,hes];rfl
  rw[hz]
  refine(AnyF.slices_SortFunc_none L z.a z.c _ w).mono fun r w' ⟨h1,h2⟩=>?_
  subst h2
  exact⟨_,asB B,G,h1,hw,adQ.2 ⟨[],rfl, .nil⟩,es,k1.asB,by subst hes;show IsLs G ((ary cf []).map e) [];unfold ary;rw[List.mergeSort_nil];exact .nil,k3,fun h=>by cases h⟩
 ·have hpos:0<es.length:=by rw[hlen];exact lK.2 h0
  rcases k1 with⟨e1,_,_⟩|⟨b,rest,lo,e1,e2,e3,e4,e5⟩
  ·rw[e1] at hpos;simp at hpos
  subst e2
  -- elements with their cells
  have lift: ∀{ds:List A} {es:List Value},IsLs G (ds.map e) es→(∀x∈ds,V x)→ ∃qs:List {q:A×List Value//V q.1∧Is G (e q.1) (.agg ⟨q.2⟩)},qs.map (·.1.1)=ds∧qs.map (fun q=>Value.agg ⟨q.1.2⟩)=es:=by
   intro ds
   induction ds with
   |nil=>intro es h _;cases aaH.1 h;exact⟨[],rfl,rfl⟩
   |cons x ds ih=>
    intro es h hV
    obtain⟨y,n,rfl,g1,g2⟩:=aab.1 h
    obtain⟨qs,g3,g4⟩:=ih g2 fun x hx=>hV x (aX _ hx)
    obtain⟨l,hl,_⟩:=hA x
    have g1':=g1
    rw[hl] at g1'
    obtain⟨m,rfl,_⟩:=abD.1 g1'
    exact⟨⟨(x,m),hV x aQ,g1⟩::qs,by simp[g3],by simp[g4]⟩
  obtain⟨qs,hq1,hq2⟩:=lift k2 hV
  have:Inhabited {q:A×List Value//V q.1∧Is G (e q.1) (.agg ⟨q.2⟩)}:=⟨qs.head (fun e=>by rw[e] at hq1;exact h0 hq1.symm)⟩
  let enc:{q:A×List Value//V q.1∧Is G (e q.1) (.agg ⟨q.2⟩)}→List Value:=fun q=>q.1.2
  have henc: ∀q,(enc q).length=s∧ ∀v∈enc q,Go.Sx.flat v=true:=fun q=>by
   obtain⟨l,hl,h1,h2⟩:=hA q.1.1
   have h3:=q.2.2
   rw[hl] at h3
   obtain⟨m,hm,h4⟩:=abD.1 h3
   cases hm
   exact⟨by show q.1.2.length=s;rw[h4.len,h2],fun v hv=>h4.flat h1 v hv⟩
  have hk: ∀q,(enc q).length=s:=fun q=>(henc q).1
  have hqs:qs.toArray.size=es.length:=by rw[mT,←hq2,aJ]
  have hfl: ∀d:Array {q:A×List Value//V q.1∧Is G (e q.1) (.agg ⟨q.2⟩)},(Go.Sort.flatK enc s d).toList=aag (d.toList.map fun q=>Value.agg ⟨q.1.2⟩):=fun d=>by
   rw[av9 enc s hk]
   unfold aag
   rw[List.map_map];rfl
  have hfe:(Go.Sort.flatK enc s qs.toArray).toList=aag es:=by rw[hfl,←hq2]
  have hown:=hw.hown ⟨b,aag es++rest,ty,false⟩ aQ
  obtain⟨hb,hGb,_,_⟩:=hown
  simp only at hb hGb
  have hblt:=acX hb
  have hH:Go.Sort.HoldsK enc s w b 0 qs.toArray:=by
   intro j hj
   refine⟨?_,by simp[World.frozen?,hb]⟩
   rw[acT hb,dK]
   have hj':j<(aag es).length:=by rw[←hfe];simpa using hj
   rw[fX hj',←hfe]
   show _=some ((Go.Sort.flatK enc s qs.toArray)[j]!)
   rw[getElem!_pos _ j hj]
   simp
  have hsz: ∀dk:Array {q:A×List Value//V q.1∧Is G (e q.1) (.agg ⟨q.2⟩)},dk.size=qs.toArray.size→(aag es).length=(Go.Sort.flatK enc s dk).size:=fun dk hd=>by rw[←hfe];simp[hd]
  have hblk: ∀(m:Nat) (os:Array Obj) (dk:Array _),dk.size=qs.toArray.size→(sortWorldK enc s w b 0 m dk os).heap[b]? =some (.cells ⟨(Go.Sort.flatK enc s dk).toList++rest⟩ ty (0,0)):=fun m os dk hd=>by
   rw[atJ enc s w b m dk os hblt,if_pos rfl,hb]
   show some (Obj.cells (Go.Sort.putCells id 0 (Go.Sort.flatK enc s dk) ⟨aag es++rest⟩) ty (0,0))=_
   rw[asp (hsz dk hd)]
  have hoth: ∀(m:Nat) (os:Array Obj) (dk:Array _) (q:Nat),q<w.heap.size→q≠b→(sortWorldK enc s w b 0 m dk os).heap[q]? =w.heap[q]? :=fun m os dk q hq hne=>by rw[atJ enc s w b m dk os hq,if_neg hne]
  have hsub: ∀(m:Nat) (os:Array Obj) (dk:Array _) (c:Nat) (cs:List Value),G c=some cs→ ∃ty fz,(sortWorldK enc s w b 0 m dk os).heap[c]? =some (.cells ⟨cs⟩ ty fz):=fun m os dk c cs hcs=>by
   obtain⟨ty',fz,h⟩:=hw.sub c cs hcs
   exact⟨ty',fz,by rw[hoth m os dk c (acX h) (fun e=>by subst e;rw[hGb] at hcs;cases hcs)];exact h⟩
  have hsize: ∀(m:Nat) (os:Array Obj) (dk:Array _),w.heap.size≤(sortWorldK enc s w b 0 m dk os).heap.size:=fun m os dk=>by
   show _≤((w.heap.modify b _)++os).size
   simp
  have hcmp:Go.Proofs.CmpLays P g #[] enc s (fun q r=>cf q.1.1 r.1.1) b 0 qs.toArray.size w:=by
   intro m os dk _ x y
   have hF:=hc x.1.1 y.1.1 x.2.1 y.2.1 G [.agg ⟨x.1.2⟩, .agg ⟨y.1.2⟩] hgb (.cons x.2.2 (.cons y.2.2 .nil))
   refine(hF.run _ (hsub m os dk)).mono fun r W ⟨v,G',h1,h2,h3⟩=>?_
   rw[aaP] at h3
   subst h3
   refine⟨h1,W.drawn-(sortWorldK enc s w b 0 m dk os).drawn,W.heap.extract (sortWorldK enc s w b 0 m dk os).heap.size W.heap.size,?_⟩
   have hdr:=h2.dr
   have hos:=h2.os
   have htp:=h2.tape
   have hou:=h2.output
   have hkp:=h2.keep
   have hss:=h2.size
   simp only at hdr hos htp hou hkp hss
   generalize sortWorldK enc s w b 0 m dk os=W0 at*
   cases W with
   |mk heap tape drawn os' output=>
    simp only at*
    unfold Go.Sort.grow World.drewN
    simp only[World.mk.injEq]
    refine⟨?_,htp,by omega,hos,hou⟩
    apply Array.ext_getElem?
    intro k
    rw[Array.getElem?_append]
    split
    ·rename_i hk';exact hkp k hk' (by simp)
    ·rename_i hk'
     rw[Array.getElem?_extract]
     split
     ·congr 1;omega
     ·rw[qK (by omega)]
  have hO':Go.Sort.SWO (Go.Proofs.ltOf fun(q r:{q:A×List Value//V q.1∧Is G (e q.1) (.agg ⟨q.2⟩)})=>cf q.1.1 r.1.1):=⟨fun x=>hO.irrefl x.1.1,fun x y z=>hO.trans x.1.1 y.1.1 z.1.1,fun x y z=>hO.ntrans x.1.1 y.1.1 z.1.1⟩
  have hrun:=AnyQ.slices_SortFunc L s hAg hZs enc hk (fun q v hv=>avF ((henc q).2 v hv)) (fun q r=>cf q.1.1 r.1.1) hO' g #[] b 0 z.c qs.toArray w (fun args w=>ahY hg args w) hcmp hH hblt (by rw[hqs,hlen];exact hn)
  have ez:z=⟨some ⟨b,0,none⟩,qs.toArray.size,z.c⟩:=by rw[hqs];exact e1
  have ea:(⟨[Value.slice z.a z.n z.c, .func (.func g) #[] #[]]⟩:Array Value)= #[.slice (some ⟨b,0,none⟩) qs.toArray.size z.c, .func (.func g) #[] #[]]:=by rw[ez]
  rw[ea]
  refine hrun.mono fun r w' ⟨h1,d',n,os,hp,hs,h2⟩=>?_
  subst h2
  have hdz:d'.size=qs.toArray.size:=hp.1
  have hperm:d'.toList.Perm qs:=by
   have:=hp.2.2
   have e1:d'.toList.take qs.length=d'.toList:=aY (by rw[pJ,hdz];simp)
   simpa[e1] using this
  have hasc:d'.toList.Pairwise fun x y=> ¬cf y.1.1 x.1.1<0:=by
   rw[List.pairwise_iff_getElem]
   intro i j hi hj hij
   have:=hs i j (bX _) hij (by rw[←hdz];simpa using hj)
   rw[getElem!_pos d' j (by simpa using hj),getElem!_pos d' i (by simpa using hi)] at this
   simpa[Go.Proofs.ltOf] using this
  have hds:d'.toList.map (·.1.1)=ary cf ds:=by
   refine List.Perm.eq_of_pairwise (le:=fun x y=> ¬cf y x<0) (fun x y hx hy k1 k2=>?_) ?_ (aqK hO ds) ?_
   ·have m1:x∈ds:=by
     obtain⟨q,hq,rfl⟩:=bR.1 hx
     rw[←hq1];exact bR.2 ⟨q,hperm.mem_iff.1 hq,rfl⟩
    exact hu x m1 y ((aey cf ds).mem_iff.1 hy) k2 k1
   ·rw[qV];exact hasc
   ·refine(hperm.map _).trans ?_
    rw[hq1];exact(aey cf ds).symm
  have hlen':(d'.toList.map fun q=>Value.agg ⟨q.1.2⟩).length=es.length:=by rw[aJ,pJ,hdz,hqs]
  have hIs: ∀l:List {q:A×List Value//V q.1∧Is G (e q.1) (.agg ⟨q.2⟩)},IsLs G ((l.map (·.1.1)).map e) (l.map fun q=>Value.agg ⟨q.1.2⟩):=fun l=>by
   induction l with
   |nil=>exact .nil
   |cons q l ih=>exact .cons q.2.2 ih
  have hcell: ∀v∈d'.toList.map (fun q=>Value.agg ⟨q.1.2⟩),(aae v).length=s:=fun v hv=>by
   obtain⟨q,_,rfl⟩:=bR.1 hv
   exact hk q
  refine⟨_,[⟨b,aag (d'.toList.map fun q=>Value.agg ⟨q.1.2⟩)++rest,ty,false⟩],G,h1,?_,adQ.2 ⟨[],rfl, .nil⟩,d'.toList.map (fun q=>Value.agg ⟨q.1.2⟩), .inr ⟨b,rest,false,by rw[hlen'];exact e1,rfl,aao _ hcell,?_,by rw[hlen'];exact e5⟩,by rw[←hds];exact hIs _,hcell,fun h=>by cases h⟩
  ·refine⟨rfl,rfl,rfl,hsize n os d',fun q hq hqm=>hoth n os d' q hq fun e=>hqm (by rw[e];exact aQ),hsub n os d',GLe.refl _,fun _ _=>rfl,fun o ho=>?_,List.pairwise_singleton _ _,?_⟩
   ·rw[aR.1 ho]
    exact⟨by rw[←hfl];exact hblk n os d' hdz,hGb,(fun h=>by cases h),fun _=>aQ⟩
   ·show w.drawn≤w.drawn+n
    omega
  ·rw[←e4,aao _ hcell,e3,hlen']
theorem alT(u:PtQ): ¬Bef u u:=by
 rintro (h|⟨_,h⟩)
 ·omega
 ·have:u.cross u=0:=by unfold PtQ.cross;grind
  rw[this] at h;exact absurd h (by decide)
theorem av3{u v:PtQ}(h:Bef u v)(k:Bef v u):False:=alT u (agU h k)
theorem aBw{a b c:PtQ}(h:Bef c a):Bef c b∨Bef b a:=by
 by_cases h1:c.half<b.half
 ·exact .inl (.inl h1)
 ·by_cases h2:b.half<a.half
  ·exact .inr (.inl h2)
  ·rcases h with h|⟨h,k⟩
   ·omega
   ·have e1:c.half=b.half:=by omega
    have e2:b.half=a.half:=by omega
    by_cases q1:0<c.cross b
    ·exact .inl (.inr ⟨e1,q1⟩)
    ·by_cases q2:0<b.cross a
     ·exact .inr (.inr ⟨e2,q2⟩)
     ·exfalso
      have i1:b.y*c.cross a=a.y*c.cross b+c.y*b.cross a:=by unfold PtQ.cross;grind
      have i2:b.x*c.cross a=a.x*c.cross b+c.x*b.cross a:=by unfold PtQ.cross;grind
      have q1':c.cross b≤0:=by grind
      have q2':b.cross a≤0:=by grind
      rcases aaU b with⟨eb,kb⟩|⟨eb,kb⟩|⟨eb,kb⟩<;>rcases aaU a with⟨ea,ka⟩|⟨ea,ka⟩|⟨ea,ka⟩<;>rcases aaU c with⟨ec,kc⟩|⟨ec,kc⟩|⟨ec,kc⟩<;>first|omega|skip
      ·have ha:0≤a.y:=by grind
       have hc:0≤c.y:=by grind
       rcases kb with kb|⟨kb,kb'⟩
       ·have g1:=nY ha (show 0≤ -c.cross b by grind)
        have g2:=nY hc (show 0≤ -b.cross a by grind)
        have g3:=aad kb k
        grind
       ·have hx:b.cross a=b.x*a.y:=by unfold PtQ.cross;rw[kb];grind
        have ha0:a.y=0:=by
         rcases ka with ka|ka
         ·have:=aad kb' ka;grind
         ·exact ka.1
        have hax:0<a.x:=by grind
        have hy:c.cross a= -(c.y*a.x):=by unfold PtQ.cross;rw[ha0];grind
        have:=nY hc (show 0≤a.x by grind)
        grind
      ·have ha:0≤ -a.y:=by grind
       have hc:0≤ -c.y:=by grind
       rcases kb with kb|⟨kb,kb'⟩
       ·have g1:=nY ha (show 0≤ -c.cross b by grind)
        have g2:=nY hc (show 0≤ -b.cross a by grind)
        have g3:=aad (show 0< -b.y by grind) k
        grind
       ·have hx:b.cross a=b.x*a.y:=by unfold PtQ.cross;rw[kb];grind
        have ha0:a.y=0:=by
         rcases ka with ka|ka
         ·have:=aad (show 0< -b.x by grind) (show 0< -a.y by grind);grind
         ·exact ka.1
        have hax:0< -a.x:=by grind
        have hy:c.cross a= -(c.y*a.x):=by unfold PtQ.cross;rw[ha0];grind
        have:=nY hc (show 0≤ -a.x by grind)
        grind
      ·have hy:c.cross a=0:=by unfold PtQ.cross;rw[ka.1,ka.2];grind
       rw[hy] at k;exact absurd k (by decide)
theorem auu:Go.Sort.SWO (Go.Proofs.ltOf aaE):=by
 have e: ∀x y,Go.Proofs.ltOf aaE x y=true↔Bef x y:=fun x y=>by rw[←ad9];simp[Go.Proofs.ltOf]
 have e2: ∀x y,Go.Proofs.ltOf aaE x y=false↔ ¬Bef x y:=fun x y=>by rw[←e];simp
 refine⟨fun x=>(e2 x x).2 (alT x),fun x y z h k=>(e x z).2 (agU ((e x y).1 h) ((e y z).1 k)),fun x y z h k=>(e2 x z).2 fun q=>?_⟩
 rcases aBw (b:=y) q with q|q
 ·exact(e2 x y).1 h q
 ·exact(e2 y z).1 k q
theorem ayK: ∀{l m:List PtQ},l.Pairwise Bef→m.Pairwise Bef→(∀x,x∈l↔x∈m)→l=m
 |[],[],_,_,_=>rfl
 |[],b::m,_,_,h=>absurd ((h b).2 aQ) (by simp)
 |a::l,[],_,_,h=>absurd ((h a).1 aQ) (by simp)
 |a::l,b::m,h1,h2,h=>by
  obtain⟨p1,p2⟩:=bS.1 h1
  obtain⟨q1,q2⟩:=bS.1 h2
  have e:a=b:=by
   rcases aT.1 ((h a).1 aQ) with e|e
   ·exact e
   ·rcases aT.1 ((h b).2 aQ) with f|f
    ·exact f.symm
    ·exact(av3 (q1 a e) (p1 b f)).elim
  subst e
  congr 1
  refine ayK p2 q2 fun x=>⟨fun hx=>?_,fun hx=>?_⟩
  ·rcases aT.1 ((h x).1 (aX _ hx)) with e|e
   ·subst e;exact(alT _ (p1 _ hx)).elim
   ·exact e
  ·rcases aT.1 ((h x).2 (aX _ hx)) with e|e
   ·subst e;exact(alT _ (q1 _ hx)).elim
   ·exact e
def aoV(l:List PtQ):Prop:= ∀x∈l,∀y∈l,aaE x y=0→x=y
theorem arO{x y:PtQ}(h: ¬Bef x y)(k: ¬Bef y x):aaE x y=0:=by
 rw[←ad9] at h k
 unfold aaE at*
 split at h<;>try omega
 split at h<;>try omega
 split at k<;>try omega
 rw[show y.cross x= -(x.cross y) by unfold PtQ.cross;grind,lT,Int.sign_neg] at k
 omega
theorem ayv: ∀{l:List PtQ} {x:PtQ},(x::l).Pairwise (fun a b=> ¬Bef b a)→aoV (x::l)→(amb x l).Pairwise Bef∧(∀y∈amb x l,Bef x y)∧ ∀y,y∈x::amb x l↔y∈x::l
 |[],_,_,_=>⟨.nil,(fun y hy=>by cases hy),fun _=>Iff.rfl⟩
 |z::l,x,h,ht=>by
  obtain⟨p1,p2⟩:=bS.1 h
  obtain⟨i1,i2,i3⟩:=ayv p2 fun a ha b hb=>ht a (aX _ ha) b (aX _ hb)
  rw[amb]
  by_cases e:aaE z x=0
  ·rw[if_pos e]
   obtain rfl:=ht z (by simp) x (by simp) e
   exact⟨i1,i2,fun y=>by rw[i3];simp⟩
  ·rw[if_neg e]
   have hb:Bef x z:=by
    by_cases q:Bef x z
    ·exact q
    ·exact absurd (arO (p1 z aQ) q) e
   refine⟨bS.2 ⟨i2,i1⟩,fun y hy=>?_,fun y=>?_⟩
   ·rcases aT.1 hy with rfl|hy
    ·exact hb
    ·exact agU hb (i2 y hy)
   ·rw[aT,i3,aT (b:=x) (l:=z::l)]
theorem apx: ∀(l:List PtQ) (x:PtQ),(amb x l).length≤l.length
 |[],_=>bZ _
 |y::l,x=>by
  have:=apx l y
  rw[amb]
  split<;>simp only[bJ]<;>omega
theorem asd(l:List PtQ):(aj6 l).length≤l.length:=by
 cases l with
 |nil=>exact bZ _
 |cons x l=>have:=apx l x;simp only[aj6,bJ];omega
theorem az9{l:List PtQ}(h:l.Pairwise fun a b=> ¬Bef b a)(ht:aoV l):(aj6 l).Pairwise Bef∧ ∀y,y∈aj6 l↔y∈l:=by
 cases l with
 |nil=>exact⟨.nil,fun _=>Iff.rfl⟩
 |cons x l=>
  obtain⟨i1,i2,i3⟩:=ayv h ht
  exact⟨bS.2 ⟨i2,i1⟩,i3⟩
theorem aqk{l:List PtQ}(ht:aoV l)(y:PtQ):y∈ah8 l↔y∈l:=by
 have h2: ∀y,y∈ah8 l→y∈l:=fun y hy=>by
  rcases afz aaE hy with h|h
  ·exact h
  ·cases h
 refine⟨h2 y,fun hy=>?_⟩
 obtain⟨e,e1,e2⟩:=alZ aaE (o:=[]) hy
 rcases e2 with rfl|e2
 ·exact e1
 ·rw[←ht e (h2 e e1) y hy e2];exact e1
theorem apr{l:List PtQ}(ht:aoV l):aj6 (ary aaE l)=ah8 l:=by
 have hm: ∀y,y∈ary aaE l↔y∈l:=fun y=>(aey aaE l).mem_iff
 have h1:(ary aaE l).Pairwise fun a b=> ¬Bef b a:=(aqK auu l).imp fun h=>by rw[←ad9];exact h
 obtain⟨k1,k2⟩:=az9 h1 fun a ha b hb=>ht a ((hm a).1 ha) b ((hm b).1 hb)
 exact ayK k1 (ap6 l) fun x=>by rw[k2,hm,aqk ht]
theorem axi{t:Tr}(ht:t.all LnQ.ok)(p:PtQ):aoV (abv t p):=fun x hx y hy h=>by
 obtain⟨l,k1,k2⟩:=abR.1 hx
 obtain⟨m,k3,k4⟩:=abR.1 hy
 obtain⟨a1,a2⟩:=acr k1
 obtain⟨b1,b2⟩:=acr k3
 exact axF (aek ht _ a1) (aek ht _ b1) a2 b2 k2 k4 h
end Go.Sx
end
section
namespace Go.Proofs
open Go.Shelf
def Tryz.sortPt_ren:Go.Shelf.Ren:=⟨fun|6=>208|15=>255|14=>254|28=>294|29=>295|20=>286|21=>287|22=>288|23=>289|24=>290|25=>291|26=>292|27=>293|46=>307|47=>308|48=>309|49=>310|50=>311|57=>320|n=>n,fun|22=>230|24=>104|25=>287|3=>3|39=>290|0=>0|53=>262|55=>282|4=>4|46=>366|45=>365|50=>359|5=>5|9=>9|66=>384|70=>388|76=>394|77=>395|n=>n,fun|n=>n⟩
theorem Tryz.sortPt:Go.Proofs.SlLaysF0.n6 Tryz.prog Tryz.sortPt_ren:={
 mixed:=by kernel_rfl
 f6:=⟨Tryz.f208.name,by decide,Tryz.func208.trans (congrArg some (by kernel_rfl))⟩
 f14:=⟨Tryz.f254.name,by decide,Tryz.func254.trans (congrArg some (by kernel_rfl))⟩
 f15:=Tryz.func255.trans (congrArg some (by kernel_rfl))
 f20:=⟨Tryz.f286.name,by decide,Tryz.func286.trans (congrArg some (by kernel_rfl))⟩
 f21:=⟨Tryz.f287.name,by decide,Tryz.func287.trans (congrArg some (by kernel_rfl))⟩
 f22:=⟨Tryz.f288.name,by decide,Tryz.func288.trans (congrArg some (by kernel_rfl))⟩
 f23:=⟨Tryz.f289.name,by decide,Tryz.func289.trans (congrArg some (by kernel_rfl))⟩
 f24:=⟨Tryz.f290.name,by decide,Tryz.func290.trans (congrArg some (by kernel_rfl))⟩
 f25:=⟨Tryz.f291.name,by decide,Tryz.func291.trans (congrArg some (by kernel_rfl))⟩
 f26:=⟨Tryz.f292.name,by decide,Tryz.func292.trans (congrArg some (by kernel_rfl))⟩
 f27:=⟨Tryz.f293.name,by decide,Tryz.func293.trans (congrArg some (by kernel_rfl))⟩
 f28:=Tryz.func294.trans (congrArg some (by kernel_rfl))
 f29:=Tryz.func295.trans (congrArg some (by kernel_rfl))
 f46:=⟨Tryz.f307.name,by decide,Tryz.func307.trans (congrArg some (by kernel_rfl))⟩
 f47:=Tryz.func308.trans (congrArg some (by kernel_rfl))
 f48:=Tryz.func309.trans (congrArg some (by kernel_rfl))
 f49:=⟨Tryz.f310.name,by decide,Tryz.func310.trans (congrArg some (by kernel_rfl))⟩
 f50:=⟨Tryz.f311.name,by decide,Tryz.func311.trans (congrArg some (by kernel_rfl))⟩
 f57:=⟨Tryz.f320.name,by decide,Tryz.func320.trans (congrArg some (by kernel_rfl))⟩
 t0:=Tryz.underlying0
 a0:=Tryz.isAgg0
 z0:=Tryz.sizeOf0
 v0:=Tryz.zeroValue0
 t3:=Tryz.underlying3
 a3:=Tryz.isAgg3
 z3:=Tryz.sizeOf3
 v3:=Tryz.zeroValue3
 t4:=Tryz.underlying4
 a4:=Tryz.isAgg4
 z4:=Tryz.sizeOf4
 v4:=Tryz.zeroValue4
 t5:=Tryz.underlying5
 a5:=Tryz.isAgg5
 z5:=Tryz.sizeOf5
 v5:=Tryz.zeroValue5
 t9:=Tryz.underlying9
 a9:=Tryz.isAgg9
 z9:=Tryz.sizeOf9
 v9:=Tryz.zeroValue9
 t22:=Tryz.underlying230
 a22:=Tryz.isAgg230
 z22:=Tryz.sizeOf230
 v22:=Tryz.zeroValue230
 t25:=Tryz.underlying287
 a25:=Tryz.isAgg287
 z25:=Tryz.sizeOf287
 v25:=Tryz.zeroValue287
 t39:=Tryz.underlying290
 a39:=Tryz.isAgg290
 z39:=Tryz.sizeOf290
 v39:=Tryz.zeroValue290
 t45:=Tryz.underlying365
 a45:=Tryz.isAgg365
 z45:=Tryz.sizeOf365
 v45:=Tryz.zeroValue365
 t46:=Tryz.underlying366
 a46:=Tryz.isAgg366
 z46:=Tryz.sizeOf366
 v46:=Tryz.zeroValue366
 t50:=Tryz.underlying359
 a50:=Tryz.isAgg359
 z50:=Tryz.sizeOf359
 v50:=Tryz.zeroValue359
 t53:=Tryz.underlying262
 a53:=Tryz.isAgg262
 z53:=Tryz.sizeOf262
 v53:=Tryz.zeroValue262
 t55:=Tryz.underlying282
 a55:=Tryz.isAgg282
 z55:=Tryz.sizeOf282
 v55:=Tryz.zeroValue282
 t66:=Tryz.underlying384
 a66:=Tryz.isAgg384
 z66:=Tryz.sizeOf384
 v66:=Tryz.zeroValue384
 t70:=Tryz.underlying388
 a70:=Tryz.isAgg388
 z70:=Tryz.sizeOf388
 v70:=Tryz.zeroValue388
 t76:=Tryz.underlying394
 a76:=Tryz.isAgg394
 z76:=Tryz.sizeOf394
 v76:=Tryz.zeroValue394
 t77:=Tryz.underlying395
 a77:=Tryz.isAgg395
 z77:=Tryz.sizeOf395
 v77:=Tryz.zeroValue395}
end Go.Proofs
end
