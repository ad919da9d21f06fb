import Derived.Test.YtmbbejdimfkkcaaGreatDoorMo8
set_option linter.all false
set_option maxHeartbeats 4000000
set_option maxRecDepth 100000
section
namespace Go.Sx
open Go Go.Proofs Tryz
variable {GB:Gh}
section
variable {GB:Gh} {C:aH} {n:Nat} {Q0:Exit->Act->World->Prop} {fr fr':aF} {own own':bh} {cf cf':Cf} {vc:List Prop}
def aAa{lk:LK}{bk:BM}{fo:Operand}{args:Array Operand}{tys:Array TypeId}{f:FuncId}{nm d:Nat}{l:List (Option DV)}{s:Nat}{ty ty0:TypeId}{pos:String}{af:Array Edge}{gd:Option (Nat×Bool)}{dsi dso:List DV}{lo:Bool}(hne:Nat.beq nm d=false)
  (ha:CI lk fo args=some (f,nm,l))(hb:bk nm=some (.b ty0 s dsi lo))(hF:PB GB prog f (f7 l) s ty0 dsi (fun w=> .v (.slice w.a w.n w.c)) dso):b9 prog GB C n lk bk ⟨some d, .call ⟨.value fo,args,tys⟩,ty,pos,af,gd⟩ (.rw d) [(nm,none),(d,some (.b ty0 s dso lo))] [d]:=by
 intro hd tl tb K' s1 s2 hf hk;refine⟨fun ρ G ov a w r Q=>?_⟩;have r1:=r.mono s1 s2;unfold CI at ha;split at ha<;>try (cases ha;done)
 rename_i h1;split at ha<;>cases ha;rename_i h2;obtain⟨y,hy,hy'⟩:=r1.ev h1;rw[(aP (G:=G)).1 hy'] at hy;obtain⟨B,g1,g2⟩:=r1.bx _ _ hb;have hB:eg G ⟨ρ nm,s,ty0,dsi,lo⟩ B:=g1;obtain⟨vs,h7,h8⟩:=Ed r1 (z:=ρ nm) h2 (fun nm e=>by cases e;rfl);have hp: ∃rest,ov.Perm (B++rest)/\ ∀o∈ov,(∀o'∈B,o.b≠o'.b)->o∈rest:=by
  rcases hB with⟨vs',⟨_,_,e⟩|⟨b0,r0,lo0,_,e,_⟩,_⟩
  .rw[e];exact⟨ov,List.Perm.refl _,fun o ho _=>ho⟩
  .rw[e] at g2⊢
   obtain⟨l1,l2,e2⟩:=mL (g2 _ aQ);rw[e2];refine⟨l1++l2,pQ,fun o ho hno=>?_⟩;rcases bZ.1 ho with ho|ho
   .exact bU _ ho
   .rcases aW.1 ho with rfl|ho
    .exact absurd J (hno _ aQ)
    .exact bQ _ ho
 obtain⟨rest,h5,h6⟩:=hp;refine yc (M:=B) (rest:=rest) hy h7 h5 (hF G (ρ nm) vs B r.gb hB.weak h8) hd (fun v own1 G' hG hK a' w' rl=>?_) a w Q ⟨r.h,r.sz,c7 a,r.df⟩;obtain⟨z,hr,vs',k1,k2,k3,k4⟩:=hK;have k1':=k1.relo (iw B);have e2:lo=true-> ∀o∈own1.map (relo (iw B)),o.lo=true:=fun hl o ho=>by
  obtain⟨o',_,rfl⟩:=aU.1 ho;obtain⟨_,_,_,_,hlo⟩:=hB;exact HQ _ (hlo hl)
 generalize own1.map (relo (iw B))=B' at rl e2 k1';have rl':io C n (Sx.put (cG a) (some d) v) (B'++rest) G' a' w':=rl;have hdis:=(gN.1 rl'.h.nd).2.2;have r2:=r.dropB nm;have hnn:nm≠d:=fun e=>by subst e;rw[oY] at hne;cases hne
 have hf2:kE [d] (some d) tl (Sx.upB tb [(nm,none)]):=fun q hq=>by
  obtain⟨f1,f2⟩:=hf q hq;refine⟨f1,fun k B e1 e=>?_⟩;simp only[Sx.upB] at e;split at e
  .cases e
  .exact f2 k B e1 e
 have hsep: ∀q B0,Sx.upB tb [(nm,none)] q=some B0-> ∀o∈ov,(ρ q).a=some ⟨o.b,0,none⟩->o∈rest:=fun q B0 e o ho hbq=>by
  simp only[Sx.upB] at e;split at e
  .cases e
  .rename_i hqn
   refine h6 o ho fun o' ho' he=>?_;exact r.dj nm q _ _ (s2 _ _ hb) e (Ne.symm hqn) o'.b (g1.blk ho') (by rw[hbq,he])
 rw[aP.1 hr] at rl';have r3:=r2.new' (x:=z) (B':= .b ty0 s dso lo) (os:=B') (ov':=B'++rest) (f:= .rw d) (y:= .slice z.a z.n z.c) hf2 hG.le rl'.h ⟨vs',by simpa using k1',k2,k3,e2⟩ (fun o ho=>bU _ ho)
  (fun q B0 hq e o ho hbq=>⟨bQ _ (hsep q B0 e o ho hbq),fun hc=>by
   have hx: ∃o1∈B',o1.b=o.b:=by
    rcases k1' with⟨_,h,_⟩|⟨b0,rest0,lo0,h,hB,_⟩
    .rw[show z=_ from h] at hc;cases hc
    .rw[show z=_ from h] at hc;cases hc;exact⟨⟨_,aI vs'++rest0,_,lo0⟩,by rw[hB];exact aQ,J⟩
   obtain⟨o1,ho1,he1⟩:=hx;exact hdis o1 ho1 o (hsep q B0 e o ho hbq) he1⟩) (by simp[ce]) (kj rl')
 exact hk.run _ G' _ a' w' r3
def cq[fu:Fu]{f:FuncId}{nm d:Nat}{l:List (Option DV)}{ty:TypeId}{s:Nat}{dsi dso:List DV}{lo:Bool}(dso':List DV)(ha:GD fr own cf=some ⟨f,nm,l,ty,s,dsi,lo,d⟩)(hF:PB GB prog f (f7 l) s ty dsi (fun w=> .v (.slice w.a w.n w.c)) dso)(he:dso=dso')
  (hgo:c6 tt n fu.n fr own cf (.rw d) [(nm,none),(d,some (.b ty s dso' lo))] [d]=⟨vc,fr',own',cf'⟩)(k:av prog GB C n Q0 fr' own' cf')
  (hv:autoParam (ak vc) fn._auto_1):av prog GB C n Q0 fr own cf:=by
 subst he;unfold GD at ha;split at ha<;>try (cases ha;done)
 rename_i hh;split at ha<;>try (cases ha;done)
 rename_i h1;split at ha<;>try (cases ha;done)
 rename_i h2;rw[cond_eq_ite] at ha;split at ha<;>cases ha;rename_i h3;exact us hh (aAa okO h1 h2 hF) hgo hv k
def JC(C:aH)(s:Nat)(ty:TypeId)(dso:List DV):Ending->World->Prop:=sF C (fun v own' G'=> ∃w',Is G' (.v (.slice w'.a w'.n w'.c)) v/\eg G' ⟨w',s,ty,dso,false⟩ own')
def ED[fu:Fu]{f:FuncId}{fb:Func}{c:Code}{k s:Nat}{l:List (Option DV)}{dsi dso:List DV}{ty:TypeId}(hf:prog.funcs[f]? =some fb)(hb:fb.body=some c)(hn:(fb.name== "runtime.NumGoroutine")=false)(hm:fb.ntmps=k)(hlen:Nat.ble l.length k=true)
  (hgo:go tt k fu.n [] (zg 0 l) [(NM,some (.b ty s dsi false))] (.code c [])=⟨vc,fr,own,cf⟩)(h: ∀C,av prog GB C k (fC C prog fb (JC C s ty dso)) fr own cf)
  (hv:autoParam (ak vc) fn._auto_1):PB GB prog f (f7 l) s ty dsi (fun w=> .v (.slice w.a w.n w.c)) dso:=by
 intro G w vs B hg hB hvs;refine iD.introR hf hb hn hm (by rw[hvs.len,EM];exact hlen) fun C _ hmb hrd hfx=>?_;intro a wd rl;refine wh hrd ?_;have h1:=gn (GB:=GB) (C:=C) (Q0:=fC C prog fb (JC C s ty dso)) hgo hv (h C);refine h1.run (fun _=>w) G (Sx.asB B) a wd ⟨hg,rl.h,rl.sz,rl.df,fun k f e=>?_,fun nm B' e=>?_,fun nm nm' B' B2 e e' hne=>?_,fun nm p _ _ e=>by rw[hfx] at e;cases e⟩
 .obtain⟨y,⟨j,hj,hy⟩,h2⟩:=FT (ρ:=fun _=>w) (w:=w) rfl 0 hvs k f e
  refine⟨y,rl.fr k y ?_,h2⟩;rw[hj];exact zy vs 0 j y hy
 .rw[jO] at e
  split at e
  .cases e;exact⟨Sx.asB B,hB.asB,fun o ho=>ho⟩
  .cases e
 .rw[jO] at e e'
  split at e<;>split at e'
  .rename_i h2 h3;exact absurd (h2.trans h3.symm) hne
  .cases e'
  .cases e
  .cases e
def vm{fb:Func}{t d s:Nat}{ty:TypeId}{ds dso:List DV}(hr:fb.results.toList=[.tmp t])(hl:bi fr t=some (.rw d))(hw:bC own d=some (.b ty s ds false))(ed:ds=dso):
  av prog GB C n (fC C prog fb (JC C s ty dso)) fr own (.ex .ret []):=by
 subst ed;refine⟨fun ρ G ov a w r=>?_⟩;obtain⟨B,g1,g2⟩:=r.bx _ _ hw;have hB:eg G ⟨ρ d,s,ty,ds,false⟩ B:=g1;obtain⟨rest,hp⟩:=J0 hB g2;obtain⟨y,hy,hy'⟩:=r.ev (x:= .tmp t) (f:= .rw d) hl
 cases (show y=_ from hy')
 exact y4 (C:=C) (n:=n) (fr:=cG a) (own:=ov) (G:=G) (vs:=[.slice (ρ d).a (ρ d).n (ρ d).c]) oke (B++rest) B hp (oS _ _) ⟨ρ d,aP.2 J,hB⟩ a w ⟨r.h,r.sz,c7 a,r.df⟩
def BC(lk:LK):List Operand->Option (List (Option DV))
 |[]=>none
 |[x]=>match bt lk x with
  |some .nl=>some [none]
  |_=>none
 |x::t=>match bt lk x,BC lk t with
  |some f,some l=>match ki f with
   |some d=>some (some d::l)
   |none=>none
  |_,_=>none
def LO(lk:LK)(fo:Operand)(args:Array Operand):Option (FuncId×List (Option DV)):=match bt lk fo with
 |some (.d (.v (.func (.func f) ⟨[]⟩ ⟨[]⟩)))=>match BC lk args.toList with
  |some l=>some (f,l)
  |_=>none
 |_=>none
def Uq{lk:LK}{bk:BM}{ρ:NE}{G:Gh}{ov:List aA}{a:Act}{w:World}(r:bP GB C n lk bk ρ G ov a w): ∀{x:List Operand} {l:List (Option DV)},BC lk x=some l-> ∃y,fI (cG a) x=some y/\IsLs G (f7 l ⟨none,0,0⟩) y
 |[],l,e=>by cases e
 |[x],l,e=>by
  simp only[BC] at e;split at e<;>cases e;rename_i h1;obtain⟨y,h3,h4⟩:=r.ev h1
  cases (show y=_ from h4)
  exact⟨[Value.slice none 0 0],by simp only[fI,h3], .cons ((aP (G:=G)).2 J) .nil⟩
 |x::x2::t,l,e=>by
  simp only[BC] at e;split at e
  .rename_i f l' h1 h2
   cases hd:ki f with
   |none=>rw[hd] at e;cases e
   |some d=>
   rw[hd] at e;cases e;obtain⟨y,h3,h4⟩:=r.ev h1;obtain⟨ys,h5,h6⟩:=Uq r (x:=x2::t) (by simpa only[BC] using h2);exact⟨y::ys,by simp only[fI,h3] at h5⊢;rw[h5], .cons (mI h4 hd) h6⟩
  .cases e
def ay0{lk:LK}{bk:BM}{fo:Operand}{args:Array Operand}{tys:Array TypeId}{f:FuncId}{d:Nat}{l:List (Option DV)}{s:Nat}{ty ty0:TypeId}{pos:String}{af:Array Edge}{gd:Option (Nat×Bool)}{dso:List DV}
  (ha:LO lk fo args=some (f,l))(hF:PB GB prog f (f7 l) s ty0 [] (fun w=> .v (.slice w.a w.n w.c)) dso):b9 prog GB C n lk bk ⟨some d, .call ⟨.value fo,args,tys⟩,ty,pos,af,gd⟩ (.rw d) [(d,some (.b ty0 s dso true))] [d]:=by
 intro hd tl tb K' s1 s2 hf hk;refine⟨fun ρ G ov a w r Q=>?_⟩;have r1:=r.mono s1 s2;unfold LO at ha;split at ha<;>try (cases ha;done)
 rename_i h1;split at ha<;>cases ha;rename_i h2;obtain⟨y,hy,hy'⟩:=r1.ev h1;rw[(aP (G:=G)).1 hy'] at hy;obtain⟨vs,h7,h8⟩:=Uq r1 h2;refine yc (M:=[]) (rest:=ov) hy h7 (List.Perm.refl _) (hF G ⟨none,0,0⟩ vs [] r.gb ⟨[], .nil _ _, .nil,omc,fun h=>by cases h⟩ h8) hd (fun v own1 G' hG hK a' w' rl=>?_) a w Q ⟨r.h,r.sz,c7 a,r.df⟩;obtain⟨z,hr,vs',k1,k2,k3,k4⟩:=hK;have k1':=k1.relo (iw []);have e2: ∀o∈own1.map (relo (iw [])),o.lo=true:=fun o ho=>by
  obtain⟨o',_,rfl⟩:=aU.1 ho;rfl
 generalize own1.map (relo (iw []))=B' at rl e2 k1';have rl':io C n (Sx.put (cG a) (some d) v) (B'++ov) G' a' w':=rl;have hdis:=(gN.1 rl'.h.nd).2.2;rw[aP.1 hr] at rl';have r3:=r.new (x:=z) (B':= .b ty0 s dso true) (os:=B') (ov':=B'++ov) (f:= .rw d) (y:= .slice z.a z.n z.c) hf hG.le rl'.h ⟨vs',by simpa using k1',k2,k3,fun _=>e2⟩ (fun o ho=>bU _ ho) (fun o ho=>bQ _ ho)
  (fun o ho hc=>by
   have hx: ∃o1∈B',o1.b=o.b:=by
    rcases k1' with⟨_,h,_⟩|⟨b0,rest0,lo0,h,hB,_⟩
    .rw[show z=_ from h] at hc;cases hc
    .rw[show z=_ from h] at hc;cases hc;exact⟨⟨_,aI vs'++rest0,_,lo0⟩,by rw[hB];exact aQ,J⟩
   obtain⟨o1,ho1,he1⟩:=hx;exact hdis o1 ho1 o ho he1) (by simp[ce]) (kj rl')
 exact hk.run _ G' _ a' w' r3
def Sa(fr:aF)(cf:Cf):Option (FuncId×List (Option DV)×Nat):=match di fr cf with
 |some ⟨some d, .call ⟨.value fo,args,_⟩,_,_,_,_⟩=>match LO (ck fr cf) fo args with
  |some (f,l)=>some (f,l,d)
  |none=>none
 |_=>none
def cqn[fu:Fu]{f:FuncId}{d:Nat}{l:List (Option DV)}{ty:TypeId}{s:Nat}{dso:List DV}(dso':List DV)(ha:Sa fr cf=some (f,l,d))(hF:PB GB prog f (f7 l) s ty [] (fun w=> .v (.slice w.a w.n w.c)) dso)(he:dso=dso')
  (hgo:c6 tt n fu.n fr own cf (.rw d) [(d,some (.b ty s dso' true))] [d]=⟨vc,fr',own',cf'⟩)(k:av prog GB C n Q0 fr' own' cf')
  (hv:autoParam (ak vc) fn._auto_1):av prog GB C n Q0 fr own cf:=by
 subst he;unfold Sa at ha;split at ha<;>try (cases ha;done)
 rename_i hh;split at ha<;>cases ha;rename_i h1;exact us hh (ay0 h1 hF) hgo hv k
end
section
variable {P:Program} {T:TT} {GB:Gh} {C:aH} {n:Nat} {lk:LK} {bk:BM} {ρ:NE} {G:Gh} {ov:List aA} {a:Act} {w:World}
variable {dst:Option Nat} {t t' ty':TypeId} {pos:String} {af:Array Edge} {gd:Option (Nat×Bool)} {x y:Operand} {e s by_:Nat}
def aA9{d nm:Nat}{i:TI}{z:DV}{ds ds2:List DV}[hT:cE P t e s by_][hN:kd P t'](hi:fq P e=some i)(hz:po i=some z)(hs:Nat.beq z.cells.length s=true)(hx:bt lk x=some (.rw nm))(hb:bk nm=some (.b e s ds false))(hy:qP lk bk s y=some ds2)(hk2:cO s ds2)
  (hby:Nat.blt 0 by_=true)(hbd:(ds.length+ds2.length)*by_<=140737488355328)(hnd:Nat.beq nm d=false){ds':List DV}(hds:ds++ds2=ds'):
  b9 P GB C n lk bk ⟨some d, .call ⟨.builtin .append, #[x,y], #[t,t']⟩,ty',pos,af,gd⟩ (.rw d) [(nm,none),(d,some (.b e s ds' false))] [d]:=by
 intro hd tl tb K s1 s2 hf hk;refine⟨fun ρ G ov a w r Q=>?_⟩;subst hds;have r1:=r.mono s1 s2;obtain⟨v,hz1,hz2,hz3⟩:=AB hi hz;have cz:=((hz2 G).cells hz3).1.len;replace hs:=bX hs;rw[lV] at hby
 have hne:nm≠d:=fun e=>by subst e;simp at hnd
 obtain⟨u,hx',hx2⟩:=r1.ev hx
 cases hx2
 obtain⟨B,hB0,hBo⟩:=r1.bx _ _ hb;have hB1:eg G ⟨ρ nm,s,e,ds,false⟩ B:=hB0;clear hB0;obtain⟨vs,hB,hv,hvs,_⟩:=hB1;simp only[] at hB hv hvs;obtain⟨w2,us,hy',h2,h3,h4,h5,h6⟩:=C8 (P:=P) r1 hy hk2;have hus:(aI us).length=us.length*s:=fp us h4;have hbd':(vs.length+us.length)*by_<=140737488355328:=by rw[hv.len,h3.len];exact hbd
 have hall: ∀v∈vs++us,(aO v).length=s:=fun v hv=>by
  rcases bZ.1 hv with hv|hv
  .exact hvs v hv
  .exact h4 v hv
 have rd:=r.dropB nm;have hf':kE [d] (some d) tl (Sx.upB tb [(nm,none)]):=fun m hm=>by
  obtain⟨g1,g2⟩:=hf m hm;refine⟨g1,fun k B' hk e=>g2 k B' hk ?_⟩;simp only[Sx.upB] at e;split at e
  .cases e
  .exact e
 have hbk: ∀m B',(Sx.upB tb [(nm,none)]) m=some B'->m≠nm/\tb m=some B':=fun m B' e=>by
  simp only[Sx.upB] at e;split at e
  .cases e
  .exact⟨ome,e⟩
 have hnew: ∀{z:SV} {ov':List aA} {B1:List aA} {a':Act} {w':World} {dz:List DV},eg G ⟨z,s,e,dz,false⟩ B1->(∀o∈B1,o∈ov')->(∀m B',m≠d->(Sx.upB tb [(nm,none)]) m=some B'-> ∀o∈ov,(ρ m).a=some ⟨o.b,0,none⟩->o∈ov'/\z.a≠some ⟨o.b,0,none⟩)->
   SX GB C n (eD tl (some d) (.rw d)) (Sx.upB (Sx.upB tb [(nm,none)]) [(d,some (.b e s dz false))]) K->io C n (Sx.put (cG a) (some d) (.slice z.a z.n z.c)) ov' G a' w'->K a' w':=fun hB1 hos hov hk1 rl=>
  hk1.run _ _ _ _ _ (rd.new' (f:= .rw d) (y:= .slice _ _ _) hf' (b7.refl _) rl.h (hB1.toBk omc) hos hov okV (kj rl))
 have hfin: ∀(b:Nat) (lo1:Bool) (cap':Nat) (rest':List Value) (ov1:List aA) a' w',vs.length+us.length<=cap'->rest'.length+(vs.length+us.length)*s=cap'*s->(∀o∈ov,(ρ nm).a≠some ⟨o.b,0,none⟩->o∈ov1)->
   io C n (put (cG a) (some d) (.slice (some ⟨b,0,none⟩) (vs.length+us.length) cap')) (⟨b,aI (vs++us)++rest',e,lo1⟩::ov1) G a' w'->K a' w':=by
  intro b lo1 cap' rest' ov1 a' w' hc hr ho1 rl;have hnd':=(cZ.1 rl.h.nd).1;refine hnew (z:=⟨some ⟨b,0,none⟩,vs.length+us.length,cap'⟩) (B1:=[⟨b,aI (vs++us)++rest',e,lo1⟩]) ⟨vs++us, .inr ⟨b,rest',lo1,omc,J,fp _ hall,?_,by simpa using hc⟩,hv.app h3,hall,fun h=>by cases h⟩
   (fun o ho=>by rw[aT.1 ho];exact aQ) (fun m B' hm e o ho hmo=>?_) hk rl
  .rw[fp _ hall,aY]
   simp only[];omega
  .obtain⟨h7,h8⟩:=hbk m B' e
   have ho2:=ho1 o ho fun hc=>r.dj m nm B' _ h8 (s2 _ _ hb) h7 _ hmo hc;exact⟨aJ _ ho2,fun e'=>by cases e';exact hnd' o ho2 J⟩
 rcases hB with⟨e1,e2,e3⟩|⟨b,rest,lo',k3,k4,k5,k6,k7⟩
 .subst e1
  rw[e2] at hx';by_cases hne:us=[]
  .subst hne
   have:ds2=[]:=cY (by rw[<-h3.len];rfl);subst this;rw[h2] at hy';refine Q1 hx' hy' hd (fun a' w' rl=>?_) a w Q ⟨r.h,r.sz,c7 a,r.df⟩;refine hnew (z:=⟨none,0,0⟩) (B1:=[]) ⟨[], .inl ⟨J,J,J⟩,by simpa using hv,omc,fun h=>by cases h⟩ (fun o ho=>by cases ho) (fun m B' hm e o ho hmo=>⟨ho,fun e'=>by cases e'⟩) hk rl
  .have hup:0<us.length:=mU.2 hne
   rw[h2] at hy' h6;refine EZ (z:=v) (xs:=[]) (ys:=aI us) hx' hy' ww h6 (by show(0:Nat)<0+us.length;omega) hby (by simpa using hbd') hd (fun b cap' hc a' w' rl=>?_) a w Q ⟨r.h,r.sz,c7 a,r.df⟩;exact hfin b true cap' (dH v (cap'-us.length)) ov a' w' (by simpa using hc) (by rw[pA,cz,hs,<-dS];simp at hc⊢;congr 1;omega) (fun o ho _=>ho) (by simpa using rl)
 .subst k4
  have ha:(ρ nm).a=some ⟨b,0,none⟩:=by rw[k3]
  have hn:(ρ nm).n=vs.length:=by rw[k3]
  rw[ha,hn] at hx';rw[h2] at hy' h6;obtain⟨ov1,o1,o2⟩:=kn.of_mem (hBo _ aQ);refine JU (z:=v) (xs:=aI vs) (ys:=aI us) (rest:=rest) (own1:=ov1) hx' hy' o1 k5 k6 k7 h6 hus h5 hby hbd' (by rw[cz,hs]) hd (fun b' lo2 cap' rest' hc hr a' w' rl=>?_) a w Q ⟨r.h,r.sz,c7 a,r.df⟩;rw[<-pq] at rl;exact hfin b' lo2 cap' rest' ov1 a' w' hc hr (fun o ho hne=>o2 o ho fun e'=>hne (by rw[ha,e'])) rl
end
section
variable {GB:Gh} {C:aH} {n:Nat} {Q0:Exit->Act->World->Prop} {fr fr':aF} {own own':bh} {cf cf':Cf} {vc:List Prop}
def SU(fr:aF)(own:bh)(cf:Cf):Option (Nat×Nat×Nat×Nat×Nat×List DV×List DV):=match di fr cf with
 |some ⟨some d, .call ⟨.builtin .append,⟨[x,y]⟩,⟨[t,t']⟩⟩,_,_,_,_⟩=>match eo tt t with
  |some ⟨.sl e s b,_,_,_⟩=>match eo tt t' with
   |some ⟨.sl _ _ _,_,_,_⟩=>match eo tt e with
    |some i=>match po i with
     |some z=>bif Nat.beq z.cells.length s&&Nat.blt 0 b then(match qP (ck fr cf) (jo fr own cf) s y with
      |some ds2=>match bt (ck fr cf) x with
       |some (.rw nm)=>match jo fr own cf nm with
        |some (.b e' s' ds false)=>bif (Nat.beq e' e&&Nat.beq s' s)&&!Nat.beq nm d then some (d,nm,e,s,b,ds,ds2) else none
        |_=>none
       |_=>none
      |none=>none) else none
     |none=>none
    |none=>none
   |_=>none
  |_=>none
 |_=>none
def T2[fu:Fu]{d nm:Nat}{e s b:Nat}{ds ds2:List DV}(ds':List DV)(h:SU fr own cf=some (d,nm,e,s,b,ds,ds2))(hds:ds++ds2=ds')(ho2:cO s ds2)(hgo:c6 tt n fu.n fr own cf (.rw d) [(nm,none),(d,some (.b e s ds' false))] [d]=⟨vc,fr',own',cf'⟩)(k:av prog GB C n Q0 fr' own' cf')
  (hbd:(ds.length+ds2.length)*b<=140737488355328:=by simp;omega)
  (hv:autoParam (ak vc) fn._auto_1):av prog GB C n Q0 fr own cf:=by
 unfold SU at h;split at h<;>try (cases h;done)
 rename_i hh;split at h<;>try (cases h;done)
 rename_i hT;split at h<;>try (cases h;done)
 rename_i hT';split at h<;>try (cases h;done)
 rename_i hi;split at h<;>try (cases h;done)
 rename_i hz;rw[cond_eq_ite] at h;split at h<;>try (cases h;done)
 rename_i hc;simp only[bT] at hc;split at h<;>try (cases h;done)
 rename_i hy;have:=lh (fi _ _ hT) J;have hN:kd prog _:=⟨_,(lh (fi _ _ hT') J).un⟩;split at h<;>try (cases h;done)
 rename_i hx;split at h<;>try (cases h;done)
 rename_i hb;rw[cond_eq_ite] at h;split at h<;>cases h;rename_i hq;simp only[bT,iW] at hq
 cases bX hq.1.1
 cases bX hq.1.2
 exact us hh (aA9 (fi _ _ hi) hz hc.1 hx hb hy ho2 hc.2 hbd hq.2 hds) hgo hv k
end
section
variable {GB:Gh} {C:aH} {n:Nat} {Q0:Exit->Act->World->Prop} {fr fr':aF} {own own':bh} {cf cf':Cf} {vc:List Prop} {lk:LK} {bk:BM}
variable {dst:Option Nat} {t t' ty':TypeId} {pos:String} {af:Array Edge} {gd:Option (Nat×Bool)} {x y:Operand}
def Z4{G:Gh}{w:SV}{s:Nat}{ty:TypeId}{ds:List DV}{lo:Bool}{B:List aA}(h:eg G ⟨w,s,ty,ds,lo⟩ B)(hn:0<ds.length): ∃b,w=⟨some ⟨b,0,none⟩,ds.length,w.c⟩/\ds.length<=w.c:=by
 obtain⟨vs,h1,h2,_⟩:=h;rcases h1 with⟨e1,_,_⟩|⟨b,rest,lo',e1,_,_,_,h5⟩
 .subst e1;have:=h2.len;simp at this;omega
 .exact⟨b,by rw[<-h2.len];exact e1,by rw[<-h2.len];exact h5⟩
def iI.cut{s:Nat}{ty:TypeId}{z:SV}{vs:List Value}{B:List aA}(h:iI s ty z vs B)(hs: ∀v∈vs,(aO v).length=s){k:Nat}(hk:k<=vs.length)(hne:0<vs.length):iI s ty ⟨z.a,k,z.c⟩ (vs.take k) B:=by
 rcases h with⟨h1,_,_⟩|⟨b,rest,lo,h1,h2,h3,h4,h5⟩
 .subst h1;simp at hne
 .have e:aI vs=aI (vs.take k)++aI (vs.drop k):=by rw[<-pq,kR]
  have hl:=fp (vs.take k) fun v hv=>hs v (eK hv);have hm:(vs.take k).length=k:=by rw[bL];omega
  refine .inr ⟨b,aI (vs.drop k)++rest,lo,by rw[hm,h1],by rw[h2,e,dT],hl,?_,by rw[hm];show k<=z.c;omega⟩;show _=z.c*s;rw[<-h4,e,aY,aY];omega
def aG6{P:Program}{e s by_:Nat}[hT:cE P t e s by_]{nm d:Nat}{k:IntKind}{j:Nat}{ty:TypeId}{ds:List DV}{lo:Bool}(hne:Nat.beq nm d=false)(hx:bt lk x=some (.rw nm))(hb:bk nm=some (.b ty s ds lo))(hy:bt lk y=some (.d (.v (.int k j))))(h1:j<ds.length):
  b9 P GB C n lk bk ⟨some d, .slice t x none (some y) none,ty',pos,af,gd⟩ (.rw d) [(nm,none),(d,some (.b ty s (ds.take j) lo))] [d]:=by
 intro hd tl tb K s1 s2 hf hk;refine⟨fun ρ G ov a w r Q=>?_⟩;have r1:=r.mono s1 s2;obtain⟨u,hu,hu2⟩:=r1.ev hx
 cases (show u=_ from hu2)
 obtain⟨v,hv,hv2⟩:=r1.ev hy;rw[dl] at hv2;subst hv2;obtain⟨B,hB0,hBo⟩:=r1.bx _ _ hb;have hB:eg G ⟨ρ nm,s,ty,ds,lo⟩ B:=hB0;obtain⟨b,hw,hc⟩:=Z4 hB we;obtain⟨vs,g1,g2,g3,g4⟩:=hB;have hvl:=g2.len;have hcut:eg G ⟨⟨(ρ nm).a,j,(ρ nm).c⟩,s,ty,ds.take j,lo⟩ B:=⟨vs.take j,iI.cut g1 g3 (by simp only at hvl⊢;omega) (by simp only at hvl⊢;omega),g2.take _,fun v hv=>g3 v (eK hv),g4⟩;have hs:=Hl (P:=P) (C:=C) (own:=ov) (G:=G) (dst:=some d) (ty':=ty') (pos:=pos) (af:=af) (gd:=gd) (t:=t) hu hv;have hnn:nm≠d:=fun e=>by subst e;rw[oY] at hne;cases hne
 have r2:=r.dropB nm;have hf2:kE [d] (some d) tl (Sx.upB tb [(nm,none)]):=fun q hq=>by
  obtain⟨f1,f2⟩:=hf q hq;refine⟨f1,fun k B e1 e=>?_⟩;simp only[Sx.upB] at e;split at e
  .cases e
  .exact f2 k B e1 e
 have r3:=r2.new' (x:=⟨(ρ nm).a,j,(ρ nm).c⟩) (B':= .b ty s (ds.take j) lo) (os:=B) (ov':=ov) (f:= .rw d) (y:= .slice (ρ nm).a j (ρ nm).c) hf2 (b7.refl _) r.h (hcut.toBk omc) hBo
  (fun m B' hm e o ho hmo=>⟨ho,fun hc=>by
   simp only[Sx.upB] at e;split at e
   .cases e
   .rename_i hmn
    exact r.dj m nm B' _ e (s2 _ _ hb) hmn _ hmo hc⟩) (by simp[ce]) (r.putA (.slice (ρ nm).a j (ρ nm).c) hd)
 exact lw (hs a w (c7 a) r.h) (hk.run _ G _ _ w r3)
def VM(fr:aF)(own:bh)(cf:Cf):Option (Nat×Nat×TypeId×Nat×List DV×Bool×Int):=match di fr cf with
 |some ⟨some d, .slice t x none (some y) none,_,_,_,_⟩=>match eo tt t with
  |some ⟨.sl _ s' _,_,_,_⟩=>match bt (ck fr cf) x with
   |some (.rw nm)=>match jo fr own cf nm with
    |some (.b ty s ds lo)=>match bt (ck fr cf) y with
     |some (.d (.v (.int _ i)))=>bif Nat.beq s s'&&!Nat.beq nm d then some (d,nm,ty,s,ds,lo,i) else none
     |_=>none
    |_=>none
   |_=>none
  |_=>none
 |_=>none
def S7[fu:Fu]{d nm s:Nat}{ty:TypeId}{ds:List DV}{lo:Bool}{i:Int}(ds':List DV)(k:Nat)(h:VM fr own cf=some (d,nm,ty,s,ds,lo,i))(hi:i=(k:Nat))(hl:k<ds.length)(hd:ds.take k=ds')(hgo:c6 tt n fu.n fr own cf (.rw d) [(nm,none),(d,some (.b ty s ds' lo))] [d]=⟨vc,fr',own',cf'⟩)(kk:av prog GB C n Q0 fr' own' cf')
  (hv:autoParam (ak vc) fn._auto_1):av prog GB C n Q0 fr own cf:=by
 subst hi hd;unfold VM at h;split at h<;>try (cases h;done)
 rename_i hh;split at h<;>try (cases h;done)
 rename_i hT;split at h<;>try (cases h;done)
 rename_i hx;split at h<;>try (cases h;done)
 rename_i hb;split at h<;>try (cases h;done)
 rename_i hy;rw[cond_eq_ite] at h;split at h<;>cases h;rename_i hq;simp only[bT,iW] at hq
 cases bX hq.1
 have:=lh (fi _ _ hT) J;exact us hh (aG6 hq.2 hx hb hy hl) hgo hv kk
end
section
variable {GB:Gh} {C:aH} {n:Nat} {Q0:Exit->Act->World->Prop} {fr fr' fr1 fr2:aF} {own own' own1 own2:bh} {cf cf' cf1 cf2:Cf} {vc vc1 vc2:List Prop}
def kg{fb:Func}{e:Exit}{ds:List DV}{rv:DV}(hr:sh tt fr own fb.results.toList=some ds)(hd: ∀G y,Is G (fy ds) y->Is G rv y)(he:Ev e=true:=by rfl):av prog GB C n (fC C prog fb (mD C (fun v G'=>Is G' rv v))) fr own (.ex e []):=by
 refine⟨fun ρ G ov a w r=>?_⟩;obtain⟨vs,h1,h2⟩:=EL r hr;have hk:Is G rv (pf vs):=hd _ _ (Ea h2)
 cases e with
 |ret=>exact zD (C:=C) (n:=n) (fr:=cG a) (own:=ov) (G:=G) (K:=fun v G'=>Is G' rv v) h1 hk a w ⟨r.h,r.sz,c7 a,r.df⟩
 |normal=>exact N0 (C:=C) (n:=n) (fr:=cG a) (own:=ov) (G:=G) (K:=fun v G'=>Is G' rv v) h1 hk a w ⟨r.h,r.sz,c7 a,r.df⟩
 |_=>cases he
def Oz(fr:aF)(cf:Cf):Option (Int×IntKind):=match di fr cf with
 |some ⟨_, .convert t t' x,_,_,_,_⟩=>match eo tt t,eo tt t',bt (ck fr cf) x with
  |some ⟨.int k,_,_,_⟩,some ⟨.int k',_,_,_⟩,some (.d (.v (.int j p)))=>bif kq k j then some (p,k') else none
  |_,_,_=>none
 |_=>none
def cu[fu:Fu]{p:Int}{k':IntKind}(u:Int)(h:Oz fr cf=some (p,k'))(e:k'.wrap p=u)(hgo:c6 tt n fu.n fr own cf (.d (.v (.int k' u))) [] []=⟨vc,fr',own',cf'⟩)(k:av prog GB C n Q0 fr' own' cf')
  (hv:autoParam (ak vc) cL._auto_1):av prog GB C n Q0 fr own cf:=by
 unfold Oz at h;split at h<;>try (cases h;done)
 rename_i hh;split at h<;>try (cases h;done)
 rename_i k0 _ _ _ k1 _ _ _ j p0 hT hT' hx
 cases hk:kq k0 j with
 |false=>rw[hk] at h;cases h
 |true=>
  rw[hk,cond_true] at h;cases h;cases Hm hk;have:=AG (fi _ _ hT) J;have:=AG (fi _ _ hT') J;subst e;refine us hh (.x1 hx fun ρ G ov a w y _ r h1 h2=>?_) hgo hv k;rw[dl] at h2;subst h2;exact⟨_,dl.2 J,F2 h1⟩
def Re(fr:aF)(cf:Cf):Option (Int×IntKind):=match di fr cf with
 |some ⟨_, .unOp .neg _ x,_,_,_,_⟩=>match bt (ck fr cf) x with
  |some (.d (.v (.int j p)))=>some (p,j)
  |_=>none
 |_=>none
def nu[fu:Fu]{p:Int}{k':IntKind}(u:Int)(h:Re fr cf=some (p,k'))(e:k'.wrap (0-p)=u)(hgo:c6 tt n fu.n fr own cf (.d (.v (.int k' u))) [] []=⟨vc,fr',own',cf'⟩)(k:av prog GB C n Q0 fr' own' cf')
  (hv:autoParam (ak vc) cL._auto_1):av prog GB C n Q0 fr own cf:=by
 unfold Re at h;split at h<;>try (cases h;done)
 rename_i hh;split at h<;>cases h;rename_i hx;subst e;exact us hh (.x1 hx fun ρ G ov a w y _ r h1 h2=>by
  rw[dl] at h2;subst h2;exact⟨_,dl.2 J,LJ h1⟩) hgo hv k
end
def Nu{W:List Nat}(h:0<W.length:=by omega)(hz:W.getD (W.length-1) 0=0:=by omega):trimD W=trimD (W.take (W.length-1)):=by
 have:=Vu (ds:=W) (n:=W.length) ⟨h,bV _⟩ hz;rwa [cN] at this
def HG{W:List Nat}(hz:0<W.length->W.getD (W.length-1) 0≠0):trimD W=W:=by
 have:=RU (ds:=W) (n:=W.length) (bV _) hz;rwa [cN] at this
theorem omo{p:Prop}(h:p:=by rw[hml]<;>rfl):p:=h
def t7{ds:List Nat}(hl:ds.length<=1125899906842624:=by omega):PF GB prog 245 [d6 ds] (d6 (trimD ds)):=by
 refine fn func245 J J ntmps245 J J (fun C=>?_);refine lp (fu:=⟨5⟩) (X:=List Nat) (fun W=>[(0, .d (d6 W))]) (fun W=>[]) (fun W=>trimD ds=trimD W/\W.length<=ds.length) (fun W=>W.length) ds J ⟨J,bV _⟩ (fun _=>J) (fun W hk=>?_);obtain⟨h1,h2⟩:=hk;have hml:=b8 W;refine aj 4 (.d (vI (W.length:Nat))) J omo<|gx J<|cs (fu1:=⟨3⟩) 6 J J J (fun hg6=>?_) (fun hg6=>?_)
 .
  refine aj 9 (.d (vI (W.length:Nat))) J omo<|gx J<|ix _ J (cP (k:=W.length-1)) J<|br (fu1:=⟨7⟩) J J J (fun hc14=>?_) (fun hc14=>?_)
  .
   refine aj 17 (.d (vI (W.length:Nat))) J omo<|gx (fu:=⟨1⟩) J<|aj 18 (.d (vI (W.length-1:Nat))) J (omi we)<|gx J<|kp (fu:=⟨0⟩) 0 (W.length-1) _ J J J J (tC _) we omc J<|aj 19 (.d (d6 (W.take (W.length-1)))) J (by show FX.d (.sl _)=FX.d (.sl _);simp)<|gx J<|at_ (W.take (W.length-1)) ⟨⟨by rw[h1,Nu],by rw[bL];omega⟩,(by rw[bL];omega)⟩
  .
   exact rz J (by rw[h1,HG (fun _=>by omega)];rfl)
 .
  exact rz J (by rw[h1,HG (fun _=>by omega)];rfl)
def Xq{G:Gh}{ds:List Nat}{v:Value}(hd:bH ds)(h:Is G (d6 ds) v): ∃x:SV,v=x.v/\oh G x ds:=by
 obtain⟨x,rfl,h1⟩:=M3.1 h;exact⟨x,J,hd,h1⟩
def R9{ds:List Nat}(hd:bH ds)(hb:ds.length<=1125899906842:=by omega):PF GB prog 271 [d6 ds] (d6 ds):=fun G vs _ hv=>by
 obtain⟨v,m,rfl,h1,h2⟩:=bA.1 hv
 cases fh.1 h2
 obtain⟨x,rfl,h3⟩:=Xq hd h1;exact(azh h3 hb).mono fun v G' _ ⟨z,e,h⟩=>by subst e;exact M3.2 ⟨z,J,h.sl⟩
def aA7{ds:List Nat}(h:ds.length=0):fA ds:=by rw[cY h];unfold fA;simp
def YX{ds:List Nat}(h:0<ds.length):fA ds↔ds.getD (ds.length-1) 0≠0:=by
 unfold fA;rw[oX,aV,aZ we];simp
def Wi(a:Nat):trimD (dg a)=dg a:=azg (gh a).2.2
def p8{a:Nat}(h:(dg a).length<=1125899906842624:=by omega):PF GB prog 245 [dN a] (dN a):=(t7 (ds:=dg a) h).to (by rw[Wi];rfl)
def ju{a i:Nat}[h:BN a i](hi:i<=1000000000:=by omega):(dg a).length<=31250001:=by have:=kA h.h;omega
def w9{a i:Nat}[h:BN a i](hi:i<=1000000000:=by decide):PF GB prog 239 [dN a] (dN a):=by
 have hla:=b8 (dg a);have hba:=ju (a:=a) hi;refine fn func239 J J ntmps239 J J (fun C=>?_);refine cl J (p8) J<|cl J (R9 (gD _)) J<|rz J J
theorem omv{p:Prop}(h:p:=by rw[hla]<;>rfl):p:=h
def R8{ds:List Nat}(hd:bH ds)(hl:ds.length<=1125899906842624):PF GB prog 266 [d6 ds] (vB (decide (fA ds))):=by
 have hla:=b8 ds;refine fn (fu:=⟨9⟩) func266 J J ntmps266 J J (fun C=>?_);refine aj 4 (.d (vI (ds.length:Nat))) J omv<|gx J<|cs (fu2:=⟨3⟩) 6 J J J (fun hg6=>?_) (fun hg6=>?_)
 .
  exact rz J (by rw[decide_eq_true (aA7 we)];rfl)
 .
  refine aj 9 (.d (vI (ds.length:Nat))) J omv<|gx J<|ix _ J (cP (k:=ds.length-1)) J<|rz J (by show DV.v (.bool (decide _))=DV.v (.bool (decide _));congr 2;exact decide_eq_decide.2 (by rw[YX we];omega))
def DQ{a:Nat}(h:a<18446744073709551616:=by omega):PF GB prog 240 [.v (.int .u64 (a:Nat))] (dN a):=by
 refine fn (fu:=⟨11⟩) (hv:=by simp only[ak];exact oma) func240 J J ntmps240 J J (fun C=>?_);refine aj 6 (.d (.v (.int .u64 (a/4294967296:Nat)))) J oku<|gx J<|rf (fu:=⟨0⟩) J J<|aj 8 (.d (d6 [a%4294967296,a/4294967296])) J okh<|gx J<|cl J (t7 (ds:=[a%4294967296,a/4294967296]) omc) J<|rz J (mh (UQ h) (Ur a))
theorem omS{p:Prop}(h:p:=by rw[hlb]<;>rfl):p:=h
def Qv{a b i j:Nat}[h:BN a i][k:BN b j](hi:i<=1000000000:=by decide)(hj:j<=1000000000:=by decide):PF GB prog 269 [dN a,dN b] (vI (jk a b)):=by
 have hla:=b8 (dg a);have hba:=ju (a:=a) hi;have hlb:=b8 (dg b);have hbb:=ju (a:=b) hj;refine fn func269 J J ntmps269 J J (fun C=>?_);refine cl J (p8) J<|cl (fu:=⟨9⟩) J (p8) J<|aj 11 (.d (vI ((dg a).length:Nat))) J omv<|gx (fu:=⟨2⟩) J<|aj 13 (.d (vI ((dg b).length:Nat))) J omS<|gx J<|br (fu1:=⟨5⟩) (fu2:=⟨7⟩) J J J (fun hc14=>?_) (fun hc14=>?_)
 .
  refine aj 16 (.d (vI ((dg a).length:Nat))) J omv<|gx (fu:=⟨2⟩) J<|aj 18 (.d (vI ((dg b).length:Nat))) J omS<|gx J<|br J J J (fun hc19=>?_) (fun hc19=>?_)
  .
   exact rz J (by show DV.v (.int _ (-1))=_;rw[<-H4,CS we];rfl)
  .
   exact rz J (by show DV.v (.int _ 1)=_;rw[<-H4,Cv we];rfl)
 .
  have hl:(dg a).length=(dg b).length:=by omega
  refine aj 21 (.d (vI ((dg a).length:Nat))) J omv<|gx J<|lp (X:=Nat) (fun k=>[(5, .d (vI ((k:Nat)-1)))]) (fun k=>[]) (fun k=>k<=(dg a).length/\(dg a).drop k=(dg b).drop k) (fun k=>k) (dg a).length J ⟨bV _,by rw[fL,hl,fL]⟩ (fun _=>J) (fun k hk=>?_);obtain⟨h1,h2⟩:=hk;refine br J J J (fun hc24=>?_) (fun hc24=>?_)
  .
   obtain⟨k,rfl⟩: ∃m,k=m+1:=⟨k-1,we⟩;refine ix _ J (cP (k:=k)) J<|ix _ J (cP (k:=k)) J<|br J J J (fun hc27=>?_) (fun hc27=>?_)
   .
    exact rz J (by show DV.v (.int _ (-1))=_;rw[CS ((AX hl we h2).1 we)];rfl)
   .
    refine ix _ J (cP (k:=k)) J<|ix _ J (cP (k:=k)) J<|br J J J (fun hc37=>?_) (fun hc37=>?_)
    .
     exact rz J (by show DV.v (.int _ 1)=_;rw[Cv ((AX hl we h2).2.1 we)];rfl)
    .
     exact at_ k ⟨⟨we,(AX (i:=k) hl we h2).2.2 we⟩,we⟩
  .
   exact rz rfl (by show DV.v (.int _ 0)=_;rw[Mp];rfl;obtain rfl:k=0:=we;rw[iS,iS] at h2;rw[<-dm a,h2,dm])
def X4{a b i j:Nat}[h:BN a i][k:BN b j](hi:i<=1000000000:=by decide)(hj:j<=1000000000:=by decide):PF GB prog 237 [dN a,dN b] (dN (a+b)):=by
 have hla:=b8 (dg a);have hba:=ju (a:=a) hi;have hlb:=b8 (dg b);have hbb:=ju (a:=b) hj;refine fn (fu:=⟨6⟩) func237 J J ntmps237 J J (fun C=>?_);refine mg (fu:=⟨4⟩) (X:=Nat×Nat) (fun⟨A,B⟩=>[(0, .d (dN A)),(1, .d (dN B))]) (fun⟨A,B⟩=>[]) (fun⟨A,B⟩=>(dg B).length<=(dg A).length/\A+B=a+b/\(dg A).length<=31250001) [0,1] [] rfl ?_ (fun _=>J) (fun⟨A,B⟩ ⟨hm1,hm2,hm3⟩=>?_)
 .
  refine gx (fu:=⟨4⟩) J<|aj 10 (.d (vI ((dg a).length:Nat))) J omv<|gx (fu:=⟨2⟩) J<|aj 12 (.d (vI ((dg b).length:Nat))) J omS<|gx J<|br J J J (fun hc13=>?_) (fun hc13=>?_)
  .
   exact at_ ⟨b,a⟩ ⟨we,lJ b a,hbb⟩
  .
   exact at_ ⟨a,b⟩ ⟨we,J,hba⟩
 .
  have hlA:=b8 (dg A);have hlB:=b8 (dg B);refine aj 17 (.d (vI ((dg A).length:Nat))) J (by rw[hlA]<;>rfl)<|gx (fu:=⟨1⟩) J<|aj 18 (.d (vI ((dg A).length+1:Nat))) J omk<|gx J<|mk (fu:=⟨13⟩) ((List.replicate ((dg A).length+1) 0).map dU) J J omH J<|aj 21 (.d (vI ((dg A).length:Nat))) J (by rw[hlA]<;>rfl)<|gx J<|lp (X:=List Nat×Nat×Nat) (fun⟨W,c,i⟩=>[(0, .d (dN A)),(1, .d (dN B)),(5, .rw 19),(6, .d (.v (.int .u64 (c:Nat)))),(20, .d (dN A)),(21, .d (vI ((dg A).length:Nat))),(22, .d (vI (i:Nat)))]) (fun⟨W,c,i⟩=>[(19,some (.b 245 1 (W.map dU) true))]) (fun⟨W,c,i⟩=>W.length=(dg A).length+1/\bH W/\c<=1/\i<=(dg A).length/\dv (W.take i)+4294967296^i*c=dv ((dg A).take i)+dv ((dg B).take i)) (fun⟨W,c,i⟩=>(dg A).length-i) ⟨List.replicate ((dg A).length+1) 0,0,0⟩ J ⟨omc, .replicate _,we,we,by simp[dv]⟩ (fun _=>J) (fun⟨W,c,i⟩ hk=>?_)
  try dsimp only at hk⊢
  obtain⟨h1,h2,h3,h4,h5⟩:=hk;have hlw:=b8 W;have hda:=eh A i;have hdb:=eh B i;obtain⟨t,ht⟩: ∃t,t=(dg A).getD i 0+(dg B).getD i 0+c:=⟨_,rfl⟩;refine br (fu2:=⟨10⟩) J J J (fun hc23=>?_) (fun hc23=>?_)
  .
   refine ix (fu:=⟨15⟩) _ J (fg) J<|mg (fu:=⟨6⟩) (X:=Unit) (fun _=>[(0, .d (dN A)),(1, .d (dN B)),(5, .rw 19),(6, .d (.v (.int .u64 (t:Nat)))),(20, .d (dN A)),(21, .d (vI ((dg A).length:Nat))),(22, .d (vI (i:Nat))),(7, .d (vI (i:Nat))),(8, .d (dU ((dg A).getD i 0)))]) (fun _=>[(19,some (.b 245 1 (W.map dU) true))]) (fun _=>True) [0,1,5,6,20,21,22,7,8] [19] rfl ?_ (fun _=>J) (fun _ _=>?_)
   .
    refine gx (fu:=⟨5⟩) J<|aj 33 (.d (vI ((dg B).length:Nat))) J (by rw[hlB]<;>rfl)<|gx J<|br J J J (fun hc34=>?_) (fun hc34=>?_)
    .
     refine ix _ J (fg) J<|aj 6 (.d (.v (.int .u64 (t:Nat)))) J (omi we)<|at_ () trivial
    .
     have hz:=qr (ds:=dg B) (i:=i);refine aj 6 (.d (.v (.int .u64 (t:Nat)))) J (omi we)<|at_ () trivial
   .
    refine aj 45 (.d (dU (t%4294967296))) J omk<|gx J<|sb (fu:=⟨5⟩) (hv:=by simp only[ak];exact oma) _ ((W.set i (t%4294967296)).map dU) J (fg) J okj J<|aj 48 (.d (.v (.int .u64 (t/4294967296:Nat)))) J oku<|gx J<|at_ ⟨W.set i (t%4294967296),t/4294967296,i+1⟩ (by dsimp only;exact⟨⟨by simpa using h1,h2.set _ we,we,we,by rw[ht];exact OV we h5⟩,we⟩)
  .
   obtain rfl:i=(dg A).length:=by omega
   refine aj 52 (.d (vI ((dg A).length:Nat))) J (by rw[hlA]<;>rfl)<|gx (fu:=⟨2⟩) J<|aj 54 (.d (dU c)) J (omi we)<|gx J<|sb _ ((W.set (dg A).length c).map dU) J (fg) J okj J<|fz 19 J J<|cl J (t7 (ds:=W.set (dg A).length c) omq) J<|rz J (by rw[<-hm2];exact mh (h2.set _ we) (RY we h1 h5))
def auq{x y:Nat}(hx:x<4294967296)(hy:y<=4294967296):IntKind.u64.wrap ((x:Int)-y)=(((if x<y then x+18446744073709551616-y else x-y):Nat):Int):=by
 rw[sI];split<;>omega
def Do{a b:Nat}:jk a b<0↔a<b:=by unfold jk;split<;>(try split)<;>omega
section
variable {GB:Gh} {C:aH} {n:Nat} {Q0:Exit->Act->World->Prop} {fr fr':aF} {own own':bh} {cf cf':Cf} {vc:List Prop}
def Tk(fr:aF)(cf:Cf):Option (Int×Int):=match di fr cf with
 |some ⟨_, .binOp .sub _ x y _,_,_,_,_⟩=>match bt (ck fr cf) x,bt (ck fr cf) y with
  |some (.d (.v (.int .u64 p))),some (.d (.v (.int .u64 q)))=>some (p,q)
  |_,_=>none
 |_=>none
def sd[fu:Fu]{p q:Int}(u:Int)(h:Tk fr cf=some (p,q))(e:IntKind.u64.wrap (p-q)=u)(hgo:c6 tt n fu.n fr own cf (.d (.v (.int .u64 u))) [] []=⟨vc,fr',own',cf'⟩)(k:av prog GB C n Q0 fr' own' cf')
  (hv:autoParam (ak vc) cL._auto_1):av prog GB C n Q0 fr own cf:=by
 unfold Tk at h;split at h<;>try (cases h;done)
 rename_i hh;split at h<;>cases h;rename_i h1 h2;subst e;exact us hh (.yd fun ρ G ov a w r=>by
  obtain⟨y1,h3,h4⟩:=r.ev h1;obtain⟨y2,h5,h6⟩:=r.ev h2;rw[dl] at h4 h6;subst h4 h6;exact⟨_,dl.2 J,mf h3 h5 fun w=>J⟩) hgo hv k
end
def Me(u:Nat):(u:Int).fdiv (2^min (63:Int).toNat IntKind.u64.bits)=((u/9223372036854775808:Nat):Int):=by
 rw[show(2:Int)^min (63:Int).toNat IntKind.u64.bits=((9223372036854775808:Nat):Int) from J,kM _ oma];rfl
def aG9{a b ia ib:Nat}[h:BN a ia][k:BN b ib](hb:b<=a)(hi:ia<=1000000000:=by decide)(hj:ib<=1000000000:=by decide):PF GB prog 270 [dN a,dN b] (dN (a-b)):=by
 have hla:=b8 (dg a);have hba:=ju (a:=a) hi;have hlb:=b8 (dg b);have hbb:=ju (a:=b) hj;refine fn (fu:=⟨9⟩) func270 J J ntmps270 J J (fun C=>?_);refine aj 12 (.d (vI ((dg a).length:Nat))) J omv<|gx J<|mk (fu:=⟨13⟩) ((List.replicate (dg a).length 0).map dU) J J omH J<|aj 15 (.d (vI ((dg a).length:Nat))) J omv<|gx J<|lp (X:=List Nat×Nat×Nat) (fun⟨W,c,i⟩=>[(0, .d (dN a)),(1, .d (dN b)),(5, .rw 13),(6, .d (.v (.int .u64 (c:Nat)))),(14, .d (dN a)),(15, .d (vI ((dg a).length:Nat))),(16, .d (vI (i:Nat)))]) (fun⟨W,c,i⟩=>[(13,some (.b 245 1 (W.map dU) true))]) (fun⟨W,c,i⟩=>W.length=(dg a).length/\bH W/\c<=1/\i<=(dg a).length/\dv (W.take i)+dv ((dg b).take i)=dv ((dg a).take i)+4294967296^i*c) (fun⟨W,c,i⟩=>(dg a).length-i) ⟨List.replicate (dg a).length 0,0,0⟩ J ⟨omc, .replicate _,we,we,by simp[dv]⟩ (fun _=>J) (fun⟨W,c,i⟩ hk=>?_)
 try dsimp only at hk⊢
 obtain⟨h1,h2,h3,h4,h5⟩:=hk;have hlw:=b8 W;have hda:=eh a i;have hdb:=eh b i;obtain⟨t,ht⟩: ∃t,t=(dg b).getD i 0+c:=⟨_,rfl⟩;obtain⟨v,hv⟩: ∃v:Nat,v=if(dg a).getD i 0<t then(dg a).getD i 0+18446744073709551616-t else(dg a).getD i 0-t:=⟨_,rfl⟩
 obtain⟨d,hd⟩: ∃d:Nat,d=if(dg a).getD i 0<(dg b).getD i 0+c then(dg a).getD i 0+4294967296-((dg b).getD i 0+c) else(dg a).getD i 0-((dg b).getD i 0+c):=⟨_,rfl⟩
 obtain⟨c2,hc2⟩: ∃d:Nat,d=if(dg a).getD i 0<(dg b).getD i 0+c then 1 else 0:=⟨_,rfl⟩
 have hvd:v%4294967296=d:=by rw[hv,hd,<-ht];split<;>omega
 have hvc:v/9223372036854775808=c2:=by rw[hv,hc2,<-ht];split<;>omega
 refine br J J J (fun hc17=>?_) (fun hc17=>?_)
 .
  refine ix (fu:=⟨12⟩) _ J (fg) J<|mg (fu:=⟨5⟩) (X:=Unit) (fun _=>[(0, .d (dN a)),(1, .d (dN b)),(5, .rw 13),(6, .d (.v (.int .u64 (c:Nat)))),(14, .d (dN a)),(15, .d (vI ((dg a).length:Nat))),(16, .d (vI (i:Nat))),(7, .d (vI (i:Nat))),(8, .d (dU ((dg a).getD i 0))),(9, .d (.v (.int .u64 (t:Nat))))]) (fun _=>[(13,some (.b 245 1 (W.map dU) true))]) (fun _=>True) [0,1,5,6,14,15,16,7,8,9] [13] rfl ?_ (fun _=>J) (fun _ _=>?_)
  .
   refine gx (fu:=⟨5⟩) J<|aj 24 (.d (vI ((dg b).length:Nat))) J omS<|gx J<|br J J J (fun hc25=>?_) (fun hc25=>?_)
   .
    refine ix _ J (fg) J<|aj 9 (.d (.v (.int .u64 (t:Nat)))) J (omi we)<|at_ () trivial
   .
    have hz:=qr (ds:=dg b) (i:=i);refine aj 9 (.d (.v (.int .u64 (t:Nat)))) J (omi we)<|at_ () trivial
  .
   refine sd (fu:=⟨9⟩) ((v:Nat):Int) J (by rw[hv];exact auq hda we) J<|aj 40 (.d (dU d)) J (omi we)<|gx J<|sb (fu:=⟨5⟩) (hv:=by simp only[ak];exact oma) _ ((W.set i d).map dU) J (fg) J okj J<|aj 43 (.d (.v (.int .u64 (c2:Nat)))) J (by rw[Me,hvc])<|gx J<|at_ ⟨W.set i d,c2,i+1⟩ (by dsimp only;exact⟨⟨by simpa using h1,h2.set _ (by rw[hd];split<;>omega),by rw[hc2];split<;>omega,we,R5 (gD a) (gD b) we h3 h5 hd hc2⟩,we⟩)
 .
  obtain rfl:i=(dg a).length:=by omega
  refine fz 13 J J<|cl J (t7 (ds:=W)) J<|rz J (mh h2 (UH h2 h1 hb h5))
theorem okT{p:Prop}(h:p:=by have:=Do (a:=a) (b:=b);omega):p:=h
def S0{a b i j:Nat}[h:BN a i][k:BN b j](hi:i<=1000000000:=by decide)(hj:j<=1000000000:=by decide):PF GB prog 238 [dN a,dN b] (.tp [dN (a-b),vB (decide (b<=a))]):=by
 have hla:=b8 (dg a);have hba:=ju (a:=a) hi;have hlb:=b8 (dg b);have hbb:=ju (a:=b) hj;refine fn func238 J J ntmps238 J J (fun C=>?_);refine cl J (Qv (a:=a) (b:=b) hi hj) J<|br J J J (fun hc9=>?_) (fun hc9=>?_)
 .
  exact rz J (by rw[show a-b=0 by have:=Do (a:=a) (b:=b);omega,decide_eq_false okT,mH];rfl)
 .
  refine cl J (p8) J<|cl J (p8) J<|cl J (aG9 okT hi hj) J<|rz J (by rw[decide_eq_true okT];rfl)
def A6{a b ia ib:Nat}[h:BN a ia][k:BN b ib](hi:ia<=1000000000:=by decide)(hj:ib<=1000000000:=by decide):PF GB prog 186 [dN a,dN b] (dN (a*b)):=by
 have hla:=b8 (dg a);have hba:=ju (a:=a) hi;have hlb:=b8 (dg b);have hbb:=ju (a:=b) hj;refine fn func186 J J ntmps186 J J (fun C=>?_);refine cl J (p8) J<|cl (fu:=⟨8⟩) J (p8) J<|aj 16 (.d (vI ((dg a).length:Nat))) J omv<|gx (fu:=⟨2⟩) J<|aj 18 (.d (vI ((dg b).length:Nat))) J omS<|gx (fu:=⟨1⟩) J<|aj 19 (.d (vI ((dg a).length+(dg b).length:Nat))) J omk<|gx J<|mk (fu:=⟨8⟩) ((List.replicate ((dg a).length+(dg b).length) 0).map dU) J J omH J<|aj 22 (.d (vI ((dg a).length:Nat))) J omv<|gx J<|lp (X:=List Nat×Nat) (fun⟨W,i⟩=>[(0, .d (dN a)),(1, .d (dN b)),(5, .rw 20),(21, .d (dN a)),(22, .d (vI ((dg a).length:Nat))),(23, .d (vI (i:Nat)))]) (fun⟨W,i⟩=>[(20,some (.b 245 1 (W.map dU) true))]) (fun⟨W,i⟩=>W.length=(dg a).length+(dg b).length/\bH W/\i<=(dg a).length/\dv (W.take (i+(dg b).length))=dv ((dg a).take i)*b) (fun⟨W,i⟩=>(dg a).length-i) ⟨List.replicate ((dg a).length+(dg b).length) 0,0⟩ J ⟨omc, .replicate _,we,by rw[qL,Ar];simp[dv]⟩ (fun _=>J) (fun⟨W,i⟩ hk=>?_)
 try dsimp only at hk⊢
 obtain⟨h1,h2,h3,h4⟩:=hk;refine br J J J (fun hc24=>?_) (fun hc24=>?_)
 .
  refine ix (fu:=⟨15⟩) _ J (fg) J<|aj 29 (.d (vI ((dg b).length:Nat))) J omS<|gx J<|lp (X:=List Nat×Nat×Nat) (fun⟨W2,c,k⟩=>[(0, .d (dN a)),(1, .d (dN b)),(5, .rw 20),(6, .d (vI (i:Nat))),(7, .d (dU ((dg a).getD i 0))),(8, .d (.v (.int .u64 (c:Nat)))),(21, .d (dN a)),(22, .d (vI ((dg a).length:Nat))),(23, .d (vI (i:Nat))),(28, .d (dN b)),(29, .d (vI ((dg b).length:Nat))),(30, .d (vI (k:Nat)))]) (fun⟨W2,c,k⟩=>[(20,some (.b 245 1 (W2.map dU) true))]) (fun⟨W2,c,k⟩=>W2.length=(dg a).length+(dg b).length/\bH W2/\c<4294967296/\k<=(dg b).length/\dv (W2.take (i+(dg b).length))+4294967296^(i+k)*c=dv ((dg a).take i)*b+(dg a).getD i 0*(4294967296^i*dv ((dg b).take k))) (fun⟨W2,c,k⟩=>(dg b).length-k) ⟨W,0,0⟩ J ⟨h1,h2,we,we,by rw[h4];simp[dv]⟩ (fun _=>J) (fun⟨W2,c,k⟩ hk=>?_)
  try dsimp only at hk⊢
  obtain⟨g1,g2,g3,g4,g5⟩:=hk;have hlw:=b8 W2;have hw:=g2.get (i+k);have hda:=eh a i;have hdb:=eh b k;refine br (fu2:=⟨10⟩) J J J (fun hc31=>?_) (fun hc31=>?_)
  .
   refine ix (fu:=⟨13⟩) (hv:=by simp only[ak];exact⟨⟨we,we⟩,⟨(Cw _ _),(DJ (eh _ _) (eh _ _))⟩⟩) _ J (fg) J<|?_;obtain⟨p,hp⟩: ∃p,p=(dg a).getD i 0*(dg b).getD k 0:=⟨_,rfl⟩;have hp1:p<=18446744065119617025:=hp▸F6 hda hdb;refine aj 40 (.d (.v (.int .u64 (p:Nat)))) J (by rw[hp,jJ])<|gx J<|lb (fu:=⟨3⟩) _ J (cP (k:=i+k)) J<|?_;obtain⟨t,ht⟩: ∃t,t=p+W2.getD (i+k) 0+c:=⟨_,rfl⟩;refine aj 49 (.d (.v (.int .u64 (t:Nat)))) J (omi we)<|gx (fu:=⟨11⟩) J<|aj 55 (.d (dU (t%4294967296))) J omk<|gx J<|sb (fu:=⟨5⟩) (hv:=by simp only[ak];exact oma) _ ((W2.set (i+k) (t%4294967296)).map dU) J (cP (k:=i+k)) J (by(rw[show((i:Int)+k).toNat=i+k by omega,<-j0])<;>rfl) J<|aj 58 (.d (.v (.int .u64 (t/4294967296:Nat)))) J oku<|gx J<|at_ ⟨W2.set (i+k) (t%4294967296),t/4294967296,k+1⟩ okn
  .
   obtain rfl:k=(dg b).length:=by omega
   refine aj 63 (.d (vI ((dg b).length:Nat))) J omS<|gx (fu:=⟨3⟩) J<|aj 66 (.d (dU c)) J (omi we)<|gx J<|sb _ ((W2.set (i+(dg b).length) c).map dU) J (cP (k:=i+(dg b).length)) J (by(rw[show((i:Int)+((dg b).length:Nat)).toNat=i+(dg b).length by omega,<-j0])<;>rfl) J<|at_ ⟨W2.set (i+(dg b).length) c,i+1⟩ okH
 .
  obtain rfl:i=(dg a).length:=by omega
  refine fz 20 J J<|cl J (t7 (ds:=W)) J<|rz J (mh h2 okv)
def aGi{h l y:Nat}(hh:h<y)(hl:l<4294967296)(hy:y<4294967296):PF GB prog 205 [.v (.int .u32 (h:Int)), .v (.int .u32 (l:Int)), .v (.int .u32 (y:Int))] (.tp [dU ((h*4294967296+l)/y),dU ((h*4294967296+l)%y)]):=by
 refine fn (fu:=⟨11⟩) func205 J J ntmps205 J J (fun C=>?_);refine kT 10 J we<|gx (fu:=⟨4⟩) J<|kF 14 J we<|gx (fu:=⟨11⟩) (hv:=by simp only[ak];exact⟨we,oma⟩) J<|aj 19 (.d (.v (.int .u64 (h*2^32:Nat)))) J omt<|gx (fu:=⟨3⟩) J<|aj 22 (.d (.v (.int .u64 (l+h*2^32:Nat)))) J (congrArg (fun z:Nat=>FX.d (.v (.int .u64 (z:Int)))) (by rw[BitVec.or_comm];exact rg 64 l h 32 hl omw)) ?_;obtain⟨t,ht⟩: ∃t,t=h*4294967296+l:=⟨_,rfl⟩;have hq:t/y<4294967296:=by rw[kS we];have:=fV 4294967296 (show h+1<=y from hh);omega
 have hr:t%y<y:=dW _ we;refine aj 22 (.d (.v (.int .u64 (t:Nat)))) J (by show FX.d (.v (.int _ _))= .d (.v (.int _ _));congr 3;rw[ht];omega)<|gx (hv:=by simp only[ak];exact⟨⟨⟨⟨we,⟨we,we,we⟩⟩,we⟩,⟨we,we⟩⟩,omd⟩) J<|rz J (by show DV.tp [.v (.int _ _), .v (.int _ _)]= .tp [.v (.int _ _), .v (.int _ _)];rw[<-ht,<-tX,<-Int.natCast_emod];generalize t/y=q at*;generalize t%y=r at*;congr 4<;>(first|omega|(congr 3;omega)))
def aGe{A r i b:Nat}(d:Nat)(hb:0<b):(A*4294967296+d)/b=A/b*4294967296+(A%b*4294967296+d)/b/\(A*4294967296+d)%b=(A%b*4294967296+d)%b:=by
 have h:=rU A b;have e:A*4294967296+d=(A%b*4294967296+d)+b*(A/b*4294967296):=by
  rw[<-cR,Nat.add_right_comm,<-dS,lJ (A%b),h]
 rw[e,qX _ _ hb,qU];exact⟨lJ _ _,J⟩
def V3{ds:List Nat}{i:Nat}(h:i<ds.length):dv (ds.drop i)=dv (ds.drop (i+1))*4294967296+ds.getD i 0:=by
 rw[bK h,aV,aZ h];simp only[dv,mQ];omega
def NN{W:List Nat}{i q:Nat}(h:i<W.length):dv ((W.set i q).drop i)=dv (W.drop (i+1))*4294967296+q:=by
 rw[V3 (by rw[bJ];exact h),uQ we,CE h]
def Wc{a b k:Nat}{W:List Nat}(hb:0<b)(hk:k<(dg a).length)(hl:W.length=(dg a).length)(h:dv (W.drop (k+1))=dv ((dg a).drop (k+1))/b):
  dv ((W.set k ((dv ((dg a).drop (k+1))%b*4294967296+(dg a).getD k 0)/b)).drop k)=dv ((dg a).drop k)/b/\dv ((dg a).drop k)%b=(dv ((dg a).drop (k+1))%b*4294967296+(dg a).getD k 0)%b:=by
 have:=aGe (A:=dv ((dg a).drop (k+1))) (r:=0) (i:=0) ((dg a).getD k 0) hb;rw[NN we,h,V3 hk,this.1,this.2];exact⟨J,J⟩
def AV{a b:Nat}:jk a b<0↔a<b:=by unfold jk;split<;>(try split)<;>omega
def C4{a b:Nat}:0<jk a b↔b<a:=by unfold jk;split<;>(try split)<;>omega
def Mf{x:Nat}(hx:x<4294967296):PF GB prog 259 [dU x] (vI (32-(bl x:Int))):=by
 intro G vs hg hv;obtain⟨v,m,rfl,h1,h2⟩:=bA.1 hv;rw[fh] at h2;subst h2;rw[aP.1 h1];exact(axn hx).mono fun v G' _ h=>aP.2 h
def Rf{a k:Nat}(h:4294967296^k<=a):k<(dg a).length:=by
 have h1:=s7 a;rcases jS k (dg a).length with q|q
 .exact q
 .have:4294967296^(dg a).length<=4294967296^k:=bR oma q
  omega
def Ql{v L:Nat}(hL:L=(dg v).length)(h1:1<=L):(dg v).getD (L-1) 0=v/4294967296^(L-1)/\0<v/4294967296^(L-1):=by
 have h:=Hx (gD v) (L-1);rw[qr (by omega:(dg v).length<=L-1+1),dm,uK,gV] at h;have h2:=s7 v;rw[<-hL] at h2;rw[mM (show v<4294967296^(L-1+2) from cS h2 (bR oma we)),uK,gV] at h;have h3:=Ae (gh v).2.2 (by intro e;rw[e] at hL;simp at hL;omega);rw[dm,<-hL] at h3;exact⟨h.symm,Nat.div_pos h3 (gU oma)⟩
def H7{R n:Nat}(h1:1<=n)(h:R<4294967296^(n+1)):R/4294967296^(n-1)=(dg R).getD (n-1) 0+(dg R).getD n 0*4294967296:=by
 have e:=Hx (gD R) (n-1);rw[dm,show n-1+1=n by omega,mM (show R<4294967296^(n-1+2) by rwa [show n-1+2=n+1 by omega]),uK,gV,cW] at e;exact e
def azK{R v j L:Nat}(hL:L=(dg v).length)(h1:1<=L)(hR:R<v*4294967296^(j+1)):R/(v*4294967296^j)<=min (R/4294967296^(L+j-1)/(v/4294967296^(L-1))) 4294967295:=by
 have ht:=(Ql hL h1).2;have hp:0<4294967296^j:=gU oma;have hv0:0<v:=by
  rcases gX v with q|q
  .subst q;simp at ht
  .exact q
 have hvp:0<v*4294967296^j:=jR hv0 hp;refine Nat.le_min.2 ⟨?_,?_⟩
 .rw[tZ ht,tZ (gU oma)]
  have h3:v/4294967296^(L-1)*4294967296^(L-1)<=v:=Nat.div_mul_le_self _ _;have h4:R/(v*4294967296^j)*(v*4294967296^j)<=R:=Nat.div_mul_le_self _ _;rw[show L+j-1=L-1+j by omega,fY]
  calc R/(v*4294967296^j)*(v/4294967296^(L-1))*(4294967296^(L-1)*4294967296^j)
    =R/(v*4294967296^j)*((v/4294967296^(L-1)*4294967296^(L-1))*4294967296^j):=by simp only[cR]
   _<=R/(v*4294967296^j)*(v*4294967296^j):=fV _ (bW _ h3)
   _<=R:=h4
 .have:R/(v*4294967296^j)<4294967296:=by
   rw[kS hvp];rw[iK] at hR;rwa [cW,cR]
  omega
def GX{R V g:Nat}(hV:0<V)(h:R<V*g):R/V<g:=by
 rw[kS hV,cW];exact h
def azA{R V g:Nat}(hV:0<V)(h1:R/V<=g)(h2:V*g<=R):g=R/V:=by
 have:g<=R/V:=by rw[tZ hV,cW];exact h2
 omega
def Pc{R0 R v j g:Nat}{W:List Nat}(hj:j<W.length)(h:R0=R+dv (W.drop (j+1))*4294967296^(j+1)*v)(hv:0<v*4294967296^j)(hg:g=R/(v*4294967296^j)):
  R0=(R-v*4294967296^j*g)+dv ((W.set j g).drop j)*4294967296^j*v/\R-v*4294967296^j*g<v*4294967296^j:=by
 have h1:=rU R (v*4294967296^j);have h2:=dW R hv;rw[<-hg] at h1;refine⟨?_,we⟩;rw[NN hj,dS,dS,h,iK];have e:g*4294967296^j*v=v*4294967296^j*g:=by simp only[cR,nX,cW]
 have e2:dv (W.drop (j+1))*(4294967296^j*4294967296)*v=dv (W.drop (j+1))*4294967296*4294967296^j*v:=by simp only[cR,nX,cW]
 rw[e,e2];omega
def azw{a b s R:Nat}{D:Nat}(hR:R<b*2^s)(h:a*2^s=R+D*(b*2^s)):D=a/b/\R/2^s=a%b:=by
 have hp:0<2^s:=gU oma;have hb:0<b:=by
  rcases gX b with q|q
  .subst q;simp at hR
  .exact q
 have h1:a=R/2^s+D*b:=by
  have:=congrArg (· /2^s) h;rw[Nat.mul_div_cancel _ hp,<-cR,Nat.add_mul_div_right _ _ hp] at this;exact this
 have h2:R/2^s<b:=by rw[kS hp];exact hR
 have h3:R/2^s+b*D=a:=by rw[cW b];exact h1.symm
 have:=(Nat.div_mod_unique hb).2 ⟨h3,h2⟩;exact⟨this.1.symm,this.2.symm⟩
def auc{a b s:Nat}(hl:(dg b).length<=(dg a).length)(h2:1<=(dg b).length):a*2^s<b*2^s*4294967296^((dg a).length-(dg b).length+1):=by
 have h1:=s7 a;have h3:=Ae (gh b).2.2 (by intro e;rw[e] at h2;simp at h2);rw[dm] at h3;have h4:4294967296^(dg a).length<=b*4294967296^((dg a).length-(dg b).length+1):=by
  rw[show(dg a).length=((dg b).length-1)+((dg a).length-(dg b).length+1) by omega,fY];rw[show(dg b).length-1+((dg a).length-(dg b).length+1)-(dg b).length+1=(dg a).length-(dg b).length+1 by omega];exact bW _ h3
 rw[nS];exact nW (cS h1 h4) (gU oma)
def S'(x j:Nat):x*2^(32*j)=x*4294967296^j:=by rw[uR]
def aFn{R L j:Nat}(h:R<4294967296^(L+j+1))(h1:1<=L):R/4294967296^(L+j-1)<18446744073709551616:=by
 rw[kS (gU oma),show(18446744073709551616:Nat)=4294967296^2 from J,<-fY];rwa [show 2+(L+j-1)=L+j+1 by omega]
def WU{R v j L:Nat}(hL:L=(dg v).length)(hR:R<v*4294967296^(j+1)):R<4294967296^(L+j+1):=by
 have h:=s7 v;rw[<-hL] at h;rw[lT,fY];exact cS hR (bW _ (gS h))
def aGM{a b ia ib:Nat}[ha:BN a ia][hb:BN b ib](hi:ia<=500000000)(hj:ib<=500000000)(h2:1<=(dg b).length)(hl:(dg b).length<=(dg a).length):PF GB prog 206 [dN a,dN b] (.tp [dN (a/b),dN (a%b)]):=by
 have hla:=b8 (dg a);have hlb:=b8 (dg b);have hba:=kA ha.h;have hba':(dg a).length<=20000000:=by omega
 refine fn func206 J J ntmps206 J J (fun C=>?_);refine ix _ J (cP (k:=(dg b).length-1)) J<|cl (fu:=⟨0⟩) J (Mf (eh b ((dg b).length-1))) J<|?_;obtain⟨s,hs⟩: ∃s:Nat,s=32-bl ((dg b).getD ((dg b).length-1) 0):=⟨_,rfl⟩;have hs32:s<=32:=by omega
 refine aj 22 (.d (vI (s:Nat))) J (by show FX.d (.v (.int _ _))= .d (.v (.int _ _));congr 3;have:=pn.2 (show(dg b).getD ((dg b).length-1) 0<2^32 from eh b _);omega)<|gx J<|cl J (Ek (a:=b) (k:=s) (ia:=ib) we we) J<|cl (fu:=⟨0⟩) J (Ek (a:=a) (k:=s) (ia:=ia) we we) J<|?_;obtain⟨v,hv⟩: ∃v,v=b*2^s:=⟨_,rfl⟩;obtain⟨R0,hR0⟩: ∃R0,R0=a*2^s:=⟨_,rfl⟩;refine aj 25 (.d (dN v)) J (by rw[hv])<|aj 28 (.d (dN R0)) J (by rw[hR0]) ?_;obtain⟨L,hL⟩: ∃L,L=(dg v).length:=⟨_,rfl⟩;have hlv:((dg v).map dU).length=L:=by rw[b8,hL]
 have hps:2^s<=2^32:=bR oma hs32;have hpp:0<2^s:=gU oma;have hst:=auc (a:=a) (b:=b) (s:=s) hl h2;rw[<-hv,<-hR0] at hst;have hvb:v<2^(ib+32):=by rw[hv,fY];exact nL hb.h hps oma
 have hRb:R0<2^(ia+32):=by rw[hR0,fY];exact nL ha.h hps oma
 have hbp:0<b:=iM (fun q=>by subst q;rw[xd] at h2;simp at h2);have hvp:0<v:=hv▸jR hbp hpp;have hLp:1<=L:=by rw[hL];exact Rf (k:=0) (by rw[uW];exact hvp)
 have htop:=Ql hL hLp;haveI hvB:BN v (ib+32):=⟨hvb⟩;have hLb:=kA hvb;have hLb':L<=20000000:=by omega
 have htl:=eh v (L-1);refine gx (fu:=⟨9⟩) J<|aj 31 (.d (vI (L:Nat))) J (by rw[hlv];rfl)<|gx J<|ix (fu:=⟨2⟩) _ J (cP (k:=L-1)) J<|aj 35 (.d (.v (.int .u64 (v/4294967296^(L-1):Nat)))) J (by rw[htop.1]) ?_;rw[htop.1] at htl;refine gx (fu:=⟨11⟩) J<|?_;obtain⟨m,hm⟩: ∃m,m=(dg a).length-(dg b).length+1:=⟨_,rfl⟩;rw[<-hm] at hst;have hrl:(List.replicate ((m:Nat):Int).toNat (DV.v (.int .u32 0))).length=m:=by rw[aM,cK]
 refine aj 41 (.d (vI (m:Nat))) J (omi we)<|gx J<|mk ((List.replicate m 0).map dU) J J omH J<|lp (X:=List Nat×Nat×Nat) (fun⟨W,R,k⟩=>[(6, .d (vI (s:Nat))),(7, .d (dN v)),(8, .d (dN R)),(9, .d (.v (.int .u64 (v/4294967296^(L-1):Nat)))),(10, .rw 42),(11, .d (vI ((k:Nat)-1)))]) (fun⟨W,R,k⟩=>[(42,some (.b 245 1 (W.map dU) true))]) (fun⟨W,R,k⟩=>W.length=m/\bH W/\k<=m/\R0=R+dv (W.drop k)*4294967296^k*v/\R<v*4294967296^k/\R<=R0) (fun⟨W,R,k⟩=>k) ⟨List.replicate m 0,R0,m⟩ J ⟨omc, .replicate _,bV _,by simp[dv],hst,bV _⟩ (fun _=>J) (fun⟨W,R,k⟩ hk=>?_);dsimp only at hk⊢;obtain⟨h1,h2',h3,h4,h5,h6⟩:=hk;have hlw:=b8 W;refine br (fu1:=⟨10⟩) J J J (fun hc47=>?_) (fun hc47=>?_)
 .
  obtain⟨j,rfl⟩: ∃j,k=j+1:=⟨k-1,we⟩;have hvj:0<v*4294967296^j:=jR hvp (gU oma);have hge:=azK hL hLp h5;have hlen:=WU hL h5;have hlr:((dg R).map dU).length=(dg R).length:=b8 _;haveI hRB:BN R (ia+32):=⟨we⟩;have hq32:R/(v*4294967296^j)<4294967296:=by omega
  have hz1:=Int.natCast_nonneg (R/4294967296^(L+j-1));have hz2:=Int.natCast_nonneg (R/4294967296^(L+j-1)/(v/4294967296^(L-1)));refine aj 11 (.d (vI (j:Nat))) J (omi we)<|mg (fu:=⟨6⟩) (hv:=fun _ _=>by simp only[ak];exact⟨we,(by have:=aFn hlen hLp;omega),we⟩) (X:=Unit) (fun _=>[(6, .d (vI (s:Nat))),(7, .d (dN v)),(8, .d (dN R)),(9, .d (.v (.int .u64 (v/4294967296^(L-1):Nat)))),(10, .rw 42),(11, .d (vI (j:Nat))),(12, .d (.v (.int .u64 (R/4294967296^(L+j-1):Nat))))]) (fun _=>[(42,some (.b 245 1 (W.map dU) true))]) (fun _=>True) [6,7,8,9,10,11,12] [42] rfl ?_ (fun _=>J) (fun _ hm=>?_)
  .
   refine gx (fu:=⟨4⟩) J<|aj 51 (.d (vI (L:Nat))) J (by rw[hlv];rfl)<|gx (fu:=⟨2⟩) J<|aj 53 (.d (vI (L+j:Nat))) J omk<|gx (fu:=⟨8⟩) J<|aj 56 (.d (vI ((dg R).length:Nat))) J (by rw[hlr];rfl)<|gx J<|br (fu2:=⟨6⟩) J J J (fun hc57=>?_) (fun hc57=>?_)
   .
    have hd0:=eh R (L+j-1);have hd1:=eh R (L+j);refine ix (hv:=by simp only[ak];exact⟨⟨we,oma⟩,we⟩) _ J (cP (k:=L+j)) J<|ix (fu:=⟨3⟩) _ J (cP (k:=L+j-1)) J<|aj 70 (.d (.v (.int .u64 ((dg R).getD (L+j-1) 0+(dg R).getD (L+j) 0*4294967296:Nat)))) J (congrArg (fun z:Nat=>FX.d (.v (.int .u64 (z:Int)))) (by rw[q9 _ 32 oma omG J,BitVec.or_comm];exact rg 64 ((dg R).getD (L+j-1) 0) ((dg R).getD (L+j) 0) 32 hd0 omw))<|gx J<|aj 12 (.d (.v (.int .u64 (R/4294967296^(L+j-1):Nat)))) J (by rw[H7 we hlen])<|at_ () trivial
   .
    refine aj 74 (.d (vI ((dg R).length:Nat))) J (by rw[hlr];rfl)<|gx J<|br J J J (fun hc75=>?_) (fun hc75=>?_)
    .
     have hd0:=eh R (L+j-1);refine ix _ J (cP (k:=L+j-1)) J<|aj 12 (.d (.v (.int .u64 (R/4294967296^(L+j-1):Nat)))) J (by rw[H7 we hlen,qr (by omega:(dg R).length<=L+j),kL,gV])<|at_ () trivial
    .
     refine aj 12 (.d (.v (.int .u64 (R/4294967296^(L+j-1):Nat)))) J (by rw[H7 we hlen,qr (by omega:(dg R).length<=L+j),qr (by omega:(dg R).length<=L+j-1)];rfl)<|at_ () trivial
  .
   obtain⟨g0,hg0'⟩: ∃g0,g0=min (R/4294967296^(L+j-1)/(v/4294967296^(L-1))) 4294967295:=⟨_,rfl⟩;rw[<-hg0'] at hge;have hg0:=hge;have hg1:g0<=4294967295:=by omega
   refine aj 85 (.d (.v (.int .u64 (g0:Nat)))) J (by show FX.d (.v (.int _ _))= .d (.v (.int _ _));congr 3;rw[<-tX];split<;>omega)<|gx J<|cl J (vZ (u:=g0)) J<|cl (fu:=⟨2⟩) J (qi (ia:=ib+32) (ib:=32) (hb:=⟨by show _<4294967296;omega⟩) we oma) J<|aj 91 (.d (vI (32*j:Nat))) J omk<|gx J<|cl (fu:=⟨0⟩) J (Ek (k:=32*j) (ia:=ib+64) (ha:=⟨by rw[show ib+64=ib+32+32 by omega,fY];exact pZ hvb (by show _<4294967296;omega)⟩) we we) J<|aj 92 (.d (dN (v*4294967296^j*g0))) J (by rw[S',nS])<|gx J<|lp (X:=Nat) (fun g=>[(6, .d (vI (s:Nat))),(7, .d (dN v)),(8, .d (dN R)),(9, .d (.v (.int .u64 (v/4294967296^(L-1):Nat)))),(10, .rw 42),(11, .d (vI (j:Nat))),(14, .d (.v (.int .u64 (g:Nat)))),(15, .d (dN (v*4294967296^j*g)))]) (fun g=>[(42,some (.b 245 1 (W.map dU) true))]) (fun g=>R/(v*4294967296^j)<=g/\g<=4294967295) (fun g=>g) g0 J ⟨hg0,we⟩ (fun _=>J) (fun g hk=>?_);obtain⟨g1,g2⟩:=hk;have hlw:=b8 W;refine cl J (BJ (a:=v*4294967296^j*g) (b:=R) (by have:=CF (a:=v*4294967296^j*g) (k:=L+j+1) (by have h1:=s7 v;rw[<-hL] at h1;rw[iK,fY];exact pZ (nW h1 (gU oma)) we);omega) (by have:=CF hlen;omega)) J<|br (fu1:=⟨7⟩) (v1:=fun hc96=>by simp only[ak];exact(by have h:=GX hvj (C4.1 hc96);have h1:1<=g:=dR (aN _) h;omega)) (fu2:=⟨11⟩) J J J (fun hc96=>?_) (fun hc96=>?_)
   .
    have hgd:=GX hvj (C4.1 hc96);have hg1p:1<=g:=dR (aN _) hgd;refine aj 98 (.d (.v (.int .u64 ((g-1:Nat):Int)))) J (omi we)<|gx J<|cl J (vZ (u:=g-1)) J<|cl (fu:=⟨2⟩) J (qi (ia:=ib+32) (ib:=32) (hb:=⟨by show _<4294967296;omega⟩) we oma) J<|aj 104 (.d (vI (32*j:Nat))) J omk<|gx J<|cl (fu:=⟨0⟩) J (Ek (k:=32*j) (ia:=ib+64) (ha:=⟨by rw[show ib+64=ib+32+32 by omega,fY];exact pZ hvb (by show _<4294967296;omega)⟩) we we) J<|aj 105 (.d (dN (v*4294967296^j*(g-1)))) J (by rw[S',nS])<|gx J<|at_ (g-1) ⟨⟨by have h:=GX hvj (C4.1 hc96);omega,we⟩,(by have:=GX hvj (C4.1 hc96);omega)⟩
   .
    have hgq:=azA hvj g1 (tJ fun q=>hc96 (C4.2 q));refine aj 109 (.d (dU g)) J (omi we)<|gx J<|sb _ ((W.set j (R/(v*4294967296^j))).map dU) J (cP (k:=j)) J (by(rw[<-hgq,cK,<-j0])<;>rfl) J<|cl (fu:=⟨0⟩) J (H' (a:=R) (b:=v*4294967296^j*g) (ia:=ia+32) (by rw[hgq];exact Nat.mul_div_le _ _) we) J<|aj 113 (.d (dN (R-v*4294967296^j*(R/(v*4294967296^j))))) J (by rw[hgq])<|gx J<|at_ ⟨W.set j (R/(v*4294967296^j)),R-v*4294967296^j*(R/(v*4294967296^j)),j⟩ (by dsimp only;exact⟨⟨by simpa using h1,h2'.set _ we,we,(Pc we h4 hvj J).1,(Pc we h4 hvj J).2,we⟩,we⟩)
 .
  obtain rfl:k=0:=by omega
  rw[uW,jT] at h5;rw[uW,jT,iS,hR0,hv] at h4;rw[hv] at h5;have hend:=azw h5 h4;haveI hRB:BN R (ia+32):=⟨we⟩;refine fz 42 J J<|cl J (sC (ds:=W)) J<|cl J (WE (a:=R) (k:=s) (ia:=ia+32) we we) J<|rz J (by show DV.tp [d6 _,dN _]= .tp [dN _,dN _];rw[mh h2' hend.1,hend.2])
def aFU{ds:List Nat}(hl:ds.length<=1125899906842624):PB GB prog 245 (f7 [none]) 1 245 (ds.map dU) (fun w=> .v (.slice w.a w.n w.c)) ((trimD ds).map dU):=by
 refine ED func245 J J ntmps245 J J (fun C=>?_);refine lp (fu:=⟨5⟩) (X:=List Nat) (fun W=>[(0, .rw 1000000)]) (fun W=>[(1000000,some (.b 245 1 (W.map dU) false))]) (fun W=>trimD ds=trimD W/\W.length<=ds.length) (fun W=>W.length) ds J ⟨J,bV _⟩ (fun _=>J) (fun W hk=>?_);obtain⟨h1,h2⟩:=hk;have hml:=b8 W;refine aj 4 (.d (vI (W.length:Nat))) J omo<|gx J<|cs (fu1:=⟨3⟩) 6 J J J (fun hg6=>?_) (fun hg6=>?_)
 .
  refine aj 9 (.d (vI (W.length:Nat))) J omo<|gx J<|lb _ J (cP (k:=W.length-1)) J<|br (fu1:=⟨7⟩) J J J (fun hc14=>?_) (fun hc14=>?_)
  .
   refine aj 17 (.d (vI (W.length:Nat))) J omo<|gx (fu:=⟨1⟩) J<|aj 18 (.d (vI (W.length-1:Nat))) J (omi we)<|gx (fu:=⟨0⟩) J<|S7 ((W.take (W.length-1)).map dU) (W.length-1) J J (by rw[hml];omega) (by rw[iT]) J<|ek 19 1000000 J<|at_ (W.take (W.length-1)) ⟨⟨by rw[h1,Nu],by rw[bL];omega⟩,(by rw[bL];omega)⟩
  .
   exact vm J J J (by rw[h1,HG (fun _=>by omega)])
 .
  exact vm J J J (by rw[h1,HG (fun _=>by omega)])
def Wl{a:Nat}(h:0<(dg a).length):bl a=32*((dg a).length-1)+bl ((dg a).getD ((dg a).length-1) 0):=by
 have:=aLn (gD a) (gh a).2.2 (fun e=>by rw[e] at h;exact absurd h oma);rwa [dm] at this
def CT{a:Nat}(h:(dg a).length=0:=by omega):a=0:=by rw[<-dm a,cY h];rfl
def vW{a i:Nat}[h:BN a i](hi:i<=1000000000:=by decide):PF GB prog 241 [dN a] (vI (bl a:Nat)):=by
 have hla:=b8 (dg a);have hba:=ju (a:=a) hi;have hbl:bl ((dg a).getD ((dg a).length-1) 0)<=32:=pn.2 (eh a _);refine fn func241 J J ntmps241 J J (fun C=>?_);refine cl (fu:=⟨8⟩) J (p8) J<|aj 6 (.d (vI ((dg a).length:Nat))) J omv<|gx J<|br (fu2:=⟨6⟩) J J J (fun hc7=>?_) (fun hc7=>?_)
 .
  exact rz J (by rw[CT (a:=a)];rfl)
 .
  refine aj 9 (.d (vI ((dg a).length:Nat))) J omv<|gx (fu:=⟨4⟩) J<|aj 13 (.d (vI ((dg a).length:Nat))) J omv<|gx J<|ix _ J (cP (k:=(dg a).length-1)) J<|cl J (Mf (eh a ((dg a).length-1))) J<|rz J (by show DV.v (.int _ _)=DV.v (.int _ _);have:=Wl (a:=a) we;congr 2;omega)
def Xw{a i:Nat}(h:a<18446744073709551616)(hi:i<(dg a).length):dv ((dg a).take i)<2^(32*i)/\dv ((dg a).take i)+(dg a).getD i 0*2^(32*i)=dv ((dg a).take (i+1))/\dv ((dg a).take (i+1))<18446744073709551616:=by
 have h1:=m6 ((gD a).take i);rw[bL,kW we] at h1;have e:(2:Nat)^(32*i)=4294967296^i:=by rw[uR]
 have h2:=Dk (dg a) (i+1);rw[dm] at h2;refine⟨by rw[e];exact h1,by rw[e,pB,cW],?_⟩;have:=aN (4294967296^(i+1)*dv ((dg a).drop (i+1)));omega
def aEC{a:Nat}(h:a<18446744073709551616):(dg a).length<=2:=by have:=kA (u:=a) (k:=64) h;omega
def DF{a:Nat}(h:a<18446744073709551616):PF GB prog 244 [dN a] (.tp [.v (.int .u64 (a:Nat)),vB true]):=by
 have hla:=b8 (dg a);have hl2:=aEC h;refine fn func244 J J ntmps244 J J (fun C=>?_);refine cl (fu:=⟨8⟩) J (p8) J<|aj 10 (.d (vI ((dg a).length:Nat))) J omv<|gx (fu:=⟨0⟩) J<|cv (fu:=⟨15⟩) J (omh we) J<|aj 13 (.d (vI ((dg a).length:Nat))) J omv<|gx J<|lp (X:=Nat) (fun i=>[(14, .d (vI (i:Nat))),(4, .d (.v (.int .u64 (dv ((dg a).take i):Nat))))]) (fun i=>[]) (fun i=>i<=(dg a).length) (fun i=>(dg a).length-i) 0 J (aN _) (fun _=>J) (fun i hk=>?_);refine br J J J (fun hc15=>?_) (fun hc15=>?_)
 .
  obtain⟨u1,u2,u3⟩:=Xw h (i:=i) we;have hda:=eh a i;refine ix (fu:=⟨12⟩) (hv:=by simp only[ak];exact⟨⟨we,we⟩,we⟩) _ J (fg) J<|aj 24 (.d (.v (.int .u64 ((dg a).getD i 0*2^(32*i):Nat)))) J (by show FX.d (.v (.int _ _))= .d (.v (.int _ _));rw[q9 _ (32*i) we we])<|gx (fu:=⟨1⟩) J<|aj 25 (.d (.v (.int .u64 (dv ((dg a).take (i+1)):Nat)))) J (congrArg (fun z:Nat=>FX.d (.v (.int .u64 (z:Int)))) ((rg 64 _ _ (32*i) u1 (by rw[u2];exact u3)).trans u2))<|gx J<|at_ (i+1) ⟨we,we⟩
 .
  obtain rfl:i=(dg a).length:=by omega
  exact rz J (by rw[k9 (bV _),dm];rfl)
def OR{ds:List Nat}{j:Nat}(h:j<ds.length):dv (ds.drop j)=ds.getD j 0+4294967296*dv (ds.drop (j+1)):=by
 rw[bK h,aV,aZ h];rfl
def ZN{A W:List Nat}{j d r v:Nat}(hA:j<A.length)(hW:j<W.length)(hd:0<d)(h:dv (A.drop (j+1))=d*dv (W.drop (j+1))+r)(hv:v=A.getD j 0+r*4294967296):dv (A.drop j)=d*dv ((W.set j (v/d)).drop j)+v%d:=by
 have e1:dv ((W.set j (v/d)).drop j)=v/d+4294967296*dv (W.drop (j+1)):=by
  rw[OR (by rw[bJ];exact hW),CE hW,uQ we]
 have h2:=rU v d;have e3:d*(v/d+4294967296*dv (W.drop (j+1)))=d*(v/d)+4294967296*(d*dv (W.drop (j+1))):=by rw[fW,nX]
 rw[e1,OR hA,h,e3];omega
def aDP{a d r:Nat}{W:List Nat}(h:a=d*dv W+r)(hr:r<d):dv W=a/d/\r=a%d:=by
 have:=(Nat.div_mod_unique (by omega:0<d)).2 ⟨show r+d*dv W=a by omega,hr⟩;exact⟨this.1.symm,this.2.symm⟩
def Xo{a d i:Nat}[h:BN a i](hd:0<d)(hd2:d<4294967296)(hi:i<=1000000000:=by decide):PF GB prog 272 [dN a,dU d] (.tp [dN (a/d),dU (a%d)]):=by
 have hla:=b8 (dg a);have hba:=ju (a:=a) hi;refine fn (fu:=⟨10⟩) func272 J J ntmps272 J J (fun C=>?_);refine aj 11 (.d (vI ((dg a).length:Nat))) J omv<|gx J<|mk (fu:=⟨13⟩) ((List.replicate (dg a).length 0).map dU) J J omH J<|aj 14 (.d (vI ((dg a).length:Nat))) J omv<|gx J<|lp (X:=List Nat×Nat×Nat) (fun⟨W,r,k⟩=>[(0, .d (dN a)),(1, .d (dU d)),(6, .rw 12),(7, .d (.v (.int .u64 (r:Nat)))),(8, .d (vI ((k:Nat)-1)))]) (fun⟨W,r,k⟩=>[(12,some (.b 245 1 (W.map dU) true))]) (fun⟨W,r,k⟩=>W.length=(dg a).length/\bH W/\r<d/\k<=(dg a).length/\dv ((dg a).drop k)=d*dv (W.drop k)+r) (fun⟨W,r,k⟩=>k) ⟨List.replicate (dg a).length 0,0,(dg a).length⟩ J ⟨omc, .replicate _,hd,bV _,by simp[dv]⟩ (fun _=>J) (fun⟨W,r,k⟩ hk=>?_)
 try dsimp only at hk⊢
 obtain⟨h1,h2,h3,h4,h5⟩:=hk;have hlw:=b8 W;refine br (fu1:=⟨0⟩) J J J (fun hc17=>?_) (fun hc17=>?_)
 .
  obtain⟨j,rfl⟩: ∃m,k=m+1:=⟨k-1,we⟩;have hda:=eh a j;obtain⟨v,hv⟩: ∃v,v=(dg a).getD j 0+r*4294967296:=⟨_,rfl⟩;obtain⟨q,hq⟩: ∃q,q=v/d:=⟨_,rfl⟩;have hvq:q<4294967296:=by rw[hq,kS hd,cW];have:=bW 4294967296 (show r+1<=d from h3);omega
  refine aj 8 (.d (vI (j:Nat))) J (omi we)<|gx (fu:=⟨8⟩) (hv:=by simp only[ak];exact oma) J<|aj 21 (.d (.v (.int .u64 (r*4294967296:Nat)))) J omt<|gx J<|ix (fu:=⟨3⟩) _ J (fg) J<|aj 27 (.d (.v (.int .u64 (v:Nat)))) J (congrArg (fun z:Nat=>FX.d (.v (.int .u64 (z:Int)))) ((congrArg BitVec.toNat (BitVec.or_comm ..)).trans ((rg 64 ((dg a).getD j 0) r 32 hda omw).trans hv.symm)))<|gx (fu:=⟨11⟩) J<|aj 33 (.d (.v (.int .u64 (q:Nat)))) J (by show FX.d (.v (.int _ _))= .d (.v (.int _ _));congr 3;rw[hq];rfl)<|gx (fu:=⟨1⟩) J<|aj 34 (.d (dU q)) J (omi we)<|gx J<|sb (fu:=⟨7⟩) _ ((W.set j q).map dU) J (fg) J okj J<|aj 39 (.d (.v (.int .u64 (v%d:Nat)))) J omk<|gx J<|at_ ⟨W.set j q,v%d,j⟩ (by dsimp only;exact⟨⟨by simpa using h1,h2.set _ hvq,dW _ hd,we,by rw[hq];exact ZN we we hd h5 hv⟩,we⟩)
 .
  obtain rfl:k=0:=by omega
  obtain⟨e1,e2⟩:=aDP (a:=a) (W:=W) (by rw[iS,iS,dm] at h5;exact h5) h3;refine fz 12 J J<|cl (fu:=⟨2⟩) J (t7 (ds:=W)) J<|aj 43 (.d (dU r)) J (omi we)<|gx J<|rz J (by show DV.tp [d6 _,dU _]= .tp [dN _,dU _];rw[mh h2 e1,<-e2])
def XK{A W:List Nat}{k i x:Nat}(hk:k<32)(hl:i+1<W.length)(hx:x=A.getD i 0)(h:dv (W.take (i+1))=dv (A.take i)*2^k):dv (((W.set i (W.getD i 0+x*2^k%4294967296)).set (i+1) (x*2^k/4294967296)).take (i+1+1))=dv (A.take (i+1))*2^k:=by
 have:=P' (A:=A) (W:=W) (k:=k) (q:=0) (s:=k) (i:=i) (x:=x) we we we hx (by rw[fX];exact h);simpa only[fX] using this
def aEn{a k n:Nat}{W:List Nat}(hn:n=(dg a).length)(hl:W.length=n)(h:dv (W.take n)=(a/2^k)%4294967296^n):dv W=a/2^k:=by
 rw[k9] at h;have h1:=s7 a;have h2:=nK a (2^k);rw[h,kY (by rw[hn];omega)]
def XL{k:Nat}(h:k<32):(k:Int).tdiv 32=0:=Int.tdiv_eq_zero_of_lt we we
def Or{a k ia:Nat}[h:BN a ia](hk:k<32)(h0:0<(dg a).length)(hi:ia<=1000000000:=by decide):PR GB prog 288 [dN a, .v (.int .u64 (k:Nat))] 1 245 ((dg (a*2^k)).map dU):=by
 have hla:=b8 (dg a);have hba:=ju (a:=a) hi;refine BP (fu:=⟨8⟩) func288 J J ntmps288 J J (fun C hmb=>?_);refine cl (fu:=⟨2⟩) J (p8 (a:=a)) J<|aj 14 (.d (.v (.int .u64 (k:Nat)))) J (omi we)<|gx (fu:=⟨9⟩) J<|aj 16 (.d (vI ((dg a).length:Nat))) J omv<|gx (fu:=⟨0⟩) J<|cv (fu:=⟨10⟩) J (omh we) J<|aj 20 (.d (vI (0:Nat))) J (by show FX.d (.v (.int _ _))= .d (.v (.int _ _));congr 3;have:=XL hk;omega)<|gx (fu:=⟨2⟩) J<|aj 22 (.d (.v (.int .u64 (k:Nat)))) J (omi we)<|gx (fu:=⟨8⟩) J<|aj 24 (.d (vI ((dg a).length:Nat))) J omv<|gx (fu:=⟨3⟩) J<|aj 27 (.d (vI ((dg a).length+1:Nat))) J omk<|gx J<|mk (fu:=⟨8⟩) ((List.replicate ((dg a).length+1) 0).map dU) J J omH J<|aj 30 (.d (vI ((dg a).length:Nat))) J omv<|gx J<|lp (X:=List Nat×Nat) (fun⟨W,i⟩=>[(0, .d (dN a)),(1, .d (.v (.int .u64 (k:Nat)))),(5, .d (vI (0:Nat))),(6, .d (.v (.int .u64 (k:Nat)))),(7, .rw 28),(29, .d (dN a)),(30, .d (vI ((dg a).length:Nat))),(31, .d (vI (i:Nat)))]) (fun⟨W,i⟩=>[(28,some (.b 245 1 (W.map dU) true))]) (fun⟨W,i⟩=>W.length=(dg a).length+1/\bH W/\i<=(dg a).length/\dv (W.take (i+1))=dv ((dg a).take i)*2^k/\W.getD i 0<2^k) (fun⟨W,i⟩=>(dg a).length-i) ⟨List.replicate ((dg a).length+1) 0,0⟩ J ⟨omc, .replicate _,we,by rw[qL,Ar];simp[dv],by rw[EH];exact gU oma⟩ (fun _=>J) (fun⟨W,i⟩ hk=>?_)
 try dsimp only at hk⊢
 obtain⟨h1,h2,h3,h4,h5⟩:=hk;have hlw:=b8 W;have hda:=eh a i;have hpp:2^k<=2^31:=bR oma we;refine br J J J (fun hc32=>?_) (fun hc32=>?_)
 .
  refine ix (fu:=⟨11⟩) (hv:=by simp only[ak];exact⟨we,we⟩) _ J (fg) J<|?_;have hhi:=Vg hda hk;have hfit0:=PO hda hk;have hor:=UI (x:=(dg a).getD i 0) h5 hk;have hfit:W.getD i 0+(dg a).getD i 0*2^k%4294967296<4294967296:=by rw[<-hor];exact BitVec.isLt _
  have hlp:=KX ((dg a).getD i 0) k;refine aj 39 (.d (.v (.int .u64 ((dg a).getD i 0*2^k:Nat)))) J (by show FX.d (.v (.int _ _))= .d (.v (.int _ _));rw[q9 _ k we hfit0]) ?_;obtain⟨t,ht⟩: ∃t,t=(dg a).getD i 0*2^k:=⟨_,rfl⟩;simp only[<-ht] at hhi hfit0 hor hfit hlp;rw[<-ht];refine gx (fu:=⟨9⟩) J<|aj 43 (.d (vI (i:Nat))) J omk<|gx J<|lb (fu:=⟨2⟩) _ J (fg) J<|aj 47 (.d (dU (t%4294967296))) J omk<|gx (fu:=⟨1⟩) J<|aj 48 _ J (congrArg (fun z:Nat=>FX.d (.v (.int .u32 (z:Int)))) hor)<|gx J<|sb (fu:=⟨7⟩) _ ((W.set i (W.getD i 0+t%4294967296)).map dU) J (fg) J (by simp only[cK,kK]<;>rfl) J<|aj 53 (.d (vI (i:Nat))) J omk<|gx (fu:=⟨1⟩) J<|aj 54 (.d (vI (i+1:Nat))) J omk<|gx (fu:=⟨2⟩) (hv:=by simp only[ak];exact oma) J<|aj 56 (.d (.v (.int .u64 (t/4294967296:Nat)))) J oku<|gx (fu:=⟨1⟩) J<|aj 57 (.d (dU (t/4294967296))) J (omi we)<|gx J<|sb _ (((W.set i (W.getD i 0+t%4294967296)).set (i+1) (t/4294967296)).map dU) J (fg ozd) J (by simp only[cK,kK]<;>rfl) J<|at_ ⟨(W.set i (W.getD i 0+t%4294967296)).set (i+1) (t/4294967296),i+1⟩ (by dsimp only;exact⟨⟨by simpa using h1,(h2.set _ hfit).set _ we,we,by have q:=XK (x:=(dg a).getD i 0) hk we J h4;rw[<-ht] at q;exact q,by rw[CE omq];exact hhi⟩,we⟩)
 .
  obtain rfl:i=(dg a).length:=by omega
  refine cq _ J (aFU (ds:=W) we) J J<|?_;exact Ca J J J (by rw[<-F9 h2];have:=h4;rw[k9,k9,dm] at this;rw[this])
def aLx{ds:List Nat}{k:Nat}(hd:bH ds)(hl:ds.length<=100000000)(hk:k<32):PF GB prog 289 [d6 ds, .v (.int .u64 (k:Nat))] (dN (dv ds/2^k)):=by
 obtain⟨a,ha⟩: ∃a,a=dv ds:=⟨_,rfl⟩;rw[<-ha];have hla:=b8 (dg a);have hba:(dg a).length<=100000000:=by rw[ha,F9 hd];have:=axr ds;omega
 refine fn func289 J J ntmps289 J J (fun C=>?_);refine cl (fu:=⟨0⟩) J (t7 (ds:=ds)) J<|aj 11 (.d (dN a)) J (by rw[mh hd ha.symm])<|gx (fu:=⟨8⟩) J<|aj 13 (.d (.v (.int .u64 (0:Nat)))) J (omi we)<|gx (fu:=⟨2⟩) J<|aj 15 (.d (vI ((dg a).length:Nat))) J omv<|gx J<|br (fu2:=⟨7⟩) J J J (fun hc17=>?_) (fun hc17=>?_)
 .
  exact rz J (by rw[CT (a:=a),Nat.zero_div,mH];rfl)
 .
  refine aj 20 (.d (vI (0:Nat))) J (omi we)<|gx (fu:=⟨2⟩) J<|aj 22 (.d (.v (.int .u64 (k:Nat)))) J (omi we)<|gx (fu:=⟨8⟩) J<|aj 24 (.d (vI ((dg a).length:Nat))) J omv<|gx (fu:=⟨2⟩) J<|aj 26 (.d (vI ((dg a).length:Nat))) J omk<|gx J<|mk (fu:=⟨8⟩) ((List.replicate (dg a).length 0).map dU) J J omH J<|aj 29 (.d (vI ((dg a).length:Nat))) J (by rw[b8,aM]<;>rfl)<|gx J<|lp (X:=List Nat×Nat) (fun⟨W,i⟩=>[(0, .d (dN a)),(5, .d (vI (0:Nat))),(6, .d (.v (.int .u64 (k:Nat)))),(7, .rw 27),(29, .d (vI ((dg a).length:Nat))),(30, .d (vI (i:Nat)))]) (fun⟨W,i⟩=>[(27,some (.b 245 1 (W.map dU) true))]) (fun⟨W,i⟩=>W.length=(dg a).length/\bH W/\i<=(dg a).length/\dv (W.take i)=(a/2^k)%4294967296^i) (fun⟨W,i⟩=>(dg a).length-i) ⟨List.replicate (dg a).length 0,0⟩ J ⟨omc, .replicate _,we,by simp[dv,Nat.mod_one]⟩ (fun _=>J) (fun⟨W,i⟩ hk=>?_)
  try dsimp only at hk⊢
  obtain⟨h1,h2,h3,h4⟩:=hk;have hlw:=b8 W;have hda:=eh a i;have hdb:=eh a (i+1);refine br (fu1:=⟨16⟩) J J J (fun hc31=>?_) (fun hc31=>?_)
  .
   refine aj 36 (.d (vI (i:Nat))) J omk<|gx J<|ix (fu:=⟨6⟩) _ J (fg) J<|mg (fu:=⟨6⟩) (hv:=fun _ _=>by simp only[ak];exact we) (X:=Unit) (fun _=>[(0, .d (dN a)),(5, .d (vI (0:Nat))),(6, .d (.v (.int .u64 (k:Nat)))),(7, .rw 27),(29, .d (vI ((dg a).length:Nat))),(30, .d (vI (i:Nat))),(8, .d (vI (i:Nat))),(9, .d (.v (.int .u64 ((dg a).getD i 0+(dg a).getD (i+1) 0*4294967296:Nat))))]) (fun _=>[(27,some (.b 245 1 (W.map dU) true))]) (fun _=>True) [0,5,6,7,29,30,8,9] [27] rfl ?_ (fun _=>J) (fun _ _=>?_)
   .
    refine gx (fu:=⟨5⟩) J<|aj 42 (.d (vI (i:Nat))) J omk<|gx (fu:=⟨1⟩) J<|aj 43 (.d (vI (i+1:Nat))) J omk<|gx (fu:=⟨2⟩) J<|aj 45 (.d (vI ((dg a).length:Nat))) J omv<|gx J<|br (fu1:=⟨6⟩) J J J (fun hc46=>?_) (fun hc46=>?_)
    .
     refine aj 51 (.d (vI (i:Nat))) J omk<|gx (fu:=⟨1⟩) J<|aj 52 (.d (vI (i+1:Nat))) J omk<|gx J<|ix (fu:=⟨3⟩) (hv:=by simp only[ak];exact⟨we,oma⟩) _ J (cP (k:=i+1)) J<|aj 56 (.d (.v (.int .u64 ((dg a).getD (i+1) 0*4294967296:Nat)))) J omt<|gx (fu:=⟨1⟩) J<|aj 57 _ J (congrArg (fun z:Nat=>FX.d (.v (.int .u64 (z:Int)))) (rg 64 ((dg a).getD i 0) ((dg a).getD (i+1) 0) 32 hda omw))<|gx J<|at_ () trivial
    .
     refine aj 9 (.d (.v (.int .u64 ((dg a).getD i 0+(dg a).getD (i+1) 0*4294967296:Nat)))) J (by rw[qr (by omega:(dg a).length<=i+1),kL,gV])<|at_ () trivial
   .
    refine aj 62 (.d (.v (.int .u64 (((dg a).getD i 0+(dg a).getD (i+1) 0*4294967296)/2^k:Nat)))) J (by show FX.d (.v (.int _ _))= .d (.v (.int _ _));rw[S2 _ k])<|gx (fu:=⟨1⟩) J<|?_;obtain⟨w,hw⟩: ∃w,w=((dg a).getD i 0+(dg a).getD (i+1) 0*4294967296)/2^k%4294967296:=⟨_,rfl⟩;have hw1:w<4294967296:=hw▸dW _ oma;refine aj 63 (.d (dU w)) J (by show FX.d (.v (.int _ _))= .d (.v (.int _ _));congr 3;rw[hw];rfl)<|gx J<|sb _ ((W.set i w).map dU) J (fg) J okj J<|at_ ⟨W.set i w,i+1⟩ (by dsimp only;exact⟨⟨by simpa using h1,h2.set _ we,we,by rw[z6,h4];exact(So hk (by have:=Hx (gD a) i;rwa [dm] at this) hw).symm⟩,we⟩)
  .
   refine fz 27 J J<|cl rfl (t7 (ds:=W)) rfl<|rz rfl (mh h2 (by obtain rfl:i=(dg a).length:=we;exact aEn rfl h1 h4))
end Go.Sx
end
