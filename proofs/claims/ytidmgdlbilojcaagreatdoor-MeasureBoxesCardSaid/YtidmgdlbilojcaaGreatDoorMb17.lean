import Derived.Test.YtidmgdlbilojcaaGreatDoorMb16
set_option linter.all false
set_option maxHeartbeats 4000000
set_option maxRecDepth 100000
section
namespace Go.Sx
open Go Go.Proofs Tryz
variable {GB:Gh}
section
variable {GB:Gh} {C:aB} {n:Nat} {Q0:Exit->Act->World->Prop} {fr fr':az} {own own':aC} {cf cf':Cf} {vc:List Prop}
def UP{lk:LK}{bk:BM}{fo:Operand}{args:Array Operand}{tys:Array TypeId}{f:FuncId}{nm d:Nat}{l:List (Option DV)}{s:Nat}{ty ty0:TypeId}{pos:String}{af:Array Edge}{gd:Option (Nat×Bool)}{dsi dso:List DV}{lo:Bool}(hne:Nat.beq nm d=false)
  (ha:uJ lk fo args=some (f,nm,l))(hb:bk nm=some (.b ty0 s dsi lo))(hF:PB GB prog f (dG l) s ty0 dsi (fun w=> .v (.slice w.a w.n w.c)) dso):bD prog GB C n lk bk ⟨some d, .call ⟨.value fo,args,tys⟩,ty,pos,af,gd⟩ (.rw d) [(nm,none),(d,some (.b ty0 s dso lo))] [d]:=by
 intro hd tl tb K' s1 s2 hf hk;refine⟨fun ρ G ov a w r Q=>?_⟩;have r1:=r.mono s1 s2;unfold uJ at ha;split at ha<;>try (cases ha;done)
 rename_i h1;split at ha<;>cases ha;rename_i h2;obtain⟨y,hy,hy'⟩:=r1.ev h1;rw[(aI (G:=G)).1 hy'] at hy;obtain⟨B,g1,g2⟩:=r1.bx _ _ hb;have hB:di G ⟨ρ nm,s,ty0,dsi,lo⟩ B:=g1;obtain⟨vs,h7,h8⟩:=Bu r1 (z:=ρ nm) h2 (fun nm e=>by cases e;rfl);have hp: ∃rest,ov.Perm (B++rest)/\ ∀o∈ov,(∀o'∈B,o.b≠o'.b)->o∈rest:=by
  rcases hB with⟨vs',⟨_,_,e⟩|⟨b0,r0,lo0,_,e,_⟩,_⟩
  ·rw[e];exact⟨ov,List.Perm.refl _,fun o ho _=>ho⟩
  ·rw[e] at g2⊢
   obtain⟨l1,l2,e2⟩:=lZ (g2 _ aQ);rw[e2];refine⟨l1++l2,nY,fun o ho hno=>?_⟩;rcases bK.1 ho with ho|ho
   ·exact bT _ ho
   ·rcases aW.1 ho with rfl|ho
    ·exact absurd J (hno _ aQ)
    ·exact cJ _ ho
 obtain⟨rest,h5,h6⟩:=hp;refine vt (M:=B) (rest:=rest) hy h7 h5 (hF G (ρ nm) vs B r.gb hB.weak h8) hd (fun v own1 G' hG hK a' w' rl=>?_) a w Q ⟨r.h,r.sz,c6 a,r.df⟩;obtain⟨z,hr,vs',k1,k2,k3,k4⟩:=hK;have k1':=k1.relo (gu B);have e2:lo=true-> ∀o∈own1.map (relo (gu B)),o.lo=true:=fun hl o ho=>by
  obtain⟨o',_,rfl⟩:=bQ.1 ho;obtain⟨_,_,_,_,hlo⟩:=hB;exact EO _ (hlo hl)
 generalize own1.map (relo (gu B))=B' at rl e2 k1';have rl':gg C n (Sx.put (cH a) (some d) v) (B'++rest) G' a' w':=rl;have hdis:=(gX.1 rl'.h.nd).2.2;have r2:=r.dropB nm;have hnn:nm≠d:=fun e=>by subst e;rw[oJ] at hne;cases hne
 have hf2:kr [d] (some d) tl (Sx.upB tb [(nm,none)]):=fun q hq=>by
  obtain⟨f1,f2⟩:=hf q hq;refine⟨f1,fun k B e1 e=>?_⟩;simp only[Sx.upB] at e;split at e
  ·cases e
  ·exact f2 k B e1 e
 have hsep: ∀q B0,Sx.upB tb [(nm,none)] q=some B0-> ∀o∈ov,(ρ q).a=some ⟨o.b,0,none⟩->o∈rest:=fun q B0 e o ho hbq=>by
  simp only[Sx.upB] at e;split at e
  ·cases e
  ·rename_i hqn
   refine h6 o ho fun o' ho' he=>?_;exact r.dj nm q _ _ (s2 _ _ hb) e (Ne.symm hqn) o'.b (g1.blk ho') (by rw[hbq,he])
 rw[aI.1 hr] at rl';have r3:=r2.new' (x:=z) (B':= .b ty0 s dso lo) (os:=B') (ov':=B'++rest) (f:= .rw d) (y:= .slice z.a z.n z.c) hf2 hG.le rl'.h ⟨vs',by simpa using k1',k2,k3,e2⟩ (fun o ho=>bT _ ho)
  (fun q B0 hq e o ho hbq=>⟨cJ _ (hsep q B0 e o ho hbq),fun hc=>by
   have hx: ∃o1∈B',o1.b=o.b:=by
    rcases k1' with⟨_,h,_⟩|⟨b0,rest0,lo0,h,hB,_⟩
    ·rw[show z=_ from h] at hc;cases hc
    ·rw[show z=_ from h] at hc;cases hc;exact⟨⟨_,aA vs'++rest0,_,lo0⟩,by rw[hB];exact aQ,J⟩
   obtain⟨o1,ho1,he1⟩:=hx;exact hdis o1 ho1 o (hsep q B0 e o ho hbq) he1⟩) (by simp[bE]) (jI rl')
 exact hk.run _ G' _ a' w' r3
def cq[fu:Fu]{f:FuncId}{nm d:Nat}{l:List (Option DV)}{ty:TypeId}{s:Nat}{dsi dso:List DV}{lo:Bool}(dso':List DV)(ha:E7 fr own cf=some ⟨f,nm,l,ty,s,dsi,lo,d⟩)(hF:PB GB prog f (dG l) s ty dsi (fun w=> .v (.slice w.a w.n w.c)) dso)(he:dso=dso')
  (hgo:cF tt n fu.n fr own cf (.rw d) [(nm,none),(d,some (.b ty s dso' lo))] [d]=⟨vc,fr',own',cf'⟩)(k:ak prog GB C n Q0 fr' own' cf')
  (hv:ac vc:=by first|exact trivial|(simp only[ac];kernel_rfl)|(simp only[ac];omega)|(simp only[ac,aK,aM,aY];omega)):ak prog GB C n Q0 fr own cf:=by
 subst he;unfold E7 at ha;split at ha<;>try (cases ha;done)
 rename_i hh;split at ha<;>try (cases ha;done)
 rename_i h1;split at ha<;>try (cases ha;done)
 rename_i h2;rw[cond_eq_ite] at ha;split at ha<;>cases ha;rename_i h3;exact us hh (UP (by cases hq:Nat.beq nm d with|false=>rfl|true=>exact absurd hq h3) h1 h2 hF) hgo hv k
def JE(C:aB)(s:Nat)(ty:TypeId)(dso:List DV):Ending->World->Prop:=tY C (fun v own' G'=> ∃w',Is G' (.v (.slice w'.a w'.n w'.c)) v/\di G' ⟨w',s,ty,dso,false⟩ own')
def ul[fu:Fu]{f:FuncId}{fb:Func}{c:Code}{k s:Nat}{l:List (Option DV)}{dsi dso:List DV}{ty:TypeId}(hf:prog.funcs[f]? =some fb)(hb:fb.body=some c)(hn:(fb.name== "runtime.NumGoroutine")=false)(hm:fb.ntmps=k)(hlen:Nat.ble l.length k=true)
  (hgo:go tt k fu.n [] (xw 0 l) [(NM,some (.b ty s dsi false))] (.code c [])=⟨vc,fr,own,cf⟩)(h: ∀C,ak prog GB C k (ge C prog fb (JE C s ty dso)) fr own cf)
  (hv:ac vc:=by first|exact trivial|(simp only[ac];kernel_rfl)|(simp only[ac];omega)|(simp only[ac,aK,aM,aY];omega)):PB GB prog f (dG l) s ty dsi (fun w=> .v (.slice w.a w.n w.c)) dso:=by
 intro G w vs B hg hB hvs;refine mz.introR hf hb hn hm (by rw[hvs.len,E3];exact hlen) fun C _ hmb hrd hfx=>?_;intro a wd rl;refine xy hrd ?_;have h1:=f7 (GB:=GB) (C:=C) (Q0:=ge C prog fb (JE C s ty dso)) hgo hv (h C);refine h1.run (fun _=>w) G (Sx.asB B) a wd ⟨hg,rl.h,rl.sz,rl.df,fun k f e=>?_,fun nm B' e=>?_,fun nm nm' B' B2 e e' hne=>?_,fun nm p _ _ e=>by rw[hfx] at e;cases e⟩
 ·obtain⟨y,⟨j,hj,hy⟩,h2⟩:=EH (ρ:=fun _=>w) (w:=w) rfl 0 hvs k f e
  refine⟨y,rl.fr k y ?_,h2⟩;rw[hj];exact xi vs 0 j y hy
 ·rw[jA] at e
  split at e
  ·cases e;exact⟨Sx.asB B,hB.asB,fun o ho=>ho⟩
  ·cases e
 ·rw[jA] at e e'
  split at e<;>split at e'
  ·rename_i h2 h3;exact absurd (h2.trans h3.symm) hne
  ·cases e'
  ·cases e
  ·cases e
def oG{fb:Func}{t d s:Nat}{ty:TypeId}{ds dso:List DV}(hr:fb.results.toList=[.tmp t])(hl:aH fr t=some (.rw d))(hw:aP own d=some (.b ty s ds false))(ed:ds=dso):
  ak prog GB C n (ge C prog fb (JE C s ty dso)) fr own (.ex .ret []):=by
 subst ed;refine⟨fun ρ G ov a w r=>?_⟩;obtain⟨B,g1,g2⟩:=r.bx _ _ hw;have hB:di G ⟨ρ d,s,ty,ds,false⟩ B:=g1;obtain⟨rest,hp⟩:=LD hB g2;obtain⟨y,hy,hy'⟩:=r.ev (x:= .tmp t) (f:= .rw d) hl
 cases (show y=_ from hy')
 exact OW (C:=C) (n:=n) (fr:=cH a) (own:=ov) (G:=G) (vs:=[.slice (ρ d).a (ρ d).n (ρ d).c]) (by rw[hr];exact .tmp hy .nil) (B++rest) B hp (qS _ _) ⟨ρ d,aI.2 J,hB⟩ a w ⟨r.h,r.sz,c6 a,r.df⟩
def yj(lk:LK):List Operand->Option (List (Option DV))
 |[]=>none
 |[x]=>match aF lk x with
  |some .nl=>some [none]
  |_=>none
 |x::t=>match aF lk x,yj lk t with
  |some f,some l=>match jD f with
   |some d=>some (some d::l)
   |none=>none
  |_,_=>none
def J4(lk:LK)(fo:Operand)(args:Array Operand):Option (FuncId×List (Option DV)):=match aF lk fo with
 |some (.d (.v (.func (.func f) ⟨[]⟩ ⟨[]⟩)))=>match yj lk args.toList with
  |some l=>some (f,l)
  |_=>none
 |_=>none
def Ri{lk:LK}{bk:BM}{ρ:NE}{G:Gh}{ov:List av}{a:Act}{w:World}(r:bw GB C n lk bk ρ G ov a w): ∀{x:List Operand} {l:List (Option DV)},yj lk x=some l-> ∃y,fH (cH a) x=some y/\IsLs G (dG l ⟨none,0,0⟩) y
 |[],l,e=>by cases e
 |[x],l,e=>by
  simp only[yj] at e;split at e<;>cases e;rename_i h1;obtain⟨y,h3,h4⟩:=r.ev h1
  cases (show y=_ from h4)
  exact⟨[Value.slice none 0 0],by simp only[fH,h3], .cons ((aI (G:=G)).2 J) .nil⟩
 |x::x2::t,l,e=>by
  simp only[yj] at e;split at e
  ·rename_i f l' h1 h2
   cases hd:jD f with
   |none=>rw[hd] at e;cases e
   |some d=>
   rw[hd] at e;cases e;obtain⟨y,h3,h4⟩:=r.ev h1;obtain⟨ys,h5,h6⟩:=Ri r (x:=x2::t) (by simpa only[yj] using h2);exact⟨y::ys,by simp only[fH,h3] at h5⊢;rw[h5], .cons (mF h4 hd) h6⟩
  ·cases e
def Uk{lk:LK}{bk:BM}{fo:Operand}{args:Array Operand}{tys:Array TypeId}{f:FuncId}{d:Nat}{l:List (Option DV)}{s:Nat}{ty ty0:TypeId}{pos:String}{af:Array Edge}{gd:Option (Nat×Bool)}{dso:List DV}
  (ha:J4 lk fo args=some (f,l))(hF:PB GB prog f (dG l) s ty0 [] (fun w=> .v (.slice w.a w.n w.c)) dso):bD prog GB C n lk bk ⟨some d, .call ⟨.value fo,args,tys⟩,ty,pos,af,gd⟩ (.rw d) [(d,some (.b ty0 s dso true))] [d]:=by
 intro hd tl tb K' s1 s2 hf hk;refine⟨fun ρ G ov a w r Q=>?_⟩;have r1:=r.mono s1 s2;unfold J4 at ha;split at ha<;>try (cases ha;done)
 rename_i h1;split at ha<;>cases ha;rename_i h2;obtain⟨y,hy,hy'⟩:=r1.ev h1;rw[(aI (G:=G)).1 hy'] at hy;obtain⟨vs,h7,h8⟩:=Ri r1 h2;refine vt (M:=[]) (rest:=ov) hy h7 (List.Perm.refl _) (hF G ⟨none,0,0⟩ vs [] r.gb ⟨[], .nil _ _, .nil,by simp,fun h=>by cases h⟩ h8) hd (fun v own1 G' hG hK a' w' rl=>?_) a w Q ⟨r.h,r.sz,c6 a,r.df⟩;obtain⟨z,hr,vs',k1,k2,k3,k4⟩:=hK;have k1':=k1.relo (gu []);have e2: ∀o∈own1.map (relo (gu [])),o.lo=true:=fun o ho=>by
  obtain⟨o',_,rfl⟩:=bQ.1 ho;rfl
 generalize own1.map (relo (gu []))=B' at rl e2 k1';have rl':gg C n (Sx.put (cH a) (some d) v) (B'++ov) G' a' w':=rl;have hdis:=(gX.1 rl'.h.nd).2.2;rw[aI.1 hr] at rl';have r3:=r.new (x:=z) (B':= .b ty0 s dso true) (os:=B') (ov':=B'++ov) (f:= .rw d) (y:= .slice z.a z.n z.c) hf hG.le rl'.h ⟨vs',by simpa using k1',k2,k3,fun _=>e2⟩ (fun o ho=>bT _ ho) (fun o ho=>cJ _ ho)
  (fun o ho hc=>by
   have hx: ∃o1∈B',o1.b=o.b:=by
    rcases k1' with⟨_,h,_⟩|⟨b0,rest0,lo0,h,hB,_⟩
    ·rw[show z=_ from h] at hc;cases hc
    ·rw[show z=_ from h] at hc;cases hc;exact⟨⟨_,aA vs'++rest0,_,lo0⟩,by rw[hB];exact aQ,J⟩
   obtain⟨o1,ho1,he1⟩:=hx;exact hdis o1 ho1 o ho he1) (by simp[bE]) (jI rl')
 exact hk.run _ G' _ a' w' r3
def Ps(fr:az)(cf:Cf):Option (FuncId×List (Option DV)×Nat):=match cx fr cf with
 |some ⟨some d, .call ⟨.value fo,args,_⟩,_,_,_,_⟩=>match J4 (bC fr cf) fo args with
  |some (f,l)=>some (f,l,d)
  |none=>none
 |_=>none
def Mk[fu:Fu]{f:FuncId}{d:Nat}{l:List (Option DV)}{ty:TypeId}{s:Nat}{dso:List DV}(dso':List DV)(ha:Ps fr cf=some (f,l,d))(hF:PB GB prog f (dG l) s ty [] (fun w=> .v (.slice w.a w.n w.c)) dso)(he:dso=dso')
  (hgo:cF tt n fu.n fr own cf (.rw d) [(d,some (.b ty s dso' true))] [d]=⟨vc,fr',own',cf'⟩)(k:ak prog GB C n Q0 fr' own' cf')
  (hv:ac vc:=by first|exact trivial|(simp only[ac];kernel_rfl)|(simp only[ac];omega)|(simp only[ac,aK,aM,aY];omega)):ak prog GB C n Q0 fr own cf:=by
 subst he;unfold Ps at ha;split at ha<;>try (cases ha;done)
 rename_i hh;split at ha<;>cases ha;rename_i h1;exact us hh (Uk h1 hF) hgo hv k
end
section
variable {P:Program} {T:TT} {GB:Gh} {C:aB} {n:Nat} {lk:LK} {bk:BM} {ρ:NE} {G:Gh} {ov:List av} {a:Act} {w:World}
variable {dst:Option Nat} {t t' ty':TypeId} {pos:String} {af:Array Edge} {gd:Option (Nat×Bool)} {x y:Operand} {e s by_:Nat}
def ayZ{d nm:Nat}{i:TI}{z:DV}{ds ds2:List DV}[hT:cv P t e s by_][hN:lj P t'](hi:eO P e=some i)(hz:n7 i=some z)(hs:Nat.beq z.cells.length s=true)(hx:aF lk x=some (.rw nm))(hb:bk nm=some (.b e s ds false))(hy:qp lk bk s y=some ds2)(hk2:cP s ds2)
  (hby:Nat.blt 0 by_=true)(hbd:(ds.length+ds2.length)*by_<=140737488355328)(hnd:Nat.beq nm d=false){ds':List DV}(hds:ds++ds2=ds'):
  bD P GB C n lk bk ⟨some d, .call ⟨.builtin .append, #[x,y], #[t,t']⟩,ty',pos,af,gd⟩ (.rw d) [(nm,none),(d,some (.b e s ds' false))] [d]:=by
 intro hd tl tb K s1 s2 hf hk;refine⟨fun ρ G ov a w r Q=>?_⟩;subst hds;have r1:=r.mono s1 s2;obtain⟨v,hz1,hz2,hz3⟩:=ya hi hz;have cz:=((hz2 G).cells hz3).1.len;replace hs:=aR hs;rw[mU] at hby
 have hne:nm≠d:=fun e=>by subst e;simp at hnd
 obtain⟨u,hx',hx2⟩:=r1.ev hx
 cases hx2
 obtain⟨B,hB0,hBo⟩:=r1.bx _ _ hb;have hB1:di G ⟨ρ nm,s,e,ds,false⟩ B:=hB0;clear hB0;obtain⟨vs,hB,hv,hvs,_⟩:=hB1;simp only[] at hB hv hvs;obtain⟨w2,us,hy',h2,h3,h4,h5,h6⟩:=CA (P:=P) r1 hy hk2;have hus:(aA us).length=us.length*s:=eB us h4;have hbd':(vs.length+us.length)*by_<=140737488355328:=by rw[hv.len,h3.len];exact hbd
 have hall: ∀v∈vs++us,(aD v).length=s:=fun v hv=>by
  rcases bK.1 hv with hv|hv
  ·exact hvs v hv
  ·exact h4 v hv
 have rd:=r.dropB nm;have hf':kr [d] (some d) tl (Sx.upB tb [(nm,none)]):=fun m hm=>by
  obtain⟨g1,g2⟩:=hf m hm;refine⟨g1,fun k B' hk e=>g2 k B' hk ?_⟩;simp only[Sx.upB] at e;split at e
  ·cases e
  ·exact e
 have hbk: ∀m B',(Sx.upB tb [(nm,none)]) m=some B'->m≠nm/\tb m=some B':=fun m B' e=>by
  simp only[Sx.upB] at e;split at e
  ·cases e
  ·exact⟨by assumption,e⟩
 have hnew: ∀{z:SV} {ov':List av} {B1:List av} {a':Act} {w':World} {dz:List DV},di G ⟨z,s,e,dz,false⟩ B1->(∀o∈B1,o∈ov')->(∀m B',m≠d->(Sx.upB tb [(nm,none)]) m=some B'-> ∀o∈ov,(ρ m).a=some ⟨o.b,0,none⟩->o∈ov'/\z.a≠some ⟨o.b,0,none⟩)->
   SX GB C n (ek tl (some d) (.rw d)) (Sx.upB (Sx.upB tb [(nm,none)]) [(d,some (.b e s dz false))]) K->gg C n (Sx.put (cH a) (some d) (.slice z.a z.n z.c)) ov' G a' w'->K a' w':=fun hB1 hos hov hk1 rl=>
  hk1.run _ _ _ _ _ (rd.new' (f:= .rw d) (y:= .slice _ _ _) hf' (bp.refl _) rl.h (hB1.toBk (by simp)) hos hov (by show _=_;simp) (jI rl))
 have hfin: ∀(b:Nat) (lo1:Bool) (cap':Nat) (rest':List Value) (ov1:List av) a' w',vs.length+us.length<=cap'->rest'.length+(vs.length+us.length)*s=cap'*s->(∀o∈ov,(ρ nm).a≠some ⟨o.b,0,none⟩->o∈ov1)->
   gg C n (put (cH a) (some d) (.slice (some ⟨b,0,none⟩) (vs.length+us.length) cap')) (⟨b,aA (vs++us)++rest',e,lo1⟩::ov1) G a' w'->K a' w':=by
  intro b lo1 cap' rest' ov1 a' w' hc hr ho1 rl;have hnd':=(bR.1 rl.h.nd).1;refine hnew (z:=⟨some ⟨b,0,none⟩,vs.length+us.length,cap'⟩) (B1:=[⟨b,aA (vs++us)++rest',e,lo1⟩]) ⟨vs++us, .inr ⟨b,rest',lo1,by simp,J,eB _ hall,?_,by simpa using hc⟩,hv.app h3,hall,fun h=>by cases h⟩
   (fun o ho=>by rw[aU.1 ho];exact aQ) (fun m B' hm e o ho hmo=>?_) hk rl
  ·rw[eB _ hall,aV]
   simp only[];omega
  ·obtain⟨h7,h8⟩:=hbk m B' e
   have ho2:=ho1 o ho fun hc=>r.dj m nm B' _ h8 (s2 _ _ hb) h7 _ hmo hc;exact⟨aJ _ ho2,fun e'=>by cases e';exact hnd' o ho2 J⟩
 rcases hB with⟨e1,e2,e3⟩|⟨b,rest,lo',k3,k4,k5,k6,k7⟩
 ·subst e1
  rw[e2] at hx';by_cases hne:us=[]
  ·subst hne
   have:ds2=[]:=bU (by rw[<-h3.len];rfl);subst this;rw[h2] at hy';refine Ro hx' hy' hd (fun a' w' rl=>?_) a w Q ⟨r.h,r.sz,c6 a,r.df⟩;refine hnew (z:=⟨none,0,0⟩) (B1:=[]) ⟨[], .inl ⟨J,J,J⟩,by simpa using hv,by simp,fun h=>by cases h⟩ (fun o ho=>by cases ho) (fun m B' hm e o ho hmo=>⟨ho,fun e'=>by cases e'⟩) hk rl
  ·have hup:0<us.length:=mM.2 hne
   rw[h2] at hy' h6;refine CU (z:=v) (xs:=[]) (ys:=aA us) hx' hy' xe h6 (by show(0:Nat)<0+us.length;omega) hby (by simpa using hbd') hd (fun b cap' hc a' w' rl=>?_) a w Q ⟨r.h,r.sz,c6 a,r.df⟩;exact hfin b true cap' (dm v (cap'-us.length)) ov a' w' (by simpa using hc) (by rw[pD,cz,hs,<-cS];simp at hc⊢;congr 1;omega) (fun o ho _=>ho) (by simpa using rl)
 ·subst k4
  have ha:(ρ nm).a=some ⟨b,0,none⟩:=by rw[k3]
  have hn:(ρ nm).n=vs.length:=by rw[k3]
  rw[ha,hn] at hx';rw[h2] at hy' h6;obtain⟨ov1,o1,o2⟩:=j9.of_mem (hBo _ aQ);refine alM (z:=v) (xs:=aA vs) (ys:=aA us) (rest:=rest) (own1:=ov1) hx' hy' o1 k5 k6 k7 h6 hus h5 hby hbd' (by rw[cz,hs]) hd (fun b' lo2 cap' rest' hc hr a' w' rl=>?_) a w Q ⟨r.h,r.sz,c6 a,r.df⟩;rw[<-qC] at rl;exact hfin b' lo2 cap' rest' ov1 a' w' hc hr (fun o ho hne=>o2 o ho fun e'=>hne (by rw[ha,e'])) rl
end
section
variable {GB:Gh} {C:aB} {n:Nat} {Q0:Exit->Act->World->Prop} {fr fr':az} {own own':aC} {cf cf':Cf} {vc:List Prop}
def Rt(fr:az)(own:aC)(cf:Cf):Option (Nat×Nat×Nat×Nat×Nat×List DV×List DV):=match cx fr cf with
 |some ⟨some d, .call ⟨.builtin .append,⟨[x,y]⟩,⟨[t,t']⟩⟩,_,_,_,_⟩=>match dl tt t with
  |some ⟨.sl e s b,_,_,_⟩=>match dl tt t' with
   |some ⟨.sl _ _ _,_,_,_⟩=>match dl tt e with
    |some i=>match n7 i with
     |some z=>bif Nat.beq z.cells.length s&&Nat.blt 0 b then(match qp (bC fr cf) (ij fr own cf) s y with
      |some ds2=>match aF (bC fr cf) x with
       |some (.rw nm)=>match ij fr own cf nm with
        |some (.b e' s' ds false)=>bif (Nat.beq e' e&&Nat.beq s' s)&&!Nat.beq nm d then some (d,nm,e,s,b,ds,ds2) else none
        |_=>none
       |_=>none
      |none=>none) else none
     |none=>none
    |none=>none
   |_=>none
  |_=>none
 |_=>none
def IF[fu:Fu]{d nm:Nat}{e s b:Nat}{ds ds2:List DV}(ds':List DV)(h:Rt fr own cf=some (d,nm,e,s,b,ds,ds2))(hds:ds++ds2=ds')(ho2:cP s ds2)(hgo:cF tt n fu.n fr own cf (.rw d) [(nm,none),(d,some (.b e s ds' false))] [d]=⟨vc,fr',own',cf'⟩)(k:ak prog GB C n Q0 fr' own' cf')
  (hbd:(ds.length+ds2.length)*b<=140737488355328:=by simp;omega)
  (hv:ac vc:=by first|exact trivial|(simp only[ac];kernel_rfl)|(simp only[ac];omega)|(simp only[ac,aK,aM,aY];omega)):ak prog GB C n Q0 fr own cf:=by
 unfold Rt at h;split at h<;>try (cases h;done)
 rename_i hh;split at h<;>try (cases h;done)
 rename_i hT;split at h<;>try (cases h;done)
 rename_i hT';split at h<;>try (cases h;done)
 rename_i hi;split at h<;>try (cases h;done)
 rename_i hz;rw[cond_eq_ite] at h;split at h<;>try (cases h;done)
 rename_i hc;simp only[bL] at hc;split at h<;>try (cases h;done)
 rename_i hy;have:=jg (dP _ _ hT) J;have hN:lj prog _:=⟨_,(jg (dP _ _ hT') J).un⟩;split at h<;>try (cases h;done)
 rename_i hx;split at h<;>try (cases h;done)
 rename_i hb;rw[cond_eq_ite] at h;split at h<;>cases h;rename_i hq;simp only[bL,gV] at hq
 cases aR hq.1.1
 cases aR hq.1.2
 exact us hh (ayZ (dP _ _ hi) hz hc.1 hx hb hy ho2 hc.2 hbd hq.2 hds) hgo hv k
end
def NY(xs ys:List NQ)(n:NQ):((xs++(n::ys)).map eN)[((xs.length:Nat):Int).toNat]? =some (eN n):=by simp
def Sv(xs ys:List NQ)(n m:NQ)(e:DV)(h:e=eN m):((xs++(n::ys)).map eN).set ((xs.length:Nat):Int).toNat e=(xs++(m::ys)).map eN:=by subst h;simp
def Xn{ns:List NQ}:PB GB prog 34 (dG [some (eT (.leaf true)),none]) 8 182 (ns.map eN) (fun w=> .tp ([]++ .v (.slice w.a w.n w.c)::[.v (.int .i64 (Tr.num (.leaf true) ns.length))])) ((ns++Tr.wr (.leaf true) ns.length).map eN):=by
 refine GA (fu:=⟨12⟩) func34 J J ntmps34 J J (fun C=>?_);refine cB (fu:=⟨9⟩) J J J<|cB J J J<|?_;exact IA J J J J J (by simp[Tr.wr]) J
def amc{ns:List NQ}:PB GB prog 34 (dG [some (eT (.leaf false)),none]) 8 182 (ns.map eN) (fun w=> .tp ([]++ .v (.slice w.a w.n w.c)::[.v (.int .i64 (Tr.num (.leaf false) ns.length))])) ((ns++Tr.wr (.leaf false) ns.length).map eN):=by
 refine GA (fu:=⟨12⟩) func34 J J ntmps34 J J (fun C=>?_);refine cB (fu:=⟨9⟩) J J J<|cG J J J<|?_;exact IA J J J J J (by simp[Tr.wr]) J
def YV{l:aa}{s u:Tr}{ns:List NQ}(hl:BL l 96)(hs:ns.length+(1+s.size+u.size)<=1000000)(ihs: ∀{ns:List NQ},ns.length+s.size<=1000000->PB GB prog 34 (dG [some (eT s),none]) 8 182 (ns.map eN) (fun w=> .tp ([]++ .v (.slice w.a w.n w.c)::[.v (.int .i64 (Tr.num s ns.length))])) ((ns++Tr.wr s ns.length).map eN))(ihu: ∀{ns:List NQ},ns.length+u.size<=1000000->PB GB prog 34 (dG [some (eT u),none]) 8 182 (ns.map eN) (fun w=> .tp ([]++ .v (.slice w.a w.n w.c)::[.v (.int .i64 (Tr.num u ns.length))])) ((ns++Tr.wr u ns.length).map eN)):PB GB prog 34 (dG [some (eT (.node l s u)),none]) 8 182 (ns.map eN) (fun w=> .tp ([]++ .v (.slice w.a w.n w.c)::[.v (.int .i64 (Tr.num (.node l s u) ns.length))])) ((ns++Tr.wr (.node l s u) ns.length).map eN):=by
 refine GA (fu:=⟨12⟩) func34 J J ntmps34 J J (fun C=>?_);refine cG (fu:=⟨9⟩) J J J<|?_;refine aj 20 (.d (.v (.int .i64 (ns.length:Nat)))) J (by simp) ?_;refine gx J<|cl J (WP hl) J<|rf J J<|IF ((ns++[(⟨l,0,0⟩:NQ)]).map eN) J (by rw[bS]<;>rfl) (VJ [(⟨l,0,0⟩:NQ)]) J<|?_;refine cb _ J (ihs (ns:=ns++[(⟨l,0,0⟩:NQ)]) (by simp;omega)) J J<|cb (hv:=by simp only[ac];exact(by simp;omega)) ((ns++((⟨l,0,0⟩:NQ)::(s.wr (ns.length+1)++u.wr (ns.length+1+s.size)))).map eN) J (ihu (ns:=ns++[(⟨l,0,0⟩:NQ)]++s.wr (ns++[(⟨l,0,0⟩:NQ)]).length) (by simp[Tr.wr_len];omega)) (by simp[Tr.wr_len,kK,kZ 1]) J<|?_;refine sb (hv:=by simp only[ac];exact(by simp;omega)) (eN ⟨l,0,0⟩) ((ns++((⟨l,s.num (ns.length+1),0⟩:NQ)::(s.wr (ns.length+1)++u.wr (ns.length+1+s.size)))).map eN) J (NY ns _ ⟨l,0,0⟩) J (by rw[Sv _ _ _ ⟨l,s.num (ns.length+1),0⟩ _ (by simp[eN,DV.cells])]) J<|?_;refine sb (eN ⟨l,s.num (ns.length+1),0⟩) ((ns++Tr.wr (.node l s u) ns.length).map eN) J (NY ns _ ⟨l,s.num (ns.length+1),0⟩) J (by rw[Sv _ _ _ ⟨l,s.num (ns.length+1),u.num (ns.length+1+s.size)⟩ _ (by simp[eN,DV.cells,Tr.wr_len,kK,kZ 1])];simp[Tr.wr]) J<|?_;exact IA J J J J J J J
def JP: ∀{t:Tr} {ns:List NQ},t.all (fun l=>BL l 96)->ns.length+t.size<=1000000->PB GB prog 34 (dG [some (eT t),none]) 8 182 (ns.map eN) (fun w=> .tp ([]++ .v (.slice w.a w.n w.c)::[.v (.int .i64 (Tr.num t ns.length))])) ((ns++Tr.wr t ns.length).map eN)
 | .leaf true,ns,_,_=>Xn
 | .leaf false,ns,_,_=>amc
 | .node l s u,ns,hb,hs=>YV hb.1 hs (fun h=>JP hb.2.1 h) (fun h=>JP hb.2.2 h)
def Xg{t:Tr}(hb:t.all (fun l=>BL l 96))(hs:t.size<=1000000):PF GB prog 7 [eT t] (eA t):=by
 refine fn func7 J J ntmps7 J J (fun C=>?_);refine cbn _ J (JP (t:=t) (ns:=[]) hb (by simpa using hs)) J J<|?_;refine iE 6 J ?_;exact rz J J
def aGM(ds:List Int):cP 1 (ds.map vI):=fun d hd=>by
 obtain⟨n,_,rfl⟩:=bQ.1 hd;exact⟨rfl,rfl⟩
def Xi(es:List Int):(es.map vI).take (min es.length 400)=(es.take 400).map vI:=by
 rw[gR];rcases Nat.le_total es.length 400 with h|h
 ·rw[gJ h,aL (by simp),aL (by simpa using h)]
 ·rw[Nat.min_eq_right h]
def Ym{es:List Int}(hb:es.length<=1125899906842624):PN GB prog 8 [.sl (es.map vI)] 87 Unit (fun _=>[.sl ((es.take 400).map vI), .v (.int .i64 (0:Nat))]):=by
 have hel:(es.map vI).length=es.length:=by simp
 refine XL func8 J J ntmps8 J J (fun C hmb=>?_);refine m6 0 (min es.length 400) ((es.take 400).map vI) J J (by rw[hel];show(if _ then _ else _:Int)=_;split<;>omega) (Xi es) (aGM _) (by omega) (by omega) J<|?_;exact rzN () J J J J J
def Y'{t:Tr}(hb:t.all LB)(hok:t.all aa.ok)(hd:t.depth<=900):PF GB prog 117 [eT t] (eT (t.restrict [])):=by
 refine fn func117 J J ntmps117 J J (fun C=>?_);refine cl J (DE (t:=t) (c:=[]) hb hok (by simp) (by simp) (by simpa using hd)) J<|?_;exact rz J (by rw[<-Tr.restrictL_eq t [] [] hok (by simp) bP.nil (fun p=>by unfold bm cI;simp)];rfl)
def Qz{cuts:List Rat}{marks:List Bool}: ∀k,2*(fC cuts marks k).length<=k+(if 0<k/\marks.getD (k-1) false=true then 1 else 0)
 |0=>by rw[fC];simp
 |k+1=>by
  have ih:=Qz (cuts:=cuts) (marks:=marks) k;rw[fC];simp only[lQ];by_cases hm:marks.getD k false=true
  ·rw[if_pos hm,if_pos (show 0<k+1/\marks.getD k false=true from⟨by omega,hm⟩)]
   by_cases hp:0<k/\marks.getD (k-1) false=true
   ·rw[if_pos hp] at ih⊢
    cases hv:(fC cuts marks k).getLast? with
    |some v=>
     have:0<(fC cuts marks k).length:=by
      cases e:fC cuts marks k with
      |nil=>rw[e] at hv;simp at hv
      |cons a t=>simp
     show 2*((fC cuts marks k).dropLast++[_]).length<=_;rw[aV,iK,iZ];omega
    |none=>
     have:fC cuts marks k=[]:=List.getLast?_eq_none_iff.1 hv;simp only[this];simp
   ·rw[if_neg hp] at ih⊢
    rw[aV,iZ];omega
  ·rw[if_neg hm]
   split at ih<;>split<;>omega
def WW(op:Int)(a b:List ah):(oq op a b).length<=a.length+b.length+1:=by
 unfold oq uC;have h:=Qz (cuts:=gG (a++b)) (marks:=(e7 (gG (a++b))).map fun t=>nI op (fA a t) (fA b t)) ((e7 (gG (a++b))).map fun t=>nI op (fA a t) (fA b t)).length;have h2:=Gb (a++b);rw[aV] at h2;have h3:((e7 (gG (a++b))).map fun t=>nI op (fA a t) (fA b t)).length=(gG (a++b)).length+1:=by rw[aK,A9]
 split at h<;>omega
def K1(f:ba)(m:aa)(side:Int):(et f m side).length<=3:=by
 unfold et;split
 ·simp
 ·rw[aK]
  have:=WW 2 [f.v] (iF f.l m side);have h2:=Bl (l:=f.l) (m:=m) (side:=side);rw[iZ] at this;omega
theorem apK{p v:ab}{m:aa}{s:Rat}[hp:ay p 4500][hv:ay v 97][hm:LB m](hs:BQ s 60000):BQ (ow p v m s) 60000:=by
 unfold ow tA;split
 ·exact hs
 ·split
  ·exact hs
  ·split
   ·split
    ·haveI:BQ (-(m.value p/(m.value (bF p v ((1:Int):Rat))-m.value p))) 45000:=BQ.mono inferInstance (by decide)
     exact BQ.mono (inferInstance:BQ (-(m.value p/(m.value (bF p v ((1:Int):Rat))-m.value p))/2) _) (by decide)
    ·exact hs
   ·exact hs
theorem PJ{p v:ab}[hp:ay p 4500][hv:ay v 97]: ∀{c:List aa} {s:Rat},(∀m∈c,LB m)->BQ s 60000->BQ (m8 p v c s) 60000
 |[],_,_,hs=>hs
 |m::t,s,hc,hs=>by
  haveI:=hc m aQ;exact PJ (c:=t) (fun q hq=>hc q (aJ _ hq)) (apK hs)
theorem O5{c:List aa}(hc: ∀m∈c,LB m)(hok: ∀m∈c,m.ok): ∀{t:List aa},(∀m∈t,m∈c)->ay (iC c t) 70000
 |[],_=>by
  have h0:BQ (0:Rat) 70000:=BQ.mono (k:=1) ⟨by decide,by decide⟩ (by decide);exact⟨h0,h0⟩
 |m::t,h=>by
  have hm:=h m aQ;haveI:=hc m hm;rw[iC];split
  ·have hbd:=Dc (v:=ah.all) (hok m hm).ne hc gH.all (BQ.mono (k:=1) ⟨by decide,by decide⟩ (by decide)) (BQ.mono (k:=1) ⟨by decide,by decide⟩ (by decide))
   haveI:=hbd.1;haveI:=hbd.2;haveI hsb:=N3 (v:=(fm m c ah.all).1) (i:=1200);haveI hpt:ay (m.at (jw (fm m c ah.all).1)) 4500:=by have:=ay.at m (jw (fm m c ah.all).1) (1200+1200+5);exact⟨this.x.mono (by decide),this.y.mono (by decide)⟩
   haveI hvt:ay (jh m.dir) 97:=inferInstance;haveI hns:BQ (m8 (m.at (jw (fm m c ah.all).1)) (jh m.dir) c ((1:Int):Rat)) 60000:=PJ hc (BQ.mono (k:=2) ⟨by decide,by decide⟩ (by decide));have:=ay.mov (m.at (jw (fm m c ah.all).1)) (jh m.dir) (m8 (m.at (jw (fm m c ah.all).1)) (jh m.dir) c ((1:Int):Rat)) 4500 97 60000;exact⟨this.x.mono (by decide),this.y.mono (by decide)⟩
  ·exact O5 hc hok (fun q hq=>h q (aJ _ hq))
def Pb{l:List ba}{k:Nat}{g:ba}{m:aa}{side:Int}(h:l[k]? =some g):(l.take (k+1)).flatMap (fun g=>et g m side)=(l.take k).flatMap (fun g=>et g m side)++et g m side:=by
 rw[iQ,h,mN];simp
def E4(l:List ba)(m:aa)(side:Int):(l.flatMap fun g=>et g m side).length<=3*l.length:=by
 induction l with
 |nil=>simp
 |cons a t ih=>rw[kU,aV,bX];have:=K1 a m side;omega
def ZA{acc:ab->Bool}{n:Nat}{c:List aa}:i8 acc n [] c= .leaf (acc (iC c c)):=by cases n<;>rfl
def asb{rs:List (List ZP)}{fill:Int}(hrs: ∀r∈rs,d5 r)(hrn:rs.length<=100){n:Nat}{c:List aa}(hc: ∀m∈c,LB m)(hok: ∀m∈c,m.ok)(hn:c.length<=900):PF GB prog 118 [vW rs fill, .sl [], .sl (c.map eL)] (eT (i8 (mn rs fill) n [] c)):=by
 haveI hpb:=O5 hc hok (t:=c) (fun _ h=>h);refine fn (fu:=⟨11⟩) func118 J J ntmps118 J J (fun C=>?_);refine cB J J J<|cl J (IJ (c:=c) hc hok (by omega)) J<|cl J (Xp (p:=iC c c) (i:=70000) hrs hrn (by decide)) J<|cl J (x5 (p:=mn rs fill (iC c c))) J<|?_;exact rz J (by rw[ZA];rfl)
def Xf{rs:List (List ZP)}{fill:Int}(hrs: ∀r∈rs,d5 r)(hrn:rs.length<=100){n:Nat}{f:ba}{t:List ba}{c:List aa}(hfew:r8 (n+1) (f::t))(hfo: ∀g∈f::t,nA g)(hlen:(f::t).length*3^(n+1)<=6973568802)(hc: ∀m∈c,LB m)(hok: ∀m∈c,m.ok)(hn:c.length+(n+1)<=900)(ih: ∀{l:List ba} {c:List aa},r8 n l->(∀f∈l,nA f)->l.length*3^n<=6973568802->(∀m∈c,LB m)->(∀m∈c,m.ok)->c.length+n<=900->PF GB prog 118 [vW rs fill, .sl (l.map fe), .sl (c.map eL)] (eT (i8 (mn rs fill) n l c))):PF GB prog 118 [vW rs fill, .sl ((f::t).map fe), .sl (c.map eL)] (eT (i8 (mn rs fill) (n+1) (f::t) c)):=by
 obtain⟨l,hl⟩: ∃l,l=f::t:=⟨_,rfl⟩;have hl0:l[0]? =some f:=by rw[hl];rfl
 rw[<-hl] at hfew hfo hlen⊢;have hm:=gj fe l;have hfl:=hfo f (aT hl0);haveI:=hfl.lb;have hlp:0<l.length:=by rw[hl];simp
 have hlb:l.length<=6973568802:=cR (rJ _ (fY (by decide))) hlen;refine fn (fu:=⟨11⟩) func118 J J ntmps118 J J (fun C=>?_);refine aj 17 (.d (vI (l.length:Nat))) J (by rw[hm]<;>rfl) ?_;refine gx (fu:=⟨0⟩) J<|cG J (by show some (decide _)=some false;rw[decide_eq_false (by omega)]) J<|ix (fu:=⟨17⟩) _ J (d8 (i:=0) hl0) J<|?_;refine aj 33 (.d (vI (l.length:Nat))) J (by rw[hm]<;>rfl) ?_;refine gx J<|?_;refine nr 10 10 225 14 J J J ?_;refine nr 11 11 225 14 J J J ?_;refine lp (X:=Nat) (fun k=>[(34, .d (vI (k:Nat))),(10, .rw 10),(11, .rw 11)]) (fun k=>[(10,some (.b 225 14 (((l.take k).flatMap fun g=>et g f.l 1).map fe) true)),(11,some (.b 225 14 (((l.take k).flatMap fun g=>et g f.l (-1)).map fe) true))]) (fun k=>k<=l.length) (fun k=>l.length-k) 0 J (bV _) (fun _=>J) (fun k hk=>?_);have htk:(l.take k).length<=6973568802:=by rw[cW];omega
 have hb1:(((l.take k).flatMap fun g=>et g f.l 1).map fe).length<=20920706406:=by rw[aK];have:=E4 (l.take k) f.l 1;omega
 have hb2:(((l.take k).flatMap fun g=>et g f.l (-1)).map fe).length<=20920706406:=by rw[aK];have:=E4 (l.take k) f.l (-1);omega
 refine br (fu2:=⟨0⟩) J J J (fun hc35=>?_) (fun hc35=>?_)
 .
  obtain⟨g,hz⟩: ∃s,l[k]? =some s:=⟨_,aZ (by omega)⟩;have hg:=hfo g (aT hz);have hs1:((et g f.l 1).map fe).length<=3:=by rw[aK];exact K1 _ _ _
  have hs2:((et g f.l (-1)).map fe).length<=3:=by rw[aK];exact K1 _ _ _
  refine ix _ J (d8 hz) J<|cl J (WL (f:=g) (m:=f.l) hg hfl.ok) J<|ap (hbd:=by omega) (((l.take (k+1)).flatMap fun g=>et g f.l 1).map fe) J (by rw[Pb hz,bS]) (AF _) J<|?_;refine ap (hbd:=by omega) (((l.take (k+1)).flatMap fun g=>et g f.l (-1)).map fe) J (by rw[Pb hz,bS]) (AF _) J<|?_;refine gI 46 10 J ?_;refine gI 49 11 J ?_;exact at_ (k+1) ⟨(by omega),(by omega)⟩
 .
  obtain rfl:k=l.length:=by omega
  rw[dJ];refine z7 10 J ?_;refine z7 11 J ?_;refine gx J<|rp J J<|ap (c.map eL) J J (gm c) J<|rf J J<|l8 ((c++[f.l]).map eL) J (by rw[bS];rfl) (gm [f.l]) J<|?_;refine cl rfl (ih (c:=c++[f.l]) (by subst hl;exact r8.split hfew hfo) (fun g hg=>by obtain⟨q,hq,hg⟩:=gQ.1 hg;exact(FT (hfo q hq) hfl.lb g hg).1) (by have:=E4 l f.l 1;rw[fR] at hlen;exact cR (bW _ this) (by rw[bN 3,cX];rw[bN (3^n)] at hlen;exact hlen)) (tI hc hfl.lb) (iv hok hfl.ok) (by rw[aV,iZ];omega)) rfl<|?_;refine rp J J<|ap (c.map eL) J J (gm c) J<|cl J (An (l:=f.l)) J<|rf J J<|l8 ((c++[f.l.rev]).map eL) J (by rw[bS];rfl) (gm [f.l.rev]) J<|?_;refine cl (fu:=⟨1⟩) rfl (ih (c:=c++[f.l.rev]) (by subst hl;exact r8.split hfew hfo) (fun g hg=>by obtain⟨q,hq,hg⟩:=gQ.1 hg;exact(FT (hfo q hq) hfl.lb g hg).1) (by have:=E4 l f.l (-1);rw[fR] at hlen;exact cR (bW _ this) (by rw[bN 3,cX];rw[bN (3^n)] at hlen;exact hlen)) (tI hc hfl.lb.rev) (iv hok hfl.ok.rev) (by rw[aV,iZ];omega)) rfl<|?_;refine Kd J J<|?_;exact rz J (by subst hl;rfl)
def Qd{rs:List (List ZP)}{fill:Int}(hrs: ∀r∈rs,d5 r)(hrn:rs.length<=100): ∀{n:Nat} {l:List ba} {c:List aa},r8 n l->(∀f∈l,nA f)->l.length*3^n<=6973568802->(∀m∈c,LB m)->(∀m∈c,m.ok)->c.length+n<=900->PF GB prog 118 [vW rs fill, .sl (l.map fe), .sl (c.map eL)] (eT (i8 (mn rs fill) n l c))
 |n,[],c,_,_,_,hc,hok,hn=>asb hrs hrn hc hok (by omega)
 |0,f::t,c,hf,_,_,_,_,_=>by
  obtain⟨K,h1,h2⟩:=hf;obtain⟨m,hm,_⟩:=h2 f aQ;rw[bU (l:=K) (by omega)] at hm
  cases hm
 |n+1,f::t,c,hf,ho,hl,hc,hok,hn=>Xf hrs hrn hf ho hl hc hok hn (fun a1 a2 a3 a4 a5 a6=>Qd hrs hrn a1 a2 a3 a4 a5 a6)
def axx(l:List ba):r8 l.length l:=⟨l.map ba.l,by rw[aK];exact aN _,fun f hf=>⟨f.l,eJ hf, .inl J⟩⟩
def aBi{n:Nat}(h:n<=18):n*3^n<=6973568802:=cR (iW h (bY (by decide) h)) (by decide)
def Rb{rs:List (List ZP)}{fill:Int}(hrs: ∀r∈rs,d5 r)(hrn:rs.length<=3):PF GB prog 54 [vW rs fill] (eT (pf rs fill)):=by
 have hm:=gj mC rs;have hE:=uh hrs;have hraw:=HN (acc:=mn rs fill) hE.2 J;refine fn (fu:=⟨17⟩) func54 J J ntmps54 J J (fun C=>?_);refine aj 8 (.d (vI (rs.length:Nat))) J (by rw[hm]<;>rfl) ?_;refine gx J<|?_;refine nr 3 3 225 14 J J J ?_;refine lp (X:=Nat) (fun k=>[(9, .d (vI (k:Nat))),(3, .rw 3)]) (fun k=>[(3,some (.b 225 14 ((iw (rs.take k)).map fe) true))]) (fun k=>k<=rs.length) (fun k=>rs.length-k) 0 J (bV _) (fun _=>J) (fun k hk=>?_);have het:((iw (rs.take k)).map fe).length<=6*k:=by rw[aK];exact R5 hrs k
 refine br J J J (fun hc10=>?_) (fun hc10=>?_)
 .
  obtain⟨r,hz⟩: ∃s,rs[k]? =some s:=⟨_,aZ (by omega)⟩;have hr:=hrs r (aT hz);have hel:((ki r).map fe).length<=6:=by rw[aK];have:=(CW hr).1;have:=hr.n6;omega
  refine ix _ J (d8 hz) J<|cl J (Qa (r:=r) hr) J<|ap (hbd:=by omega) ((iw (rs.take (k+1))).map fe) J (by rw[Lj hz,bS]) (AF _) J<|?_;refine gI 16 3 J ?_;exact at_ (k+1) ⟨(by omega),(by omega)⟩
 .
  obtain rfl:k=rs.length:=by omega
  rw[dJ];refine fz 3 J J<|cl J (Qd (n:=(iw rs).length) (l:=iw rs) (c:=[]) hrs (by omega) (axx _) hE.2 (aBi (by have:=hE.1;omega)) (fun m h=>by cases h) (fun m h=>by cases h) (by have:=hE.1;rw[fU];omega)) J<|?_;refine cl J (Y' (t:=wv rs fill) hraw.gd.lb hraw.gd.ok (by have:=hraw.dp;have:=hE.1;show(i8 _ _ _ _).depth<=900;omega)) J<|?_;exact rz J J
def Ye{b:Bool}:PF GB prog 89 [eT (.leaf b)] (eT (Tr.compl (.leaf b))):=by
 refine fn (fu:=⟨11⟩) func89 J J ntmps89 J J (fun C=>?_);refine cB J J J<|cl J (x5 (p:=!b)) J<|?_;exact rz J J
def Wj{l:aa}{x y:Tr}(ihx:PF GB prog 89 [eT x] (eT x.compl))(ihy:PF GB prog 89 [eT y] (eT y.compl)):PF GB prog 89 [eT (.node l x y)] (eT (Tr.compl (.node l x y))):=by
 refine fn (fu:=⟨11⟩) func89 J J ntmps89 J J (fun C=>?_);refine cG J J J<|cl J ihx J<|cl (fu:=⟨1⟩) J ihy J<|Kd J J<|?_;exact rz J J
def ny: ∀{t:Tr},PF GB prog 89 [eT t] (eT t.compl)
 | .leaf _=>Ye
 | .node _ _ _=>Wj ny ny
def alY{op:Int}{b:Bool}{u:Tr}{c:List aa}(hu:u.all LB)(huo:u.all aa.ok)(hc: ∀m∈c,LB m)(hok: ∀m∈c,m.ok)(hn:c.length+u.depth<=900):PF GB prog 36 [vI op,eT (.leaf b),eT u, .sl (c.map eL)] (eT (Tr.mergeL op (.leaf b) u c)):=by
 refine fn (fu:=⟨11⟩) func36 J J ntmps36 J J (fun C=>?_);refine cB J J J<|cl J (DE (t:=u) (c:=c) hu huo hc hok hn) J<|?_;refine cs 20 J J J (fun hg20=>?_) (fun hg20=>?_)
 .
  refine bb J J J (fun hc17=>?_) (fun hc17=>?_)
  .
   refine cl J (x5 (p:=true)) J<|?_;exact rz J (by show eT _=eT _;congr 1;rw[Tr.mergeL];unfold Tr.chooseL;(repeat' split)<;>first|rfl|(exfalso;simp_all;done)|(exfalso;omega))
  .
   refine cs 30 J J J (fun hg30=>?_) (fun hg30=>?_)
   .
    refine bb J J J (fun hc27=>?_) (fun hc27=>?_)
    .
     refine cl J (x5 (p:=false)) J<|?_;exact rz J (by show eT _=eT _;congr 1;rw[Tr.mergeL];unfold Tr.chooseL;(repeat' split)<;>first|rfl|(exfalso;simp_all;done)|(exfalso;omega))
    .
     refine cs 45 J J J (fun hg45=>?_) (fun hg45=>?_)
     .
      refine bb J J J (fun hc42=>?_) (fun hc42=>?_)
      .
       refine cl J ny J<|?_;exact rz J (by show eT _=eT _;congr 1;rw[Tr.mergeL];unfold Tr.chooseL;(repeat' split)<;>first|rfl|(exfalso;simp_all;done)|(exfalso;omega))
      .
       exact rz J (by show eT _=eT _;congr 1;rw[Tr.mergeL];unfold Tr.chooseL;(repeat' split)<;>first|rfl|(exfalso;simp_all;done)|(exfalso;omega))
     .
      refine cs 49 J J J (fun hg49=>?_) (fun hg49=>?_)
      .
       refine bb J J J (fun hc42=>?_) (fun hc42=>?_)
       .
        refine cl J ny J<|?_;exact rz J (by show eT _=eT _;congr 1;rw[Tr.mergeL];unfold Tr.chooseL;(repeat' split)<;>first|rfl|(exfalso;simp_all;done)|(exfalso;omega))
       .
        exact rz J (by show eT _=eT _;congr 1;rw[Tr.mergeL];unfold Tr.chooseL;(repeat' split)<;>first|rfl|(exfalso;simp_all;done)|(exfalso;omega))
      .
       exact rz J (by show eT _=eT _;congr 1;rw[Tr.mergeL];unfold Tr.chooseL;(repeat' split)<;>first|rfl|(exfalso;simp_all;done)|(exfalso;omega))
   .
    refine cs 34 J J J (fun hg34=>?_) (fun hg34=>?_)
    .
     refine bb J J J (fun hc27=>?_) (fun hc27=>?_)
     .
      refine cl J (x5 (p:=false)) J<|?_;exact rz J (by show eT _=eT _;congr 1;rw[Tr.mergeL];unfold Tr.chooseL;(repeat' split)<;>first|rfl|(exfalso;simp_all;done)|(exfalso;omega))
     .
      refine cs 45 J J J (fun hg45=>?_) (fun hg45=>?_)
      .
       refine bb J J J (fun hc42=>?_) (fun hc42=>?_)
       .
        refine cl J ny J<|?_;exact rz J (by show eT _=eT _;congr 1;rw[Tr.mergeL];unfold Tr.chooseL;(repeat' split)<;>first|rfl|(exfalso;simp_all;done)|(exfalso;omega))
       .
        exact rz J (by show eT _=eT _;congr 1;rw[Tr.mergeL];unfold Tr.chooseL;(repeat' split)<;>first|rfl|(exfalso;simp_all;done)|(exfalso;omega))
      .
       refine cs 49 J J J (fun hg49=>?_) (fun hg49=>?_)
       .
        refine bb J J J (fun hc42=>?_) (fun hc42=>?_)
        .
         refine cl J ny J<|?_;exact rz J (by show eT _=eT _;congr 1;rw[Tr.mergeL];unfold Tr.chooseL;(repeat' split)<;>first|rfl|(exfalso;simp_all;done)|(exfalso;omega))
        .
         exact rz J (by show eT _=eT _;congr 1;rw[Tr.mergeL];unfold Tr.chooseL;(repeat' split)<;>first|rfl|(exfalso;simp_all;done)|(exfalso;omega))
       .
        exact rz J (by show eT _=eT _;congr 1;rw[Tr.mergeL];unfold Tr.chooseL;(repeat' split)<;>first|rfl|(exfalso;simp_all;done)|(exfalso;omega))
    .
     refine cs 45 J J J (fun hg45=>?_) (fun hg45=>?_)
     .
      refine bb J J J (fun hc42=>?_) (fun hc42=>?_)
      .
       refine cl J ny J<|?_;exact rz J (by show eT _=eT _;congr 1;rw[Tr.mergeL];unfold Tr.chooseL;(repeat' split)<;>first|rfl|(exfalso;simp_all;done)|(exfalso;omega))
      .
       exact rz J (by show eT _=eT _;congr 1;rw[Tr.mergeL];unfold Tr.chooseL;(repeat' split)<;>first|rfl|(exfalso;simp_all;done)|(exfalso;omega))
     .
      refine cs 49 J J J (fun hg49=>?_) (fun hg49=>?_)
      .
       refine bb J J J (fun hc42=>?_) (fun hc42=>?_)
       .
        refine cl J ny J<|?_;exact rz J (by show eT _=eT _;congr 1;rw[Tr.mergeL];unfold Tr.chooseL;(repeat' split)<;>first|rfl|(exfalso;simp_all;done)|(exfalso;omega))
       .
        exact rz J (by show eT _=eT _;congr 1;rw[Tr.mergeL];unfold Tr.chooseL;(repeat' split)<;>first|rfl|(exfalso;simp_all;done)|(exfalso;omega))
      .
       exact rz J (by show eT _=eT _;congr 1;rw[Tr.mergeL];unfold Tr.chooseL;(repeat' split)<;>first|rfl|(exfalso;simp_all;done)|(exfalso;omega))
 .
  refine cs 30 J J J (fun hg30=>?_) (fun hg30=>?_)
  .
   refine bb J J J (fun hc27=>?_) (fun hc27=>?_)
   .
    refine cl J (x5 (p:=false)) J<|?_;exact rz J (by show eT _=eT _;congr 1;rw[Tr.mergeL];unfold Tr.chooseL;(repeat' split)<;>first|rfl|(exfalso;simp_all;done)|(exfalso;omega))
   .
    refine cs 45 J J J (fun hg45=>?_) (fun hg45=>?_)
    .
     refine bb J J J (fun hc42=>?_) (fun hc42=>?_)
     .
      refine cl J ny J<|?_;exact rz J (by show eT _=eT _;congr 1;rw[Tr.mergeL];unfold Tr.chooseL;(repeat' split)<;>first|rfl|(exfalso;simp_all;done)|(exfalso;omega))
     .
      exact rz J (by show eT _=eT _;congr 1;rw[Tr.mergeL];unfold Tr.chooseL;(repeat' split)<;>first|rfl|(exfalso;simp_all;done)|(exfalso;omega))
    .
     refine cs 49 J J J (fun hg49=>?_) (fun hg49=>?_)
     .
      refine bb J J J (fun hc42=>?_) (fun hc42=>?_)
      .
       refine cl J ny J<|?_;exact rz J (by show eT _=eT _;congr 1;rw[Tr.mergeL];unfold Tr.chooseL;(repeat' split)<;>first|rfl|(exfalso;simp_all;done)|(exfalso;omega))
      .
       exact rz J (by show eT _=eT _;congr 1;rw[Tr.mergeL];unfold Tr.chooseL;(repeat' split)<;>first|rfl|(exfalso;simp_all;done)|(exfalso;omega))
     .
      exact rz J (by show eT _=eT _;congr 1;rw[Tr.mergeL];unfold Tr.chooseL;(repeat' split)<;>first|rfl|(exfalso;simp_all;done)|(exfalso;omega))
  .
   refine cs 34 J J J (fun hg34=>?_) (fun hg34=>?_)
   .
    refine bb J J J (fun hc27=>?_) (fun hc27=>?_)
    .
     refine cl J (x5 (p:=false)) J<|?_;exact rz J (by show eT _=eT _;congr 1;rw[Tr.mergeL];unfold Tr.chooseL;(repeat' split)<;>first|rfl|(exfalso;simp_all;done)|(exfalso;omega))
    .
     refine cs 45 J J J (fun hg45=>?_) (fun hg45=>?_)
     .
      refine bb J J J (fun hc42=>?_) (fun hc42=>?_)
      .
       refine cl J ny J<|?_;exact rz J (by show eT _=eT _;congr 1;rw[Tr.mergeL];unfold Tr.chooseL;(repeat' split)<;>first|rfl|(exfalso;simp_all;done)|(exfalso;omega))
      .
       exact rz J (by show eT _=eT _;congr 1;rw[Tr.mergeL];unfold Tr.chooseL;(repeat' split)<;>first|rfl|(exfalso;simp_all;done)|(exfalso;omega))
     .
      refine cs 49 J J J (fun hg49=>?_) (fun hg49=>?_)
      .
       refine bb J J J (fun hc42=>?_) (fun hc42=>?_)
       .
        refine cl J ny J<|?_;exact rz J (by show eT _=eT _;congr 1;rw[Tr.mergeL];unfold Tr.chooseL;(repeat' split)<;>first|rfl|(exfalso;simp_all;done)|(exfalso;omega))
       .
        exact rz J (by show eT _=eT _;congr 1;rw[Tr.mergeL];unfold Tr.chooseL;(repeat' split)<;>first|rfl|(exfalso;simp_all;done)|(exfalso;omega))
      .
       exact rz J (by show eT _=eT _;congr 1;rw[Tr.mergeL];unfold Tr.chooseL;(repeat' split)<;>first|rfl|(exfalso;simp_all;done)|(exfalso;omega))
   .
    refine cs 45 J J J (fun hg45=>?_) (fun hg45=>?_)
    .
     refine bb J J J (fun hc42=>?_) (fun hc42=>?_)
     .
      refine cl J ny J<|?_;exact rz J (by show eT _=eT _;congr 1;rw[Tr.mergeL];unfold Tr.chooseL;(repeat' split)<;>first|rfl|(exfalso;simp_all;done)|(exfalso;omega))
     .
      exact rz J (by show eT _=eT _;congr 1;rw[Tr.mergeL];unfold Tr.chooseL;(repeat' split)<;>first|rfl|(exfalso;simp_all;done)|(exfalso;omega))
    .
     refine cs 49 J J J (fun hg49=>?_) (fun hg49=>?_)
     .
      refine bb J J J (fun hc42=>?_) (fun hc42=>?_)
      .
       refine cl J ny J<|?_;exact rz J (by show eT _=eT _;congr 1;rw[Tr.mergeL];unfold Tr.chooseL;(repeat' split)<;>first|rfl|(exfalso;simp_all;done)|(exfalso;omega))
      .
       exact rz J (by show eT _=eT _;congr 1;rw[Tr.mergeL];unfold Tr.chooseL;(repeat' split)<;>first|rfl|(exfalso;simp_all;done)|(exfalso;omega))
     .
      exact rz J (by show eT _=eT _;congr 1;rw[Tr.mergeL];unfold Tr.chooseL;(repeat' split)<;>first|rfl|(exfalso;simp_all;done)|(exfalso;omega))
def Yw{op:Int}{l:aa}{x y u:Tr}{c:List aa}(hl:LB l)(hlo:l.ok)(hc: ∀m∈c,LB m)(hok: ∀m∈c,m.ok)(hn:c.length+(Tr.node l x y).depth+u.depth<=900)(ihx: ∀{c:List aa},(∀m∈c,LB m)->(∀m∈c,m.ok)->c.length+x.depth+u.depth<=900->PF GB prog 36 [vI op,eT x,eT u, .sl (c.map eL)] (eT (Tr.mergeL op x u c)))(ihy: ∀{c:List aa},(∀m∈c,LB m)->(∀m∈c,m.ok)->c.length+y.depth+u.depth<=900->PF GB prog 36 [vI op,eT y,eT u, .sl (c.map eL)] (eT (Tr.mergeL op y u c))):PF GB prog 36 [vI op,eT (.node l x y),eT u, .sl (c.map eL)] (eT (Tr.mergeL op (.node l x y) u c)):=by
 have hdp:(Tr.node l x y).depth=1+Nat.max x.depth y.depth:=J;have hdx:x.depth<=Nat.max x.depth y.depth:=sM _ _;have hdy:y.depth<=Nat.max x.depth y.depth:=sJ _ _;have hca:=C9 (c++[l]);have hcb:=C9 (c++[l.rev]);rw[aV,iZ] at hca hcb;refine fn (fu:=⟨11⟩) func36 J J ntmps36 J J (fun C=>?_);refine cG J J J<|cl J (MQ (c:=c) (l:=l) hc hok (by omega) hl hlo) J<|?_;refine br J J J (fun hc64=>?_) (fun hc64=>?_)
 .
  refine cl J (ihx hc hok (by omega)) J<|?_;exact rz J (by rw[Tr.mergeL,if_pos hc64];rfl)
 .
  refine br J J J (fun hc74=>?_) (fun hc74=>?_)
  .
   refine cl J (ihy hc hok (by omega)) J<|?_;exact rz J (by rw[Tr.mergeL,if_neg hc64,if_pos hc74];rfl)
  .
   refine cl J (D3 (c:=c) (l:=l) hc hok (by omega) hl hlo) J<|cl J (ihx (c:=e8 (c++[l])) (Fg (tI hc hl)) (EY (iv hok hlo)) (by omega)) J<|?_;refine cl J (An (l:=l)) J<|cl J (D3 (c:=c) (l:=l.rev) hc hok (by omega) hl.rev hlo.rev) J<|cl J (ihy (c:=e8 (c++[l.rev])) (Fg (tI hc hl.rev)) (EY (iv hok hlo.rev)) (by omega)) J<|?_;refine cl J N1 J<|?_;exact rz J (by rw[Tr.mergeL,if_neg hc64,if_neg hc74];rfl)
def J0{op:Int}{u:Tr}(hu:u.all LB)(huo:u.all aa.ok): ∀{t:Tr} {c:List aa},t.all LB->t.all aa.ok->(∀m∈c,LB m)->(∀m∈c,m.ok)->c.length+t.depth+u.depth<=900->PF GB prog 36 [vI op,eT t,eT u, .sl (c.map eL)] (eT (Tr.mergeL op t u c))
 | .leaf _,_,_,_,hc,hok,hn=>alY hu huo hc hok (cR (Nat.add_le_add_right (nV _ _) _) hn)
 | .node l x y,c,hb,ho,hc,hok,hn=>Yw hb.1 ho.1 hc hok hn (fun h1 h2 h3=>J0 hu huo hb.2.1 ho.2.1 h1 h2 h3) (fun h1 h2 h3=>J0 hu huo hb.2.2 ho.2.2 h1 h2 h3)
def aFu(p r:ZP):(f9 p.q r.q<0↔wW p r<0)/\(f9 p.q r.q=0↔wW p r=0):=by
 have e1: ∀a b:Int,bg (a:Rat) (b:Rat)<0↔a<b:=fun a b=>by rw[A5,Rat.intCast_lt_intCast]
 have e2: ∀a b:Int,bg (a:Rat) (b:Rat)=0↔a=b:=fun a b=>by rw[tC,nN]
 have f1:=e1 p.1 r.1;have f2:=e2 p.1 r.1;have f3:=e1 p.2 r.2;have f4:=e2 p.2 r.2;show(f9 ⟨(p.1:Rat),(p.2:Rat)⟩ ⟨(r.1:Rat),(r.2:Rat)⟩<0↔_)/\(f9 ⟨(p.1:Rat),(p.2:Rat)⟩ ⟨(r.1:Rat),(r.2:Rat)⟩=0↔_);unfold f9 wW;dsimp only;generalize bg (p.1:Rat) (r.1:Rat)=u at*;generalize bg (p.2:Rat) (r.2:Rat)=v at*;by_cases h:p.1<r.1
 ·rw[if_pos (by omega),if_pos h];omega
 ·by_cases h2:r.1<p.1
  ·rw[if_pos (by omega),if_neg h,if_pos h2];omega
  ·rw[if_neg (by omega),if_neg h,if_neg h2]
   by_cases h3:p.2<r.2
   ·rw[if_pos h3];omega
   ·rw[if_neg h3]
    split<;>omega
def N9(x:ZP): ∀l:List ZP,du f9 x.q (l.map ZP.q)=(uc x l).map ZP.q
 |[]=>rfl
 |u::t=>by
  obtain⟨h1,h2⟩:=aFu u x;rw[cK,du,uc,N9 x t];by_cases k1:wW u x<0
  ·rw[if_pos (h1.2 k1),if_pos k1];rfl
  ·rw[if_neg (fun e=>k1 (h1.1 e)),if_neg k1]
   by_cases k2:wW u x=0
   ·rw[if_pos (h2.2 k2),if_pos k2];rfl
   ·rw[if_neg (fun e=>k2 (h2.1 e)),if_neg k2];rfl
def W8(l:List ZP):s6 f9 (l.map ZP.q)=(vD l).map ZP.q:=by
 have key: ∀(l o:List ZP),(l.map ZP.q).foldl (fun out x=>du f9 x out) (o.map ZP.q)=(l.foldl (fun out x=>uc x out) o).map ZP.q:=by
  intro l
  induction l with
  |nil=>intro o;rfl
  |cons x t ih=>intro o;rw[cK,jZ,jZ,N9,ih]
 exact key l []
def M5(l:List ZP):(l.map ZP.q).map eP=l.map il:=by rw[pU];rfl
def Mg{l:List ZP}(h: ∀p∈l,ZP.le 100 p)(hn:l.length<=100000):PF GB prog 156 [.sl (l.map il)] (.sl ((vD l).map il)):=by
 have:=W1 (GB:=GB) (ps:=l.map ZP.q) (Ki h) (by rw[aK];exact hn);rw[W8,M5,M5] at this;exact this
def YE(u v:ZP):(ab.cross (iP u.1 u.2) (iP v.1 v.2))=((vN u v:Int):Rat):=by
 unfold ab.cross iP vN;push_cast;rfl
def H1(u v:ZP):(ab.cross (iP u.1 u.2) (iP v.1 v.2)).num.sign≠0↔vN u v≠0:=by
 rw[YE,qN];exact not_congr jU
def XI{α β:Type}(f:α->β)(l:List α):((l.map f).take (l.length-1)).drop 0=l.dropLast.map f:=by
 rw[iX,<-gR,List.dropLast_eq_take]
def Rz{l:List ZP}(h:0<l.length): ∃u,l.getLast? =some u/\l[l.length-1]? =some u/\l.getD (l.length-1) (0,0)=u:=by
 refine⟨l[l.length-1],?_,aZ (by omega),?_⟩
 ·rw[lS];exact aZ (by omega)
 ·rw[aX,aZ (by omega)];rfl
def aur{l:List ZP}(h:0<l.length): ∃u,l[0]? =some u/\l.getD 0 (0,0)=u:=by
 refine⟨l[0],aZ (by omega),?_⟩;rw[aX,aZ (by omega)];rfl
def DO{u p:ZP}:(u.1=p.1/\u.2=p.2)↔u=p:=⟨fun h=>Prod.ext h.1 h.2,fun h=>by rw[h];exact⟨J,J⟩⟩
def Om{b:Nat}{es:List Int}(hes:es.length<=400){a:Nat}(ha:a<=es.length):PM GB prog 94 (i5 [none] b) b 87 [.sl (es.map vI), .v (.int .i64 (a:Nat))] (mC (fB es a).1) [.sl (es.map vI), .v (.int .i64 ((fB es a).2:Nat))]:=by
 have hk0:=gD (n:=4) ha;refine tH (fu:=⟨6⟩) func94 J J ntmps94 J J (fun C b m lo hmb=>?_);refine mg (X:=Nat) (fun a2=>[]) (fun a2=>[(1000000,some (.o 87 [.d (.sl (es.map vI)), .d (.v (.int .i64 (a2:Nat)))] false))]) (fun a2=>fB es a=rC es a2/\a2<=es.length) [] [1000000] rfl ?_ (fun _=>J) (fun a2 ⟨hR,ha2⟩=>?_)
 .
  refine gx J<|cm J (fun b=>(nE (n:=4) hes ha (by decide) (by decide))) J<|?_;refine br J J J (fun hc15=>?_) (fun hc15=>?_)
  .
   have hx1:=gD (n:=5) hk0;have hy1:=gD (n:=5) hx1;have hz1:=gD (n:=4) hy1;have hw1:=gD (n:=4) hz1;have hl0:=kI (es:=es) (n:=5) (a:=(ao es 4 a).2) (by decide);have hl1:=kI (es:=es) (n:=5) (a:=(ao es 5 (ao es 4 a).2).2) (by decide);have hl2:=kI (es:=es) (n:=4) (a:=(ao es 5 (ao es 5 (ao es 4 a).2).2).2) (by decide);have hl3:=kI (es:=es) (n:=4) (a:=(ao es 4 (ao es 5 (ao es 5 (ao es 4 a).2).2).2).2) (by decide);refine cm J (fun b=>(nE (n:=5) hes hk0 (by decide) (by decide))) J<|cm J (fun b=>(nE (n:=5) hes hx1 (by decide) (by decide))) J<|?_;refine cm J (fun b=>(nE (n:=4) hes hy1 (by decide) (by decide))) J<|cm J (fun b=>(nE (n:=4) hes hz1 (by decide) (by decide))) J<|?_;refine cl J (mf (m:=(((ao es 5 (ao es 4 a).2).1:Int)-4)) (n:=(((ao es 5 (ao es 5 (ao es 4 a).2).2).1:Int)-4)) (by omega) (by omega)) J<|?_;refine cl J (mf (m:=(((ao es 5 (ao es 4 a).2).1:Int)-4+1+((ao es 4 (ao es 5 (ao es 5 (ao es 4 a).2).2).2).1:Int))) (n:=(((ao es 5 (ao es 5 (ao es 4 a).2).2).1:Int)-4)) (by omega) (by omega)) J<|?_;refine cl J (mf (m:=(((ao es 5 (ao es 4 a).2).1:Int)-4+1+((ao es 4 (ao es 5 (ao es 5 (ao es 4 a).2).2).2).1:Int))) (n:=(((ao es 5 (ao es 5 (ao es 4 a).2).2).1:Int)-4+1+((ao es 4 (ao es 4 (ao es 5 (ao es 5 (ao es 4 a).2).2).2).2).1:Int))) (by omega) (by omega)) J<|?_;refine cl J (mf (m:=(((ao es 5 (ao es 4 a).2).1:Int)-4)) (n:=(((ao es 5 (ao es 5 (ao es 4 a).2).2).1:Int)-4+1+((ao es 4 (ao es 4 (ao es 5 (ao es 5 (ao es 4 a).2).2).2).2).1:Int))) (by omega) (by omega)) J<|?_;refine rf J J<|?_
   exact jF hmb J J (by rw[show fB es a=_ from if_pos hc15];rfl) (by rw[show fB es a=_ from if_pos hc15];rfl)
  .
   refine br J J J (fun hc46=>?_) (fun hc46=>?_)
   .
    obtain⟨hp1,hp2,hp3⟩:=AB hk0;obtain⟨hu1,hu2,hu3,hu4⟩:=DI hp3;obtain⟨hv1,hv2,hv3,hv4⟩:=DI hu4;haveI:=ja (k:=10) (m:=(vF es (pF es (ao es 4 a).2).2).1.1) (by omega) (by decide);haveI:=ja (k:=10) (m:=(vF es (pF es (ao es 4 a).2).2).1.2) (by omega) (by decide);haveI:=ja (k:=10) (m:=(vF es (vF es (pF es (ao es 4 a).2).2).2).1.1) (by omega) (by decide);haveI:=ja (k:=10) (m:=(vF es (vF es (pF es (ao es 4 a).2).2).2).1.2) (by omega) (by decide);refine cm J (fun b=>(Im hes hk0)) J<|cm J (fun b=>(O1 hes hp3)) J<|cm J (fun b=>(O1 hes hu4)) J<|cl J (E2 (p:=iP (vF es (pF es (ao es 4 a).2).2).1.1 (vF es (pF es (ao es 4 a).2).2).1.2) (q:=iP (vF es (vF es (pF es (ao es 4 a).2).2).2).1.1 (vF es (vF es (pF es (ao es 4 a).2).2).2).1.2)) J<|?_;refine cl J (qO (q:=ab.cross (iP (vF es (pF es (ao es 4 a).2).2).1.1 (vF es (pF es (ao es 4 a).2).2).1.2) (iP (vF es (vF es (pF es (ao es 4 a).2).2).2).1.1 (vF es (vF es (pF es (ao es 4 a).2).2).2).1.2))) J<|?_;refine br J J J (fun hc58=>?_) (fun hc58=>?_)
    .
     refine cl J (ku (n:=1) (by decide) (by decide)) J<|cl J (J3 (m:=(pF es (ao es 4 a).2).1.1) (n:=(pF es (ao es 4 a).2).1.2) (m':=(vF es (pF es (ao es 4 a).2).2).1.1) (n':=(vF es (pF es (ao es 4 a).2).2).1.2) (k:=1) (by omega) (by omega) (by omega) (by omega) (by decide)) J<|?_;refine cl J (ku (n:=1) (by decide) (by decide)) J<|cl J (J3 (m:=(pF es (ao es 4 a).2).1.1) (n:=(pF es (ao es 4 a).2).1.2) (m':=(vF es (vF es (pF es (ao es 4 a).2).2).2).1.1) (n':=(vF es (vF es (pF es (ao es 4 a).2).2).2).1.2) (k:=1) (by omega) (by omega) (by omega) (by omega) (by decide)) J<|?_;refine rf J J<|?_;exact jF hmb J J (by rw[show fB es a=_ from(if_neg hc15).trans ((if_pos hc46).trans (if_pos ((H1 _ _).1 hc58)))];rfl) (by rw[show fB es a=_ from(if_neg hc15).trans ((if_pos hc46).trans (if_pos ((H1 _ _).1 hc58)))])
    .
     exact at_ (vF es (vF es (pF es (ao es 4 a).2).2).2).2 ⟨(if_neg hc15).trans ((if_pos hc46).trans (if_neg (fun e=>hc58 ((H1 _ _).2 e)))),hv4⟩
   .
    exact at_ (ao es 4 a).2 ⟨(if_neg hc15).trans (if_neg hc46),hk0⟩
 .
  have hj1:=kI (es:=es) (n:=4) (a:=a2) (by decide);have hj2:=gD (n:=4) ha2;refine cm J (fun b=>(nE (n:=4) hes ha2 (by decide) (by decide))) J<|?_;refine nr 10 10 62 6 J J J ?_;refine lp (X:=List ZP×Nat×Nat) (fun⟨r,i,a3⟩=>[(11, .d (vI (i:Nat))),(10, .rw 10)]) (fun⟨r,i,a3⟩=>[(1000000,some (.o 87 [.d (.sl (es.map vI)), .d (.v (.int .i64 (a3:Nat)))] false)),(10,some (.b 62 6 (r.map il) true))]) (fun⟨r,i,a3⟩=>ol es i a3 r=ol es (3+(ao es 4 a2).1) (ao es 4 a2).2 []/\a3<=es.length/\lG r/\r.length+i<=6) (fun⟨r,i,a3⟩=>i) ⟨[],3+(ao es 4 a2).1,(ao es 4 a2).2⟩ J ⟨J,hj2,lG.nil,by simp;omega⟩ (fun _=>J) (fun⟨r,i,a3⟩ hk=>?_)
  try dsimp only at hk⊢
  obtain⟨h1,h2,h3,h4⟩:=hk;have hrl:(r.map il).length=r.length:=by simp
  refine br (fu2:=⟨0⟩) J J J (fun hc73=>?_) (fun hc73=>?_)
  .
   obtain⟨j,rfl⟩: ∃j,i=j+1:=⟨i-1,by omega⟩;obtain⟨hq1,hq2,hq3⟩:=AB h2;refine cm (fu:=⟨8⟩) J (fun b=>(Im hes h2)) J<|?_;refine ml (v1:=fun hg80=>by simp only[ac];kernel_rfl) J J J J (fun hg80=>?_) (fun hg80=>?_)
   .
    have hlast: ¬r.getLast? =some (pF es a3).1:=by rw[bU (l:=r) (by omega)];simp
    refine rf J J<|ap ((r++[(pF es a3).1]).map il) J (by rw[bS];rfl) (Hh [_]) J<|?_;refine gI 95 10 J ?_;exact at_ ⟨r++[(pF es a3).1],j,(pF es a3).2⟩ (by dsimp only;exact⟨⟨by rw[<-h1,ol,if_neg hlast],hq3,h3.snoc ⟨by omega,by omega⟩ hlast,by simp;omega⟩,(by omega)⟩)
   .
    obtain⟨q,hq,hqi,hqd⟩:=Rz (l:=r) (by omega);have hqm:=h3.le q (oV hq);unfold ZP.le at hqm;refine lb (il q) J (by rw[show(((r.map il).length:Nat):Int)-1=((r.length-1:Nat):Int) by omega];exact d8 hqi) J<|cl J (IS (m:=q.1) (n:=q.2) (m':=(pF es a3).1.1) (n':=(pF es a3).1.2) (by omega) (by omega) (by omega) (by omega)) J<|?_;refine bb J J J (fun hc91=>?_) (fun hc91=>?_)
    .
     have hlast: ¬r.getLast? =some (pF es a3).1:=by rw[hq];intro e;have:=DO.2 (Option.some.inj e);simp[this] at hc91
     refine rf J J<|ap ((r++[(pF es a3).1]).map il) J (by rw[bS];rfl) (Hh [_]) J<|?_;refine gI 95 10 J ?_;exact at_ ⟨r++[(pF es a3).1],j,(pF es a3).2⟩ (by dsimp only;exact⟨⟨by rw[<-h1,ol,if_neg hlast],hq3,h3.snoc ⟨by omega,by omega⟩ hlast,by simp;omega⟩,(by omega)⟩)
    .
     have hlast:r.getLast? =some (pF es a3).1:=by rw[hq];congr 1;exact DO.1 (by simpa using hc91)
     exact at_ ⟨r,j,(pF es a3).2⟩ (by dsimp only;exact⟨⟨by rw[<-h1,ol,if_pos hlast],hq3,h3,by omega⟩,(by omega)⟩)
  .
   obtain rfl:i=0:=by omega
   have hg:=h1;rw[ol] at hg;refine z7 10 J ?_;refine gx J<|?_;refine lp (fu:=⟨5⟩) (X:=List ZP×Nat) (fun⟨l,m⟩=>[(10, .d (.sl (l.map il)))]) (fun⟨l,m⟩=>[]) (fun⟨l,m⟩=>kD m l=kD 6 r/\l.length<=m+1/\lG l/\l.length<=6) (fun⟨l,m⟩=>m) ⟨r,6⟩ J ⟨J,by omega,h3,by omega⟩ (fun _=>J) (fun⟨l,m⟩ hk=>?_)
   try dsimp only at hk⊢
   obtain⟨t1,t2,t3,t4⟩:=hk;have hll:(l.map il).length=l.length:=by simp
   refine ml (v2:=fun hg98=>by simp only[ac];kernel_rfl) J J J J (fun hg98=>?_) (fun hg98=>?_)
   .
    obtain⟨q,hqi,hqd⟩:=aur (l:=l) (by omega);obtain⟨q2,hq0,hqi2,hqd2⟩:=Rz (l:=l) (by omega);have hqm:=t3.le q (aT hqi);have hqm2:=t3.le q2 (aT hqi2);unfold ZP.le at hqm hqm2;refine ix _ J (d8 (i:=0) hqi) J<|ix (il q2) J (by rw[show(((l.map il).length:Nat):Int)-1=((l.length-1:Nat):Int) by omega];exact d8 hqi2) J<|?_;refine cl J (IS (m:=q.1) (n:=q.2) (m':=q2.1) (n':=q2.2) (by omega) (by omega) (by omega) (by omega)) J<|?_;refine bd J J J (fun hc110=>?_) (fun hc110=>?_)
    .
     have hcond:1<l.length/\l.getD 0 (0,0)=l.getD (l.length-1) (0,0):=⟨by omega,by rw[hqd,hqd2];exact DO.1 hc110⟩;refine m6 0 (l.length-1) (l.dropLast.map il) J J (by omega) (XI il l) (Hh l) (bV _) (by omega) J<|?_;exact at_ ⟨l.dropLast,m-1⟩ (by dsimp only;exact⟨⟨by rw[<-t1];obtain⟨m,rfl⟩: ∃q,m=q+1:=⟨m-1,by omega⟩;rw[kD,if_pos hcond];rfl,by rw[iK];omega,t3.drop,by rw[iK];omega⟩,(by omega)⟩)
    .
     have hcond: ¬(1<l.length/\l.getD 0 (0,0)=l.getD (l.length-1) (0,0)):=fun e=>hc110 (DO.2 (by rw[<-hqd,<-hqd2];exact e.2));refine cl (fu:=⟨1⟩) J (Mg (l:=l) t3.le (by omega)) J<|?_;have hgen:kD 6 r=l:=by rw[<-t1];cases m with|zero=>rfl|succ m=>rw[kD,if_neg hcond]
     refine aj 118 (.d (vI ((vD l).length:Nat))) J (by rw[aK];rfl) ?_;refine gx J<|?_;refine br J J J (fun hc119=>?_) (fun hc119=>?_)
     .
      have hfin:fB es a=(yt,a3):=by rw[hR,rC,<-hg,hgen,if_pos (by omega)]
      refine cl J (mf (m:=0) (n:=0) (by decide) (by decide)) J<|cl J (mf (m:=2) (n:=0) (by decide) (by decide)) J<|cl J (mf (m:=0) (n:=2) (by decide) (by decide)) J<|?_;refine rf J J<|?_;exact jF hmb J J (by rw[hfin];rfl) (by rw[hfin])
     .
      have hfin:fB es a=(l,a3):=by rw[hR,rC,<-hg,hgen,if_neg (by omega)]
      exact jF hmb J J (by rw[hfin];rfl) (by rw[hfin])
   .
    have hcond: ¬(1<l.length/\l.getD 0 (0,0)=l.getD (l.length-1) (0,0)):=fun e=>by omega
    refine cl (fu:=⟨1⟩) J (Mg (l:=l) t3.le (by omega)) J<|?_;have hgen:kD 6 r=l:=by rw[<-t1];cases m with|zero=>rfl|succ m=>rw[kD,if_neg hcond]
    refine aj 118 (.d (vI ((vD l).length:Nat))) J (by rw[aK];rfl) ?_;refine gx J<|?_;refine br J J J (fun hc119=>?_) (fun hc119=>?_)
    .
     have hfin:fB es a=(yt,a3):=by rw[hR,rC,<-hg,hgen,if_pos (by omega)]
     refine cl J (mf (m:=0) (n:=0) (by decide) (by decide)) J<|cl J (mf (m:=2) (n:=0) (by decide) (by decide)) J<|cl J (mf (m:=0) (n:=2) (by decide) (by decide)) J<|?_;refine rf J J<|?_;exact jF hmb J J (by rw[hfin];rfl) (by rw[hfin])
    .
     have hfin:fB es a=(l,a3):=by rw[hR,rC,<-hg,hgen,if_neg (by omega)]
     exact jF hmb J J (by rw[hfin];rfl) (by rw[hfin])
def F5:DV:= .v (.pointer none)
def WR(l:aa)(p q:DV):List DV:=[.v (.bool false), .v (.bool false), .v (.bool (decide (l.a<0))),dN l.a.natAbs, .v (.bool (decide (l.b<0))),dN l.b.natAbs, .v (.bool (decide (l.c<0))),dN l.c.natAbs,p,q]
inductive RF (ns:List RN):Int->(Nat->Bool)->DV->Bool->(Nat->Bool)->Prop where
 |leaf (b:Bool) (f:Nat->Bool):RF ns (rA b) f (eT (.leaf b)) true f
 |bad (rt:Int) (f:Nat->Bool) (h1:rt≠ -1) (h2:rt≠ -2) (h:rt<0\/(ns.length:Int)<=rt\/(∃k:Nat,rt=k/\k<ns.length/\f k=true)):RF ns rt f F5 false f
 |line (k:Nat) (n:RN) (f:Nat->Bool) (h:ns[k]? =some n) (hf:f k=false) (hl:n.g.ln=none):RF ns (k:Int) f F5 false (li f k)
 |left (k:Nat) (n:RN) (l:aa) (f f2:Nat->Bool) (p:DV) (h:ns[k]? =some n) (hf:f k=false) (hl:n.g.ln=some l) (h1:RF ns n.l (li f k) p false f2):RF ns (k:Int) f F5 false f2
 |node (k:Nat) (n:RN) (l:aa) (f f2 f3:Nat->Bool) (p q:DV) (ok:Bool) (h:ns[k]? =some n) (hf:f k=false) (hl:n.g.ln=some l) (h1:RF ns n.l (li f k) p true f2) (h2:RF ns n.r f2 q ok f3):RF ns (k:Int) f (.pt (WR l p q)) ok f3
def aJH(n:Nat)(f:Nat->Bool):Bool:=(List.range n).all f
def RN.of(n:NQ):RN:=⟨⟨decide (n.l.a<0),dg n.l.a.natAbs,decide (n.l.b<0),dg n.l.b.natAbs,decide (n.l.c<0),dg n.l.c.natAbs⟩,n.a,n.b⟩
def Wa(ns:List NQ):ns.map eN=(ns.map RN.of).map RN.d:=by
 rw[pU];rfl
def aGJ(t:Tr):eA t=yh (t.num 0) ((t.wr 0).map RN.of):=by
 unfold eA yh;rw[Wa];rfl
def Wc(a:Int):o4 (decide (a<0)) (dg a.natAbs)=a:=by
 unfold o4;rw[(eE _).1];split
 ·rename_i h;have:=of_decide_eq_true h;omega
 ·rename_i h;have: ¬a<0:=fun e=>h (decide_eq_true e);omega
def Gf(a:Int):lI (decide (a<0)) (dg a.natAbs):=⟨(eE _).2.2,fun h=>zk.2 (by have:=of_decide_eq_true h;omega)⟩
def RN.of_l(n:NQ):(RN.of n).g.l=n.l:=by
 unfold RN.of RL.l;simp only[Wc]
def RN.of_ln{n:NQ}(h:n.l.ok):(RN.of n).g.ln=some n.l:=by
 unfold RL.ln;rw[if_pos ⟨⟨Gf _,Gf _,Gf _⟩,by rw[RN.of_l];exact h⟩,RN.of_l]
def RN.of_sm{n:NQ}(h:LB n.l):(RN.of n).g.sm:=by
 have key: ∀a:Int,a.natAbs<2^96->bi (dg a.natAbs)/\(dg a.natAbs).length<=3:=fun a ha=>⟨(eE _).2.1,by have:=lw ha;omega⟩;exact⟨key _ h.bl.a,key _ h.bl.b,key _ h.bl.c⟩
def El(b:Bool)(k:Nat):rA b≠(k:Int):=by cases b<;>(unfold rA;simp)
def RR.det{ns:List RN}{rt:Int}{s s1:RS}{t1:Tr}(h:RR ns rt s t1 s1): ∀{s2:RS} {t2:Tr},RR ns rt s t2 s2->t1=t2/\s1=s2:=by
 induction h with
 |leaf b s=>
  intro s2 t2 h;generalize hr:rA b=r at h
  cases h with
  |leaf b' s=>
   have:b=b':=by cases b<;>cases b'<;>first|rfl|(simp[rA] at hr)
   subst this;exact⟨J,J⟩
  |bad rt s h1 h2 h=>cases b<;>simp[rA] at hr<;>omega
  |line k=>exact absurd hr (El _ _)
  |node k=>exact absurd hr (El _ _)
 |bad rt s h1 h2 h=>
  intro s2 t2 h'
  cases h' with
  |leaf b s=>cases b<;>simp[rA] at h1 h2
  |bad=>exact⟨J,J⟩
  |line k n s hn hf=>
   have:=(aS.1 hn).1;rcases h with h|h|⟨j,e,_,hj⟩
   ·omega
   ·omega
   ·have:j=k:=by omega
    subst this;rw[hf] at hj;cases hj
  |node k n l s s2 s3 x y hn hf=>
   have:=(aS.1 hn).1;rcases h with h|h|⟨j,e,_,hj⟩
   ·omega
   ·omega
   ·have:j=k:=by omega
    subst this;rw[hf] at hj;cases hj
 |line k n s hn hf hl=>
  intro s2 t2 h';generalize hr:(k:Int)=r at h'
  cases h' with
  |leaf b s=>exact absurd hr.symm (El _ _)
  |bad rt s h1 h2 h=>
   have:=(aS.1 hn).1;rcases h with h|h|⟨j,e,_,hj⟩
   ·omega
   ·omega
   ·have:j=k:=by omega
    subst this;rw[hf] at hj;cases hj
  |line k' n' s hn' hf' hl'=>
   have:k=k':=by omega
   subst this;exact⟨J,J⟩
  |node k' n' l s s2 s3 x y hn' hf' hl'=>
   have:k=k':=by omega
   subst this;rw[hn] at hn';cases hn';rw[hl] at hl';cases hl'
 |node k n l s s2 s3 x y hn hf hl h1 h2 i1 i2=>
  intro s4 t4 h';generalize hr:(k:Int)=r at h'
  cases h' with
  |leaf b s=>exact absurd hr.symm (El _ _)
  |bad rt s h1 h2 h=>
   have:=(aS.1 hn).1;rcases h with h|h|⟨j,e,_,hj⟩
   ·omega
   ·omega
   ·have:j=k:=by omega
    subst this;rw[hf] at hj;cases hj
  |line k' n' s hn' hf' hl'=>
   have:k=k':=by omega
   subst this;rw[hn] at hn';cases hn';rw[hl] at hl';cases hl'
  |node k' n' l' s s2' s3' x' y' hn' hf' hl' h1' h2'=>
   have:k=k':=by omega
   subst this;rw[hn] at hn';cases hn';rw[hl] at hl';cases hl';obtain⟨rfl,rfl⟩:=i1 h1';obtain⟨rfl,rfl⟩:=i2 h2';exact⟨J,J⟩
def pP(ns:List NQ):Tr->Int->List Nat->Prop
 | .leaf b,rt,L=>rt=rA b/\L=[]
 | .node l x y,rt,L=> ∃(k:Nat) (a b:Int) (L1 L2:List Nat),rt=(k:Int)/\ns[k]? =some ⟨l,a,b⟩/\pP ns x a L1/\pP ns y b L2/\L=k::(L1++L2)
def pP.rr{ns:List NQ}: ∀{t:Tr} {rt:Int} {L:List Nat} {s:RS},pP ns t rt L->t.all aa.ok->L.Nodup->(∀j∈L,s.f j=false)-> ∃f,RR (ns.map RN.of) rt s t ⟨f,s.c+t.size,s.b⟩/\ ∀j,j∉L->f j=s.f j
 | .leaf b,rt,L,s,⟨e,e2⟩,_,_,_=>by
  subst e e2;exact⟨s.f, .leaf b s,fun _ _=>J⟩
 | .node l x y,rt,L,s,⟨k,a,b,L1,L2,e,hk,hx,hy,e2⟩,⟨h0,h1,h2⟩,hnd,hf=>by
  subst e e2;obtain⟨hkn,hnd⟩:=List.nodup_cons.1 hnd;obtain⟨hd1,hd2,hdis⟩:=List.nodup_append.1 hnd;have hfk:=hf k aQ;have hn1: ∀j∈L1,j≠k:=fun j hj e=>hkn (e▸bT _ hj);have hn2: ∀j∈L2,j≠k:=fun j hj e=>hkn (e▸cJ _ hj);obtain⟨f1,r1,g1⟩:=pP.rr (s:=⟨li s.f k,s.c+1,s.b⟩) hx h1 hd1 (fun j hj=>by simp only;rw[B7 (hn1 j hj)];exact hf j (aJ _ (bT _ hj)));simp only at r1 g1;obtain⟨f2,r2,g2⟩:=pP.rr (s:=⟨f1,s.c+1+x.size,s.b⟩) hy h2 hd2 (fun j hj=>by
   simp only;rw[g1 j (fun h=>hdis _ h _ hj J),B7 (hn2 j hj)];exact hf j (aJ _ (cJ _ hj)))
  simp only at r2 g2;have hc:s.c+(Tr.node l x y).size=s.c+1+x.size+y.size:=by simp only[Tr.size];omega
  rw[hc];refine⟨f2, .node k (RN.of ⟨l,a,b⟩) l s _ _ x y (by rw[cV,hk];rfl) hfk (RN.of_ln h0) r1 r2,fun j hj=>?_⟩;simp only[aW,bK,not_or] at hj;rw[g2 j hj.2.2,g1 j hj.2.1,B7 hj.1]
def pP.len{ns:List NQ}: ∀{t:Tr} {rt:Int} {L:List Nat},pP ns t rt L->L.length=t.size
 | .leaf _,_,_,⟨_,h⟩=>by rw[h];rfl
 | .node l x y,_,_,⟨k,a,b,L1,L2,_,_,h1,h2,h⟩=>by
  rw[h,bX,aV,pP.len h1,pP.len h2];simp only[Tr.size];omega
def RD'(ns:List NQ)(t:Tr)(rt:Int):Prop:= ∃L,pP ns t rt L/\L.Nodup/\L.length=ns.length
def Yt{ns:List NQ}{t:Tr}{rt:Int}(h:RD' ns t rt)(ho:t.all aa.ok):wj (ns.map RN.of) rt=some t:=by
 obtain⟨L,h1,h2,h3⟩:=h;obtain⟨f,r,_⟩:=h1.rr (s:=ry) ho h2 (fun _ _=>rfl);have hr:=EK (ns:=ns.map RN.of) (m:=(ns.map RN.of).length+1) (rt:=rt) (s:=ry) (by have:=GX (ns.map RN.of).length ry.f;omega);obtain⟨e1,e2⟩:=hr.1.det r;unfold wj;simp only;rw[e2,e1,if_pos ⟨J,by show ry.c+t.size=_;rw[aK,<-h3,h1.len];show 0+_=_;omega⟩]
def GD{ns:List NQ}: ∀{t:Tr} {n:Nat},(∀i,i<t.size->ns[n+i]? =(t.wr n)[i]?)->pP ns t (t.num n) (List.range' n t.size)
 | .leaf b,n,_=>⟨J,J⟩
 | .node l x y,n,h=>by
  have hsz:(Tr.node l x y).size=1+x.size+y.size:=J;have hw:(Tr.node l x y).wr n=⟨l,x.num (n+1),y.num (n+1+x.size)⟩::(x.wr (n+1)++y.wr (n+1+x.size)):=by simp[Tr.wr]
  have hx:=x.wr_len (n+1);have hy:=y.wr_len (n+1+x.size);refine⟨n,x.num (n+1),y.num (n+1+x.size),List.range' (n+1) x.size,List.range' (n+1+x.size) y.size,J,?_,GD fun i hi=>?_,GD fun i hi=>?_,?_⟩
  ·have:=h 0 (by omega)
   rw[hw,fQ] at this;rw[this];rfl
  ·have:=h (1+i) (by omega)
   rw[hw,kZ 1 i,List.getElem?_cons_succ,cN (by omega)] at this;rw[show n+1+i=n+(i+1) by omega];exact this
  ·have:=h (1+x.size+i) (by omega)
   rw[hw,show 1+x.size+i=(x.size+i)+1 by omega,List.getElem?_cons_succ,fM (by omega),hx,Nat.add_sub_cancel_left] at this;rw[show n+1+x.size+i=n+(x.size+i+1) by omega];exact this
  ·rw[hsz,show 1+x.size+y.size=(x.size+y.size)+1 by omega,List.range'_succ,List.range'_append_1]
def YM{t:Tr}(ho:t.all aa.ok):wj ((t.wr 0).map RN.of) (t.num 0)=some t:=
 Yt ⟨_,GD (n:=0) (fun i _=>by rw[eK]),List.nodup_range',by rw[List.length_range',t.wr_len]⟩ ho
def aHD{t:Tr}(hb:t.all LB): ∀n∈(t.wr 0).map RN.of,n.g.sm:=fun n hn=>by
 obtain⟨m,hm,rfl⟩:=bQ.1 hn;exact RN.of_sm (Tr.all_wr 0 hb m hm)
def Tr.all_imp{p q:aa->Prop}(h: ∀l,p l->q l): ∀{t:Tr},t.all p->t.all q
 | .leaf _,_=>trivial
 | .node _ _ _,⟨h0,h1,h2⟩=>⟨h _ h0,Tr.all_imp h h1,Tr.all_imp h h2⟩
def TN{t:Tr}(hs:t.size<=65536):((t.wr 0).map RN.of).length<=65536:=by rw[aK,t.wr_len];exact hs
def l00:aa:=⟨0,1,0⟩
def t00:Tr:= .node l00 (.leaf true) (.leaf false)
def jp.red_size{k:Nat}{t:Tr}(h:jp k t)(hr:t.Red []):t.size<=k*(1+k):=by
 obtain⟨K,h1,h2,h3⟩:=h.am;exact cR (Tr.size_le h2 hr h.gd.ok bP.nil h3) (iW h1 (by omega))
structure gP (k:Nat) (t:Tr):Prop where
 o:jp k t
 s:t.size<=3000
def gP.lb{k:Nat}{t:Tr}(h:gP k t):t.all LB:=h.o.gd.lb
def gP.ok{k:Nat}{t:Tr}(h:gP k t):t.all aa.ok:=h.o.gd.ok
def gP.bl{k:Nat}{t:Tr}(h:gP k t):t.all (fun l=>BL l 96):=Tr.all_imp (fun _ h=>h.bl) h.o.gd.lb
def gP.dp{k:Nat}{t:Tr}(h:gP k t):t.depth<=k:=h.o.dp
def jp.x{k:Nat}{t:Tr}(h:jp k t)(hr:t.Red [])(hk:k<=54):gP k t:=
 ⟨h,cR (h.red_size hr) (cR (iW hk (show 1+k<=55 by omega)) (by decide))⟩
def Oi(rs:List (List ZP))(fill:Int):(pf rs fill).Red []:=Tr.restrict_red _ _
def Tp(es:List Int)(a:Nat):(kj es a).1.Red []:=by
 unfold kj;dsimp only;split<;>exact Oi _ _
def aIR(es:List Int)(a:Nat):(Tr×Tr)×Nat:=
 let x:=sP es 0 a
 let y:=sP es 0 x.2
 let k:=ao es 3 y.2
 let u:=if(k.1:Int)=0 then ng es 3 k.2 else(x.1,k.2)
 let j:=ao es 3 u.2
 let v:=if(j.1:Int)=0 then ng es 3 j.2 else(y.1,j.2)
 ((u.1,v.1),v.2)
def aJa(es:List Int)(a:Nat):(Tr×Tr)×Nat:=
 let x:=sP es 0 a
 let y:=sP es 0 x.2
 let k:=ao es 6 y.2
 if(k.1:Int)=0 then((x.1, .node (lF es k.2).1 x.1 x.1),(lF es k.2).2)
 else if(k.1:Int)=1 then((x.1,y.1.mergeQ 1 x.1 []),k.2)
 else if(k.1:Int)=2 then((x.1,y.1.mergeQ 3 x.1 []),k.2)
 else if(k.1:Int)=3 then((x.1,(ng es 3 k.2).1),(ng es 3 k.2).2)
 else((x.1,y.1),k.2)
def Se(es:List Int):Nat->Nat->List Tr×Nat
 |0,a=>([],a)
 |n+1,a=>((sP es 0 a).1::(Se es n (sP es 0 a).2).1,(Se es n (sP es 0 a).2).2)
def Wr(r:List ZP)(i k:Nat):Bool:=decide (k=i)||decide (k=(i+1)%r.length)||decide (0<zc (r.getD i (0,0)).q (gn r i).q (r.getD k (0,0)).q)
def aHH(r:List ZP):Bool:=(List.range r.length).all fun i=>(List.range r.length).all fun k=>Wr r i k
def YJ{r:List ZP}(h:d5 r): ∀x∈[r],d5 x:=fun x hx=>by rw[aU] at hx;subst hx;exact h
def Wy{r s:List ZP}(h:d5 r)(k:d5 s): ∀x∈[r,s],d5 x:=fun x hx=>by
 simp only[aW,kW,or_false] at hx;rcases hx with rfl|rfl
 ·exact h
 ·exact k
def M9{b:Nat}{es:List Int}(hes:es.length<=400){a:Nat}(ha:a<=es.length):PM GB prog 37 (i5 [none] b) b 87 [.sl (es.map vI), .v (.int .i64 (a:Nat))] (eT (kj es a).1) [.sl (es.map vI), .v (.int .i64 ((kj es a).2:Nat))]:=by
 obtain⟨r1,r2⟩:=AE ha;have hk3:=gD (n:=3) r2;refine tH func37 J J ntmps37 J J (fun C b m lo hmb=>?_);refine cm J (fun b=>(Om hes ha)) J<|ro (fu:=⟨4⟩) J J<|?_;refine mg (X:=List (List ZP)×Nat) (fun⟨rs,a2⟩=>[(3, .rw 6)]) (fun⟨rs,a2⟩=>[(1000000,some (.o 87 [.d (.sl (es.map vI)), .d (.v (.int .i64 (a2:Nat)))] false)),(6,some (.b 130 1 (rs.map mC) true))]) (fun⟨rs,a2⟩=>kj es a=(pf rs (1+((ao es 2 a2).1:Int)),(ao es 2 a2).2)/\a2<=es.length/\(∀r∈rs,d5 r)/\rs.length<=2) [3] [1000000,6] rfl ?_ (fun _=>J) (fun⟨rs,a2⟩ ⟨hB,ha2,hrs,hrl⟩=>?_)
 .
  refine gx J<|cm J (fun b=>(nE (n:=3) hes r2 (by decide) (by decide))) J<|?_;refine br J J J (fun hc9=>?_) (fun hc9=>?_)
  .
   obtain⟨s1,s2⟩:=AE hk3;refine cm J (fun b=>(Om hes hk3)) J<|rf J J<|ap (hbd:=by simp) ([(fB es a).1,(fB es (ao es 3 (fB es a).2).2).1].map mC) J J (Ni [(fB es (ao es 3 (fB es a).2).2).1]) J<|?_;refine gI 14 6 J ?_;exact at_ ⟨[(fB es a).1,(fB es (ao es 3 (fB es a).2).2).1],(fB es (ao es 3 (fB es a).2).2).2⟩ ⟨if_pos hc9,s2,Wy r1 s1,by simp⟩
  .
   exact at_ ⟨[(fB es a).1],(ao es 3 (fB es a).2).2⟩ ⟨if_neg hc9,hk3,YJ r1,by simp⟩
 .
  try dsimp only at hB ha2 hrs hrl⊢
  have hf2:=kI (es:=es) (n:=2) (a:=a2) (by decide);refine fz 6 J J<|cl J (Wx (rs:=rs) hrs (by omega)) J<|cm J (fun b=>(nE (n:=2) hes ha2 (by decide) (by decide))) J<|cl J (Tv (rs:=rs) (fill:=1+((ao es 2 a2).1:Int)) hrs (by omega)) J<|?_;refine cl J (Rb (rs:=rs) (fill:=1+((ao es 2 a2).1:Int)) hrs (by omega)) J<|?_;exact jF hmb J J (by rw[hB];rfl) (by rw[hB])
section
variable {GB:Gh} {C:aB} {n:Nat} {Q0:Exit->Act->World->Prop} {fr fr' fr1 fr2:az} {own own' own1 own2:aC} {cf cf' cf1 cf2:Cf} {vc vc1 vc2:List Prop}
def aJ7(fr:az)(cf:Cf):Option Int:=match cx fr cf with
 |some ⟨_, .binOp .and _ x (.const (.int .i64 3)) _,_,_,_,_⟩=>match aF (bC fr cf) x with
  |some (.d (.v (.int .i64 p)))=>some p
  |_=>none
 |_=>none
end
def Uz{es0 es:List Int}(hb:es0.length<=1125899906842624)(he:es=es0.take 400):PN GB prog 8 [.sl (es0.map vI)] 87 Unit (fun _=>[.sl (es.map vI), .v (.int .i64 (0:Nat))]):=by
 subst he;exact Ym hb
def Of{k:Nat}{t:Tr}(h:gP k t):PF GB prog 7 [eT t] (eA t):=Xg h.bl (by have:=h.s;omega)
def aKf(cs:List RL):Option (List aa):=if cs.all (fun r=>r.ln.isSome) then some (cs.filterMap RL.ln) else none
def aJ9:Option (List aa)->DV
 |some ls=> .tp [.sl (ls.map gi),vB true]
 |none=> .tp [.sl [],vB false]
def aJG:Option aw->DV
 |some c=> .tp [.sl (c.map fq),vB true]
 |none=> .tp [.sl [],vB false]
def jq.nil:jq []:=fun s hs=>by cases hs
def aI0(ai al:Addr)(more:Nat):Option Tr->DV
 |none=> .tp [.v (.pointer none),vC ai]
 |some t=>if 1024<t.depth+more then .tp [.v (.pointer none),vC al] else .tp [eU t, .v .nilIface]
def aJI(ai:Addr)(f:Tr->Tr):Option Tr->Tr ⊕ Addr
 |some t=> .inl (f t)
 |none=> .inr ai
def aJg(ai ae:Addr):Option Tr->Option (List aa)->Tr ⊕ Addr
 |some t,some ls=>(match qG ls [] with
  |some c=> .inl (t.restrict c)
  |none=> .inr ae)
 |_,_=> .inr ai
def aKd(ai:Addr):Option aa->Option Tr->DV
 |some m,some t=> .tp [eA (t.restrict (cj [] m)),eA (t.restrict (cj [] m.rev)), .v .nilIface]
 |_,_=> .tp [GY,GY,vC ai]

section
variable {GB:Gh} {C:aB} {n:Nat} {Q0:Exit->Act->World->Prop} {fr fr':az} {own own':aC} {cf cf':Cf} {vc:List Prop} {ops:Array Oper} {r:List Oper} {K:List Kt}
def aHW(k:Nat){d:DV}(hl:aH fr k=some (.d d))(h: ∀(GB':Gh) (pv:Value),bp GB GB'->Is GB' d pv->ak prog GB' C n Q0 ((k, .d (.v pv))::fr) own (.ops ops r K)):ak prog GB C n Q0 fr own (.ops ops r K):=by
 refine⟨fun ρ G ov a w r0=>?_⟩;obtain⟨y,hy,hy'⟩:=r0.fx k _ hl;refine(h G y r0.gb hy').run ρ G ov a w ⟨bp.refl _,r0.h,r0.sz,r0.df,fun j f e=>?_,r0.bx,r0.dj,r0.fxd⟩;rw[kl] at e;split at e
 ·rename_i hj
  cases e;subst hj
  exact⟨y,hy,(aI (G:=G)).2 J⟩
 ·exact r0.fx j f e
def aKj(fr:az)(cf:Cf):Option (FuncId×Value):=match cx fr cf with
 |some ⟨_, .makeFunc (.func f) ⟨[x]⟩ ⟨[]⟩,_,_,_,_⟩=>match aF (bC fr cf) x with
  |some (.d (.v pv))=>some (f,pv)
  |_=>none
 |_=>none
def aJ2(fr:az)(cf:Cf):Option (FuncId×List Value×List DV):=match cx fr cf with
 |some ⟨_, .call ⟨.value fo,args,_⟩,_,_,_,_⟩=>match aF (bC fr cf) fo,evDs (bC fr cf) args.toList with
  |some (.d (.v (.func (.func f) ⟨c1⟩ ⟨[]⟩))),some ds=>some (f,c1,ds)
  |_,_=>none
 |_=>none
def TB:List (Nat×Operand)->Option (List (Nat×Value))
 |[]=>some []
 |(i, .const v)::t=>match TB t with
  |some l=>some ((i,v)::l)
  |none=>none
 |_::_=>none
def aJ8(cf:Cf)(fr:az):Option (TypeId×List (Nat×Value)):=match cx fr cf with
 |some ⟨_, .build t ⟨ps⟩,_,_,_,_⟩=>match TB ps with
  |some vs=>some (t,vs)
  |none=>none
 |_=>none
def P0(fr:az)(own:aC)(cf:Cf):Option (TypeId×Nat×Nat×List FX×Bool×FX):=match cx fr cf with
 |some ⟨_, .store t x y,_,_,_,_⟩=>match aF (bC fr cf) x with
  |some (.ov nm 0)=>match ij fr own cf nm with
   |some (.o ty cs lo)=>match aF (bC fr cf) y with
    |some fv=>some (t,nm,ty,cs,lo,fv)
    |_=>none
   |_=>none
  |_=>none
 |_=>none
def Dk[fu:Fu]{t nm ty len e:Nat}{cs:List FX}{lo:Bool}{fv:FX}{j:TypeInfo}(h:P0 fr own cf=some (t,nm,ty,cs,lo,fv))(hu:prog.underlying t=some (.array len e))(hj:prog.info? t=some j)(hc:fv.okc=true/\fv.cells.length=j.size/\j.size=cs.length)
  (hgo:cF tt n fu.n fr own cf .un [(nm,some (.o ty (wz cs 0 fv.cells) lo))] []=⟨vc,fr',own',cf'⟩)(k:ak prog GB C n Q0 fr' own' cf')
  (hv:ac vc:=by first|exact trivial|(simp only[ac];kernel_rfl)|(simp only[ac];omega)):ak prog GB C n Q0 fr own cf:=by
 unfold P0 at h;split at h<;>try (cases h;done)
 rename_i hh;split at h<;>try (cases h;done)
 rename_i e1;split at h<;>try (cases h;done)
 rename_i hb;split at h<;>cases h;rename_i e2;obtain⟨c1,c2,c3⟩:=hc;have:lu prog t j.size:=⟨fun w=>Cz hu w,fun w=>uS hj w⟩;refine us hh ?_ hgo hv k;intro hd tl tb K s1 s2 hf hk;refine⟨fun ρ G ov a w r Q=>?_⟩;have r1:=r.mono s1 s2;obtain⟨p,h1,h2⟩:=r1.ev e1;obtain⟨q,h3,h4⟩:=r1.ev e2;obtain⟨b,m,rfl,ha,h5,h6⟩:=r1.own h2 hb;obtain⟨h7,h8⟩:=h4.cells c1;obtain⟨own',u1,u2,u3⟩:=fE.of_mem (cs':=cC m 0 (aD q)) h6;exact CQ h1 h3 u1 (by rw[h7.len,c2]) (by rw[h5.len,c3];omega) (dK.2 h8) hd (fun a' w' rl=>r.wrote (m:=m) (s2 _ _ hb) ha (h5.ov h7) u2 u3 hk rl) a w Q ⟨r.h,r.sz,c6 a,r.df⟩
def aKi(fr:az)(cf:Cf):Option Pt:=match cx fr cf with
 |some ⟨some d, .buildSlice t len parts,_,_,_,_⟩=>match dl tt t with
  |some ⟨.sl e s _,_,_,_⟩=>match wx (bC fr cf) 0 parts.toList with
   |some ds=>bif C4 s ds&&(Nat.beq parts.toList.length len&&(Nat.ble (len*s) 1000&&Nat.blt 0 (len*s))) then some ⟨d,e,s,ds⟩ else none
   |none=>none
  |_=>none
 |_=>none
def aJO(fr:az)(cf:Cf):Option (TypeId×List DV):=match cx fr cf with
 |some ⟨_, .load t x,_,_,_,_⟩=>match aF (bC fr cf) x with
  |some (.ep l)=>some (t,l)
  |_=>none
 |_=>none
def aJF:TypeDesc->Bool
 | .struct _=>false
 | .array _ _=>false
 |_=>true
end
def ePr(a b:Tr):DV:= .ag [eU a,eU b]
def prZ:DV:= .ag [.v (.pointer none), .v (.pointer none)]
def MG{k:Nat}{t:Tr}(h:gP k t):PF GB prog 64 [eA t] (.tp [eU t,vB true]):=by
 have:=aHc (GB:=GB) (rt:=t.num 0) (aHD h.lb) (TN (by have:=h.s;omega)) (YM h.ok);rw[<-aGJ] at this;exact this
def mtQ(a:aa)(t:List aa):List Rat:=t.filterMap fun b=>if crossI a b=0 then none else some (d9 a b).x
def aJ5(l:List aa)(x:Rat):List ab:=(e7 (HF (No l x))).map fun y=>⟨x,y⟩
def Nj:Tr->ab->Bool
 | .leaf _,_=>true
 | .node l x y,p=>if(l.value p).num.sign=1 then Nj x p else if(l.value p).num.sign= -1 then Nj y p else false
structure Two (a b:Tr):Prop where
 ga:a.gd
 gb:b.gd
 sa:a.size<=3000
 sb:b.size<=3000
def f1R(x y:Bool):Bool:=x&&!y
def f2R(x y:Bool):Bool:=y&&!x
def f3R(x y:Bool):Bool:=x&&y
def f4R(x y:Bool):Bool:=!x&&!y
def anK(f:Bool->Bool->Bool)(a b:Tr)(k:Nat):Bool:=((GK a b).take k).any fun p=>f (vy a p) (vy b p)
def JR{c:List aa}(hok: ∀l∈c,l.ok):ru c=true↔ ∃p,cI c p:=by
 rw[<-zq hok];unfold ru iO
 cases c with
 |nil=>simp
 |cons a b=>
  rw[if_neg (by simp;omega)];simp only[decide_eq_true_eq,aK,List.isEmpty_cons,Bool.false_or,jV];constructor
  ·intro h
   obtain⟨m,hm⟩:=List.exists_mem_of_length_pos (l:=e8 (a::b)) (by omega);exact⟨m,pc.1 hm⟩
  ·rintro ⟨m,hm⟩
   have:=List.length_pos_of_mem (pc.2 hm);omega
def mB:Tr->List aa->List (List aa×Bool)
 | .leaf b,c=>if ru c then [(e8 c,b)] else []
 | .node l x y,c=>if ru c then mB x (e8 c++[l])++mB y (e8 c++[l.rev]) else []
def X6(c:List aa)(p:ab):Bool:=c.all fun l=>decide (0<Int.sign (l.value p).num)
def aJ6(c:List aa):Option ab:=(SF (wo c)).find? (X6 c)
end Go.Sx
end
