import Derived.Test.YtmdgdhokaffbkaaGreatDoorMu8
set_option linter.all false
set_option maxHeartbeats 4000000
set_option maxRecDepth 100000
section
namespace Go.Sx
open Go Go.Proofs Tryz
variable {GB G:Gh}{C:aE}{n nm d s k a x e by_ i b j v ia ib L R V g r:Nat}{Q0:Exit->Act->World->Prop}{fr fr' fr1 fr2:aC}{own' own1 own2:aG}{cf cf' cf1 cf2:Cf}{vc vc1 vc2:List Prop}{lk:LK}{bk:BM}{fo y:Operand}{args:Array Operand}{tys:Array TypeId}{f:FuncId}{l:List (Option DV)}{ty ty0 t t' ty':TypeId}{pos:String}{af:Array Edge}{dsi dso ds2 ds':List DV}{lo:Bool}{fb:Func}{ds W A:List Nat}{P:Program}{ov B:List av}{dst:Option Nat}{z rv:DV}{p q:Int}{k':IntKind}
section
variable {own:aG}
def axk{gd:Option (Nat×Bool)}(hne:Nat.beq nm d=false)
  (ha:Ah lk fo args=some (f,nm,l))(hb:bk nm=some (.b ty0 s dsi lo))(hF:PB GB prog f (fi l) s ty0 dsi (fun w=> .v (.slice w.a w.n w.c)) dso):bP prog GB C n lk bk ⟨some d, .call ⟨.value fo,args,tys⟩,ty,pos,af,gd⟩ (.rw d) [(nm,none),(d,some (.b ty0 s dso lo))] [d]:=by
 intro hd tl tb K' s1 s2 hf hk;refine⟨fun ρ G ov a w r Q=>?_⟩;have r1:=r.mono s1 s2;unfold Ah at ha;split at ha<;>try (cases ha;done)
 rename_i h1;split at ha<;>cases ha;rename_i h2;obtain⟨y,hy,hy'⟩:=r1.ev h1;rw[(aH (G:=G)).1 hy'] at hy;obtain⟨B,g1,g2⟩:=r1.bx _ _ hb;have hB:du G ⟨ρ nm,s,ty0,dsi,lo⟩ B:=g1;obtain⟨vs,h7,h8⟩:=Eb r1 (z:=ρ nm) h2 (fun nm e=>by cases e;rfl);have hp: ∃rest,ov.Perm (B++rest)/\ ∀o∈ov,(∀o'∈B,o.b≠o'.b)->o∈rest:=by
  rcases hB with⟨vs',⟨_,_,e⟩|⟨b0,r0,lo0,_,e,_⟩,_⟩
  .rw[e];exact⟨ov,List.Perm.refl _,fun o ho _=>ho⟩
  .rw[e] at g2⊢
   obtain⟨l1,l2,e2⟩:=mQ (g2 _ aQ);rw[e2];refine⟨l1++l2,oW,fun o ho hno=>?_⟩;rcases aM.1 ho with ho|ho
   .exact bV _ ho
   .rcases aK.1 ho with rfl|ho
    .exact absurd J (hno _ aQ)
    .exact bZ _ ho
 obtain⟨rest,h5,h6⟩:=hp;refine vj (M:=B) (rest:=rest) hy h7 h5 (hF G (ρ nm) vs B r.gb hB.weak h8) hd (fun v own1 G' hG hK a' w' rl=>?_) a w Q ⟨r.h,r.sz,cw a,r.df⟩;obtain⟨z,hr,vs',k1,k2,k3,k4⟩:=hK;have k1':=k1.relo (gr B);have e2:lo=true-> ∀o∈own1.map (relo (gr B)),o.lo=true:=fun hl o ho=>by
  obtain⟨o',_,rfl⟩:=aR.1 ho;obtain⟨_,_,_,_,hlo⟩:=hB;exact BT _ (hlo hl)
 generalize own1.map (relo (gr B))=B' at rl e2 k1';have rl':gm C n (Sx.put (ck a) (some d) v) (B'++rest) G' a' w':=rl;have hdis:=(gW.1 rl'.h.nd).2.2;have r2:=r.dropB nm;have hnn:nm≠d:=fun e=>by subst e;rw[nS] at hne;cases hne
 have hf2:jw [d] (some d) tl (Sx.upB tb [(nm,none)]):=fun q hq=>by
  obtain⟨f1,f2⟩:=hf q hq;refine⟨f1,fun k B e1 e=>?_⟩;simp only[Sx.upB] at e;split at e
  .cases e
  .exact f2 k B e1 e
 have hsep: ∀q B0,Sx.upB tb [(nm,none)] q=some B0-> ∀o∈ov,(ρ q).a=some ⟨o.b,0,none⟩->o∈rest:=fun q B0 e o ho hbq=>by
  simp only[Sx.upB] at e;split at e
  .cases e
  .rename_i hqn
   refine h6 o ho fun o' ho' he=>?_;exact r.dj nm q _ _ (s2 _ _ hb) e (Ne.symm hqn) o'.b (g1.blk ho') (by rw[hbq,he])
 rw[aH.1 hr] at rl';have r3:=r2.new' (x:=z) (B':= .b ty0 s dso lo) (os:=B') (ov':=B'++rest) (f:= .rw d) (y:= .slice z.a z.n z.c) hf2 hG.le rl'.h ⟨vs',by simpa using k1',k2,k3,e2⟩ (fun o ho=>bV _ ho)
  (fun q B0 hq e o ho hbq=>⟨bZ _ (hsep q B0 e o ho hbq),fun hc=>by
   have hx: ∃o1∈B',o1.b=o.b:=by
    rcases k1' with⟨_,h,_⟩|⟨b0,rest0,lo0,h,hB,_⟩
    .rw[show z=_ from h] at hc;cases hc
    .rw[show z=_ from h] at hc;cases hc;exact⟨⟨_,aD vs'++rest0,_,lo0⟩,by rw[hB];exact aQ,J⟩
   obtain⟨o1,ho1,he1⟩:=hx;exact hdis o1 ho1 o (hsep q B0 e o ho hbq) he1⟩) (by simp[bO]) (jk rl')
 exact hk.run _ G' _ a' w' r3
def cq[fu:Fu](dso':List DV)(ha:B8 fr own cf=some ⟨f,nm,l,ty,s,dsi,lo,d⟩)(hF:PB GB prog f (fi l) s ty dsi (fun w=> .v (.slice w.a w.n w.c)) dso)(he:dso=dso')
  (hgo:cx tt n fu.n fr own cf (.rw d) [(nm,none),(d,some (.b ty s dso' lo))] [d]=⟨vc,fr',own',cf'⟩)(k:aA prog GB C n Q0 fr' own' cf')
  (hv:autoParam (ak vc) fn._auto_1):aA prog GB C n Q0 fr own cf:=by
 subst he;unfold B8 at ha;split at ha<;>try (cases ha;done)
 rename_i hh;split at ha<;>try (cases ha;done)
 rename_i h1;split at ha<;>try (cases ha;done)
 rename_i h2;rw[cond_eq_ite] at ha;split at ha<;>cases ha;rename_i h3;exact us hh (axk (by cases hq:Nat.beq nm d with|false=>rfl|true=>exact absurd hq h3) h1 h2 hF) hgo hv k
def Gl(C:aE)(s:Nat)(ty:TypeId)(dso:List DV):Ending->World->Prop:=qa C (fun v own' G'=> ∃w',Is G' (.v (.slice w'.a w'.n w'.c)) v/\du G' ⟨w',s,ty,dso,false⟩ own')
def Co[fu:Fu]{c:Code}(hf:prog.funcs[f]? =some fb)(hb:fb.body=some c)(hn:(fb.name== "runtime.NumGoroutine")=false)(hm:fb.ntmps=k)(hlen:Nat.ble l.length k=true)
  (hgo:go tt k fu.n [] (vK 0 l) [(NM,some (.b ty s dsi false))] (.code c [])=⟨vc,fr,own,cf⟩)(h: ∀C,aA prog GB C k (eH C prog fb (Gl C s ty dso)) fr own cf)
  (hv:autoParam (ak vc) fn._auto_1):PB GB prog f (fi l) s ty dsi (fun w=> .v (.slice w.a w.n w.c)) dso:=by
 intro G w vs B hg hB hvs;refine gG.introR hf hb hn hm (by rw[hvs.len,EH];exact hlen) fun C _ hmb hrd hfx=>?_;intro a wd rl;refine uN hrd ?_;have h1:=fB (GB:=GB) (C:=C) (Q0:=eH C prog fb (Gl C s ty dso)) hgo hv (h C);refine h1.run (fun _=>w) G (Sx.asB B) a wd ⟨hg,rl.h,rl.sz,rl.df,fun k f e=>?_,fun nm B' e=>?_,fun nm nm' B' B2 e e' hne=>?_,fun nm p _ _ e=>by rw[hfx] at e;cases e⟩
 .obtain⟨y,⟨j,hj,hy⟩,h2⟩:=CL (ρ:=fun _=>w) (w:=w) rfl 0 hvs k f e
  refine⟨y,rl.fr k y ?_,h2⟩;rw[hj];exact vR vs 0 j y hy
 .rw[jc] at e
  split at e
  .cases e;exact⟨Sx.asB B,hB.asB,fun o ho=>ho⟩
  .cases e
 .rw[jc] at e e'
  split at e<;>split at e'
  .rename_i h2 h3;exact absurd (h2.trans h3.symm) hne
  .cases e'
  .cases e
  .cases e
def uk{t:Nat}{ds:List DV}(hr:fb.results.toList=[.tmp t])(hl:aP fr t=some (.rw d))(hw:bj own d=some (.b ty s ds false))(ed:ds=dso):
  aA prog GB C n (eH C prog fb (Gl C s ty dso)) fr own (.ex .ret []):=by
 subst ed;refine⟨fun ρ G ov a w r=>?_⟩;obtain⟨B,g1,g2⟩:=r.bx _ _ hw;have hB:du G ⟨ρ d,s,ty,ds,false⟩ B:=g1;obtain⟨rest,hp⟩:=JN hB g2;obtain⟨y,hy,hy'⟩:=r.ev (x:= .tmp t) (f:= .rw d) hl
 cases (show y=_ from hy')
 exact vE (C:=C) (n:=n) (fr:=ck a) (own:=ov) (G:=G) (vs:=[.slice (ρ d).a (ρ d).n (ρ d).c]) (by rw[hr];exact .tmp hy .nil) (B++rest) B hp (oQ _ _) ⟨ρ d,aH.2 J,hB⟩ a w ⟨r.h,r.sz,cw a,r.df⟩
def w5(lk:LK):List Operand->Option (List (Option DV))
 |[]=>none
 |[x]=>match bh lk x with
  |some .nl=>some [none]
  |_=>none
 |x::t=>match bh lk x,w5 lk t with
  |some f,some l=>match ju f with
   |some d=>some (some d::l)
   |none=>none
  |_,_=>none
def Fg(lk:LK)(fo:Operand)(args:Array Operand):Option (FuncId×List (Option DV)):=match bh lk fo with
 |some (.d (.v (.func (.func f) ⟨[]⟩ ⟨[]⟩)))=>match w5 lk args.toList with
  |some l=>some (f,l)
  |_=>none
 |_=>none
def PA{lk:LK}{bk:BM}{ρ:NE}{G:Gh}{ov:List av}{a:Act}{w:World}(r:bG GB C n lk bk ρ G ov a w): ∀{x:List Operand} {l:List (Option DV)},w5 lk x=some l-> ∃y,fg (ck a) x=some y/\IsLs G (fi l ⟨none,0,0⟩) y
 |[],l,e=>by cases e
 |[x],l,e=>by
  simp only[w5] at e;split at e<;>cases e;rename_i h1;obtain⟨y,h3,h4⟩:=r.ev h1
  cases (show y=_ from h4)
  exact⟨[Value.slice none 0 0],by simp only[fg,h3], .cons ((aH (G:=G)).2 J) .nil⟩
 |x::x2::t,l,e=>by
  simp only[w5] at e;split at e
  .rename_i f l' h1 h2
   cases hd:ju f with
   |none=>rw[hd] at e;cases e
   |some d=>
   rw[hd] at e;cases e;obtain⟨y,h3,h4⟩:=r.ev h1;obtain⟨ys,h5,h6⟩:=PA r (x:=x2::t) (by simpa only[w5] using h2);exact⟨y::ys,by simp only[fg,h3] at h5⊢;rw[h5], .cons (lE h4 hd) h6⟩
  .cases e
def WW{gd:Option (Nat×Bool)}
  (ha:Fg lk fo args=some (f,l))(hF:PB GB prog f (fi l) s ty0 [] (fun w=> .v (.slice w.a w.n w.c)) dso):bP prog GB C n lk bk ⟨some d, .call ⟨.value fo,args,tys⟩,ty,pos,af,gd⟩ (.rw d) [(d,some (.b ty0 s dso true))] [d]:=by
 intro hd tl tb K' s1 s2 hf hk;refine⟨fun ρ G ov a w r Q=>?_⟩;have r1:=r.mono s1 s2;unfold Fg at ha;split at ha<;>try (cases ha;done)
 rename_i h1;split at ha<;>cases ha;rename_i h2;obtain⟨y,hy,hy'⟩:=r1.ev h1;rw[(aH (G:=G)).1 hy'] at hy;obtain⟨vs,h7,h8⟩:=PA r1 h2;refine vj (M:=[]) (rest:=ov) hy h7 (List.Perm.refl _) (hF G ⟨none,0,0⟩ vs [] r.gb ⟨[], .nil _ _, .nil,by simp,fun h=>by cases h⟩ h8) hd (fun v own1 G' hG hK a' w' rl=>?_) a w Q ⟨r.h,r.sz,cw a,r.df⟩;obtain⟨z,hr,vs',k1,k2,k3,k4⟩:=hK;have k1':=k1.relo (gr []);have e2: ∀o∈own1.map (relo (gr [])),o.lo=true:=fun o ho=>by
  obtain⟨o',_,rfl⟩:=aR.1 ho;rfl
 generalize own1.map (relo (gr []))=B' at rl e2 k1';have rl':gm C n (Sx.put (ck a) (some d) v) (B'++ov) G' a' w':=rl;have hdis:=(gW.1 rl'.h.nd).2.2;rw[aH.1 hr] at rl';have r3:=r.new (x:=z) (B':= .b ty0 s dso true) (os:=B') (ov':=B'++ov) (f:= .rw d) (y:= .slice z.a z.n z.c) hf hG.le rl'.h ⟨vs',by simpa using k1',k2,k3,fun _=>e2⟩ (fun o ho=>bV _ ho) (fun o ho=>bZ _ ho)
  (fun o ho hc=>by
   have hx: ∃o1∈B',o1.b=o.b:=by
    rcases k1' with⟨_,h,_⟩|⟨b0,rest0,lo0,h,hB,_⟩
    .rw[show z=_ from h] at hc;cases hc
    .rw[show z=_ from h] at hc;cases hc;exact⟨⟨_,aD vs'++rest0,_,lo0⟩,by rw[hB];exact aQ,J⟩
   obtain⟨o1,ho1,he1⟩:=hx;exact hdis o1 ho1 o ho he1) (by simp[bO]) (jk rl')
 exact hk.run _ G' _ a' w' r3
def PU(fr:aC)(cf:Cf):Option (FuncId×List (Option DV)×Nat):=match cE fr cf with
 |some ⟨some d, .call ⟨.value fo,args,_⟩,_,_,_,_⟩=>match Fg (b7 fr cf) fo args with
  |some (f,l)=>some (f,l,d)
  |none=>none
 |_=>none
def Wh[fu:Fu](dso':List DV)(ha:PU fr cf=some (f,l,d))(hF:PB GB prog f (fi l) s ty [] (fun w=> .v (.slice w.a w.n w.c)) dso)(he:dso=dso')
  (hgo:cx tt n fu.n fr own cf (.rw d) [(d,some (.b ty s dso' true))] [d]=⟨vc,fr',own',cf'⟩)(k:aA prog GB C n Q0 fr' own' cf')
  (hv:autoParam (ak vc) fn._auto_1):aA prog GB C n Q0 fr own cf:=by
 subst he;unfold PU at ha;split at ha<;>try (cases ha;done)
 rename_i hh;split at ha<;>cases ha;rename_i h1;exact us hh (WW h1 hF) hgo hv k
end
section
variable {T:TT}{ρ:NE}{a:Act}{w:World}
variable {gd:Option (Nat×Bool)}{x:Operand}
def YM{i:TI}{ds:List DV}[hT:cj P t e s by_][hN:ji P t'](hi:et P e=some i)(hz:nA i=some z)(hs:Nat.beq z.cells.length s=true)(hx:bh lk x=some (.rw nm))(hb:bk nm=some (.b e s ds false))(hy:pg lk bk s y=some ds2)(hk2:cA s ds2)
  (hby:Nat.blt 0 by_=true)(hbd:(ds.length+ds2.length)*by_<=140737488355328)(hnd:Nat.beq nm d=false)(hds:ds++ds2=ds'):
  bP P GB C n lk bk ⟨some d, .call ⟨.builtin .append, #[x,y], #[t,t']⟩,ty',pos,af,gd⟩ (.rw d) [(nm,none),(d,some (.b e s ds' false))] [d]:=by
 intro hd tl tb K s1 s2 hf hk;refine⟨fun ρ G ov a w r Q=>?_⟩;subst hds;have r1:=r.mono s1 s2;obtain⟨v,hz1,hz2,hz3⟩:=y5 hi hz;have cz:=((hz2 G).cells hz3).1.len;replace hs:=aL hs;rw[kS] at hby
 have hne:nm≠d:=fun e=>by subst e;simp at hnd
 obtain⟨u,hx',hx2⟩:=r1.ev hx
 cases hx2
 obtain⟨B,hB0,hBo⟩:=r1.bx _ _ hb;have hB1:du G ⟨ρ nm,s,e,ds,false⟩ B:=hB0;clear hB0;obtain⟨vs,hB,hv,hvs,_⟩:=hB1;simp only[] at hB hv hvs;obtain⟨w2,us,hy',h2,h3,h4,h5,h6⟩:=BB (P:=P) r1 hy hk2;have hus:(aD us).length=us.length*s:=ek us h4;have hbd':(vs.length+us.length)*by_<=140737488355328:=by rw[hv.len,h3.len];exact hbd
 have hall: ∀v∈vs++us,(aF v).length=s:=fun v hv=>by
  rcases aM.1 hv with hv|hv
  .exact hvs v hv
  .exact h4 v hv
 have rd:=r.dropB nm;have hf':jw [d] (some d) tl (Sx.upB tb [(nm,none)]):=fun m hm=>by
  obtain⟨g1,g2⟩:=hf m hm;refine⟨g1,fun k B' hk e=>g2 k B' hk ?_⟩;simp only[Sx.upB] at e;split at e
  .cases e
  .exact e
 have hbk: ∀m B',(Sx.upB tb [(nm,none)]) m=some B'->m≠nm/\tb m=some B':=fun m B' e=>by
  simp only[Sx.upB] at e;split at e
  .cases e
  .exact⟨by assumption,e⟩
 have hnew: ∀{z:SV} {ov':List av} {B1:List av} {a':Act} {w':World} {dz:List DV},du G ⟨z,s,e,dz,false⟩ B1->(∀o∈B1,o∈ov')->(∀m B',m≠d->(Sx.upB tb [(nm,none)]) m=some B'-> ∀o∈ov,(ρ m).a=some ⟨o.b,0,none⟩->o∈ov'/\z.a≠some ⟨o.b,0,none⟩)->
   SX GB C n (dG tl (some d) (.rw d)) (Sx.upB (Sx.upB tb [(nm,none)]) [(d,some (.b e s dz false))]) K->gm C n (Sx.put (ck a) (some d) (.slice z.a z.n z.c)) ov' G a' w'->K a' w':=fun hB1 hos hov hk1 rl=>
  hk1.run _ _ _ _ _ (rd.new' (f:= .rw d) (y:= .slice _ _ _) hf' (bH.refl _) rl.h (hB1.toBk (by simp)) hos hov (by show _=_;simp) (jk rl))
 have hfin: ∀(b:Nat) (lo1:Bool) (cap':Nat) (rest':List Value) (ov1:List av) a' w',vs.length+us.length<=cap'->rest'.length+(vs.length+us.length)*s=cap'*s->(∀o∈ov,(ρ nm).a≠some ⟨o.b,0,none⟩->o∈ov1)->
   gm C n (put (ck a) (some d) (.slice (some ⟨b,0,none⟩) (vs.length+us.length) cap')) (⟨b,aD (vs++us)++rest',e,lo1⟩::ov1) G a' w'->K a' w':=by
  intro b lo1 cap' rest' ov1 a' w' hc hr ho1 rl;have hnd':=(bS.1 rl.h.nd).1;refine hnew (z:=⟨some ⟨b,0,none⟩,vs.length+us.length,cap'⟩) (B1:=[⟨b,aD (vs++us)++rest',e,lo1⟩]) ⟨vs++us, .inr ⟨b,rest',lo1,by simp,J,ek _ hall,?_,by simpa using hc⟩,hv.app h3,hall,fun h=>by cases h⟩
   (fun o ho=>by rw[aU.1 ho];exact aQ) (fun m B' hm e o ho hmo=>?_) hk rl
  .rw[ek _ hall,aY]
   simp only[];omega
  .obtain⟨h7,h8⟩:=hbk m B' e
   have ho2:=ho1 o ho fun hc=>r.dj m nm B' _ h8 (s2 _ _ hb) h7 _ hmo hc;exact⟨aJ _ ho2,fun e'=>by cases e';exact hnd' o ho2 J⟩
 rcases hB with⟨e1,e2,e3⟩|⟨b,rest,lo',k3,k4,k5,k6,k7⟩
 .subst e1
  rw[e2] at hx';by_cases hne:us=[]
  .subst hne
   have:ds2=[]:=cR (by rw[<-h3.len];rfl);subst this;rw[h2] at hy';refine MP hx' hy' hd (fun a' w' rl=>?_) a w Q ⟨r.h,r.sz,cw a,r.df⟩;refine hnew (z:=⟨none,0,0⟩) (B1:=[]) ⟨[], .inl ⟨J,J,J⟩,by simpa using hv,by simp,fun h=>by cases h⟩ (fun o ho=>by cases ho) (fun m B' hm e o ho hmo=>⟨ho,fun e'=>by cases e'⟩) hk rl
  .have hup:0<us.length:=oJ.2 hne
   rw[h2] at hy' h6;refine En (z:=v) (xs:=[]) (ys:=aD us) hx' hy' uh h6 (by show(0:Nat)<0+us.length;omega) hby (by simpa using hbd') hd (fun b cap' hc a' w' rl=>?_) a w Q ⟨r.h,r.sz,cw a,r.df⟩;exact hfin b true cap' (dl v (cap'-us.length)) ov a' w' (by simpa using hc) (by rw[nk,cz,hs,<-dV];simp at hc⊢;congr 1;omega) (fun o ho _=>ho) (by simpa using rl)
 .subst k4
  have ha:(ρ nm).a=some ⟨b,0,none⟩:=by rw[k3]
  have hn:(ρ nm).n=vs.length:=by rw[k3]
  rw[ha,hn] at hx';rw[h2] at hy' h6;obtain⟨ov1,o1,o2⟩:=jo.of_mem (hBo _ aQ);refine Hh (z:=v) (xs:=aD vs) (ys:=aD us) (rest:=rest) (own1:=ov1) hx' hy' o1 k5 k6 k7 h6 hus h5 hby hbd' (by rw[cz,hs]) hd (fun b' lo2 cap' rest' hc hr a' w' rl=>?_) a w Q ⟨r.h,r.sz,cw a,r.df⟩;rw[<-ni] at rl;exact hfin b' lo2 cap' rest' ov1 a' w' hc hr (fun o ho hne=>o2 o ho fun e'=>hne (by rw[ha,e'])) rl
end
section
variable {own:aG}
def KC(fr:aC)(own:aG)(cf:Cf):Option (Nat×Nat×Nat×Nat×Nat×List DV×List DV):=match cE fr cf with
 |some ⟨some d, .call ⟨.builtin .append,⟨[x,y]⟩,⟨[t,t']⟩⟩,_,_,_,_⟩=>match dE tt t with
  |some ⟨.sl e s b,_,_,_⟩=>match dE tt t' with
   |some ⟨.sl _ _ _,_,_,_⟩=>match dE tt e with
    |some i=>match nA i with
     |some z=>bif Nat.beq z.cells.length s&&Nat.blt 0 b then(match pg (b7 fr cf) (iH fr own cf) s y with
      |some ds2=>match bh (b7 fr cf) x with
       |some (.rw nm)=>match iH fr own cf nm with
        |some (.b e' s' ds false)=>bif (Nat.beq e' e&&Nat.beq s' s)&&!Nat.beq nm d then some (d,nm,e,s,b,ds,ds2) else none
        |_=>none
       |_=>none
      |none=>none) else none
     |none=>none
    |none=>none
   |_=>none
  |_=>none
 |_=>none
def Rv[fu:Fu]{ds:List DV}(ds':List DV)(h:KC fr own cf=some (d,nm,e,s,b,ds,ds2))(hds:ds++ds2=ds')(ho2:cA s ds2)(hgo:cx tt n fu.n fr own cf (.rw d) [(nm,none),(d,some (.b e s ds' false))] [d]=⟨vc,fr',own',cf'⟩)(k:aA prog GB C n Q0 fr' own' cf')
  (hbd:(ds.length+ds2.length)*b<=140737488355328:=by simp;omega)
  (hv:autoParam (ak vc) fn._auto_1):aA prog GB C n Q0 fr own cf:=by
 unfold KC at h;split at h<;>try (cases h;done)
 rename_i hh;split at h<;>try (cases h;done)
 rename_i hT;split at h<;>try (cases h;done)
 rename_i hT';split at h<;>try (cases h;done)
 rename_i hi;split at h<;>try (cases h;done)
 rename_i hz;rw[cond_eq_ite] at h;split at h<;>try (cases h;done)
 rename_i hc;simp only[bU] at hc;split at h<;>try (cases h;done)
 rename_i hy;have:=ke (eh _ _ hT) J;have hN:ji prog _:=⟨_,(ke (eh _ _ hT') J).un⟩;split at h<;>try (cases h;done)
 rename_i hx;split at h<;>try (cases h;done)
 rename_i hb;rw[cond_eq_ite] at h;split at h<;>cases h;rename_i hq;simp only[bU,iZ] at hq
 cases aL hq.1.1
 cases aL hq.1.2
 exact us hh (YM (eh _ _ hi) hz hc.1 hx hb hy ho2 hc.2 hbd hq.2 hds) hgo hv k
end
section
variable {own:aG}
variable {gd:Option (Nat×Bool)}{x:Operand}
def aFh{w:SV}{ds:List DV}(h:du G ⟨w,s,ty,ds,lo⟩ B)(hn:0<ds.length): ∃b,w=⟨some ⟨b,0,none⟩,ds.length,w.c⟩/\ds.length<=w.c:=by
 obtain⟨vs,h1,h2,_⟩:=h;rcases h1 with⟨e1,_,_⟩|⟨b,rest,lo',e1,_,_,_,h5⟩
 .subst e1;have:=h2.len;simp at this;omega
 .exact⟨b,by rw[<-h2.len];exact e1,by rw[<-h2.len];exact h5⟩
def ig.cut{z:SV}{vs:List Value}(h:ig s ty z vs B)(hs: ∀v∈vs,(aF v).length=s)(hk:k<=vs.length)(hne:0<vs.length):ig s ty ⟨z.a,k,z.c⟩ (vs.take k) B:=by
 rcases h with⟨h1,_,_⟩|⟨b,rest,lo,h1,h2,h3,h4,h5⟩
 .subst h1;simp at hne
 .have e:aD vs=aD (vs.take k)++aD (vs.drop k):=by rw[<-ni,kQ]
  have hl:=ek (vs.take k) fun v hv=>hs v (eM hv);have hm:(vs.take k).length=k:=by rw[bL];omega
  refine .inr ⟨b,aD (vs.drop k)++rest,lo,by rw[hm,h1],by rw[h2,e,dX],hl,?_,by rw[hm];show k<=z.c;omega⟩;show _=z.c*s;rw[<-h4,e,aY,aY];omega
def aEe[hT:cj P t e s by_]{k:IntKind}{ds:List DV}(hne:Nat.beq nm d=false)(hx:bh lk x=some (.rw nm))(hb:bk nm=some (.b ty s ds lo))(hy:bh lk y=some (.d (.v (.int k j))))(h1:j<ds.length):
  bP P GB C n lk bk ⟨some d, .slice t x none (some y) none,ty',pos,af,gd⟩ (.rw d) [(nm,none),(d,some (.b ty s (ds.take j) lo))] [d]:=by
 intro hd tl tb K s1 s2 hf hk;refine⟨fun ρ G ov a w r Q=>?_⟩;have r1:=r.mono s1 s2;obtain⟨u,hu,hu2⟩:=r1.ev hx
 cases (show u=_ from hu2)
 obtain⟨v,hv,hv2⟩:=r1.ev hy;rw[cH] at hv2;subst hv2;obtain⟨B,hB0,hBo⟩:=r1.bx _ _ hb;have hB:du G ⟨ρ nm,s,ty,ds,lo⟩ B:=hB0;obtain⟨b,hw,hc⟩:=aFh hB (by omega);obtain⟨vs,g1,g2,g3,g4⟩:=hB;have hvl:=g2.len;have hcut:du G ⟨⟨(ρ nm).a,j,(ρ nm).c⟩,s,ty,ds.take j,lo⟩ B:=⟨vs.take j,ig.cut g1 g3 (by simp only at hvl⊢;omega) (by simp only at hvl⊢;omega),g2.take _,fun v hv=>g3 v (eM hv),g4⟩;have hs:=EN (P:=P) (C:=C) (own:=ov) (G:=G) (dst:=some d) (ty':=ty') (pos:=pos) (af:=af) (gd:=gd) (t:=t) hu hv;have hnn:nm≠d:=fun e=>by subst e;rw[nS] at hne;cases hne
 have r2:=r.dropB nm;have hf2:jw [d] (some d) tl (Sx.upB tb [(nm,none)]):=fun q hq=>by
  obtain⟨f1,f2⟩:=hf q hq;refine⟨f1,fun k B e1 e=>?_⟩;simp only[Sx.upB] at e;split at e
  .cases e
  .exact f2 k B e1 e
 have r3:=r2.new' (x:=⟨(ρ nm).a,j,(ρ nm).c⟩) (B':= .b ty s (ds.take j) lo) (os:=B) (ov':=ov) (f:= .rw d) (y:= .slice (ρ nm).a j (ρ nm).c) hf2 (bH.refl _) r.h (hcut.toBk (by simp)) hBo
  (fun m B' hm e o ho hmo=>⟨ho,fun hc=>by
   simp only[Sx.upB] at e;split at e
   .cases e
   .rename_i hmn
    exact r.dj m nm B' _ e (s2 _ _ hb) hmn _ hmo hc⟩) (by simp[bO]) (r.putA (.slice (ρ nm).a j (ρ nm).c) hd)
 exact kv (hs a w (cw a) r.h) (hk.run _ G _ _ w r3)
def QK(fr:aC)(own:aG)(cf:Cf):Option (Nat×Nat×TypeId×Nat×List DV×Bool×Int):=match cE fr cf with
 |some ⟨some d, .slice t x none (some y) none,_,_,_,_⟩=>match dE tt t with
  |some ⟨.sl _ s' _,_,_,_⟩=>match bh (b7 fr cf) x with
   |some (.rw nm)=>match iH fr own cf nm with
    |some (.b ty s ds lo)=>match bh (b7 fr cf) y with
     |some (.d (.v (.int _ i)))=>bif Nat.beq s s'&&!Nat.beq nm d then some (d,nm,ty,s,ds,lo,i) else none
     |_=>none
    |_=>none
   |_=>none
  |_=>none
 |_=>none
def N'[fu:Fu]{ds:List DV}{i:Int}(ds':List DV)(k:Nat)(h:QK fr own cf=some (d,nm,ty,s,ds,lo,i))(hi:i=(k:Nat))(hl:k<ds.length)(hd:ds.take k=ds')(hgo:cx tt n fu.n fr own cf (.rw d) [(nm,none),(d,some (.b ty s ds' lo))] [d]=⟨vc,fr',own',cf'⟩)(kk:aA prog GB C n Q0 fr' own' cf')
  (hv:autoParam (ak vc) fn._auto_1):aA prog GB C n Q0 fr own cf:=by
 subst hi hd;unfold QK at h;split at h<;>try (cases h;done)
 rename_i hh;split at h<;>try (cases h;done)
 rename_i hT;split at h<;>try (cases h;done)
 rename_i hx;split at h<;>try (cases h;done)
 rename_i hb;split at h<;>try (cases h;done)
 rename_i hy;rw[cond_eq_ite] at h;split at h<;>cases h;rename_i hq;simp only[bU,iZ] at hq
 cases aL hq.1
 have:=ke (eh _ _ hT) J;exact us hh (aEe hq.2 hx hb hy hl) hgo hv kk
end
section
variable {own:aG}
def jh{e:Exit}{ds:List DV}(hr:rj tt fr own fb.results.toList=some ds)(hd: ∀G y,Is G (eO ds) y->Is G rv y)(he:Cn e=true:=by rfl):aA prog GB C n (eH C prog fb (li C (fun v G'=>Is G' rv v))) fr own (.ex e []):=by
 refine⟨fun ρ G ov a w r=>?_⟩;obtain⟨vs,h1,h2⟩:=Dd r hr;have hk:Is G rv (nv vs):=hd _ _ (Cz h2)
 cases e with
 |ret=>exact zD (C:=C) (n:=n) (fr:=ck a) (own:=ov) (G:=G) (K:=fun v G'=>Is G' rv v) h1 hk a w ⟨r.h,r.sz,cw a,r.df⟩
 |normal=>exact Rf (C:=C) (n:=n) (fr:=ck a) (own:=ov) (G:=G) (K:=fun v G'=>Is G' rv v) h1 hk a w ⟨r.h,r.sz,cw a,r.df⟩
 |_=>cases he
def LF(fr:aC)(cf:Cf):Option (Int×IntKind):=match cE fr cf with
 |some ⟨_, .convert t t' x,_,_,_,_⟩=>match dE tt t,dE tt t',bh (b7 fr cf) x with
  |some ⟨.int k,_,_,_⟩,some ⟨.int k',_,_,_⟩,some (.d (.v (.int j p)))=>bif kq k j then some (p,k') else none
  |_,_,_=>none
 |_=>none
def cu[fu:Fu](u:Int)(h:LF fr cf=some (p,k'))(e:k'.wrap p=u)(hgo:cx tt n fu.n fr own cf (.d (.v (.int k' u))) [] []=⟨vc,fr',own',cf'⟩)(k:aA prog GB C n Q0 fr' own' cf')
  (hv:autoParam (ak vc) cL._auto_1):aA prog GB C n Q0 fr own cf:=by
 unfold LF at h;split at h<;>try (cases h;done)
 rename_i hh;split at h<;>try (cases h;done)
 rename_i k0 _ _ _ k1 _ _ _ j p0 hT hT' hx
 cases hk:kq k0 j with
 |false=>rw[hk] at h;cases h
 |true=>
  rw[hk,cond_true] at h;cases h;cases Dk hk;have:=w8 (eh _ _ hT) J;have:=w8 (eh _ _ hT') J;subst e;refine us hh (.x1 hx fun ρ G ov a w y _ r h1 h2=>?_) hgo hv k;rw[cH] at h2;subst h2;exact⟨_,cH.2 J,Ej h1⟩
def Kl(fr:aC)(cf:Cf):Option (Int×IntKind):=match cE fr cf with
 |some ⟨_, .unOp .neg _ x,_,_,_,_⟩=>match bh (b7 fr cf) x with
  |some (.d (.v (.int j p)))=>some (p,j)
  |_=>none
 |_=>none
def nu[fu:Fu](u:Int)(h:Kl fr cf=some (p,k'))(e:k'.wrap (0-p)=u)(hgo:cx tt n fu.n fr own cf (.d (.v (.int k' u))) [] []=⟨vc,fr',own',cf'⟩)(k:aA prog GB C n Q0 fr' own' cf')
  (hv:autoParam (ak vc) cL._auto_1):aA prog GB C n Q0 fr own cf:=by
 unfold Kl at h;split at h<;>try (cases h;done)
 rename_i hh;split at h<;>cases h;rename_i hx;subst e;exact us hh (.x1 hx fun ρ G ov a w y _ r h1 h2=>by
  rw[cH] at h2;subst h2;exact⟨_,cH.2 J,GR h1⟩) hgo hv k
end
def Mz(h:0<W.length:=by omega)(hz:W.getD (W.length-1) 0=0:=by omega):trimD W=trimD (W.take (W.length-1)):=by
 have:=MH (ds:=W) (n:=W.length) ⟨h,bW _⟩ hz;rwa [dQ] at this
def DT(hz:0<W.length->W.getD (W.length-1) 0≠0):trimD W=W:=by
 have:=MF (ds:=W) (n:=W.length) (bW _) hz;rwa [dQ] at this
def sk(hl:ds.length<=1125899906842624:=by omega):PF GB prog 193 [dk ds] (dk (trimD ds)):=by
 refine fn func193 J J ntmps193 J J (fun C=>?_);refine lp (fu:=⟨5⟩) (X:=List Nat) (fun W=>[(0, .d (dk W))]) (fun W=>[]) (fun W=>trimD ds=trimD W/\W.length<=ds.length) (fun W=>W.length) ds J ⟨J,bW _⟩ (fun _=>J) (fun W hk=>?_);obtain⟨h1,h2⟩:=hk;have hml:=bI W;refine aj 4 (.d (vI (W.length:Nat))) J (by rw[hml]<;>rfl)<|gx J<|cs (fu1:=⟨3⟩) 6 J J J (fun hg6=>?_) (fun hg6=>?_)
 .
  refine aj 9 (.d (vI (W.length:Nat))) J (by rw[hml]<;>rfl)<|gx J<|ix _ J (cv (k:=W.length-1)) J<|br (fu1:=⟨7⟩) J J J (fun hc14=>?_) (fun hc14=>?_)
  .
   refine aj 17 (.d (vI (W.length:Nat))) J (by rw[hml]<;>rfl)<|gx (fu:=⟨1⟩) J<|aj 18 (.d (vI (W.length-1:Nat))) J (by show FX.d (.v (.int _ _))= .d (.v (.int _ _));congr 3;omega)<|gx J<|km (fu:=⟨0⟩) 0 (W.length-1) _ J J J J (ra _) (by omega) (by simp) J<|aj 19 (.d (dk (W.take (W.length-1)))) J (by show FX.d (.sl _)=FX.d (.sl _);simp)<|gx J<|at_ (W.take (W.length-1)) ⟨⟨by rw[h1,Mz],by rw[bL];omega⟩,(by rw[bL];omega)⟩
  .
   exact rz J (by rw[h1,DT (fun _=>by omega)];rfl)
 .
  exact rz J (by rw[h1,DT (fun _=>by omega)];rfl)
def aGe{v:Value}(hd:bB ds)(h:Is G (dk ds) v): ∃x:SV,v=x.v/\mE G x ds:=by
 obtain⟨x,rfl,h1⟩:=Gq.1 h;exact⟨x,J,hd,h1⟩
def PJ(hd:bB ds)(hb:ds.length<=1125899906842:=by omega):PF GB prog 250 [dk ds] (dk ds):=fun G vs _ hv=>by
 obtain⟨v,m,rfl,h1,h2⟩:=bi.1 hv
 cases d8.1 h2
 obtain⟨x,rfl,h3⟩:=aGe hd h1;exact(SE h3 hb).mono fun v G' _ ⟨z,e,h⟩=>by subst e;exact Gq.2 ⟨z,J,h.sl⟩
def axl(h:ds.length=0):ew ds:=by rw[cR h];unfold ew;simp
def T'(h:0<ds.length):ew ds↔ds.getD (ds.length-1) 0≠0:=by
 unfold ew;rw[nV,aW,aZ (by omega)];simp
def W1(a:Nat):trimD (dg a)=dg a:=asV (fE a).2.2
def og(h:(dg a).length<=1125899906842624:=by omega):PF GB prog 193 [dN a] (dN a):=(sk (ds:=dg a) h).to (by rw[W1];rfl)
def iE[h:BN a i](hi:i<=1000000000:=by omega):(dg a).length<=31250001:=by have:=kt h.h;omega
def ux[h:BN a i](hi:i<=1000000000:=by decide):PF GB prog 185 [dN a] (dN a):=by
 have hla:=bI (dg a);have hba:=iE (a:=a) hi;refine fn func185 J J ntmps185 J J (fun C=>?_);refine cl J (og) J<|cl J (PJ (f9 _)) J<|rz J J
def L8(hd:bB ds)(hl:ds.length<=1125899906842624):PF GB prog 290 [dk ds] (vB (decide (ew ds))):=by
 have hla:=bI ds;refine fn (fu:=⟨9⟩) func290 J J ntmps290 J J (fun C=>?_);refine aj 4 (.d (vI (ds.length:Nat))) J (by rw[hla]<;>rfl)<|gx J<|cs (fu2:=⟨3⟩) 6 J J J (fun hg6=>?_) (fun hg6=>?_)
 .
  exact rz J (by rw[decide_eq_true (axl (by omega))];rfl)
 .
  refine aj 9 (.d (vI (ds.length:Nat))) J (by rw[hla]<;>rfl)<|gx J<|ix _ J (cv (k:=ds.length-1)) J<|rz J (by show DV.v (.bool (decide _))=DV.v (.bool (decide _));congr 2;exact decide_eq_decide.2 (by rw[T' (by omega)];omega))
def AF(h:a<18446744073709551616:=by omega):PF GB prog 186 [.v (.int .u64 (a:Nat))] (dN a):=by
 refine fn (fu:=⟨11⟩) (hv:=by simp only[ak];exact(by decide)) func186 J J ntmps186 J J (fun C=>?_);refine aj 6 (.d (.v (.int .u64 (a/4294967296:Nat)))) J (by rw[oy])<|gx J<|rf (fu:=⟨0⟩) J J<|aj 8 (.d (dk [a%4294967296,a/4294967296])) J (by show FX.d (.sl [.v (.int _ _), .v (.int _ _)])= .d (.sl [.v (.int _ _), .v (.int _ _)]);congr 6;omega)<|gx J<|cl J (sk (ds:=[a%4294967296,a/4294967296]) (by simp)) J<|rz J (k8 (Kx h) (Rk a))
def Qc[h:BN a i][k:BN b j](hi:i<=1000000000:=by decide)(hj:j<=1000000000:=by decide):PF GB prog 248 [dN a,dN b] (vI (iB a b)):=by
 have hla:=bI (dg a);have hba:=iE (a:=a) hi;have hlb:=bI (dg b);have hbb:=iE (a:=b) hj;refine fn func248 J J ntmps248 J J (fun C=>?_);refine cl J (og) J<|cl (fu:=⟨9⟩) J (og) J<|aj 11 (.d (vI ((dg a).length:Nat))) J (by rw[hla]<;>rfl)<|gx (fu:=⟨2⟩) J<|aj 13 (.d (vI ((dg b).length:Nat))) J (by rw[hlb]<;>rfl)<|gx J<|br (fu1:=⟨5⟩) (fu2:=⟨7⟩) J J J (fun hc14=>?_) (fun hc14=>?_)
 .
  refine aj 16 (.d (vI ((dg a).length:Nat))) J (by rw[hla]<;>rfl)<|gx (fu:=⟨2⟩) J<|aj 18 (.d (vI ((dg b).length:Nat))) J (by rw[hlb]<;>rfl)<|gx J<|br J J J (fun hc19=>?_) (fun hc19=>?_)
  .
   exact rz J (by show DV.v (.int _ (-1))=_;rw[<-Js,Au (by omega)];rfl)
  .
   exact rz J (by show DV.v (.int _ 1)=_;rw[<-Js,Ab (by omega)];rfl)
 .
  have hl:(dg a).length=(dg b).length:=by omega
  refine aj 21 (.d (vI ((dg a).length:Nat))) J (by rw[hla]<;>rfl)<|gx J<|lp (X:=Nat) (fun k=>[(5, .d (vI ((k:Nat)-1)))]) (fun k=>[]) (fun k=>k<=(dg a).length/\(dg a).drop k=(dg b).drop k) (fun k=>k) (dg a).length J ⟨bW _,by rw[gV,hl,gV]⟩ (fun _=>J) (fun k hk=>?_);obtain⟨h1,h2⟩:=hk;refine br J J J (fun hc24=>?_) (fun hc24=>?_)
  .
   obtain⟨k,rfl⟩: ∃m,k=m+1:=⟨k-1,by omega⟩;refine ix _ J (cv (k:=k)) J<|ix _ J (cv (k:=k)) J<|br J J J (fun hc27=>?_) (fun hc27=>?_)
   .
    exact rz J (by show DV.v (.int _ (-1))=_;rw[Au ((zc hl (by omega) h2).1 (by omega))];rfl)
   .
    refine ix _ J (cv (k:=k)) J<|ix _ J (cv (k:=k)) J<|br J J J (fun hc37=>?_) (fun hc37=>?_)
    .
     exact rz J (by show DV.v (.int _ 1)=_;rw[Ab ((zc hl (by omega) h2).2.1 (by omega))];rfl)
    .
     exact at_ k ⟨⟨by omega,(zc (i:=k) hl (by omega) h2).2.2 (by omega)⟩,(by omega)⟩
  .
   exact rz rfl (by show DV.v (.int _ 0)=_;rw[Fb];rfl;obtain rfl:k=0:=(by omega);rw[iQ,iQ] at h2;rw[<-c8 a,h2,c8])
def XM{a b i j:Nat}[h:BN a i][k:BN b j](hi:i<=1000000000:=by decide)(hj:j<=1000000000:=by decide):PF GB prog 182 [dN a,dN b] (dN (a+b)):=by
 have hla:=bI (dg a);have hba:=iE (a:=a) hi;have hlb:=bI (dg b);have hbb:=iE (a:=b) hj;refine fn (fu:=⟨6⟩) func182 J J ntmps182 J J (fun C=>?_);refine mg (fu:=⟨4⟩) (X:=Nat×Nat) (fun⟨A,B⟩=>[(0, .d (dN A)),(1, .d (dN B))]) (fun⟨A,B⟩=>[]) (fun⟨A,B⟩=>(dg B).length<=(dg A).length/\A+B=a+b/\(dg A).length<=31250001) [0,1] [] rfl ?_ (fun _=>J) (fun⟨A,B⟩ ⟨hm1,hm2,hm3⟩=>?_)
 .
  refine gx (fu:=⟨4⟩) J<|aj 10 (.d (vI ((dg a).length:Nat))) J (by rw[hla]<;>rfl)<|gx (fu:=⟨2⟩) J<|aj 12 (.d (vI ((dg b).length:Nat))) J (by rw[hlb]<;>rfl)<|gx J<|br J J J (fun hc13=>?_) (fun hc13=>?_)
  .
   exact at_ ⟨b,a⟩ ⟨by omega,kU b a,hbb⟩
  .
   exact at_ ⟨a,b⟩ ⟨by omega,J,hba⟩
 .
  have hlA:=bI (dg A);have hlB:=bI (dg B);refine aj 17 (.d (vI ((dg A).length:Nat))) J (by rw[hlA]<;>rfl)<|gx (fu:=⟨1⟩) J<|aj 18 (.d (vI ((dg A).length+1:Nat))) J (by show FX.d (.v (.int _ _))= .d (.v (.int _ _));congr 3)<|gx J<|mk (fu:=⟨13⟩) ((List.replicate ((dg A).length+1) 0).map dU) J J (by rw[<-mH];rfl) J<|aj 21 (.d (vI ((dg A).length:Nat))) J (by rw[hlA]<;>rfl)<|gx J<|lp (X:=List Nat×Nat×Nat) (fun⟨W,c,i⟩=>[(0, .d (dN A)),(1, .d (dN B)),(5, .rw 19),(6, .d (.v (.int .u64 (c:Nat)))),(20, .d (dN A)),(21, .d (vI ((dg A).length:Nat))),(22, .d (vI (i:Nat)))]) (fun⟨W,c,i⟩=>[(19,some (.b 225 1 (W.map dU) true))]) (fun⟨W,c,i⟩=>W.length=(dg A).length+1/\bB W/\c<=1/\i<=(dg A).length/\dv (W.take i)+4294967296^i*c=dv ((dg A).take i)+dv ((dg B).take i)) (fun⟨W,c,i⟩=>(dg A).length-i) ⟨List.replicate ((dg A).length+1) 0,0,0⟩ J ⟨by simp, .replicate _,by omega,by omega,by simp[dv]⟩ (fun _=>J) (fun⟨W,c,i⟩ hk=>?_)
  try dsimp only at hk⊢
  obtain⟨h1,h2,h3,h4,h5⟩:=hk;have hlw:=bI W;have hda:=dt A i;have hdb:=dt B i;obtain⟨t,ht⟩: ∃t,t=(dg A).getD i 0+(dg B).getD i 0+c:=⟨_,rfl⟩;refine br (fu2:=⟨10⟩) J J J (fun hc23=>?_) (fun hc23=>?_)
  .
   refine ix (fu:=⟨15⟩) _ J (eo) J<|mg (fu:=⟨6⟩) (X:=Unit) (fun _=>[(0, .d (dN A)),(1, .d (dN B)),(5, .rw 19),(6, .d (.v (.int .u64 (t:Nat)))),(20, .d (dN A)),(21, .d (vI ((dg A).length:Nat))),(22, .d (vI (i:Nat))),(7, .d (vI (i:Nat))),(8, .d (dU ((dg A).getD i 0)))]) (fun _=>[(19,some (.b 225 1 (W.map dU) true))]) (fun _=>True) [0,1,5,6,20,21,22,7,8] [19] rfl ?_ (fun _=>J) (fun _ _=>?_)
   .
    refine gx (fu:=⟨5⟩) J<|aj 33 (.d (vI ((dg B).length:Nat))) J (by rw[hlB]<;>rfl)<|gx J<|br J J J (fun hc34=>?_) (fun hc34=>?_)
    .
     refine ix _ J (eo) J<|aj 6 (.d (.v (.int .u64 (t:Nat)))) J (by show FX.d (.v (.int _ _))= .d (.v (.int _ _));congr 3;omega)<|at_ () trivial
    .
     have hz:=pG (ds:=dg B) (i:=i);refine aj 6 (.d (.v (.int .u64 (t:Nat)))) J (by show FX.d (.v (.int _ _))= .d (.v (.int _ _));congr 3;omega)<|at_ () trivial
   .
    refine aj 45 (.d (dU (t%4294967296))) J (by show FX.d (.v (.int _ _))= .d (.v (.int _ _));congr 3)<|gx J<|sb (fu:=⟨5⟩) (hv:=by simp only[ak];exact(by decide)) _ ((W.set i (t%4294967296)).map dU) J (eo) J (by rw[<-je];rfl) J<|aj 48 (.d (.v (.int .u64 (t/4294967296:Nat)))) J (by rw[oy])<|gx J<|at_ ⟨W.set i (t%4294967296),t/4294967296,i+1⟩ (by dsimp only;exact⟨⟨by simpa using h1,h2.set _ (by omega),by omega,by omega,by rw[ht];exact Q8 (by omega) h5⟩,(by omega)⟩)
  .
   obtain rfl:i=(dg A).length:=by omega
   refine aj 52 (.d (vI ((dg A).length:Nat))) J (by rw[hlA]<;>rfl)<|gx (fu:=⟨2⟩) J<|aj 54 (.d (dU c)) J (by show FX.d (.v (.int _ _))= .d (.v (.int _ _));congr 3;omega)<|gx J<|sb _ ((W.set (dg A).length c).map dU) J (eo) J (by rw[<-je];rfl) J<|fz 19 J J<|cl J (sk (ds:=W.set (dg A).length c) (by simp;omega)) J<|rz J (by rw[<-hm2];exact k8 (h2.set _ (by omega)) (QG (by omega) h1 h5))
def ar4{y:Nat}(hx:x<4294967296)(hy:y<=4294967296):IntKind.u64.wrap ((x:Int)-y)=(((if x<y then x+18446744073709551616-y else x-y):Nat):Int):=by
 rw[q7];split<;>omega
def zq:iB a b<0↔a<b:=by unfold iB;split<;>(try split)<;>omega
section
variable {own:aG}
def PE(fr:aC)(cf:Cf):Option (Int×Int):=match cE fr cf with
 |some ⟨_, .binOp .sub _ x y _,_,_,_,_⟩=>match bh (b7 fr cf) x,bh (b7 fr cf) y with
  |some (.d (.v (.int .u64 p))),some (.d (.v (.int .u64 q)))=>some (p,q)
  |_,_=>none
 |_=>none
def sd[fu:Fu](u:Int)(h:PE fr cf=some (p,q))(e:IntKind.u64.wrap (p-q)=u)(hgo:cx tt n fu.n fr own cf (.d (.v (.int .u64 u))) [] []=⟨vc,fr',own',cf'⟩)(k:aA prog GB C n Q0 fr' own' cf')
  (hv:autoParam (ak vc) cL._auto_1):aA prog GB C n Q0 fr own cf:=by
 unfold PE at h;split at h<;>try (cases h;done)
 rename_i hh;split at h<;>cases h;rename_i h1 h2;subst e;exact us hh (.yd fun ρ G ov a w r=>by
  obtain⟨y1,h3,h4⟩:=r.ev h1;obtain⟨y2,h5,h6⟩:=r.ev h2;rw[cH] at h4 h6;subst h4 h6;exact⟨_,cH.2 J,lc h3 h5 fun w=>J⟩) hgo hv k
end
def Id(u:Nat):(u:Int).fdiv (2^min (63:Int).toNat IntKind.u64.bits)=((u/9223372036854775808:Nat):Int):=by
 rw[show(2:Int)^min (63:Int).toNat IntKind.u64.bits=((9223372036854775808:Nat):Int) from J,kK _ (by decide)];rfl
def aDm[h:BN a ia][k:BN b ib](hb:b<=a)(hi:ia<=1000000000:=by decide)(hj:ib<=1000000000:=by decide):PF GB prog 249 [dN a,dN b] (dN (a-b)):=by
 have hla:=bI (dg a);have hba:=iE (a:=a) hi;have hlb:=bI (dg b);have hbb:=iE (a:=b) hj;refine fn (fu:=⟨9⟩) func249 J J ntmps249 J J (fun C=>?_);refine aj 12 (.d (vI ((dg a).length:Nat))) J (by rw[hla]<;>rfl)<|gx J<|mk (fu:=⟨13⟩) ((List.replicate (dg a).length 0).map dU) J J (by rw[<-mH];rfl) J<|aj 15 (.d (vI ((dg a).length:Nat))) J (by rw[hla]<;>rfl)<|gx J<|lp (X:=List Nat×Nat×Nat) (fun⟨W,c,i⟩=>[(0, .d (dN a)),(1, .d (dN b)),(5, .rw 13),(6, .d (.v (.int .u64 (c:Nat)))),(14, .d (dN a)),(15, .d (vI ((dg a).length:Nat))),(16, .d (vI (i:Nat)))]) (fun⟨W,c,i⟩=>[(13,some (.b 225 1 (W.map dU) true))]) (fun⟨W,c,i⟩=>W.length=(dg a).length/\bB W/\c<=1/\i<=(dg a).length/\dv (W.take i)+dv ((dg b).take i)=dv ((dg a).take i)+4294967296^i*c) (fun⟨W,c,i⟩=>(dg a).length-i) ⟨List.replicate (dg a).length 0,0,0⟩ J ⟨by simp, .replicate _,by omega,by omega,by simp[dv]⟩ (fun _=>J) (fun⟨W,c,i⟩ hk=>?_)
 try dsimp only at hk⊢
 obtain⟨h1,h2,h3,h4,h5⟩:=hk;have hlw:=bI W;have hda:=dt a i;have hdb:=dt b i;obtain⟨t,ht⟩: ∃t,t=(dg b).getD i 0+c:=⟨_,rfl⟩;obtain⟨v,hv⟩: ∃v:Nat,v=if(dg a).getD i 0<t then(dg a).getD i 0+18446744073709551616-t else(dg a).getD i 0-t:=⟨_,rfl⟩
 obtain⟨d,hd⟩: ∃d:Nat,d=if(dg a).getD i 0<(dg b).getD i 0+c then(dg a).getD i 0+4294967296-((dg b).getD i 0+c) else(dg a).getD i 0-((dg b).getD i 0+c):=⟨_,rfl⟩
 obtain⟨c2,hc2⟩: ∃d:Nat,d=if(dg a).getD i 0<(dg b).getD i 0+c then 1 else 0:=⟨_,rfl⟩
 have hvd:v%4294967296=d:=by rw[hv,hd,<-ht];split<;>omega
 have hvc:v/9223372036854775808=c2:=by rw[hv,hc2,<-ht];split<;>omega
 refine br J J J (fun hc17=>?_) (fun hc17=>?_)
 .
  refine ix (fu:=⟨12⟩) _ J (eo) J<|mg (fu:=⟨5⟩) (X:=Unit) (fun _=>[(0, .d (dN a)),(1, .d (dN b)),(5, .rw 13),(6, .d (.v (.int .u64 (c:Nat)))),(14, .d (dN a)),(15, .d (vI ((dg a).length:Nat))),(16, .d (vI (i:Nat))),(7, .d (vI (i:Nat))),(8, .d (dU ((dg a).getD i 0))),(9, .d (.v (.int .u64 (t:Nat))))]) (fun _=>[(13,some (.b 225 1 (W.map dU) true))]) (fun _=>True) [0,1,5,6,14,15,16,7,8,9] [13] rfl ?_ (fun _=>J) (fun _ _=>?_)
  .
   refine gx (fu:=⟨5⟩) J<|aj 24 (.d (vI ((dg b).length:Nat))) J (by rw[hlb]<;>rfl)<|gx J<|br J J J (fun hc25=>?_) (fun hc25=>?_)
   .
    refine ix _ J (eo) J<|aj 9 (.d (.v (.int .u64 (t:Nat)))) J (by show FX.d (.v (.int _ _))= .d (.v (.int _ _));congr 3;omega)<|at_ () trivial
   .
    have hz:=pG (ds:=dg b) (i:=i);refine aj 9 (.d (.v (.int .u64 (t:Nat)))) J (by show FX.d (.v (.int _ _))= .d (.v (.int _ _));congr 3;omega)<|at_ () trivial
  .
   refine sd (fu:=⟨9⟩) ((v:Nat):Int) J (by rw[hv];exact ar4 hda (by omega)) J<|aj 40 (.d (dU d)) J (by show FX.d (.v (.int _ _))= .d (.v (.int _ _));congr 3;omega)<|gx J<|sb (fu:=⟨5⟩) (hv:=by simp only[ak];exact(by decide)) _ ((W.set i d).map dU) J (eo) J (by rw[<-je];rfl) J<|aj 43 (.d (.v (.int .u64 (c2:Nat)))) J (by rw[Id,hvc])<|gx J<|at_ ⟨W.set i d,c2,i+1⟩ (by dsimp only;exact⟨⟨by simpa using h1,h2.set _ (by rw[hd];split<;>omega),by rw[hc2];split<;>omega,by omega,MS (f9 a) (f9 b) (by omega) h3 h5 hd hc2⟩,(by omega)⟩)
 .
  obtain rfl:i=(dg a).length:=by omega
  refine fz 13 J J<|cl J (sk (ds:=W)) J<|rz J (k8 h2 (P3 h2 h1 hb h5))
def Q3[h:BN a i][k:BN b j](hi:i<=1000000000:=by decide)(hj:j<=1000000000:=by decide):PF GB prog 183 [dN a,dN b] (.tp [dN (a-b),vB (decide (b<=a))]):=by
 have hla:=bI (dg a);have hba:=iE (a:=a) hi;have hlb:=bI (dg b);have hbb:=iE (a:=b) hj;refine fn func183 J J ntmps183 J J (fun C=>?_);refine cl J (Qc (a:=a) (b:=b) hi hj) J<|br J J J (fun hc9=>?_) (fun hc9=>?_)
 .
  exact rz J (by rw[show a-b=0 by have:=zq (a:=a) (b:=b);omega,decide_eq_false (by have:=zq (a:=a) (b:=b);omega),lO];rfl)
 .
  refine cl J (og) J<|cl J (og) J<|cl J (aDm (by have:=zq (a:=a) (b:=b);omega) hi hj) J<|rz J (by rw[decide_eq_true (by have:=zq (a:=a) (b:=b);omega)];rfl)
def yf[h:BN a ia][k:BN b ib](hi:ia<=1000000000:=by decide)(hj:ib<=1000000000:=by decide):PF GB prog 113 [dN a,dN b] (dN (a*b)):=by
 have hla:=bI (dg a);have hba:=iE (a:=a) hi;have hlb:=bI (dg b);have hbb:=iE (a:=b) hj;refine fn func113 J J ntmps113 J J (fun C=>?_);refine cl J (og) J<|cl (fu:=⟨8⟩) J (og) J<|aj 16 (.d (vI ((dg a).length:Nat))) J (by rw[hla]<;>rfl)<|gx (fu:=⟨2⟩) J<|aj 18 (.d (vI ((dg b).length:Nat))) J (by rw[hlb]<;>rfl)<|gx (fu:=⟨1⟩) J<|aj 19 (.d (vI ((dg a).length+(dg b).length:Nat))) J (by show FX.d (.v (.int _ _))= .d (.v (.int _ _));congr 3)<|gx J<|mk (fu:=⟨8⟩) ((List.replicate ((dg a).length+(dg b).length) 0).map dU) J J (by rw[<-mH];rfl) J<|aj 22 (.d (vI ((dg a).length:Nat))) J (by rw[hla]<;>rfl)<|gx J<|lp (X:=List Nat×Nat) (fun⟨W,i⟩=>[(0, .d (dN a)),(1, .d (dN b)),(5, .rw 20),(21, .d (dN a)),(22, .d (vI ((dg a).length:Nat))),(23, .d (vI (i:Nat)))]) (fun⟨W,i⟩=>[(20,some (.b 225 1 (W.map dU) true))]) (fun⟨W,i⟩=>W.length=(dg a).length+(dg b).length/\bB W/\i<=(dg a).length/\dv (W.take (i+(dg b).length))=dv ((dg a).take i)*b) (fun⟨W,i⟩=>(dg a).length-i) ⟨List.replicate ((dg a).length+(dg b).length) 0,0⟩ J ⟨by simp, .replicate _,by omega,by rw[qQ,w6];simp[dv]⟩ (fun _=>J) (fun⟨W,i⟩ hk=>?_)
 try dsimp only at hk⊢
 obtain⟨h1,h2,h3,h4⟩:=hk;refine br J J J (fun hc24=>?_) (fun hc24=>?_)
 .
  refine ix (fu:=⟨15⟩) _ J (eo) J<|aj 29 (.d (vI ((dg b).length:Nat))) J (by rw[hlb]<;>rfl)<|gx J<|lp (X:=List Nat×Nat×Nat) (fun⟨W2,c,k⟩=>[(0, .d (dN a)),(1, .d (dN b)),(5, .rw 20),(6, .d (vI (i:Nat))),(7, .d (dU ((dg a).getD i 0))),(8, .d (.v (.int .u64 (c:Nat)))),(21, .d (dN a)),(22, .d (vI ((dg a).length:Nat))),(23, .d (vI (i:Nat))),(28, .d (dN b)),(29, .d (vI ((dg b).length:Nat))),(30, .d (vI (k:Nat)))]) (fun⟨W2,c,k⟩=>[(20,some (.b 225 1 (W2.map dU) true))]) (fun⟨W2,c,k⟩=>W2.length=(dg a).length+(dg b).length/\bB W2/\c<4294967296/\k<=(dg b).length/\dv (W2.take (i+(dg b).length))+4294967296^(i+k)*c=dv ((dg a).take i)*b+(dg a).getD i 0*(4294967296^i*dv ((dg b).take k))) (fun⟨W2,c,k⟩=>(dg b).length-k) ⟨W,0,0⟩ J ⟨h1,h2,by omega,by omega,by rw[h4];simp[dv]⟩ (fun _=>J) (fun⟨W2,c,k⟩ hk=>?_)
  try dsimp only at hk⊢
  obtain⟨g1,g2,g3,g4,g5⟩:=hk;have hlw:=bI W2;have hw:=g2.get (i+k);have hda:=dt a i;have hdb:=dt b k;refine br (fu2:=⟨10⟩) J J J (fun hc31=>?_) (fun hc31=>?_)
  .
   refine ix (fu:=⟨13⟩) (hv:=by simp only[ak];exact⟨⟨by omega,by omega⟩,⟨(AB _ _),(zy (dt _ _) (dt _ _))⟩⟩) _ J (eo) J<|?_;obtain⟨p,hp⟩: ∃p,p=(dg a).getD i 0*(dg b).getD k 0:=⟨_,rfl⟩;have hp1:p<=18446744065119617025:=hp▸CE hda hdb;refine aj 40 (.d (.v (.int .u64 (p:Nat)))) J (by rw[hp,iU])<|gx J<|lb (fu:=⟨3⟩) _ J (cv (k:=i+k)) J<|?_;obtain⟨t,ht⟩: ∃t,t=p+W2.getD (i+k) 0+c:=⟨_,rfl⟩;refine aj 49 (.d (.v (.int .u64 (t:Nat)))) J (by show FX.d (.v (.int _ _))= .d (.v (.int _ _));congr 3;omega)<|gx (fu:=⟨11⟩) J<|aj 55 (.d (dU (t%4294967296))) J (by show FX.d (.v (.int _ _))= .d (.v (.int _ _));congr 3)<|gx J<|sb (fu:=⟨5⟩) (hv:=by simp only[ak];exact(by decide)) _ ((W2.set (i+k) (t%4294967296)).map dU) J (cv (k:=i+k)) J (by(rw[show((i:Int)+k).toNat=i+k by omega,<-je])<;>rfl) J<|aj 58 (.d (.v (.int .u64 (t/4294967296:Nat)))) J (by rw[oy])<|gx J<|at_ ⟨W2.set (i+k) (t%4294967296),t/4294967296,k+1⟩ (by dsimp only;exact⟨⟨by simpa using g1,g2.set _ (by omega),by omega,by omega,by rw[nH];exact MO (by omega) (by omega) g5 ht hp⟩,(by omega)⟩)
  .
   obtain rfl:k=(dg b).length:=by omega
   refine aj 63 (.d (vI ((dg b).length:Nat))) J (by rw[hlb]<;>rfl)<|gx (fu:=⟨3⟩) J<|aj 66 (.d (dU c)) J (by show FX.d (.v (.int _ _))= .d (.v (.int _ _));congr 3;omega)<|gx J<|sb _ ((W2.set (i+(dg b).length) c).map dU) J (cv (k:=i+(dg b).length)) J (by(rw[show((i:Int)+((dg b).length:Nat)).toNat=i+(dg b).length by omega,<-je])<;>rfl) J<|at_ ⟨W2.set (i+(dg b).length) c,i+1⟩ (by dsimp only;exact⟨⟨by simpa using g1,g2.set _ g3,by omega,NY J (by omega) g5⟩,(by omega)⟩)
 .
  obtain rfl:i=(dg a).length:=by omega
  refine fz 20 J J<|cl J (sk (ds:=W)) J<|rz J (k8 h2 (by have:=h4;rw[kp,kp,c8] at this;exact this))
def Yu{h l y:Nat}(hh:h<y)(hl:l<4294967296)(hy:y<4294967296):PF GB prog 207 [.v (.int .u32 (h:Int)), .v (.int .u32 (l:Int)), .v (.int .u32 (y:Int))] (.tp [dU ((h*4294967296+l)/y),dU ((h*4294967296+l)%y)]):=by
 refine fn (fu:=⟨11⟩) func207 J J ntmps207 J J (fun C=>?_);refine kT 10 J (by omega)<|gx (fu:=⟨4⟩) J<|kF 14 J (by omega)<|gx (fu:=⟨11⟩) (hv:=by simp only[ak];exact⟨by omega,(by decide)⟩) J<|aj 19 (.d (.v (.int .u64 (h*2^32:Nat)))) J (by show FX.d (.v (.int _ _))= .d (.v (.int _ _));rw[pq _ 32 (by decide) (by show _*4294967296<_;omega) J])<|gx (fu:=⟨3⟩) J<|aj 22 (.d (.v (.int .u64 (l+h*2^32:Nat)))) J (congrArg (fun z:Nat=>FX.d (.v (.int .u64 (z:Int)))) (by rw[BitVec.or_comm];exact pB 64 l h 32 hl (by show _+_*4294967296<18446744073709551616;omega))) ?_;obtain⟨t,ht⟩: ∃t,t=h*4294967296+l:=⟨_,rfl⟩;have hq:t/y<4294967296:=by rw[kZ (by omega)];have:=fR 4294967296 (show h+1<=y from hh);omega
 have hr:t%y<y:=dK _ (by omega);refine aj 22 (.d (.v (.int .u64 (t:Nat)))) J (by show FX.d (.v (.int _ _))= .d (.v (.int _ _));congr 3;rw[ht];omega)<|gx (hv:=by simp only[ak];exact⟨⟨⟨⟨by omega,⟨(by omega),(by omega),(by omega)⟩⟩,by omega⟩,⟨(by omega),(by omega)⟩⟩,by kernel_rfl⟩) J<|rz J (by show DV.tp [.v (.int _ _), .v (.int _ _)]= .tp [.v (.int _ _), .v (.int _ _)];rw[<-ht,<-sQ,<-Int.natCast_emod];generalize t/y=q at*;generalize t%y=r at*;congr 4<;>(first|omega|(congr 3;omega)))
def UG{A r i:Nat}(d:Nat)(hb:0<b):(A*4294967296+d)/b=A/b*4294967296+(A%b*4294967296+d)/b/\(A*4294967296+d)%b=(A%b*4294967296+d)%b:=by
 have h:=qT A b;have e:A*4294967296+d=(A%b*4294967296+d)+b*(A/b*4294967296):=by
  rw[<-cV,Nat.add_right_comm,<-dV,kU (A%b),h]
 rw[e,pV _ _ hb,pS];exact⟨kU _ _,J⟩
def Rm(h:i<ds.length):dv (ds.drop i)=dv (ds.drop (i+1))*4294967296+ds.getD i 0:=by
 rw[bK h,aW,aZ h];simp only[dv,lJ];omega
def P2{q:Nat}(h:i<W.length):dv ((W.set i q).drop i)=dv (W.drop (i+1))*4294967296+q:=by
 rw[Rm (by rw[aN];exact h),sL (by omega),A4 h]
def YE(hb:0<b)(hk:k<(dg a).length)(hl:W.length=(dg a).length)(h:dv (W.drop (k+1))=dv ((dg a).drop (k+1))/b):
  dv ((W.set k ((dv ((dg a).drop (k+1))%b*4294967296+(dg a).getD k 0)/b)).drop k)=dv ((dg a).drop k)/b/\dv ((dg a).drop k)%b=(dv ((dg a).drop (k+1))%b*4294967296+(dg a).getD k 0)%b:=by
 have:=UG (A:=dv ((dg a).drop (k+1))) (r:=0) (i:=0) ((dg a).getD k 0) hb;rw[P2 (by omega),h,Rm hk,this.1,this.2];exact⟨J,J⟩
def y8:iB a b<0↔a<b:=by unfold iB;split<;>(try split)<;>omega
def Bt:0<iB a b↔b<a:=by unfold iB;split<;>(try split)<;>omega
def ID(hx:x<4294967296):PF GB prog 251 [dU x] (vI (32-(bl x:Int))):=by
 intro G vs hg hv;obtain⟨v,m,rfl,h1,h2⟩:=bi.1 hv;rw[d8] at h2;subst h2;rw[aH.1 h1];exact(Td hx).mono fun v G' _ h=>aH.2 h
def R5(h:4294967296^k<=a):k<(dg a).length:=by
 have h1:=rg a;rcases jZ k (dg a).length with q|q
 .exact q
 .have:4294967296^(dg a).length<=4294967296^k:=bR (by decide) q
  omega
def Oh(hL:L=(dg v).length)(h1:1<=L):(dg v).getD (L-1) 0=v/4294967296^(L-1)/\0<v/4294967296^(L-1):=by
 have h:=DQ (f9 v) (L-1);rw[pG (by omega:(dg v).length<=L-1+1),c8,tQ,gX] at h;have h2:=rg v;rw[<-hL] at h2;rw[mZ (show v<4294967296^(L-1+2) from dZ h2 (bR (by decide) (by omega))),tQ,gX] at h;have h3:=uR (fE v).2.2 (by intro e;rw[e] at hL;simp at hL;omega);rw[c8,<-hL] at h3;exact⟨h.symm,Nat.div_pos h3 (fN (by decide))⟩
def FC(h1:1<=n)(h:R<4294967296^(n+1)):R/4294967296^(n-1)=(dg R).getD (n-1) 0+(dg R).getD n 0*4294967296:=by
 have e:=DQ (f9 R) (n-1);rw[c8,show n-1+1=n by omega,mZ (show R<4294967296^(n-1+2) by rwa [show n-1+2=n+1 by omega]),tQ,gX,cJ] at e;exact e
def axL{R v j L:Nat}(hL:L=(dg v).length)(h1:1<=L)(hR:R<v*4294967296^(j+1)):R/(v*4294967296^j)<=min (R/4294967296^(L+j-1)/(v/4294967296^(L-1))) 4294967295:=by
 have ht:=(Oh hL h1).2;have hp:0<4294967296^j:=fN (by decide);have hv0:0<v:=by
  rcases fU v with q|q
  .subst q;simp at ht
  .exact q
 have hvp:0<v*4294967296^j:=jQ hv0 hp;refine Nat.le_min.2 ⟨?_,?_⟩
 .rw[rN ht,rN (fN (by decide))]
  have h3:v/4294967296^(L-1)*4294967296^(L-1)<=v:=Nat.div_mul_le_self _ _;have h4:R/(v*4294967296^j)*(v*4294967296^j)<=R:=Nat.div_mul_le_self _ _;rw[show L+j-1=L-1+j by omega,fX]
  calc R/(v*4294967296^j)*(v/4294967296^(L-1))*(4294967296^(L-1)*4294967296^j)
    =R/(v*4294967296^j)*((v/4294967296^(L-1)*4294967296^(L-1))*4294967296^j):=by simp only[cV]
   _<=R/(v*4294967296^j)*(v*4294967296^j):=fR _ (bT _ h3)
   _<=R:=h4
 .have:R/(v*4294967296^j)<4294967296:=by
   rw[kZ hvp];rw[gR] at hR;rwa [cJ,cV]
  omega
def Eg(hV:0<V)(h:R<V*g):R/V<g:=by
 rw[kZ hV,cJ];exact h
def TZ(hV:0<V)(h1:R/V<=g)(h2:V*g<=R):g=R/V:=by
 have:g<=R/V:=by rw[rN hV,cJ];exact h2
 omega
def LJ{R0 R v j g:Nat}{W:List Nat}(hj:j<W.length)(h:R0=R+dv (W.drop (j+1))*4294967296^(j+1)*v)(hv:0<v*4294967296^j)(hg:g=R/(v*4294967296^j)):
  R0=(R-v*4294967296^j*g)+dv ((W.set j g).drop j)*4294967296^j*v/\R-v*4294967296^j*g<v*4294967296^j:=by
 have h1:=qT R (v*4294967296^j);have h2:=dK R hv;rw[<-hg] at h1;refine⟨?_,by omega⟩;rw[P2 hj,dV,dV,h,gR];have e:g*4294967296^j*v=v*4294967296^j*g:=by simp only[cV,mV,cJ]
 have e2:dv (W.drop (j+1))*(4294967296^j*4294967296)*v=dv (W.drop (j+1))*4294967296*4294967296^j*v:=by simp only[cV,mV,cJ]
 rw[e,e2];omega
def ax4{a b s R:Nat}{D:Nat}(hR:R<b*2^s)(h:a*2^s=R+D*(b*2^s)):D=a/b/\R/2^s=a%b:=by
 have hp:0<2^s:=fN (by decide);have hb:0<b:=by
  rcases fU b with q|q
  .subst q;simp at hR
  .exact q
 have h1:a=R/2^s+D*b:=by
  have:=congrArg (· /2^s) h;rw[Nat.mul_div_cancel _ hp,<-cV,Nat.add_mul_div_right _ _ hp] at this;exact this
 have h2:R/2^s<b:=by rw[kZ hp];exact hR
 have h3:R/2^s+b*D=a:=by rw[cJ b];exact h1.symm
 have:=(Nat.div_mod_unique hb).2 ⟨h3,h2⟩;exact⟨this.1.symm,this.2.symm⟩
def YQ{a b s:Nat}(hl:(dg b).length<=(dg a).length)(h2:1<=(dg b).length):a*2^s<b*2^s*4294967296^((dg a).length-(dg b).length+1):=by
 have h1:=rg a;have h3:=uR (fE b).2.2 (by intro e;rw[e] at h2;simp at h2);rw[c8] at h3;have h4:4294967296^(dg a).length<=b*4294967296^((dg a).length-(dg b).length+1):=by
  rw[show(dg a).length=((dg b).length-1)+((dg a).length-(dg b).length+1) by omega,fX];rw[show(dg b).length-1+((dg a).length-(dg b).length+1)-(dg b).length+1=(dg a).length-(dg b).length+1 by omega];exact bT _ h3
 rw[mM];exact mT (dZ h1 h4) (fN (by decide))
def Mg(x j:Nat):x*2^(32*j)=x*4294967296^j:=by rw[tK]
def YF(h:R<4294967296^(L+j+1))(h1:1<=L):R/4294967296^(L+j-1)<18446744073709551616:=by
 rw[kZ (fN (by decide)),show(18446744073709551616:Nat)=4294967296^2 from J,<-fX];rwa [show 2+(L+j-1)=L+j+1 by omega]
def XG(hL:L=(dg v).length)(hR:R<v*4294967296^(j+1)):R<4294967296^(L+j+1):=by
 have h:=rg v;rw[<-hL] at h;rw[kN,fX];exact dZ hR (bT _ (gJ h))
def TL{a b ia ib:Nat}[ha:BN a ia][hb:BN b ib](hi:ia<=500000000)(hj:ib<=500000000)(h2:1<=(dg b).length)(hl:(dg b).length<=(dg a).length):PF GB prog 208 [dN a,dN b] (.tp [dN (a/b),dN (a%b)]):=by
 have hla:=bI (dg a);have hlb:=bI (dg b);have hba:=kt ha.h;have hba':(dg a).length<=20000000:=by omega
 refine fn func208 J J ntmps208 J J (fun C=>?_);refine ix _ J (cv (k:=(dg b).length-1)) J<|cl (fu:=⟨0⟩) J (ID (dt b ((dg b).length-1))) J<|?_;obtain⟨s,hs⟩: ∃s:Nat,s=32-bl ((dg b).getD ((dg b).length-1) 0):=⟨_,rfl⟩;have hs32:s<=32:=by omega
 refine aj 22 (.d (vI (s:Nat))) J (by show FX.d (.v (.int _ _))= .d (.v (.int _ _));congr 3;have:=n9.2 (show(dg b).getD ((dg b).length-1) 0<2^32 from dt b _);omega)<|gx J<|cl J (Cq (a:=b) (k:=s) (ia:=ib) (by omega) (by omega)) J<|cl (fu:=⟨0⟩) J (Cq (a:=a) (k:=s) (ia:=ia) (by omega) (by omega)) J<|?_;obtain⟨v,hv⟩: ∃v,v=b*2^s:=⟨_,rfl⟩;obtain⟨R0,hR0⟩: ∃R0,R0=a*2^s:=⟨_,rfl⟩;refine aj 25 (.d (dN v)) J (by rw[hv])<|aj 28 (.d (dN R0)) J (by rw[hR0]) ?_;obtain⟨L,hL⟩: ∃L,L=(dg v).length:=⟨_,rfl⟩;have hlv:((dg v).map dU).length=L:=by rw[bI,hL]
 have hps:2^s<=2^32:=bR (by decide) hs32;have hpp:0<2^s:=fN (by decide);have hst:=YQ (a:=a) (b:=b) (s:=s) hl h2;rw[<-hv,<-hR0] at hst;have hvb:v<2^(ib+32):=by rw[hv,fX];exact nQ hb.h hps (by decide)
 have hRb:R0<2^(ia+32):=by rw[hR0,fX];exact nQ ha.h hps (by decide)
 have hbp:0<b:=iK (fun q=>by subst q;rw[tU] at h2;simp at h2);have hvp:0<v:=hv▸jQ hbp hpp;have hLp:1<=L:=by rw[hL];exact R5 (k:=0) (by rw[tX];exact hvp)
 have htop:=Oh hL hLp;haveI hvB:BN v (ib+32):=⟨hvb⟩;have hLb:=kt hvb;have hLb':L<=20000000:=by omega
 have htl:=dt v (L-1);refine gx (fu:=⟨9⟩) J<|aj 31 (.d (vI (L:Nat))) J (by rw[hlv];rfl)<|gx J<|ix (fu:=⟨2⟩) _ J (cv (k:=L-1)) J<|aj 35 (.d (.v (.int .u64 (v/4294967296^(L-1):Nat)))) J (by rw[htop.1]) ?_;rw[htop.1] at htl;refine gx (fu:=⟨11⟩) J<|?_;obtain⟨m,hm⟩: ∃m,m=(dg a).length-(dg b).length+1:=⟨_,rfl⟩;rw[<-hm] at hst;have hrl:(List.replicate ((m:Nat):Int).toNat (DV.v (.int .u32 0))).length=m:=by rw[aS,cK]
 refine aj 41 (.d (vI (m:Nat))) J (by show FX.d (.v (.int _ _))= .d (.v (.int _ _));congr 3;omega)<|gx J<|mk ((List.replicate m 0).map dU) J J (by rw[<-mH];rfl) J<|lp (X:=List Nat×Nat×Nat) (fun⟨W,R,k⟩=>[(6, .d (vI (s:Nat))),(7, .d (dN v)),(8, .d (dN R)),(9, .d (.v (.int .u64 (v/4294967296^(L-1):Nat)))),(10, .rw 42),(11, .d (vI ((k:Nat)-1)))]) (fun⟨W,R,k⟩=>[(42,some (.b 225 1 (W.map dU) true))]) (fun⟨W,R,k⟩=>W.length=m/\bB W/\k<=m/\R0=R+dv (W.drop k)*4294967296^k*v/\R<v*4294967296^k/\R<=R0) (fun⟨W,R,k⟩=>k) ⟨List.replicate m 0,R0,m⟩ J ⟨by simp, .replicate _,bW _,by simp[dv],hst,bW _⟩ (fun _=>J) (fun⟨W,R,k⟩ hk=>?_);dsimp only at hk⊢;obtain⟨h1,h2',h3,h4,h5,h6⟩:=hk;have hlw:=bI W;refine br (fu1:=⟨10⟩) J J J (fun hc47=>?_) (fun hc47=>?_)
 .
  obtain⟨j,rfl⟩: ∃j,k=j+1:=⟨k-1,by omega⟩;have hvj:0<v*4294967296^j:=jQ hvp (fN (by decide));have hge:=axL hL hLp h5;have hlen:=XG hL h5;have hlr:((dg R).map dU).length=(dg R).length:=bI _;haveI hRB:BN R (ia+32):=⟨by omega⟩;have hq32:R/(v*4294967296^j)<4294967296:=by omega
  have hz1:=Int.natCast_nonneg (R/4294967296^(L+j-1));have hz2:=Int.natCast_nonneg (R/4294967296^(L+j-1)/(v/4294967296^(L-1)));refine aj 11 (.d (vI (j:Nat))) J (by show FX.d (.v (.int _ _))= .d (.v (.int _ _));congr 3;omega)<|mg (fu:=⟨6⟩) (hv:=fun _ _=>by simp only[ak];exact⟨(by omega),(by have:=YF hlen hLp;omega),(by omega)⟩) (X:=Unit) (fun _=>[(6, .d (vI (s:Nat))),(7, .d (dN v)),(8, .d (dN R)),(9, .d (.v (.int .u64 (v/4294967296^(L-1):Nat)))),(10, .rw 42),(11, .d (vI (j:Nat))),(12, .d (.v (.int .u64 (R/4294967296^(L+j-1):Nat))))]) (fun _=>[(42,some (.b 225 1 (W.map dU) true))]) (fun _=>True) [6,7,8,9,10,11,12] [42] rfl ?_ (fun _=>J) (fun _ hm=>?_)
  .
   refine gx (fu:=⟨4⟩) J<|aj 51 (.d (vI (L:Nat))) J (by rw[hlv];rfl)<|gx (fu:=⟨2⟩) J<|aj 53 (.d (vI (L+j:Nat))) J (by show FX.d (.v (.int _ _))= .d (.v (.int _ _));congr 3)<|gx (fu:=⟨8⟩) J<|aj 56 (.d (vI ((dg R).length:Nat))) J (by rw[hlr];rfl)<|gx J<|br (fu2:=⟨6⟩) J J J (fun hc57=>?_) (fun hc57=>?_)
   .
    have hd0:=dt R (L+j-1);have hd1:=dt R (L+j);refine ix (hv:=by simp only[ak];exact⟨⟨by omega,(by decide)⟩,by omega⟩) _ J (cv (k:=L+j)) J<|ix (fu:=⟨3⟩) _ J (cv (k:=L+j-1)) J<|aj 70 (.d (.v (.int .u64 ((dg R).getD (L+j-1) 0+(dg R).getD (L+j) 0*4294967296:Nat)))) J (congrArg (fun z:Nat=>FX.d (.v (.int .u64 (z:Int)))) (by rw[pq _ 32 (by decide) (by show _*4294967296<_;omega) J,BitVec.or_comm];exact pB 64 ((dg R).getD (L+j-1) 0) ((dg R).getD (L+j) 0) 32 hd0 (by show _+_*4294967296<18446744073709551616;omega)))<|gx J<|aj 12 (.d (.v (.int .u64 (R/4294967296^(L+j-1):Nat)))) J (by rw[FC (by omega) hlen])<|at_ () trivial
   .
    refine aj 74 (.d (vI ((dg R).length:Nat))) J (by rw[hlr];rfl)<|gx J<|br J J J (fun hc75=>?_) (fun hc75=>?_)
    .
     have hd0:=dt R (L+j-1);refine ix _ J (cv (k:=L+j-1)) J<|aj 12 (.d (.v (.int .u64 (R/4294967296^(L+j-1):Nat)))) J (by rw[FC (by omega) hlen,pG (by omega:(dg R).length<=L+j),kX,gX])<|at_ () trivial
    .
     refine aj 12 (.d (.v (.int .u64 (R/4294967296^(L+j-1):Nat)))) J (by rw[FC (by omega) hlen,pG (by omega:(dg R).length<=L+j),pG (by omega:(dg R).length<=L+j-1)];rfl)<|at_ () trivial
  .
   obtain⟨g0,hg0'⟩: ∃g0,g0=min (R/4294967296^(L+j-1)/(v/4294967296^(L-1))) 4294967295:=⟨_,rfl⟩;rw[<-hg0'] at hge;have hg0:=hge;have hg1:g0<=4294967295:=by omega
   refine aj 85 (.d (.v (.int .u64 (g0:Nat)))) J (by show FX.d (.v (.int _ _))= .d (.v (.int _ _));congr 3;rw[<-sQ];split<;>omega)<|gx J<|cl J (uG (u:=g0)) J<|cl (fu:=⟨2⟩) J (qg (ia:=ib+32) (ib:=32) (hb:=⟨by show _<4294967296;omega⟩) (by omega) (by decide)) J<|aj 91 (.d (vI (32*j:Nat))) J (by show FX.d (.v (.int _ _))= .d (.v (.int _ _));congr 3)<|gx J<|cl (fu:=⟨0⟩) J (Cq (k:=32*j) (ia:=ib+64) (ha:=⟨by rw[show ib+64=ib+32+32 by omega,fX];exact oY hvb (by show _<4294967296;omega)⟩) (by omega) (by omega)) J<|aj 92 (.d (dN (v*4294967296^j*g0))) J (by rw[Mg,mM])<|gx J<|lp (X:=Nat) (fun g=>[(6, .d (vI (s:Nat))),(7, .d (dN v)),(8, .d (dN R)),(9, .d (.v (.int .u64 (v/4294967296^(L-1):Nat)))),(10, .rw 42),(11, .d (vI (j:Nat))),(14, .d (.v (.int .u64 (g:Nat)))),(15, .d (dN (v*4294967296^j*g)))]) (fun g=>[(42,some (.b 225 1 (W.map dU) true))]) (fun g=>R/(v*4294967296^j)<=g/\g<=4294967295) (fun g=>g) g0 J ⟨hg0,by omega⟩ (fun _=>J) (fun g hk=>?_);obtain⟨g1,g2⟩:=hk;have hlw:=bI W;refine cl J (x7 (a:=v*4294967296^j*g) (b:=R) (by have:=BF (a:=v*4294967296^j*g) (k:=L+j+1) (by have h1:=rg v;rw[<-hL] at h1;rw[gR,fX];exact oY (mT h1 (fN (by decide))) (by omega));omega) (by have:=BF hlen;omega)) J<|br (fu1:=⟨7⟩) (v1:=fun hc96=>by simp only[ak];exact(by have h:=Eg hvj (Bt.1 hc96);have h1:1<=g:=fK (bJ _) h;omega)) (fu2:=⟨11⟩) J J J (fun hc96=>?_) (fun hc96=>?_)
   .
    have hgd:=Eg hvj (Bt.1 hc96);have hg1p:1<=g:=fK (bJ _) hgd;refine aj 98 (.d (.v (.int .u64 ((g-1:Nat):Int)))) J (by show FX.d (.v (.int _ _))= .d (.v (.int _ _));congr 3;omega)<|gx J<|cl J (uG (u:=g-1)) J<|cl (fu:=⟨2⟩) J (qg (ia:=ib+32) (ib:=32) (hb:=⟨by show _<4294967296;omega⟩) (by omega) (by decide)) J<|aj 104 (.d (vI (32*j:Nat))) J (by show FX.d (.v (.int _ _))= .d (.v (.int _ _));congr 3)<|gx J<|cl (fu:=⟨0⟩) J (Cq (k:=32*j) (ia:=ib+64) (ha:=⟨by rw[show ib+64=ib+32+32 by omega,fX];exact oY hvb (by show _<4294967296;omega)⟩) (by omega) (by omega)) J<|aj 105 (.d (dN (v*4294967296^j*(g-1)))) J (by rw[Mg,mM])<|gx J<|at_ (g-1) ⟨⟨by have h:=Eg hvj (Bt.1 hc96);omega,by omega⟩,(by have:=Eg hvj (Bt.1 hc96);omega)⟩
   .
    have hgq:=TZ hvj g1 (sZ fun q=>hc96 (Bt.2 q));refine aj 109 (.d (dU g)) J (by show FX.d (.v (.int _ _))= .d (.v (.int _ _));congr 3;omega)<|gx J<|sb _ ((W.set j (R/(v*4294967296^j))).map dU) J (cv (k:=j)) J (by(rw[<-hgq,cK,<-je])<;>rfl) J<|cl (fu:=⟨0⟩) J (In (a:=R) (b:=v*4294967296^j*g) (ia:=ia+32) (by rw[hgq];exact Nat.mul_div_le _ _) (by omega)) J<|aj 113 (.d (dN (R-v*4294967296^j*(R/(v*4294967296^j))))) J (by rw[hgq])<|gx J<|at_ ⟨W.set j (R/(v*4294967296^j)),R-v*4294967296^j*(R/(v*4294967296^j)),j⟩ (by dsimp only;exact⟨⟨by simpa using h1,h2'.set _ (by omega),by omega,(LJ (by omega) h4 hvj J).1,(LJ (by omega) h4 hvj J).2,by omega⟩,(by omega)⟩)
 .
  obtain rfl:k=0:=by omega
  rw[tX,iN] at h5;rw[tX,iN,iQ,hR0,hv] at h4;rw[hv] at h5;have hend:=ax4 h5 h4;haveI hRB:BN R (ia+32):=⟨by omega⟩;refine fz 42 J J<|cl J (qe (ds:=W)) J<|cl J (aCm (a:=R) (k:=s) (ia:=ia+32) (by omega) (by omega)) J<|rz J (by show DV.tp [dk _,dN _]= .tp [dN _,dN _];rw[k8 h2' hend.1,hend.2])
def Yo(hl:ds.length<=1125899906842624):PB GB prog 193 (fi [none]) 1 225 (ds.map dU) (fun w=> .v (.slice w.a w.n w.c)) ((trimD ds).map dU):=by
 refine Co func193 J J ntmps193 J J (fun C=>?_);refine lp (fu:=⟨5⟩) (X:=List Nat) (fun W=>[(0, .rw 1000000)]) (fun W=>[(1000000,some (.b 225 1 (W.map dU) false))]) (fun W=>trimD ds=trimD W/\W.length<=ds.length) (fun W=>W.length) ds J ⟨J,bW _⟩ (fun _=>J) (fun W hk=>?_);obtain⟨h1,h2⟩:=hk;have hml:=bI W;refine aj 4 (.d (vI (W.length:Nat))) J (by rw[hml]<;>rfl)<|gx J<|cs (fu1:=⟨3⟩) 6 J J J (fun hg6=>?_) (fun hg6=>?_)
 .
  refine aj 9 (.d (vI (W.length:Nat))) J (by rw[hml]<;>rfl)<|gx J<|lb _ J (cv (k:=W.length-1)) J<|br (fu1:=⟨7⟩) J J J (fun hc14=>?_) (fun hc14=>?_)
  .
   refine aj 17 (.d (vI (W.length:Nat))) J (by rw[hml]<;>rfl)<|gx (fu:=⟨1⟩) J<|aj 18 (.d (vI (W.length-1:Nat))) J (by show FX.d (.v (.int _ _))= .d (.v (.int _ _));congr 3;omega)<|gx (fu:=⟨0⟩) J<|N' ((W.take (W.length-1)).map dU) (W.length-1) J J (by rw[hml];omega) (by rw[iW]) J<|fm 19 1000000 J<|at_ (W.take (W.length-1)) ⟨⟨by rw[h1,Mz],by rw[bL];omega⟩,(by rw[bL];omega)⟩
  .
   exact uk J J J (by rw[h1,DT (fun _=>by omega)])
 .
  exact uk J J J (by rw[h1,DT (fun _=>by omega)])
def Um(h:0<(dg a).length):bl a=32*((dg a).length-1)+bl ((dg a).getD ((dg a).length-1) 0):=by
 have:=aHt (f9 a) (fE a).2.2 (fun e=>by rw[e] at h;exact absurd h (by decide));rwa [c8] at this
def AA(h:(dg a).length=0:=by omega):a=0:=by rw[<-c8 a,cR h];rfl
def ur[h:BN a i](hi:i<=1000000000:=by decide):PF GB prog 187 [dN a] (vI (bl a:Nat)):=by
 have hla:=bI (dg a);have hba:=iE (a:=a) hi;have hbl:bl ((dg a).getD ((dg a).length-1) 0)<=32:=n9.2 (dt a _);refine fn func187 J J ntmps187 J J (fun C=>?_);refine cl (fu:=⟨8⟩) J (og) J<|aj 6 (.d (vI ((dg a).length:Nat))) J (by rw[hla]<;>rfl)<|gx J<|br (fu2:=⟨6⟩) J J J (fun hc7=>?_) (fun hc7=>?_)
 .
  exact rz J (by rw[AA (a:=a)];rfl)
 .
  refine aj 9 (.d (vI ((dg a).length:Nat))) J (by rw[hla]<;>rfl)<|gx (fu:=⟨4⟩) J<|aj 13 (.d (vI ((dg a).length:Nat))) J (by rw[hla]<;>rfl)<|gx J<|ix _ J (cv (k:=(dg a).length-1)) J<|cl J (ID (dt a ((dg a).length-1))) J<|rz J (by show DV.v (.int _ _)=DV.v (.int _ _);have:=Um (a:=a) (by omega);congr 2;omega)
def Vt(h:a<18446744073709551616)(hi:i<(dg a).length):dv ((dg a).take i)<2^(32*i)/\dv ((dg a).take i)+(dg a).getD i 0*2^(32*i)=dv ((dg a).take (i+1))/\dv ((dg a).take (i+1))<18446744073709551616:=by
 have h1:=l8 ((f9 a).take i);rw[bL,jM (by omega)] at h1;have e:(2:Nat)^(32*i)=4294967296^i:=by rw[tK]
 have h2:=AV (dg a) (i+1);rw[c8] at h2;refine⟨by rw[e];exact h1,by rw[e,nH,cJ],?_⟩;have:=bJ (4294967296^(i+1)*dv ((dg a).drop (i+1)));omega
def VS(h:a<18446744073709551616):(dg a).length<=2:=by have:=kt (u:=a) (k:=64) h;omega
def AJ(h:a<18446744073709551616):PF GB prog 192 [dN a] (.tp [.v (.int .u64 (a:Nat)),vB true]):=by
 have hla:=bI (dg a);have hl2:=VS h;refine fn func192 J J ntmps192 J J (fun C=>?_);refine cl (fu:=⟨8⟩) J (og) J<|aj 10 (.d (vI ((dg a).length:Nat))) J (by rw[hla]<;>rfl)<|gx (fu:=⟨0⟩) J<|cF (fu:=⟨15⟩) J (by show some (decide _)=some false;rw[decide_eq_false (by omega)]) J<|aj 13 (.d (vI ((dg a).length:Nat))) J (by rw[hla]<;>rfl)<|gx J<|lp (X:=Nat) (fun i=>[(14, .d (vI (i:Nat))),(4, .d (.v (.int .u64 (dv ((dg a).take i):Nat))))]) (fun i=>[]) (fun i=>i<=(dg a).length) (fun i=>(dg a).length-i) 0 J (bJ _) (fun _=>J) (fun i hk=>?_);refine br J J J (fun hc15=>?_) (fun hc15=>?_)
 .
  obtain⟨u1,u2,u3⟩:=Vt h (i:=i) (by omega);have hda:=dt a i;refine ix (fu:=⟨12⟩) (hv:=by simp only[ak];exact⟨⟨by omega,by omega⟩,(by omega)⟩) _ J (eo) J<|aj 24 (.d (.v (.int .u64 ((dg a).getD i 0*2^(32*i):Nat)))) J (by show FX.d (.v (.int _ _))= .d (.v (.int _ _));rw[pq _ (32*i) (by omega) (by omega)])<|gx (fu:=⟨1⟩) J<|aj 25 (.d (.v (.int .u64 (dv ((dg a).take (i+1)):Nat)))) J (congrArg (fun z:Nat=>FX.d (.v (.int .u64 (z:Int)))) ((pB 64 _ _ (32*i) u1 (by rw[u2];exact u3)).trans u2))<|gx J<|at_ (i+1) ⟨(by omega),(by omega)⟩
 .
  obtain rfl:i=(dg a).length:=by omega
  exact rz J (by rw[kp (bW _),c8];rfl)
def Ng(h:j<ds.length):dv (ds.drop j)=ds.getD j 0+4294967296*dv (ds.drop (j+1)):=by
 rw[bK h,aW,aZ h];rfl
def Yl(hA:j<A.length)(hW:j<W.length)(hd:0<d)(h:dv (A.drop (j+1))=d*dv (W.drop (j+1))+r)(hv:v=A.getD j 0+r*4294967296):dv (A.drop j)=d*dv ((W.set j (v/d)).drop j)+v%d:=by
 have e1:dv ((W.set j (v/d)).drop j)=v/d+4294967296*dv (W.drop (j+1)):=by
  rw[Ng (by rw[aN];exact hW),A4 hW,sL (by omega)]
 have h2:=qT v d;have e3:d*(v/d+4294967296*dv (W.drop (j+1)))=d*(v/d)+4294967296*(d*dv (W.drop (j+1))):=by rw[fQ,mV]
 rw[e1,Ng hA,h,e3];omega
def aAA(h:a=d*dv W+r)(hr:r<d):dv W=a/d/\r=a%d:=by
 have:=(Nat.div_mod_unique (by omega:0<d)).2 ⟨show r+d*dv W=a by omega,hr⟩;exact⟨this.1.symm,this.2.symm⟩
def aAz{a d i:Nat}[h:BN a i](hd:0<d)(hd2:d<4294967296)(hi:i<=1000000000:=by decide):PF GB prog 252 [dN a,dU d] (.tp [dN (a/d),dU (a%d)]):=by
 have hla:=bI (dg a);have hba:=iE (a:=a) hi;refine fn (fu:=⟨10⟩) func252 J J ntmps252 J J (fun C=>?_);refine aj 11 (.d (vI ((dg a).length:Nat))) J (by rw[hla]<;>rfl)<|gx J<|mk (fu:=⟨13⟩) ((List.replicate (dg a).length 0).map dU) J J (by rw[<-mH];rfl) J<|aj 14 (.d (vI ((dg a).length:Nat))) J (by rw[hla]<;>rfl)<|gx J<|lp (X:=List Nat×Nat×Nat) (fun⟨W,r,k⟩=>[(0, .d (dN a)),(1, .d (dU d)),(6, .rw 12),(7, .d (.v (.int .u64 (r:Nat)))),(8, .d (vI ((k:Nat)-1)))]) (fun⟨W,r,k⟩=>[(12,some (.b 225 1 (W.map dU) true))]) (fun⟨W,r,k⟩=>W.length=(dg a).length/\bB W/\r<d/\k<=(dg a).length/\dv ((dg a).drop k)=d*dv (W.drop k)+r) (fun⟨W,r,k⟩=>k) ⟨List.replicate (dg a).length 0,0,(dg a).length⟩ J ⟨by simp, .replicate _,hd,bW _,by simp[dv]⟩ (fun _=>J) (fun⟨W,r,k⟩ hk=>?_)
 try dsimp only at hk⊢
 obtain⟨h1,h2,h3,h4,h5⟩:=hk;have hlw:=bI W;refine br (fu1:=⟨0⟩) J J J (fun hc17=>?_) (fun hc17=>?_)
 .
  obtain⟨j,rfl⟩: ∃m,k=m+1:=⟨k-1,by omega⟩;have hda:=dt a j;obtain⟨v,hv⟩: ∃v,v=(dg a).getD j 0+r*4294967296:=⟨_,rfl⟩;obtain⟨q,hq⟩: ∃q,q=v/d:=⟨_,rfl⟩;have hvq:q<4294967296:=by rw[hq,kZ hd,cJ];have:=bT 4294967296 (show r+1<=d from h3);omega
  refine aj 8 (.d (vI (j:Nat))) J (by show FX.d (.v (.int _ _))= .d (.v (.int _ _));congr 3;omega)<|gx (fu:=⟨8⟩) (hv:=by simp only[ak];exact(by decide)) J<|aj 21 (.d (.v (.int .u64 (r*4294967296:Nat)))) J (by show FX.d (.v (.int _ _))= .d (.v (.int _ _));rw[pq _ 32 (by decide) (by show _*4294967296<_;omega) J])<|gx J<|ix (fu:=⟨3⟩) _ J (eo) J<|aj 27 (.d (.v (.int .u64 (v:Nat)))) J (congrArg (fun z:Nat=>FX.d (.v (.int .u64 (z:Int)))) ((congrArg BitVec.toNat (BitVec.or_comm ..)).trans ((pB 64 ((dg a).getD j 0) r 32 hda (by show _+_*4294967296<18446744073709551616;omega)).trans hv.symm)))<|gx (fu:=⟨11⟩) J<|aj 33 (.d (.v (.int .u64 (q:Nat)))) J (by show FX.d (.v (.int _ _))= .d (.v (.int _ _));congr 3;rw[hq];rfl)<|gx (fu:=⟨1⟩) J<|aj 34 (.d (dU q)) J (by show FX.d (.v (.int _ _))= .d (.v (.int _ _));congr 3;omega)<|gx J<|sb (fu:=⟨7⟩) _ ((W.set j q).map dU) J (eo) J (by rw[<-je];rfl) J<|aj 39 (.d (.v (.int .u64 (v%d:Nat)))) J (by show FX.d (.v (.int _ _))= .d (.v (.int _ _));congr 3)<|gx J<|at_ ⟨W.set j q,v%d,j⟩ (by dsimp only;exact⟨⟨by simpa using h1,h2.set _ hvq,dK _ hd,by omega,by rw[hq];exact Yl (by omega) (by omega) hd h5 hv⟩,(by omega)⟩)
 .
  obtain rfl:k=0:=by omega
  obtain⟨e1,e2⟩:=aAA (a:=a) (W:=W) (by rw[iQ,iQ,c8] at h5;exact h5) h3;refine fz 12 J J<|cl (fu:=⟨2⟩) J (sk (ds:=W)) J<|aj 43 (.d (dU r)) J (by show FX.d (.v (.int _ _))= .d (.v (.int _ _));congr 3;omega)<|gx J<|rz J (by show DV.tp [dk _,dU _]= .tp [dN _,dU _];rw[k8 h2 e1,<-e2])
def WX(hk:k<32)(hl:i+1<W.length)(hx:x=A.getD i 0)(h:dv (W.take (i+1))=dv (A.take i)*2^k):dv (((W.set i (W.getD i 0+x*2^k%4294967296)).set (i+1) (x*2^k/4294967296)).take (i+1+1))=dv (A.take (i+1))*2^k:=by
 have:=Og (A:=A) (W:=W) (k:=k) (q:=0) (s:=k) (i:=i) (x:=x) (by omega) (by omega) (by omega) hx (by rw[eX];exact h);simpa only[eX] using this
def TA(hn:n=(dg a).length)(hl:W.length=n)(h:dv (W.take n)=(a/2^k)%4294967296^n):dv W=a/2^k:=by
 rw[kp] at h;have h1:=rg a;have h2:=mY a (2^k);rw[h,jN (by rw[hn];omega)]
def VR(h:k<32):(k:Int).tdiv 32=0:=Int.tdiv_eq_zero_of_lt (by omega) (by omega)
def NU[h:BN a ia](hk:k<32)(h0:0<(dg a).length)(hi:ia<=1000000000:=by decide):PR GB prog 294 [dN a, .v (.int .u64 (k:Nat))] 1 225 ((dg (a*2^k)).map dU):=by
 have hla:=bI (dg a);have hba:=iE (a:=a) hi;refine FG (fu:=⟨8⟩) func294 J J ntmps294 J J (fun C hmb=>?_);refine cl (fu:=⟨2⟩) J (og (a:=a)) J<|aj 14 (.d (.v (.int .u64 (k:Nat)))) J (by show FX.d (.v (.int _ _))= .d (.v (.int _ _));congr 3;omega)<|gx (fu:=⟨9⟩) J<|aj 16 (.d (vI ((dg a).length:Nat))) J (by rw[hla]<;>rfl)<|gx (fu:=⟨0⟩) J<|cF (fu:=⟨10⟩) J (by show some (decide _)=some false;rw[decide_eq_false (by omega)]) J<|aj 20 (.d (vI (0:Nat))) J (by show FX.d (.v (.int _ _))= .d (.v (.int _ _));congr 3;have:=VR hk;omega)<|gx (fu:=⟨2⟩) J<|aj 22 (.d (.v (.int .u64 (k:Nat)))) J (by show FX.d (.v (.int _ _))= .d (.v (.int _ _));congr 3;omega)<|gx (fu:=⟨8⟩) J<|aj 24 (.d (vI ((dg a).length:Nat))) J (by rw[hla]<;>rfl)<|gx (fu:=⟨3⟩) J<|aj 27 (.d (vI ((dg a).length+1:Nat))) J (by show FX.d (.v (.int _ _))= .d (.v (.int _ _));congr 3)<|gx J<|mk (fu:=⟨8⟩) ((List.replicate ((dg a).length+1) 0).map dU) J J (by rw[<-mH];rfl) J<|aj 30 (.d (vI ((dg a).length:Nat))) J (by rw[hla]<;>rfl)<|gx J<|lp (X:=List Nat×Nat) (fun⟨W,i⟩=>[(0, .d (dN a)),(1, .d (.v (.int .u64 (k:Nat)))),(5, .d (vI (0:Nat))),(6, .d (.v (.int .u64 (k:Nat)))),(7, .rw 28),(29, .d (dN a)),(30, .d (vI ((dg a).length:Nat))),(31, .d (vI (i:Nat)))]) (fun⟨W,i⟩=>[(28,some (.b 225 1 (W.map dU) true))]) (fun⟨W,i⟩=>W.length=(dg a).length+1/\bB W/\i<=(dg a).length/\dv (W.take (i+1))=dv ((dg a).take i)*2^k/\W.getD i 0<2^k) (fun⟨W,i⟩=>(dg a).length-i) ⟨List.replicate ((dg a).length+1) 0,0⟩ J ⟨by simp, .replicate _,by omega,by rw[qQ,w6];simp[dv],by rw[DL];exact fN (by decide)⟩ (fun _=>J) (fun⟨W,i⟩ hk=>?_)
 try dsimp only at hk⊢
 obtain⟨h1,h2,h3,h4,h5⟩:=hk;have hlw:=bI W;have hda:=dt a i;have hpp:2^k<=2^31:=bR (by decide) (by omega);refine br J J J (fun hc32=>?_) (fun hc32=>?_)
 .
  refine ix (fu:=⟨11⟩) (hv:=by simp only[ak];exact⟨by omega,(by omega)⟩) _ J (eo) J<|?_;have hhi:=QE hda hk;have hfit0:=NG hda hk;have hor:=M5 (x:=(dg a).getD i 0) h5 hk;have hfit:W.getD i 0+(dg a).getD i 0*2^k%4294967296<4294967296:=by rw[<-hor];exact BitVec.isLt _
  have hlp:=II ((dg a).getD i 0) k;refine aj 39 (.d (.v (.int .u64 ((dg a).getD i 0*2^k:Nat)))) J (by show FX.d (.v (.int _ _))= .d (.v (.int _ _));rw[pq _ k (by omega) hfit0]) ?_;obtain⟨t,ht⟩: ∃t,t=(dg a).getD i 0*2^k:=⟨_,rfl⟩;simp only[<-ht] at hhi hfit0 hor hfit hlp;rw[<-ht];refine gx (fu:=⟨9⟩) J<|aj 43 (.d (vI (i:Nat))) J (by show FX.d (.v (.int _ _))= .d (.v (.int _ _));congr 3)<|gx J<|lb (fu:=⟨2⟩) _ J (eo) J<|aj 47 (.d (dU (t%4294967296))) J (by show FX.d (.v (.int _ _))= .d (.v (.int _ _));congr 3)<|gx (fu:=⟨1⟩) J<|aj 48 _ J (congrArg (fun z:Nat=>FX.d (.v (.int .u32 (z:Int)))) hor)<|gx J<|sb (fu:=⟨7⟩) _ ((W.set i (W.getD i 0+t%4294967296)).map dU) J (eo) J (by simp only[cK,jR]<;>rfl) J<|aj 53 (.d (vI (i:Nat))) J (by show FX.d (.v (.int _ _))= .d (.v (.int _ _));congr 3)<|gx (fu:=⟨1⟩) J<|aj 54 (.d (vI (i+1:Nat))) J (by show FX.d (.v (.int _ _))= .d (.v (.int _ _));congr 3)<|gx (fu:=⟨2⟩) (hv:=by simp only[ak];exact(by decide)) J<|aj 56 (.d (.v (.int .u64 (t/4294967296:Nat)))) J (by rw[oy])<|gx (fu:=⟨1⟩) J<|aj 57 (.d (dU (t/4294967296))) J (by show FX.d (.v (.int _ _))= .d (.v (.int _ _));congr 3;omega)<|gx J<|sb _ (((W.set i (W.getD i 0+t%4294967296)).set (i+1) (t/4294967296)).map dU) J (eo (by rw[aN];omega)) J (by simp only[cK,jR]<;>rfl) J<|at_ ⟨(W.set i (W.getD i 0+t%4294967296)).set (i+1) (t/4294967296),i+1⟩ (by dsimp only;exact⟨⟨by simpa using h1,(h2.set _ hfit).set _ (by omega),by omega,by have q:=WX (x:=(dg a).getD i 0) hk (by omega) J h4;rw[<-ht] at q;exact q,by rw[A4 (by simp;omega)];exact hhi⟩,(by omega)⟩)
 .
  obtain rfl:i=(dg a).length:=by omega
  refine cq _ J (Yo (ds:=W) (by omega)) J J<|?_;exact QT J J J (by rw[<-C9 h2];have:=h4;rw[kp,kp,c8] at this;rw[this])
def U7(hd:bB ds)(hl:ds.length<=100000000)(hk:k<32):PF GB prog 295 [dk ds, .v (.int .u64 (k:Nat))] (dN (dv ds/2^k)):=by
 obtain⟨a,ha⟩: ∃a,a=dv ds:=⟨_,rfl⟩;rw[<-ha];have hla:=bI (dg a);have hba:(dg a).length<=100000000:=by rw[ha,C9 hd];have:=TR ds;omega
 refine fn func295 J J ntmps295 J J (fun C=>?_);refine cl (fu:=⟨0⟩) J (sk (ds:=ds)) J<|aj 11 (.d (dN a)) J (by rw[k8 hd ha.symm])<|gx (fu:=⟨8⟩) J<|aj 13 (.d (.v (.int .u64 (0:Nat)))) J (by show FX.d (.v (.int _ _))= .d (.v (.int _ _));congr 3;omega)<|gx (fu:=⟨2⟩) J<|aj 15 (.d (vI ((dg a).length:Nat))) J (by rw[hla]<;>rfl)<|gx J<|br (fu2:=⟨7⟩) J J J (fun hc17=>?_) (fun hc17=>?_)
 .
  exact rz J (by rw[AA (a:=a),Nat.zero_div,lO];rfl)
 .
  refine aj 20 (.d (vI (0:Nat))) J (by show FX.d (.v (.int _ _))= .d (.v (.int _ _));congr 3;omega)<|gx (fu:=⟨2⟩) J<|aj 22 (.d (.v (.int .u64 (k:Nat)))) J (by show FX.d (.v (.int _ _))= .d (.v (.int _ _));congr 3;omega)<|gx (fu:=⟨8⟩) J<|aj 24 (.d (vI ((dg a).length:Nat))) J (by rw[hla]<;>rfl)<|gx (fu:=⟨2⟩) J<|aj 26 (.d (vI ((dg a).length:Nat))) J (by show FX.d (.v (.int _ _))= .d (.v (.int _ _));congr 3)<|gx J<|mk (fu:=⟨8⟩) ((List.replicate (dg a).length 0).map dU) J J (by rw[<-mH];rfl) J<|aj 29 (.d (vI ((dg a).length:Nat))) J (by rw[bI,aS]<;>rfl)<|gx J<|lp (X:=List Nat×Nat) (fun⟨W,i⟩=>[(0, .d (dN a)),(5, .d (vI (0:Nat))),(6, .d (.v (.int .u64 (k:Nat)))),(7, .rw 27),(29, .d (vI ((dg a).length:Nat))),(30, .d (vI (i:Nat)))]) (fun⟨W,i⟩=>[(27,some (.b 225 1 (W.map dU) true))]) (fun⟨W,i⟩=>W.length=(dg a).length/\bB W/\i<=(dg a).length/\dv (W.take i)=(a/2^k)%4294967296^i) (fun⟨W,i⟩=>(dg a).length-i) ⟨List.replicate (dg a).length 0,0⟩ J ⟨by simp, .replicate _,by omega,by simp[dv,Nat.mod_one]⟩ (fun _=>J) (fun⟨W,i⟩ hk=>?_)
  try dsimp only at hk⊢
  obtain⟨h1,h2,h3,h4⟩:=hk;have hlw:=bI W;have hda:=dt a i;have hdb:=dt a (i+1);refine br (fu1:=⟨16⟩) J J J (fun hc31=>?_) (fun hc31=>?_)
  .
   refine aj 36 (.d (vI (i:Nat))) J (by show FX.d (.v (.int _ _))= .d (.v (.int _ _));congr 3)<|gx J<|ix (fu:=⟨6⟩) _ J (eo) J<|mg (fu:=⟨6⟩) (hv:=fun _ _=>by simp only[ak];exact(by omega)) (X:=Unit) (fun _=>[(0, .d (dN a)),(5, .d (vI (0:Nat))),(6, .d (.v (.int .u64 (k:Nat)))),(7, .rw 27),(29, .d (vI ((dg a).length:Nat))),(30, .d (vI (i:Nat))),(8, .d (vI (i:Nat))),(9, .d (.v (.int .u64 ((dg a).getD i 0+(dg a).getD (i+1) 0*4294967296:Nat))))]) (fun _=>[(27,some (.b 225 1 (W.map dU) true))]) (fun _=>True) [0,5,6,7,29,30,8,9] [27] rfl ?_ (fun _=>J) (fun _ _=>?_)
   .
    refine gx (fu:=⟨5⟩) J<|aj 42 (.d (vI (i:Nat))) J (by show FX.d (.v (.int _ _))= .d (.v (.int _ _));congr 3)<|gx (fu:=⟨1⟩) J<|aj 43 (.d (vI (i+1:Nat))) J (by show FX.d (.v (.int _ _))= .d (.v (.int _ _));congr 3)<|gx (fu:=⟨2⟩) J<|aj 45 (.d (vI ((dg a).length:Nat))) J (by rw[hla]<;>rfl)<|gx J<|br (fu1:=⟨6⟩) J J J (fun hc46=>?_) (fun hc46=>?_)
    .
     refine aj 51 (.d (vI (i:Nat))) J (by show FX.d (.v (.int _ _))= .d (.v (.int _ _));congr 3)<|gx (fu:=⟨1⟩) J<|aj 52 (.d (vI (i+1:Nat))) J (by show FX.d (.v (.int _ _))= .d (.v (.int _ _));congr 3)<|gx J<|ix (fu:=⟨3⟩) (hv:=by simp only[ak];exact⟨by omega,(by decide)⟩) _ J (cv (k:=i+1)) J<|aj 56 (.d (.v (.int .u64 ((dg a).getD (i+1) 0*4294967296:Nat)))) J (by show FX.d (.v (.int _ _))= .d (.v (.int _ _));rw[pq _ 32 (by decide) (by show _*4294967296<_;omega) J])<|gx (fu:=⟨1⟩) J<|aj 57 _ J (congrArg (fun z:Nat=>FX.d (.v (.int .u64 (z:Int)))) (pB 64 ((dg a).getD i 0) ((dg a).getD (i+1) 0) 32 hda (by show _+_*4294967296<18446744073709551616;omega)))<|gx J<|at_ () trivial
    .
     refine aj 9 (.d (.v (.int .u64 ((dg a).getD i 0+(dg a).getD (i+1) 0*4294967296:Nat)))) J (by rw[pG (by omega:(dg a).length<=i+1),kX,gX])<|at_ () trivial
   .
    refine aj 62 (.d (.v (.int .u64 (((dg a).getD i 0+(dg a).getD (i+1) 0*4294967296)/2^k:Nat)))) J (by show FX.d (.v (.int _ _))= .d (.v (.int _ _));rw[PX _ k])<|gx (fu:=⟨1⟩) J<|?_;obtain⟨w,hw⟩: ∃w,w=((dg a).getD i 0+(dg a).getD (i+1) 0*4294967296)/2^k%4294967296:=⟨_,rfl⟩;have hw1:w<4294967296:=hw▸dK _ (by decide);refine aj 63 (.d (dU w)) J (by show FX.d (.v (.int _ _))= .d (.v (.int _ _));congr 3;rw[hw];rfl)<|gx J<|sb _ ((W.set i w).map dU) J (eo) J (by rw[<-je];rfl) J<|at_ ⟨W.set i w,i+1⟩ (by dsimp only;exact⟨⟨by simpa using h1,h2.set _ (by omega),by omega,by rw[u6,h4];exact(Oz hk (by have:=DQ (f9 a) i;rwa [c8] at this) hw).symm⟩,(by omega)⟩)
  .
   refine fz 27 J J<|cl rfl (sk (ds:=W)) rfl<|rz rfl (k8 h2 (by obtain rfl:i=(dg a).length:=(by omega);exact TA rfl h1 h4))
end Go.Sx
end
