import Derived.Test.YtmdgdhokaffbkaaGreatDoorMz8
set_option linter.all false
set_option maxHeartbeats 4000000
set_option maxRecDepth 100000
section
namespace Go.Sx
open Go Go.Proofs Tryz
variable {GB G:Gh}{C:aG}{n nm d s a e by_ b j m sz off ia ib A L R V g:Nat}{Q0:Exit->Act->World->Prop}{fr fr' fr1 fr2:aD}{own' own1 own2:aI}{cf cf' cf1 cf2:Cf}{vc vc1 vc2:List Prop}{lk:LK}{bk:BM}{fo x y:Operand}{args:Array Operand}{tys:Array TypeId}{f:FuncId}{l:List (Option DV)}{ty ty0 t t' ty':TypeId}{pos:String}{af:Array Edge}{dsi dso ds ds2 ds':List DV}{lo:Bool}{fb:Func}{k k':IntKind}{P:Program}{ov B:List aA}{w:SV}{dst:Option Nat}{i p q:Int}{z rv:DV}{W:List Nat}
section
variable {own:aI}
def aBQ{gd:Option (Nat×Bool)}(hne:Nat.beq nm d=false)
  (ha:ww lk fo args=some (f,nm,l))(hb:bk nm=some (.b ty0 s dsi lo))(hF:PB GB prog f (eh l) s ty0 dsi (fun w=> .v (.slice w.a w.n w.c)) dso):cg prog GB C n lk bk ⟨some d, .call ⟨.value fo,args,tys⟩,ty,pos,af,gd⟩ (.rw d) [(nm,none),(d,some (.b ty0 s dso lo))] [d]:=by
 intro hd tl tb K' s1 s2 hf hk;refine⟨fun ρ G ov a w r Q=>?_⟩;have r1:=r.mono s1 s2;unfold ww at ha;split at ha<;>try (cases ha;done)
 rename_i h1;split at ha<;>cases ha;rename_i h2;obtain⟨y,hy,hy'⟩:=r1.ev h1;rw[(aO (G:=G)).1 hy'] at hy;obtain⟨B,g1,g2⟩:=r1.bx _ _ hb;have hB:dO G ⟨ρ nm,s,ty0,dsi,lo⟩ B:=g1;obtain⟨vs,h7,h8⟩:=Ao r1 (z:=ρ nm) h2 (fun nm e=>by cases e;rfl);have hp: ∃rest,ov.Perm (B++rest)/\ ∀o∈ov,(∀o'∈B,o.b≠o'.b)->o∈rest:=by
  rcases hB with⟨vs',⟨_,_,e⟩|⟨b0,r0,lo0,_,e,_⟩,_⟩
  .rw[e];exact⟨ov,List.Perm.refl _,fun o ho _=>ho⟩
  .rw[e] at g2⊢
   obtain⟨l1,l2,e2⟩:=mZ (g2 _ aQ);rw[e2];refine⟨l1++l2,oQ,fun o ho hno=>?_⟩;rcases aL.1 ho with ho|ho
   .exact bJ _ ho
   .rcases aV.1 ho with rfl|ho
    .exact absurd J (hno _ aQ)
    .exact aM _ ho
 obtain⟨rest,h5,h6⟩:=hp;refine vR (M:=B) (rest:=rest) hy h7 h5 (hF G (ρ nm) vs B r.gb hB.weak h8) hd (fun v own1 G' hG hK a' w' rl=>?_) a w Q ⟨r.h,r.sz,dh a,r.df⟩;obtain⟨z,hr,vs',k1,k2,k3,k4⟩:=hK;have k1':=k1.relo (ig B);have e2:lo=true-> ∀o∈own1.map (relo (ig B)),o.lo=true:=fun hl o ho=>by
  obtain⟨o',_,rfl⟩:=aT.1 ho;obtain⟨_,_,_,_,hlo⟩:=hB;exact A4 _ (hlo hl)
 generalize own1.map (relo (ig B))=B' at rl e2 k1';have rl':iw C n (Sx.put (cI a) (some d) v) (B'++rest) G' a' w':=rl;have hdis:=(gR.1 rl'.h.nd).2.2;have r2:=r.dropB nm;have hnn:nm≠d:=fun e=>by subst e;rw[oL] at hne;cases hne
 have hf2:kH [d] (some d) tl (Sx.upB tb [(nm,none)]):=fun q hq=>by
  obtain⟨f1,f2⟩:=hf q hq;refine⟨f1,fun k B e1 e=>?_⟩;simp only[Sx.upB] at e;split at e
  .cases e
  .exact f2 k B e1 e
 have hsep: ∀q B0,Sx.upB tb [(nm,none)] q=some B0-> ∀o∈ov,(ρ q).a=some ⟨o.b,0,none⟩->o∈rest:=fun q B0 e o ho hbq=>by
  simp only[Sx.upB] at e;split at e
  .cases e
  .rename_i hqn
   refine h6 o ho fun o' ho' he=>?_;exact r.dj nm q _ _ (s2 _ _ hb) e (Ne.symm hqn) o'.b (g1.blk ho') (by rw[hbq,he])
 rw[aO.1 hr] at rl';have r3:=r2.new' (x:=z) (B':= .b ty0 s dso lo) (os:=B') (ov':=B'++rest) (f:= .rw d) (y:= .slice z.a z.n z.c) hf2 hG.le rl'.h ⟨vs',by simpa using k1',k2,k3,e2⟩ (fun o ho=>bJ _ ho)
  (fun q B0 hq e o ho hbq=>⟨aM _ (hsep q B0 e o ho hbq),fun hc=>by
   have hx: ∃o1∈B',o1.b=o.b:=by
    rcases k1' with⟨_,h,_⟩|⟨b0,rest0,lo0,h,hB,_⟩
    .rw[show z=_ from h] at hc;cases hc
    .rw[show z=_ from h] at hc;cases hc;exact⟨⟨_,aF vs'++rest0,_,lo0⟩,by rw[hB];exact aQ,J⟩
   obtain⟨o1,ho1,he1⟩:=hx;exact hdis o1 ho1 o (hsep q B0 e o ho hbq) he1⟩) (by simp[cp]) (kd rl')
 exact hk.run _ G' _ a' w' r3
def cq[fu:Fu](dso':List DV)(ha:EV fr own cf=some ⟨f,nm,l,ty,s,dsi,lo,d⟩)(hF:PB GB prog f (eh l) s ty dsi (fun w=> .v (.slice w.a w.n w.c)) dso)(he:dso=dso')
  (hgo:cF tt n fu.n fr own cf (.rw d) [(nm,none),(d,some (.b ty s dso' lo))] [d]=⟨vc,fr',own',cf'⟩)(k:av prog GB C n Q0 fr' own' cf')
  (hv:autoParam (ak vc) fn._auto_1):av prog GB C n Q0 fr own cf:=by
 subst he;unfold EV at ha;split at ha<;>try (cases ha;done)
 rename_i hh;split at ha<;>try (cases ha;done)
 rename_i h1;split at ha<;>try (cases ha;done)
 rename_i h2;rw[cond_eq_ite] at ha;split at ha<;>cases ha;rename_i h3;exact us hh (aBQ okB h1 h2 hF) hgo hv k
def I2(C:aG)(s:Nat)(ty:TypeId)(dso:List DV):Ending->World->Prop:=t8 C (fun v own' G'=> ∃w',Is G' (.v (.slice w'.a w'.n w'.c)) v/\dO G' ⟨w',s,ty,dso,false⟩ own')
def tj[fu:Fu]{c:Code}{k:Nat}(hf:prog.funcs[f]? =some fb)(hb:fb.body=some c)(hn:(fb.name== "runtime.NumGoroutine")=false)(hm:fb.ntmps=k)(hlen:Nat.ble l.length k=true)
  (hgo:go tt k fu.n [] (xU 0 l) [(NM,some (.b ty s dsi false))] (.code c [])=⟨vc,fr,own,cf⟩)(h: ∀C,av prog GB C k (ge C prog fb (I2 C s ty dso)) fr own cf)
  (hv:autoParam (ak vc) fn._auto_1):PB GB prog f (eh l) s ty dsi (fun w=> .v (.slice w.a w.n w.c)) dso:=by
 intro G w vs B hg hB hvs;refine iO.introR hf hb hn hm (by rw[hvs.len,Ek];exact hlen) fun C _ hmb hrd hfx=>?_;intro a wd rl;refine xb hrd ?_;have h1:=gF (GB:=GB) (C:=C) (Q0:=ge C prog fb (I2 C s ty dso)) hgo hv (h C);refine h1.run (fun _=>w) G (Sx.asB B) a wd ⟨hg,rl.h,rl.sz,rl.df,fun k f e=>?_,fun nm B' e=>?_,fun nm nm' B' B2 e e' hne=>?_,fun nm p _ _ e=>by rw[hfx] at e;cases e⟩
 .obtain⟨y,⟨j,hj,hy⟩,h2⟩:=C0 (ρ:=fun _=>w) (w:=w) rfl 0 hvs k f e
  refine⟨y,rl.fr k y ?_,h2⟩;rw[hj];exact xG vs 0 j y hy
 .rw[km] at e
  split at e
  .cases e;exact⟨Sx.asB B,hB.asB,fun o ho=>ho⟩
  .cases e
 .rw[km] at e e'
  split at e<;>split at e'
  .rename_i h2 h3;exact absurd (h2.trans h3.symm) hne
  .cases e'
  .cases e
  .cases e
def m6{t:Nat}(hr:fb.results.toList=[.tmp t])(hl:bi fr t=some (.rw d))(hw:bA own d=some (.b ty s ds false))(ed:ds=dso):
  av prog GB C n (ge C prog fb (I2 C s ty dso)) fr own (.ex .ret []):=by
 subst ed;refine⟨fun ρ G ov a w r=>?_⟩;obtain⟨B,g1,g2⟩:=r.bx _ _ hw;have hB:dO G ⟨ρ d,s,ty,ds,false⟩ B:=g1;obtain⟨rest,hp⟩:=Ii hB g2;obtain⟨y,hy,hy'⟩:=r.ev (x:= .tmp t) (f:= .rw d) hl
 cases (show y=_ from hy')
 exact yb (C:=C) (n:=n) (fr:=cI a) (own:=ov) (G:=G) (vs:=[.slice (ρ d).a (ρ d).n (ρ d).c]) omS (B++rest) B hp (pQ _ _) ⟨ρ d,aO.2 J,hB⟩ a w ⟨r.h,r.sz,dh a,r.df⟩
def z8(lk:LK):List Operand->Option (List (Option DV))
 |[]=>none
 |[x]=>match aP lk x with
  |some .nl=>some [none]
  |_=>none
 |x::t=>match aP lk x,z8 lk t with
  |some f,some l=>match kr f with
   |some d=>some (some d::l)
   |none=>none
  |_,_=>none
def Ho(lk:LK)(fo:Operand)(args:Array Operand):Option (FuncId×List (Option DV)):=match aP lk fo with
 |some (.d (.v (.func (.func f) ⟨[]⟩ ⟨[]⟩)))=>match z8 lk args.toList with
  |some l=>some (f,l)
  |_=>none
 |_=>none
def MC{lk:LK}{bk:BM}{ρ:NE}{G:Gh}{ov:List aA}{a:Act}{w:World}(r:ce GB C n lk bk ρ G ov a w): ∀{x:List Operand} {l:List (Option DV)},z8 lk x=some l-> ∃y,gk (cI a) x=some y/\IsLs G (eh l ⟨none,0,0⟩) y
 |[],l,e=>by cases e
 |[x],l,e=>by
  simp only[z8] at e;split at e<;>cases e;rename_i h1;obtain⟨y,h3,h4⟩:=r.ev h1
  cases (show y=_ from h4)
  exact⟨[Value.slice none 0 0],by simp only[gk,h3], .cons ((aO (G:=G)).2 J) .nil⟩
 |x::x2::t,l,e=>by
  simp only[z8] at e;split at e
  .rename_i f l' h1 h2
   cases hd:kr f with
   |none=>rw[hd] at e;cases e
   |some d=>
   rw[hd] at e;cases e;obtain⟨y,h3,h4⟩:=r.ev h1;obtain⟨ys,h5,h6⟩:=MC r (x:=x2::t) (by simpa only[z8] using h2);exact⟨y::ys,by simp only[gk,h3] at h5⊢;rw[h5], .cons (nO h4 hd) h6⟩
  .cases e
def Vs{gd:Option (Nat×Bool)}
  (ha:Ho lk fo args=some (f,l))(hF:PB GB prog f (eh l) s ty0 [] (fun w=> .v (.slice w.a w.n w.c)) dso):cg prog GB C n lk bk ⟨some d, .call ⟨.value fo,args,tys⟩,ty,pos,af,gd⟩ (.rw d) [(d,some (.b ty0 s dso true))] [d]:=by
 intro hd tl tb K' s1 s2 hf hk;refine⟨fun ρ G ov a w r Q=>?_⟩;have r1:=r.mono s1 s2;unfold Ho at ha;split at ha<;>try (cases ha;done)
 rename_i h1;split at ha<;>cases ha;rename_i h2;obtain⟨y,hy,hy'⟩:=r1.ev h1;rw[(aO (G:=G)).1 hy'] at hy;obtain⟨vs,h7,h8⟩:=MC r1 h2;refine vR (M:=[]) (rest:=ov) hy h7 (List.Perm.refl _) (hF G ⟨none,0,0⟩ vs [] r.gb ⟨[], .nil _ _, .nil,vb,fun h=>by cases h⟩ h8) hd (fun v own1 G' hG hK a' w' rl=>?_) a w Q ⟨r.h,r.sz,dh a,r.df⟩;obtain⟨z,hr,vs',k1,k2,k3,k4⟩:=hK;have k1':=k1.relo (ig []);have e2: ∀o∈own1.map (relo (ig [])),o.lo=true:=fun o ho=>by
  obtain⟨o',_,rfl⟩:=aT.1 ho;rfl
 generalize own1.map (relo (ig []))=B' at rl e2 k1';have rl':iw C n (Sx.put (cI a) (some d) v) (B'++ov) G' a' w':=rl;have hdis:=(gR.1 rl'.h.nd).2.2;rw[aO.1 hr] at rl';have r3:=r.new (x:=z) (B':= .b ty0 s dso true) (os:=B') (ov':=B'++ov) (f:= .rw d) (y:= .slice z.a z.n z.c) hf hG.le rl'.h ⟨vs',by simpa using k1',k2,k3,fun _=>e2⟩ (fun o ho=>bJ _ ho) (fun o ho=>aM _ ho)
  (fun o ho hc=>by
   have hx: ∃o1∈B',o1.b=o.b:=by
    rcases k1' with⟨_,h,_⟩|⟨b0,rest0,lo0,h,hB,_⟩
    .rw[show z=_ from h] at hc;cases hc
    .rw[show z=_ from h] at hc;cases hc;exact⟨⟨_,aF vs'++rest0,_,lo0⟩,by rw[hB];exact aQ,J⟩
   obtain⟨o1,ho1,he1⟩:=hx;exact hdis o1 ho1 o ho he1) (by simp[cp]) (kd rl')
 exact hk.run _ G' _ a' w' r3
def QB(fr:aD)(cf:Cf):Option (FuncId×List (Option DV)×Nat):=match de fr cf with
 |some ⟨some d, .call ⟨.value fo,args,_⟩,_,_,_,_⟩=>match Ho (cj fr cf) fo args with
  |some (f,l)=>some (f,l,d)
  |none=>none
 |_=>none
def Tg[fu:Fu](dso':List DV)(ha:QB fr cf=some (f,l,d))(hF:PB GB prog f (eh l) s ty [] (fun w=> .v (.slice w.a w.n w.c)) dso)(he:dso=dso')
  (hgo:cF tt n fu.n fr own cf (.rw d) [(d,some (.b ty s dso' true))] [d]=⟨vc,fr',own',cf'⟩)(k:av prog GB C n Q0 fr' own' cf')
  (hv:autoParam (ak vc) fn._auto_1):av prog GB C n Q0 fr own cf:=by
 subst he;unfold QB at ha;split at ha<;>try (cases ha;done)
 rename_i hh;split at ha<;>cases ha;rename_i h1;exact us hh (Vs h1 hF) hgo hv k
end
section
variable {T:TT}{ρ:NE}{a:Act}{w:World}
variable {gd:Option (Nat×Bool)}
def YM{i:TI}[hT:cD P t e s by_][hN:kz P t'](hi:f8 P e=some i)(hz:nF i=some z)(hs:Nat.beq z.cells.length s=true)(hx:aP lk x=some (.rw nm))(hb:bk nm=some (.b e s ds false))(hy:q8 lk bk s y=some ds2)(hk2:dm s ds2)
  (hby:Nat.blt 0 by_=true)(hbd:(ds.length+ds2.length)*by_<=140737488355328)(hnd:Nat.beq nm d=false)(hds:ds++ds2=ds'):
  cg P GB C n lk bk ⟨some d, .call ⟨.builtin .append, #[x,y], #[t,t']⟩,ty',pos,af,gd⟩ (.rw d) [(nm,none),(d,some (.b e s ds' false))] [d]:=by
 intro hd tl tb K s1 s2 hf hk;refine⟨fun ρ G ov a w r Q=>?_⟩;subst hds;have r1:=r.mono s1 s2;obtain⟨v,hz1,hz2,hz3⟩:=yf hi hz;have cz:=((hz2 G).cells hz3).1.len;replace hs:=bQ hs;rw[lY] at hby
 have hne:nm≠d:=fun e=>by subst e;simp at hnd
 obtain⟨u,hx',hx2⟩:=r1.ev hx
 cases hx2
 obtain⟨B,hB0,hBo⟩:=r1.bx _ _ hb;have hB1:dO G ⟨ρ nm,s,e,ds,false⟩ B:=hB0;clear hB0;obtain⟨vs,hB,hv,hvs,_⟩:=hB1;simp only[] at hB hv hvs;obtain⟨w2,us,hy',h2,h3,h4,h5,h6⟩:=Bt (P:=P) r1 hy hk2;have hus:(aF us).length=us.length*s:=fC us h4;have hbd':(vs.length+us.length)*by_<=140737488355328:=by rw[hv.len,h3.len];exact hbd
 have hall: ∀v∈vs++us,(aH v).length=s:=fun v hv=>by
  rcases aL.1 hv with hv|hv
  .exact hvs v hv
  .exact h4 v hv
 have rd:=r.dropB nm;have hf':kH [d] (some d) tl (Sx.upB tb [(nm,none)]):=fun m hm=>by
  obtain⟨g1,g2⟩:=hf m hm;refine⟨g1,fun k B' hk e=>g2 k B' hk ?_⟩;simp only[Sx.upB] at e;split at e
  .cases e
  .exact e
 have hbk: ∀m B',(Sx.upB tb [(nm,none)]) m=some B'->m≠nm/\tb m=some B':=fun m B' e=>by
  simp only[Sx.upB] at e;split at e
  .cases e
  .exact⟨v7,e⟩
 have hnew: ∀{z:SV} {ov':List aA} {B1:List aA} {a':Act} {w':World} {dz:List DV},dO G ⟨z,s,e,dz,false⟩ B1->(∀o∈B1,o∈ov')->(∀m B',m≠d->(Sx.upB tb [(nm,none)]) m=some B'-> ∀o∈ov,(ρ m).a=some ⟨o.b,0,none⟩->o∈ov'/\z.a≠some ⟨o.b,0,none⟩)->
   SX GB C n (fq tl (some d) (.rw d)) (Sx.upB (Sx.upB tb [(nm,none)]) [(d,some (.b e s dz false))]) K->iw C n (Sx.put (cI a) (some d) (.slice z.a z.n z.c)) ov' G a' w'->K a' w':=fun hB1 hos hov hk1 rl=>
  hk1.run _ _ _ _ _ (rd.new' (f:= .rw d) (y:= .slice _ _ _) hf' (b9.refl _) rl.h (hB1.toBk vb) hos hov okK (kd rl))
 have hfin: ∀(b:Nat) (lo1:Bool) (cap':Nat) (rest':List Value) (ov1:List aA) a' w',vs.length+us.length<=cap'->rest'.length+(vs.length+us.length)*s=cap'*s->(∀o∈ov,(ρ nm).a≠some ⟨o.b,0,none⟩->o∈ov1)->
   iw C n (put (cI a) (some d) (.slice (some ⟨b,0,none⟩) (vs.length+us.length) cap')) (⟨b,aF (vs++us)++rest',e,lo1⟩::ov1) G a' w'->K a' w':=by
  intro b lo1 cap' rest' ov1 a' w' hc hr ho1 rl;have hnd':=(bU.1 rl.h.nd).1;refine hnew (z:=⟨some ⟨b,0,none⟩,vs.length+us.length,cap'⟩) (B1:=[⟨b,aF (vs++us)++rest',e,lo1⟩]) ⟨vs++us, .inr ⟨b,rest',lo1,vb,J,fC _ hall,?_,by simpa using hc⟩,hv.app h3,hall,fun h=>by cases h⟩
   (fun o ho=>by rw[aY.1 ho];exact aQ) (fun m B' hm e o ho hmo=>?_) hk rl
  .rw[fC _ hall,aU]
   simp only[];omega
  .obtain⟨h7,h8⟩:=hbk m B' e
   have ho2:=ho1 o ho fun hc=>r.dj m nm B' _ h8 (s2 _ _ hb) h7 _ hmo hc;exact⟨aJ _ ho2,fun e'=>by cases e';exact hnd' o ho2 J⟩
 rcases hB with⟨e1,e2,e3⟩|⟨b,rest,lo',k3,k4,k5,k6,k7⟩
 .subst e1
  rw[e2] at hx';by_cases hne:us=[]
  .subst hne
   have:ds2=[]:=cJ (by rw[<-h3.len];rfl);subst this;rw[h2] at hy';refine TO hx' hy' hd (fun a' w' rl=>?_) a w Q ⟨r.h,r.sz,dh a,r.df⟩;refine hnew (z:=⟨none,0,0⟩) (B1:=[]) ⟨[], .inl ⟨J,J,J⟩,by simpa using hv,vb,fun h=>by cases h⟩ (fun o ho=>by cases ho) (fun m B' hm e o ho hmo=>⟨ho,fun e'=>by cases e'⟩) hk rl
  .have hup:0<us.length:=nU.2 hne
   rw[h2] at hy' h6;refine Dc (z:=v) (xs:=[]) (ys:=aF us) hx' hy' wi h6 (by show(0:Nat)<0+us.length;omega) hby (by simpa using hbd') hd (fun b cap' hc a' w' rl=>?_) a w Q ⟨r.h,r.sz,dh a,r.df⟩;exact hfin b true cap' (du v (cap'-us.length)) ov a' w' (by simpa using hc) (by rw[oP,cz,hs,<-dV];simp at hc⊢;congr 1;omega) (fun o ho _=>ho) (by simpa using rl)
 .subst k4
  have ha:(ρ nm).a=some ⟨b,0,none⟩:=by rw[k3]
  have hn:(ρ nm).n=vs.length:=by rw[k3]
  rw[ha,hn] at hx';rw[h2] at hy' h6;obtain⟨ov1,o1,o2⟩:=ki.of_mem (hBo _ aQ);refine IB (z:=v) (xs:=aF vs) (ys:=aF us) (rest:=rest) (own1:=ov1) hx' hy' o1 k5 k6 k7 h6 hus h5 hby hbd' (by rw[cz,hs]) hd (fun b' lo2 cap' rest' hc hr a' w' rl=>?_) a w Q ⟨r.h,r.sz,dh a,r.df⟩;rw[<-nA] at rl;exact hfin b' lo2 cap' rest' ov1 a' w' hc hr (fun o ho hne=>o2 o ho fun e'=>hne (by rw[ha,e'])) rl
end
section
variable {own:aI}
def O'(fr:aD)(own:aI)(cf:Cf):Option (Nat×Nat×Nat×Nat×Nat×List DV×List DV):=match de fr cf with
 |some ⟨some d, .call ⟨.builtin .append,⟨[x,y]⟩,⟨[t,t']⟩⟩,_,_,_,_⟩=>match d9 tt t with
  |some ⟨.sl e s b,_,_,_⟩=>match d9 tt t' with
   |some ⟨.sl _ _ _,_,_,_⟩=>match d9 tt e with
    |some i=>match nF i with
     |some z=>bif Nat.beq z.cells.length s&&Nat.blt 0 b then(match q8 (cj fr cf) (jd fr own cf) s y with
      |some ds2=>match aP (cj fr cf) x with
       |some (.rw nm)=>match jd fr own cf nm with
        |some (.b e' s' ds false)=>bif (Nat.beq e' e&&Nat.beq s' s)&&!Nat.beq nm d then some (d,nm,e,s,b,ds,ds2) else none
        |_=>none
       |_=>none
      |none=>none) else none
     |none=>none
    |none=>none
   |_=>none
  |_=>none
 |_=>none
def Hk[fu:Fu](ds':List DV)(h:O' fr own cf=some (d,nm,e,s,b,ds,ds2))(hds:ds++ds2=ds')(ho2:dm s ds2)(hgo:cF tt n fu.n fr own cf (.rw d) [(nm,none),(d,some (.b e s ds' false))] [d]=⟨vc,fr',own',cf'⟩)(k:av prog GB C n Q0 fr' own' cf')
  (hbd:(ds.length+ds2.length)*b<=140737488355328:=by simp;omega)
  (hv:autoParam (ak vc) fn._auto_1):av prog GB C n Q0 fr own cf:=by
 unfold O' at h;split at h<;>try (cases h;done)
 rename_i hh;split at h<;>try (cases h;done)
 rename_i hT;split at h<;>try (cases h;done)
 rename_i hT';split at h<;>try (cases h;done)
 rename_i hi;split at h<;>try (cases h;done)
 rename_i hz;rw[cond_eq_ite] at h;split at h<;>try (cases h;done)
 rename_i hc;simp only[bR] at hc;split at h<;>try (cases h;done)
 rename_i hy;have:=jG (fe _ _ hT) J;have hN:kz prog _:=⟨_,(jG (fe _ _ hT') J).un⟩;split at h<;>try (cases h;done)
 rename_i hx;split at h<;>try (cases h;done)
 rename_i hb;rw[cond_eq_ite] at h;split at h<;>cases h;rename_i hq;simp only[bR,iK] at hq
 cases bQ hq.1.1
 cases bQ hq.1.2
 exact us hh (YM (fe _ _ hi) hz hc.1 hx hb hy ho2 hc.2 hbd hq.2 hds) hgo hv k
end
def PW(GB:Gh)(P:Program)(f:FuncId)(l:List (Option DV))(s:Nat)(ty:TypeId)(dsi:List DV)(rv:DV)(dso:List DV):Prop:=
 ∀G w vs B,b9 GB G->dO G ⟨w,s,ty,dsi,false⟩ B->IsLs G (eh l w) vs->iO P f vs B G (fun v own' G'=>Is G' rv v/\dO G' ⟨w,s,ty,dso,false⟩ own')
def aAz(h:dO G ⟨w,s,ty,ds,lo⟩ B)(g: ∀o∈B,o∈ov): ∃rest,ov.Perm (B++rest)/\ ∀o∈ov,(∀o'∈B,o.b≠o'.b)->o∈rest:=by
 rcases h with⟨vs',⟨_,_,e⟩|⟨b0,r0,lo0,_,e,_⟩,_⟩
 .rw[e];exact⟨ov,List.Perm.refl _,fun o ho _=>ho⟩
 .rw[e] at g⊢
  obtain⟨l1,l2,e2⟩:=mZ (g _ aQ);rw[e2];refine⟨l1++l2,oQ,fun o ho hno=>?_⟩;rcases aL.1 ho with ho|ho
  .exact bJ _ ho
  .rcases aV.1 ho with rfl|ho
   .exact absurd J (hno _ aQ)
   .exact aM _ ho
section
variable {own:aI}
variable {gd:Option (Nat×Bool)}
def aA0
  (ha:ww lk fo args=some (f,nm,l))(hb:bk nm=some (.b ty0 s dsi lo))(hF:PW GB prog f l s ty0 dsi rv dso):cg prog GB C n lk bk ⟨dst, .call ⟨.value fo,args,tys⟩,ty',pos,af,gd⟩ (.d rv) [(nm,some (.b ty0 s dso lo))] []:=by
 intro hd tl tb K' s1 s2 hf hk;refine⟨fun ρ G ov a w r Q=>?_⟩;have r1:=r.mono s1 s2;unfold ww at ha;split at ha<;>try (cases ha;done)
 rename_i h1;split at ha<;>cases ha;rename_i h2;obtain⟨y,hy,hy'⟩:=r1.ev h1;rw[(aO (G:=G)).1 hy'] at hy;obtain⟨B,g1,g2⟩:=r1.bx _ _ hb;have hB:dO G ⟨ρ nm,s,ty0,dsi,lo⟩ B:=g1;obtain⟨vs,h7,h8⟩:=Ao r1 (z:=ρ nm) h2 (fun nm e=>by cases e;rfl);obtain⟨rest,h5,h6⟩:=aAz hB g2;refine vR (M:=B) (rest:=rest) hy h7 h5 (hF G (ρ nm) vs B r.gb hB.weak h8) hd (fun v own1 G' hG hK a' w' rl=>?_) a w Q ⟨r.h,r.sz,dh a,r.df⟩;obtain⟨hr,vs',k1,k2,k3,k4⟩:=hK;have k1':=k1.relo (ig B);have e2:lo=true-> ∀o∈own1.map (relo (ig B)),o.lo=true:=fun hl o ho=>by
  obtain⟨o',_,rfl⟩:=aT.1 ho;obtain⟨_,_,_,_,hlo⟩:=hB;exact A4 _ (hlo hl)
 generalize own1.map (relo (ig B))=B' at rl e2 k1';have r2:=r.upB (G':=G') (ov':=B'++rest) (w':=w') (B':= .b ty0 s dso lo) (os:=B') hG.le rl.h ⟨vs',by simpa using k1',k2,k3,e2⟩ (fun o ho=>bJ _ ho)
  (fun o ho hne=>aM _ (h6 o ho fun o' ho' he=>hne (by rw[g1.blk ho',he]))) ⟨_,s2 _ _ hb⟩
 exact hk.run _ G' _ a' w' (r2.put hr (kd rl))
def Sj(fr:aD)(own:aI)(cf:Cf):Option (FuncId×Nat×List (Option DV)×TypeId×Nat×List DV×Bool):=match de fr cf with
 |some ⟨_, .call ⟨.value fo,args,_⟩,_,_,_,_⟩=>match ww (cj fr cf) fo args with
  |some (f,nm,l)=>match jd fr own cf nm with
   |some (.b ty s ds lo)=>some (f,nm,l,ty,s,ds,lo)
   |_=>none
  |none=>none
 |_=>none
def cw[fu:Fu](dso':List DV)(ha:Sj fr own cf=some (f,nm,l,ty,s,dsi,lo))(hF:PW GB prog f l s ty dsi rv dso)(he:dso=dso')
  (hgo:cF tt n fu.n fr own cf (.d rv) [(nm,some (.b ty s dso' lo))] []=⟨vc,fr',own',cf'⟩)(k:av prog GB C n Q0 fr' own' cf')
  (hv:autoParam (ak vc) fn._auto_1):av prog GB C n Q0 fr own cf:=by
 subst he;unfold Sj at ha;split at ha<;>try (cases ha;done)
 rename_i hh;split at ha<;>try (cases ha;done)
 rename_i h1;split at ha<;>cases ha;rename_i h2;exact us hh (aA0 h1 h2 hF) hgo hv k
def Oa(h:dO G ⟨w,s,ty,ds,lo⟩ B)(hn:0<ds.length:=by omega): ∃b,w=⟨some ⟨b,0,none⟩,ds.length,w.c⟩/\ds.length<=w.c:=by
 obtain⟨vs,h1,h2,_⟩:=h;rcases h1 with⟨e1,_,_⟩|⟨b,rest,lo',e1,_,_,_,h5⟩
 .subst e1;have:=h2.len;simp at this;omega
 .exact⟨b,by rw[<-h2.len];exact e1,by rw[<-h2.len];exact h5⟩
def aKU[hT:cD P t e s by_](hx:aP lk x=some (.rw nm))(hb:bk nm=some (.b ty s ds lo))(hy:aP lk y=some (.d (.v (.int k j))))(hm:j+m=ds.length)(h1:0<m):
  cg P GB C n lk bk ⟨dst, .slice t x (some y) none none,ty',pos,af,gd⟩ (.rs nm s j m) [] []:= .yd fun ρ G ov a w r=>by
 obtain⟨u,hu,hu2⟩:=r.ev hx
 cases (show u=_ from hu2)
 obtain⟨v,hv,hv2⟩:=r.ev hy;rw[dl] at hv2;subst hv2;obtain⟨B,hB,_⟩:=r.row (y:= .nilFunc) hb;obtain⟨b,hw,hc⟩:=Oa hB;rw[hw] at hu;have hs:=Du (P:=P) (C:=C) (own:=ov) (G:=G) (dst:=dst) (ty':=ty') (pos:=pos) (af:=af) (gd:=gd) (t:=t) hu hv m5 (by show(j:Int)<=(ds.length:Nat);omega);have hne:(ρ nm).c≠j:=by omega
 refine⟨_,⟨b,(ρ nm).c-j,by rw[hw],?_,?_⟩,hs⟩
 .unfold nB
  rw[cX,if_neg hne,kU,rH,eM,show ds.length-j=m by omega]
 .omega
def aIs[hT:cD P t e s by_](hx:aP lk x=some (.rs nm sz off m)):cg P GB C n lk bk ⟨dst, .call ⟨.builtin .len, #[x], #[t]⟩,ty',pos,af,gd⟩ (.d (.v (.int .i64 (m:Nat)))) [] []:= .x1 hx fun ρ G ov a w y _ r h1 h2=>by
 obtain⟨b,c,_,rfl,_⟩:=h2;exact⟨_,dl.2 J,vh h1⟩
def aJd[hT:cD P t e s by_](hx:aP lk x=some (.rs nm s off m))(hy:aP lk y=some (.d (.v (.int k i))))(h0:0<=i)(h1:i<(m:Nat))(hj:(off:Int)+i=(j:Nat)):
  cg P GB C n lk bk ⟨dst, .indexAddr t x y,ty',pos,af,gd⟩ (.be nm s j 0) [] []:= .yd fun ρ G ov a w r=>by
 obtain⟨u,hu,hu2⟩:=r.ev hx;obtain⟨b,c,hb,rfl,hc⟩:=hu2;obtain⟨v,hv,hv2⟩:=r.ev hy;rw[dl] at hv2;subst hv2;have:=wK (P:=P) (C:=C) (own:=ov) (G:=G) (dst:=dst) (ty':=ty') (pos:=pos) (af:=af) (gd:=gd) (t:=t) hu hv h0 h1;obtain rfl:off+i.toNat=j:=by omega
 exact⟨_,⟨b,hb,J⟩,by rw[gQ,dV];exact this⟩
def L4(fr:aD)(own:aI)(cf:Cf):Option (Nat×Nat×List DV×Int):=match de fr cf with
 |some ⟨_, .slice t x (some y) none none,_,_,_,_⟩=>match d9 tt t with
  |some ⟨.sl _ s' _,_,_,_⟩=>match aP (cj fr cf) x with
   |some (.rw nm)=>match jd fr own cf nm with
    |some (.b _ s ds _)=>match aP (cj fr cf) y with
     |some (.d (.v (.int _ i)))=>bif Nat.beq s s' then some (nm,s,ds,i) else none
     |_=>none
    |_=>none
   |_=>none
  |_=>none
 |_=>none
def Tu[fu:Fu](k m:Nat)(h:L4 fr own cf=some (nm,s,ds,i))(hi:i=(k:Nat))(hm:k+m=ds.length)(hp:0<m)(hgo:cF tt n fu.n fr own cf (.rs nm s k m) [] []=⟨vc,fr',own',cf'⟩)(kk:av prog GB C n Q0 fr' own' cf')
  (hv:autoParam (ak vc) fn._auto_1):av prog GB C n Q0 fr own cf:=by
 subst hi;unfold L4 at h;split at h<;>try (cases h;done)
 rename_i hh;split at h<;>try (cases h;done)
 rename_i hT;split at h<;>try (cases h;done)
 rename_i hx;split at h<;>try (cases h;done)
 rename_i hb;split at h<;>try (cases h;done)
 rename_i hy;rw[cond_eq_ite] at h;split at h<;>cases h;rename_i hq
 cases bQ hq
 have:=jG (fe _ _ hT) J;exact us hh (aKU hx hb hy hm hp) hgo hv kk
def NO(fr:aD)(cf:Cf):Option Nat:=match de fr cf with
 |some ⟨_, .call ⟨.builtin .len,⟨[x]⟩,⟨[t]⟩⟩,_,_,_,_⟩=>match d9 tt t with
  |some ⟨.sl _ _ _,_,_,_⟩=>match aP (cj fr cf) x with
   |some (.rs _ _ _ m)=>some m
   |_=>none
  |_=>none
 |_=>none
def rsn[fu:Fu](h:NO fr cf=some m)(hgo:cF tt n fu.n fr own cf (.d (.v (.int .i64 (m:Nat)))) [] []=⟨vc,fr',own',cf'⟩)(kk:av prog GB C n Q0 fr' own' cf')
  (hv:autoParam (ak vc) fn._auto_1):av prog GB C n Q0 fr own cf:=by
 unfold NO at h;split at h<;>try (cases h;done)
 rename_i hh;split at h<;>try (cases h;done)
 rename_i hT;split at h<;>cases h;rename_i hx;have:=jG (fe _ _ hT) J;exact us hh (aIs hx) hgo hv kk
def N0(fr:aD)(cf:Cf):Option (Nat×Nat×Nat×Nat×Int):=match de fr cf with
 |some ⟨_, .indexAddr t x y,_,_,_,_⟩=>match d9 tt t with
  |some ⟨.sl _ s' _,_,_,_⟩=>match aP (cj fr cf) x with
   |some (.rs nm s off m)=>match aP (cj fr cf) y with
    |some (.d (.v (.int _ i)))=>bif Nat.beq s s' then some (nm,s,off,m,i) else none
    |_=>none
   |_=>none
  |_=>none
 |_=>none
def Jp[fu:Fu](k:Nat)(h:N0 fr cf=some (nm,s,off,m,i))(hk:(off:Int)+i=(k:Nat))(h0:0<=i)(h1:i<(m:Nat))(hgo:cF tt n fu.n fr own cf (.be nm s k 0) [] []=⟨vc,fr',own',cf'⟩)(kk:av prog GB C n Q0 fr' own' cf')
  (hv:autoParam (ak vc) fn._auto_1):av prog GB C n Q0 fr own cf:=by
 unfold N0 at h;split at h<;>try (cases h;done)
 rename_i hh;split at h<;>try (cases h;done)
 rename_i hT;split at h<;>try (cases h;done)
 rename_i hx;split at h<;>try (cases h;done)
 rename_i hy;rw[cond_eq_ite] at h;split at h<;>cases h;rename_i hq
 cases bQ hq
 have:=jG (fe _ _ hT) J;exact us hh (aJd hx hy h0 h1 hk) hgo hv kk
def jo.cut{z:SV}{vs:List Value}(h:jo s ty z vs B)(hs: ∀v∈vs,(aH v).length=s){k:Nat}(hk:k<=vs.length)(hne:0<vs.length):jo s ty ⟨z.a,k,z.c⟩ (vs.take k) B:=by
 rcases h with⟨h1,_,_⟩|⟨b,rest,lo,h1,h2,h3,h4,h5⟩
 .subst h1;simp at hne
 .have e:aF vs=aF (vs.take k)++aF (vs.drop k):=by rw[<-nA,kR]
  have hl:=fC (vs.take k) fun v hv=>hs v (dS hv);have hm:(vs.take k).length=k:=by rw[bL];omega
  refine .inr ⟨b,aF (vs.drop k)++rest,lo,by rw[hm,h1],by rw[h2,e,dK],hl,?_,by rw[hm];show k<=z.c;omega⟩;show _=z.c*s;rw[<-h4,e,aU,aU];omega
def aHV[hT:cD P t e s by_](hne:Nat.beq nm d=false)(hx:aP lk x=some (.rw nm))(hb:bk nm=some (.b ty s ds lo))(hy:aP lk y=some (.d (.v (.int k j))))(h1:j<ds.length):
  cg P GB C n lk bk ⟨some d, .slice t x none (some y) none,ty',pos,af,gd⟩ (.rw d) [(nm,none),(d,some (.b ty s (ds.take j) lo))] [d]:=by
 intro hd tl tb K s1 s2 hf hk;refine⟨fun ρ G ov a w r Q=>?_⟩;have r1:=r.mono s1 s2;obtain⟨u,hu,hu2⟩:=r1.ev hx
 cases (show u=_ from hu2)
 obtain⟨v,hv,hv2⟩:=r1.ev hy;rw[dl] at hv2;subst hv2;obtain⟨B,hB0,hBo⟩:=r1.bx _ _ hb;have hB:dO G ⟨ρ nm,s,ty,ds,lo⟩ B:=hB0;obtain⟨b,hw,hc⟩:=Oa hB;obtain⟨vs,g1,g2,g3,g4⟩:=hB;have hvl:=g2.len;have hcut:dO G ⟨⟨(ρ nm).a,j,(ρ nm).c⟩,s,ty,ds.take j,lo⟩ B:=⟨vs.take j,jo.cut g1 g3 (by simp only at hvl⊢;omega) (by simp only at hvl⊢;omega),g2.take _,fun v hv=>g3 v (dS hv),g4⟩;have hs:=DD (P:=P) (C:=C) (own:=ov) (G:=G) (dst:=some d) (ty':=ty') (pos:=pos) (af:=af) (gd:=gd) (t:=t) hu hv;have hnn:nm≠d:=fun e=>by subst e;rw[oL] at hne;cases hne
 have r2:=r.dropB nm;have hf2:kH [d] (some d) tl (Sx.upB tb [(nm,none)]):=fun q hq=>by
  obtain⟨f1,f2⟩:=hf q hq;refine⟨f1,fun k B e1 e=>?_⟩;simp only[Sx.upB] at e;split at e
  .cases e
  .exact f2 k B e1 e
 have r3:=r2.new' (x:=⟨(ρ nm).a,j,(ρ nm).c⟩) (B':= .b ty s (ds.take j) lo) (os:=B) (ov':=ov) (f:= .rw d) (y:= .slice (ρ nm).a j (ρ nm).c) hf2 (b9.refl _) r.h (hcut.toBk vb) hBo
  (fun m B' hm e o ho hmo=>⟨ho,fun hc=>by
   simp only[Sx.upB] at e;split at e
   .cases e
   .rename_i hmn
    exact r.dj m nm B' _ e (s2 _ _ hb) hmn _ hmo hc⟩) (by simp[cp]) (r.putA (.slice (ρ nm).a j (ρ nm).c) hd)
 exact kI (hs a w (dh a) r.h) (hk.run _ G _ _ w r3)
def OW(fr:aD)(own:aI)(cf:Cf):Option (Nat×Nat×TypeId×Nat×List DV×Bool×Int):=match de fr cf with
 |some ⟨some d, .slice t x none (some y) none,_,_,_,_⟩=>match d9 tt t with
  |some ⟨.sl _ s' _,_,_,_⟩=>match aP (cj fr cf) x with
   |some (.rw nm)=>match jd fr own cf nm with
    |some (.b ty s ds lo)=>match aP (cj fr cf) y with
     |some (.d (.v (.int _ i)))=>bif Nat.beq s s'&&!Nat.beq nm d then some (d,nm,ty,s,ds,lo,i) else none
     |_=>none
    |_=>none
   |_=>none
  |_=>none
 |_=>none
def IH[fu:Fu](ds':List DV)(k:Nat)(h:OW fr own cf=some (d,nm,ty,s,ds,lo,i))(hi:i=(k:Nat))(hl:k<ds.length)(hd:ds.take k=ds')(hgo:cF tt n fu.n fr own cf (.rw d) [(nm,none),(d,some (.b ty s ds' lo))] [d]=⟨vc,fr',own',cf'⟩)(kk:av prog GB C n Q0 fr' own' cf')
  (hv:autoParam (ak vc) fn._auto_1):av prog GB C n Q0 fr own cf:=by
 subst hi hd;unfold OW at h;split at h<;>try (cases h;done)
 rename_i hh;split at h<;>try (cases h;done)
 rename_i hT;split at h<;>try (cases h;done)
 rename_i hx;split at h<;>try (cases h;done)
 rename_i hb;split at h<;>try (cases h;done)
 rename_i hy;rw[cond_eq_ite] at h;split at h<;>cases h;rename_i hq;simp only[bR,iK] at hq
 cases bQ hq.1
 have:=jG (fe _ _ hT) J;exact us hh (aHV hq.2 hx hb hy hl) hgo hv kk
def Vr(v:Value)(m:Nat):aF (List.replicate m v)=du v m:=by
 unfold du
 induction m with
 |zero=>rfl
 |succ m ih=>rw[mT,mT,nJ,<-ih];rfl
def QC{G:Gh}{z:DV}{v:Value}(h:Is G z v): ∀m:Nat,IsLs G (List.replicate m z) (List.replicate m v)
 |0=> .nil
 |m+1=>by rw[mT,mT];exact .cons h (QC h m)
def aKx[hT:cD P t e s by_]{i:TI}(hi:f8 P e=some i)(hz:nF i=some z)(hzs:z.cells.length=s)(hx:aP lk x=some (.rs nm s off (m+1)))(hb:bk nm=some (.b ty s ds lo))(hm:off+(m+1)=ds.length):
  cg P GB C n lk bk ⟨dst, .call ⟨.builtin .clear, #[x], #[t]⟩,ty',pos,af,gd⟩ (.d (.tp [])) [(nm,some (.b ty s (ds.take off++List.replicate (m+1) z) lo))] []:=by
 intro hd tl tb K s1 s2 hf hk;refine⟨fun ρ G ov a w r Q=>?_⟩;have r1:=r.mono s1 s2;obtain⟨v,hz1,hz2,hz3⟩:=yf hi hz;have cz:=((hz2 G).cells hz3).1.len;have cf:=((hz2 G).cells hz3).2;rw[hzs] at cz;obtain⟨u,hu,b,c,hbq,rfl,hc⟩:=r1.ev hx;obtain⟨B,hB0,hBo⟩:=r1.bx _ _ hb;have hB:dO G ⟨ρ nm,s,ty,ds,lo⟩ B:=hB0;obtain⟨vs,g1,g2,g3,g4⟩:=hB;simp only at g1 g2 g3 g4;have hvl:=g2.len;rcases g1 with⟨e1,e2,_⟩|⟨b',rest,lo',k1,k2,k3,k4,k5⟩
 .subst e1;simp at hvl;omega
 .have hbe:b'=b:=by rw[k1] at hbq;cases hbq;rfl
  subst hbe;subst k2;have hmem:=hBo _ aQ;have hblk:=(r.h.hown _ hmem).1;simp only at hblk;have hzl:(du v (m+1)).length=(m+1)*s:=by rw[oP,cz]
  have hls:vs.length*s=off*s+(m+1)*s:=by rw[<-dV];congr 1;omega
  have hst:=yz (P:=P) (du v (m+1)) w (off*s) 0 (aF vs++rest) (fun q hq=>by
   unfold du at hq;obtain⟨l,hl,hql⟩:=List.mem_flatten.1 hq;rw[mM hl] at hql;exact cf q hql) hblk (by rw[hzl,aU];omega)
  rw[gQ] at hst;have htk:=fC (vs.take off) fun q hq=>g3 q (dS hq);have hov:cP (aF vs++rest) (off*s) (du v (m+1))=aF (vs.take off++List.replicate (m+1) v)++rest:=by
   rw[qj _ _ _ (by rw[hzl,aU];omega),nA,Vr];have e1:(aF vs++rest).take (off*s)=aF (vs.take off):=by
    rw[fV m5,Df vs off g3 m5]
   rw[e1,hzl,<-hls,kV m5,iL m5,kQ]
  have hrun:(Builtin.clear_ #[t] ty' #[.slice (some ⟨b',off*s,none⟩) (m+1) c]).run P w= .ok (.tuple #[]) (iv w b' (.cells ⟨aF (vs.take off++List.replicate (m+1) v)++rest⟩ ty (0,0))):=by
   unfold Builtin.clear_;show(underlying t>>=_).run P w=_;rw[bh (hT.u w)];show(zeroValue e>>=fun q=>storeCells ⟨b',off*s,none⟩ (Builtin.zeroCells q.cells (m+1)).toList>>=fun _=>pure (Value.tuple #[])).run P w=_;rw[bh (hz1.zero w)];show(storeCells ⟨b',off*s,none⟩ (Builtin.zeroCells v.cells (m+1)).toList>>=fun _=>pure (Value.tuple #[])).run P w=_;rw[po,UK,bh (hov▸hst)];rfl
  obtain⟨own',u1,u2,u3⟩:=i9.of_mem (cs':=aF (vs.take off++List.replicate (m+1) v)++rest) hmem;have r2:=r.upB (G':=G) (ov':=own') (w':=iv w b' (.cells ⟨aF (vs.take off++List.replicate (m+1) v)++rest⟩ ty (0,0))) (B':= .b ty s (ds.take off++List.replicate (m+1) z) lo) (os:=[⟨b',aF (vs.take off++List.replicate (m+1) v)++rest,ty,lo'⟩]) (b9.refl _) (r.h.store u1)
   ⟨vs.take off++List.replicate (m+1) v, .inr ⟨b',rest,lo',?_,J,?_,?_,?_⟩,(g2.take _).app (QC (hz2 G) _),?_,?_⟩ (fun o ho=>by rw[aY.1 ho];exact u2) (fun o ho hne=>u3 o ho fun e=>hne (by rw[hbq,e])) ⟨_,s2 _ _ hb⟩
  .have h3:=hk.run _ G _ _ _ (r2.put (f:= .d (.tp [])) (y:= .tuple #[]) (lh.2 ⟨[],J, .nil⟩) (r2.putA (.tuple #[]) hd))
   refine kI (v:= .tuple #[]) ?_ h3;simp only[execOp,resolve,iY,bY,iQ,bC (dh a) hu];exact dq hrun
  .rw[k1,aU,bL,aR,jZ m5]
   simp only[SV.mk.injEq,true_and,and_true];omega
  .refine fC _ fun q hq=>?_
   rcases aL.1 hq with hq|hq
   .exact g3 q (dS hq)
   .rw[mM hq,cz]
  .rw[nA,Vr,aU,htk,hzl,bL,jZ m5]
   omega
  .rw[aU,bL,aR,jZ m5];omega
  .intro q hq
   rcases aL.1 hq with hq|hq
   .exact g3 q (dS hq)
   .rw[mM hq,cz]
  .intro hl o ho
   have:=g4 hl _ aQ;rw[aY.1 ho];exact this
def N8(fr:aD)(own:aI)(cf:Cf):Option (Nat×TypeId×Nat×List DV×Bool×Nat×Nat×DV):=match de fr cf with
 |some ⟨_, .call ⟨.builtin .clear,⟨[x]⟩,⟨[t]⟩⟩,_,_,_,_⟩=>match d9 tt t with
  |some ⟨.sl e s' _,_,_,_⟩=>match aP (cj fr cf) x with
   |some (.rs nm s off m)=>match jd fr own cf nm with
    |some (.b ty s2 ds lo)=>match d9 tt e with
     |some i=>match nF i with
      |some z=>bif Nat.beq s s'&&(Nat.beq s s2&&Nat.beq z.cells.length s) then some (nm,ty,s,ds,lo,off,m,z) else none
      |none=>none
     |none=>none
    |_=>none
   |_=>none
  |_=>none
 |_=>none
def rcl[fu:Fu](ds':List DV)(h:N8 fr own cf=some (nm,ty,s,ds,lo,off,m,z))(hm:off+m=ds.length)(hp:0<m)(hd:ds.take off++List.replicate m z=ds')(hgo:cF tt n fu.n fr own cf (.d (.tp [])) [(nm,some (.b ty s ds' lo))] []=⟨vc,fr',own',cf'⟩)(kk:av prog GB C n Q0 fr' own' cf')
  (hv:autoParam (ak vc) fn._auto_1):av prog GB C n Q0 fr own cf:=by
 subst hd;obtain⟨m,rfl⟩: ∃q,m=q+1:=⟨m-1,m5⟩;unfold N8 at h;split at h<;>try (cases h;done)
 rename_i hh;split at h<;>try (cases h;done)
 rename_i hT;split at h<;>try (cases h;done)
 rename_i hx;split at h<;>try (cases h;done)
 rename_i hb;split at h<;>try (cases h;done)
 rename_i hi;split at h<;>try (cases h;done)
 rename_i hz;rw[cond_eq_ite] at h;split at h<;>cases h;rename_i hq;simp only[bR] at hq
 cases bQ hq.1
 cases bQ hq.2.1
 have:=jG (fe _ _ hT) J;exact us hh (aKx (fe _ _ hi) hz (bQ hq.2.2) hx hb hm) hgo hv kk
end
section
variable {own:aI}
def jO{e:Exit}(hr:sk tt fr own fb.results.toList=some ds)(hd: ∀G y,Is G (gg ds) y->Is G rv y)(he:EL e=true:=by rfl):av prog GB C n (ge C prog fb (nf C (fun v G'=>Is G' rv v))) fr own (.ex e []):=by
 refine⟨fun ρ G ov a w r=>?_⟩;obtain⟨vs,h1,h2⟩:=DH r hr;have hk:Is G rv (p9 vs):=hd _ _ (D8 h2)
 cases e with
 |ret=>exact zD (C:=C) (n:=n) (fr:=cI a) (own:=ov) (G:=G) (K:=fun v G'=>Is G' rv v) h1 hk a w ⟨r.h,r.sz,dh a,r.df⟩
 |normal=>exact N3 (C:=C) (n:=n) (fr:=cI a) (own:=ov) (G:=G) (K:=fun v G'=>Is G' rv v) h1 hk a w ⟨r.h,r.sz,dh a,r.df⟩
 |_=>cases he
def LG(fr:aD)(cf:Cf):Option (Int×IntKind):=match de fr cf with
 |some ⟨_, .convert t t' x,_,_,_,_⟩=>match d9 tt t,d9 tt t',aP (cj fr cf) x with
  |some ⟨.int k,_,_,_⟩,some ⟨.int k',_,_,_⟩,some (.d (.v (.int j p)))=>bif kq k j then some (p,k') else none
  |_,_,_=>none
 |_=>none
def cu[fu:Fu](u:Int)(h:LG fr cf=some (p,k'))(e:k'.wrap p=u)(hgo:cF tt n fu.n fr own cf (.d (.v (.int k' u))) [] []=⟨vc,fr',own',cf'⟩)(k:av prog GB C n Q0 fr' own' cf')
  (hv:autoParam (ak vc) cL._auto_1):av prog GB C n Q0 fr own cf:=by
 unfold LG at h;split at h<;>try (cases h;done)
 rename_i hh;split at h<;>try (cases h;done)
 rename_i k0 _ _ _ k1 _ _ _ j p0 hT hT' hx
 cases hk:kq k0 j with
 |false=>rw[hk] at h;cases h
 |true=>
  rw[hk,cond_true] at h;cases h;cases Dw hk;have:=zz (fe _ _ hT) J;have:=zz (fe _ _ hT') J;subst e;refine us hh (.x1 hx fun ρ G ov a w y _ r h1 h2=>?_) hgo hv k;rw[dl] at h2;subst h2;exact⟨_,dl.2 J,El h1⟩
def Nj(fr:aD)(cf:Cf):Option (Int×IntKind):=match de fr cf with
 |some ⟨_, .unOp .neg _ x,_,_,_,_⟩=>match aP (cj fr cf) x with
  |some (.d (.v (.int j p)))=>some (p,j)
  |_=>none
 |_=>none
def nu[fu:Fu](u:Int)(h:Nj fr cf=some (p,k'))(e:k'.wrap (0-p)=u)(hgo:cF tt n fu.n fr own cf (.d (.v (.int k' u))) [] []=⟨vc,fr',own',cf'⟩)(k:av prog GB C n Q0 fr' own' cf')
  (hv:autoParam (ak vc) cL._auto_1):av prog GB C n Q0 fr own cf:=by
 unfold Nj at h;split at h<;>try (cases h;done)
 rename_i hh;split at h<;>cases h;rename_i hx;subst e;exact us hh (.x1 hx fun ρ G ov a w y _ r h1 h2=>by
  rw[dl] at h2;subst h2;exact⟨_,dl.2 J,GT h1⟩) hgo hv k
end
def ML(h:0<W.length:=by omega)(hz:W.getD (W.length-1) 0=0:=by omega):trimD W=trimD (W.take (W.length-1)):=by
 have:=Sc (ds:=W) (n:=W.length) ⟨h,bW _⟩ hz;rwa [dX] at this
def Er(hz:0<W.length->W.getD (W.length-1) 0≠0):trimD W=W:=by
 have:=Oe (ds:=W) (n:=W.length) (bW _) hz;rwa [dX] at this
theorem omh{p:Prop}(h:p:=by rw[hml]<;>rfl):p:=h
def uC{ds:List Nat}(hl:ds.length<=1125899906842624:=by omega):PF GB prog 193 [et ds] (et (trimD ds)):=by
 refine fn func193 J J ntmps193 J J (fun C=>?_);refine lp (fu:=⟨5⟩) (X:=List Nat) (fun W=>[(0, .d (et W))]) (fun W=>[]) (fun W=>trimD ds=trimD W/\W.length<=ds.length) (fun W=>W.length) ds J ⟨J,bW _⟩ (fun _=>J) (fun W hk=>?_);obtain⟨h1,h2⟩:=hk;have hml:=ck W;refine aj 4 (.d (vI (W.length:Nat))) J omh<|gx J<|cs (fu1:=⟨3⟩) 6 J J J (fun hg6=>?_) (fun hg6=>?_)
 .
  refine aj 9 (.d (vI (W.length:Nat))) J omh<|gx J<|ix _ J (di (k:=W.length-1)) J<|br (fu1:=⟨7⟩) J J J (fun hc14=>?_) (fun hc14=>?_)
  .
   refine aj 17 (.d (vI (W.length:Nat))) J omh<|gx (fu:=⟨1⟩) J<|aj 18 (.d (vI (W.length-1:Nat))) J (omb m5)<|gx J<|kt (fu:=⟨0⟩) 0 (W.length-1) _ J J J J (sO _) m5 vb J<|aj 19 (.d (et (W.take (W.length-1)))) J (by show FX.d (.sl _)=FX.d (.sl _);simp)<|gx J<|at_ (W.take (W.length-1)) ⟨⟨by rw[h1,ML],by rw[bL];omega⟩,(by rw[bL];omega)⟩
  .
   exact rz J (by rw[h1,Er (fun _=>by omega)];rfl)
 .
  exact rz J (by rw[h1,Er (fun _=>by omega)];rfl)
def aMb{ds:List Nat}{v:Value}(hd:bF ds)(h:Is G (et ds) v): ∃x:SV,v=x.v/\ou G x ds:=by
 obtain⟨x,rfl,h1⟩:=Hm.1 h;exact⟨x,J,hd,h1⟩
def Uq{ds:List Nat}(hd:bF ds)(hb:ds.length<=1125899906842:=by omega):PF GB prog 250 [et ds] (et ds):=fun G vs _ hv=>by
 obtain⟨v,m,rfl,h1,h2⟩:=bj.1 hv
 cases fj.1 h2
 obtain⟨x,rfl,h3⟩:=aMb hd h1;exact(ax5 h3 hb).mono fun v G' _ ⟨z,e,h⟩=>by subst e;exact Hm.2 ⟨z,J,h.sl⟩
def VY{ds:List Nat}(h:ds.length=0):gi ds:=by rw[cJ h];unfold gi;simp
def Xp{ds:List Nat}(h:0<ds.length):gi ds↔ds.getD (ds.length-1) 0≠0:=by
 unfold gi;rw[oY,aK,aZ m5];simp
def aHr(a:Nat):trimD (dg a)=dg a:=avG (gE a).2.2
def qH(h:(dg a).length<=1125899906842624:=by omega):PF GB prog 193 [dN a] (dN a):=(uC (ds:=dg a) h).to (by rw[aHr];rfl)
def jH{i:Nat}[h:BN a i](hi:i<=1000000000:=by omega):(dg a).length<=31250001:=by have:=lx h.h;omega
def wI{i:Nat}[h:BN a i](hi:i<=1000000000:=by decide):PF GB prog 185 [dN a] (dN a):=by
 have hla:=ck (dg a);have hba:=jH (a:=a) hi;refine fn func185 J J ntmps185 J J (fun C=>?_);refine cl J (qH) J<|cl J (Uq (ik _)) J<|rz J J
theorem omm{p:Prop}(h:p:=by rw[hla]<;>rfl):p:=h
def Qp{ds:List Nat}(hd:bF ds)(hl:ds.length<=1125899906842624):PF GB prog 290 [et ds] (vB (decide (gi ds))):=by
 have hla:=ck ds;refine fn (fu:=⟨9⟩) func290 J J ntmps290 J J (fun C=>?_);refine aj 4 (.d (vI (ds.length:Nat))) J omm<|gx J<|cs (fu2:=⟨3⟩) 6 J J J (fun hg6=>?_) (fun hg6=>?_)
 .
  exact rz J (by rw[decide_eq_true (VY m5)];rfl)
 .
  refine aj 9 (.d (vI (ds.length:Nat))) J omm<|gx J<|ix _ J (di (k:=ds.length-1)) J<|rz J (by show DV.v (.bool (decide _))=DV.v (.bool (decide _));congr 2;exact decide_eq_decide.2 (by rw[Xp m5];omega))
def AU(h:a<18446744073709551616:=by omega):PF GB prog 186 [.v (.int .u64 (a:Nat))] (dN a):=by
 refine fn (fu:=⟨11⟩) (hv:=by simp only[ak];exact pb) func186 J J ntmps186 J J (fun C=>?_);refine aj 6 (.d (.v (.int .u64 (a/4294967296:Nat)))) J okh<|gx J<|rf (fu:=⟨0⟩) J J<|aj 8 (.d (et [a%4294967296,a/4294967296])) J omU<|gx J<|cl J (uC (ds:=[a%4294967296,a/4294967296]) vb) J<|rz J (ma (Mx h) (RI a))
theorem omJ{p:Prop}(h:p:=by rw[hlb]<;>rfl):p:=h
def TG{i:Nat}[h:BN a i][k:BN b j](hi:i<=1000000000:=by decide)(hj:j<=1000000000:=by decide):PF GB prog 248 [dN a,dN b] (vI (jy a b)):=by
 have hla:=ck (dg a);have hba:=jH (a:=a) hi;have hlb:=ck (dg b);have hbb:=jH (a:=b) hj;refine fn func248 J J ntmps248 J J (fun C=>?_);refine cl J (qH) J<|cl (fu:=⟨9⟩) J (qH) J<|aj 11 (.d (vI ((dg a).length:Nat))) J omm<|gx (fu:=⟨2⟩) J<|aj 13 (.d (vI ((dg b).length:Nat))) J omJ<|gx J<|br (fu1:=⟨5⟩) (fu2:=⟨7⟩) J J J (fun hc14=>?_) (fun hc14=>?_)
 .
  refine aj 16 (.d (vI ((dg a).length:Nat))) J omm<|gx (fu:=⟨2⟩) J<|aj 18 (.d (vI ((dg b).length:Nat))) J omJ<|gx J<|br J J J (fun hc19=>?_) (fun hc19=>?_)
  .
   exact rz J (by show DV.v (.int _ (-1))=_;rw[<-Ix,B7 m5];rfl)
  .
   exact rz J (by show DV.v (.int _ 1)=_;rw[<-Ix,Cn m5];rfl)
 .
  have hl:(dg a).length=(dg b).length:=by omega
  refine aj 21 (.d (vI ((dg a).length:Nat))) J omm<|gx J<|lp (X:=Nat) (fun k=>[(5, .d (vI ((k:Nat)-1)))]) (fun k=>[]) (fun k=>k<=(dg a).length/\(dg a).drop k=(dg b).drop k) (fun k=>k) (dg a).length J ⟨bW _,by rw[fR,hl,fR]⟩ (fun _=>J) (fun k hk=>?_);obtain⟨h1,h2⟩:=hk;refine br J J J (fun hc24=>?_) (fun hc24=>?_)
  .
   obtain⟨k,rfl⟩: ∃m,k=m+1:=⟨k-1,m5⟩;refine ix _ J (di (k:=k)) J<|ix _ J (di (k:=k)) J<|br J J J (fun hc27=>?_) (fun hc27=>?_)
   .
    exact rz J (by show DV.v (.int _ (-1))=_;rw[B7 ((zj hl m5 h2).1 m5)];rfl)
   .
    refine ix _ J (di (k:=k)) J<|ix _ J (di (k:=k)) J<|br J J J (fun hc37=>?_) (fun hc37=>?_)
    .
     exact rz J (by show DV.v (.int _ 1)=_;rw[Cn ((zj hl m5 h2).2.1 m5)];rfl)
    .
     exact at_ k ⟨⟨m5,(zj (i:=k) hl m5 h2).2.2 m5⟩,m5⟩
  .
   exact rz rfl (by show DV.v (.int _ 0)=_;rw[HQ];rfl;obtain rfl:k=0:=m5;rw[iW,iW] at h2;rw[<-dG a,h2,dG])
def aMY{a b i j:Nat}[h:BN a i][k:BN b j](hi:i<=1000000000:=by decide)(hj:j<=1000000000:=by decide):PF GB prog 182 [dN a,dN b] (dN (a+b)):=by
 have hla:=ck (dg a);have hba:=jH (a:=a) hi;have hlb:=ck (dg b);have hbb:=jH (a:=b) hj;refine fn (fu:=⟨6⟩) func182 J J ntmps182 J J (fun C=>?_);refine mg (fu:=⟨4⟩) (X:=Nat×Nat) (fun⟨A,B⟩=>[(0, .d (dN A)),(1, .d (dN B))]) (fun⟨A,B⟩=>[]) (fun⟨A,B⟩=>(dg B).length<=(dg A).length/\A+B=a+b/\(dg A).length<=31250001) [0,1] [] rfl ?_ (fun _=>J) (fun⟨A,B⟩ ⟨hm1,hm2,hm3⟩=>?_)
 .
  refine gx (fu:=⟨4⟩) J<|aj 10 (.d (vI ((dg a).length:Nat))) J omm<|gx (fu:=⟨2⟩) J<|aj 12 (.d (vI ((dg b).length:Nat))) J omJ<|gx J<|br J J J (fun hc13=>?_) (fun hc13=>?_)
  .
   exact at_ ⟨b,a⟩ ⟨m5,lK b a,hbb⟩
  .
   exact at_ ⟨a,b⟩ ⟨m5,J,hba⟩
 .
  have hlA:=ck (dg A);have hlB:=ck (dg B);refine aj 17 (.d (vI ((dg A).length:Nat))) J (by rw[hlA]<;>rfl)<|gx (fu:=⟨1⟩) J<|aj 18 (.d (vI ((dg A).length+1:Nat))) J omc<|gx J<|mk (fu:=⟨13⟩) ((List.replicate ((dg A).length+1) 0).map dU) J J omy J<|aj 21 (.d (vI ((dg A).length:Nat))) J (by rw[hlA]<;>rfl)<|gx J<|lp (X:=List Nat×Nat×Nat) (fun⟨W,c,i⟩=>[(0, .d (dN A)),(1, .d (dN B)),(5, .rw 19),(6, .d (.v (.int .u64 (c:Nat)))),(20, .d (dN A)),(21, .d (vI ((dg A).length:Nat))),(22, .d (vI (i:Nat)))]) (fun⟨W,c,i⟩=>[(19,some (.b 225 1 (W.map dU) true))]) (fun⟨W,c,i⟩=>W.length=(dg A).length+1/\bF W/\c<=1/\i<=(dg A).length/\dv (W.take i)+4294967296^i*c=dv ((dg A).take i)+dv ((dg B).take i)) (fun⟨W,c,i⟩=>(dg A).length-i) ⟨List.replicate ((dg A).length+1) 0,0,0⟩ J ⟨vb, .replicate _,m5,m5,by simp[dv]⟩ (fun _=>J) (fun⟨W,c,i⟩ hk=>?_)
  try dsimp only at hk⊢
  obtain⟨h1,h2,h3,h4,h5⟩:=hk;have hlw:=ck W;have hda:=fi A i;have hdb:=fi B i;obtain⟨t,ht⟩: ∃t,t=(dg A).getD i 0+(dg B).getD i 0+c:=⟨_,rfl⟩;refine br (fu2:=⟨10⟩) J J J (fun hc23=>?_) (fun hc23=>?_)
  .
   refine ix (fu:=⟨15⟩) _ J (gc) J<|mg (fu:=⟨6⟩) (X:=Unit) (fun _=>[(0, .d (dN A)),(1, .d (dN B)),(5, .rw 19),(6, .d (.v (.int .u64 (t:Nat)))),(20, .d (dN A)),(21, .d (vI ((dg A).length:Nat))),(22, .d (vI (i:Nat))),(7, .d (vI (i:Nat))),(8, .d (dU ((dg A).getD i 0)))]) (fun _=>[(19,some (.b 225 1 (W.map dU) true))]) (fun _=>True) [0,1,5,6,20,21,22,7,8] [19] rfl ?_ (fun _=>J) (fun _ _=>?_)
   .
    refine gx (fu:=⟨5⟩) J<|aj 33 (.d (vI ((dg B).length:Nat))) J (by rw[hlB]<;>rfl)<|gx J<|br J J J (fun hc34=>?_) (fun hc34=>?_)
    .
     refine ix _ J (gc) J<|aj 6 (.d (.v (.int .u64 (t:Nat)))) J (omb m5)<|at_ () trivial
    .
     have hz:=r8 (ds:=dg B) (i:=i);refine aj 6 (.d (.v (.int .u64 (t:Nat)))) J (omb m5)<|at_ () trivial
   .
    refine aj 45 (.d (dU (t%4294967296))) J omc<|gx J<|sb (fu:=⟨5⟩) (hv:=by simp only[ak];exact pb) _ ((W.set i (t%4294967296)).map dU) J (gc) J omX J<|aj 48 (.d (.v (.int .u64 (t/4294967296:Nat)))) J okh<|gx J<|at_ ⟨W.set i (t%4294967296),t/4294967296,i+1⟩ (by dsimp only;exact⟨⟨by simpa using h1,h2.set _ m5,m5,m5,by rw[ht];exact RR m5 h5⟩,m5⟩)
  .
   obtain rfl:i=(dg A).length:=by omega
   refine aj 52 (.d (vI ((dg A).length:Nat))) J (by rw[hlA]<;>rfl)<|gx (fu:=⟨2⟩) J<|aj 54 (.d (dU c)) J (omb m5)<|gx J<|sb _ ((W.set (dg A).length c).map dU) J (gc) J omX J<|fz 19 J J<|cl J (uC (ds:=W.set (dg A).length c) omg) J<|rz J (by rw[<-hm2];exact ma (h2.set _ m5) (S7 m5 h1 h5))
def auT{x y:Nat}(hx:x<4294967296)(hy:y<=4294967296):IntKind.u64.wrap ((x:Int)-y)=(((if x<y then x+18446744073709551616-y else x-y):Nat):Int):=by
 rw[sD];split<;>omega
def A9:jy a b<0↔a<b:=by unfold jy;split<;>(try split)<;>omega
section
variable {own:aI}
def Tx(fr:aD)(cf:Cf):Option (Int×Int):=match de fr cf with
 |some ⟨_, .binOp .sub _ x y _,_,_,_,_⟩=>match aP (cj fr cf) x,aP (cj fr cf) y with
  |some (.d (.v (.int .u64 p))),some (.d (.v (.int .u64 q)))=>some (p,q)
  |_,_=>none
 |_=>none
def sd[fu:Fu](u:Int)(h:Tx fr cf=some (p,q))(e:IntKind.u64.wrap (p-q)=u)(hgo:cF tt n fu.n fr own cf (.d (.v (.int .u64 u))) [] []=⟨vc,fr',own',cf'⟩)(k:av prog GB C n Q0 fr' own' cf')
  (hv:autoParam (ak vc) cL._auto_1):av prog GB C n Q0 fr own cf:=by
 unfold Tx at h;split at h<;>try (cases h;done)
 rename_i hh;split at h<;>cases h;rename_i h1 h2;subst e;exact us hh (.yd fun ρ G ov a w r=>by
  obtain⟨y1,h3,h4⟩:=r.ev h1;obtain⟨y2,h5,h6⟩:=r.ev h2;rw[dl] at h4 h6;subst h4 h6;exact⟨_,dl.2 J,l7 h3 h5 fun w=>J⟩) hgo hv k
end
def Lb(u:Nat):(u:Int).fdiv (2^min (63:Int).toNat IntKind.u64.bits)=((u/9223372036854775808:Nat):Int):=by
 rw[show(2:Int)^min (63:Int).toNat IntKind.u64.bits=((9223372036854775808:Nat):Int) from J,lQ _ pb];rfl
def aJm[h:BN a ia][k:BN b ib](hb:b<=a)(hi:ia<=1000000000:=by decide)(hj:ib<=1000000000:=by decide):PF GB prog 249 [dN a,dN b] (dN (a-b)):=by
 have hla:=ck (dg a);have hba:=jH (a:=a) hi;have hlb:=ck (dg b);have hbb:=jH (a:=b) hj;refine fn (fu:=⟨9⟩) func249 J J ntmps249 J J (fun C=>?_);refine aj 12 (.d (vI ((dg a).length:Nat))) J omm<|gx J<|mk (fu:=⟨13⟩) ((List.replicate (dg a).length 0).map dU) J J omy J<|aj 15 (.d (vI ((dg a).length:Nat))) J omm<|gx J<|lp (X:=List Nat×Nat×Nat) (fun⟨W,c,i⟩=>[(0, .d (dN a)),(1, .d (dN b)),(5, .rw 13),(6, .d (.v (.int .u64 (c:Nat)))),(14, .d (dN a)),(15, .d (vI ((dg a).length:Nat))),(16, .d (vI (i:Nat)))]) (fun⟨W,c,i⟩=>[(13,some (.b 225 1 (W.map dU) true))]) (fun⟨W,c,i⟩=>W.length=(dg a).length/\bF W/\c<=1/\i<=(dg a).length/\dv (W.take i)+dv ((dg b).take i)=dv ((dg a).take i)+4294967296^i*c) (fun⟨W,c,i⟩=>(dg a).length-i) ⟨List.replicate (dg a).length 0,0,0⟩ J ⟨vb, .replicate _,m5,m5,by simp[dv]⟩ (fun _=>J) (fun⟨W,c,i⟩ hk=>?_)
 try dsimp only at hk⊢
 obtain⟨h1,h2,h3,h4,h5⟩:=hk;have hlw:=ck W;have hda:=fi a i;have hdb:=fi b i;obtain⟨t,ht⟩: ∃t,t=(dg b).getD i 0+c:=⟨_,rfl⟩;obtain⟨v,hv⟩: ∃v:Nat,v=if(dg a).getD i 0<t then(dg a).getD i 0+18446744073709551616-t else(dg a).getD i 0-t:=⟨_,rfl⟩
 obtain⟨d,hd⟩: ∃d:Nat,d=if(dg a).getD i 0<(dg b).getD i 0+c then(dg a).getD i 0+4294967296-((dg b).getD i 0+c) else(dg a).getD i 0-((dg b).getD i 0+c):=⟨_,rfl⟩
 obtain⟨c2,hc2⟩: ∃d:Nat,d=if(dg a).getD i 0<(dg b).getD i 0+c then 1 else 0:=⟨_,rfl⟩
 have hvd:v%4294967296=d:=by rw[hv,hd,<-ht];split<;>omega
 have hvc:v/9223372036854775808=c2:=by rw[hv,hc2,<-ht];split<;>omega
 refine br J J J (fun hc17=>?_) (fun hc17=>?_)
 .
  refine ix (fu:=⟨12⟩) _ J (gc) J<|mg (fu:=⟨5⟩) (X:=Unit) (fun _=>[(0, .d (dN a)),(1, .d (dN b)),(5, .rw 13),(6, .d (.v (.int .u64 (c:Nat)))),(14, .d (dN a)),(15, .d (vI ((dg a).length:Nat))),(16, .d (vI (i:Nat))),(7, .d (vI (i:Nat))),(8, .d (dU ((dg a).getD i 0))),(9, .d (.v (.int .u64 (t:Nat))))]) (fun _=>[(13,some (.b 225 1 (W.map dU) true))]) (fun _=>True) [0,1,5,6,14,15,16,7,8,9] [13] rfl ?_ (fun _=>J) (fun _ _=>?_)
  .
   refine gx (fu:=⟨5⟩) J<|aj 24 (.d (vI ((dg b).length:Nat))) J omJ<|gx J<|br J J J (fun hc25=>?_) (fun hc25=>?_)
   .
    refine ix _ J (gc) J<|aj 9 (.d (.v (.int .u64 (t:Nat)))) J (omb m5)<|at_ () trivial
   .
    have hz:=r8 (ds:=dg b) (i:=i);refine aj 9 (.d (.v (.int .u64 (t:Nat)))) J (omb m5)<|at_ () trivial
  .
   refine sd (fu:=⟨9⟩) ((v:Nat):Int) J (by rw[hv];exact auT hda m5) J<|aj 40 (.d (dU d)) J (omb m5)<|gx J<|sb (fu:=⟨5⟩) (hv:=by simp only[ak];exact pb) _ ((W.set i d).map dU) J (gc) J omX J<|aj 43 (.d (.v (.int .u64 (c2:Nat)))) J (by rw[Lb,hvc])<|gx J<|at_ ⟨W.set i d,c2,i+1⟩ (by dsimp only;exact⟨⟨by simpa using h1,h2.set _ (by rw[hd];split<;>omega),by rw[hc2];split<;>omega,m5,OF (ik a) (ik b) m5 h3 h5 hd hc2⟩,m5⟩)
 .
  obtain rfl:i=(dg a).length:=by omega
  refine fz 13 J J<|cl J (uC (ds:=W)) J<|rz J (ma h2 (U3 h2 h1 hb h5))
theorem okI{p:Prop}(h:p:=by have:=A9 (a:=a) (b:=b);omega):p:=h
def S3{i:Nat}[h:BN a i][k:BN b j](hi:i<=1000000000:=by decide)(hj:j<=1000000000:=by decide):PF GB prog 183 [dN a,dN b] (.tp [dN (a-b),vB (decide (b<=a))]):=by
 have hla:=ck (dg a);have hba:=jH (a:=a) hi;have hlb:=ck (dg b);have hbb:=jH (a:=b) hj;refine fn func183 J J ntmps183 J J (fun C=>?_);refine cl J (TG (a:=a) (b:=b) hi hj) J<|br J J J (fun hc9=>?_) (fun hc9=>?_)
 .
  exact rz J (by rw[show a-b=0 by have:=A9 (a:=a) (b:=b);omega,decide_eq_false okI,pe];rfl)
 .
  refine cl J (qH) J<|cl J (qH) J<|cl J (aJm okI hi hj) J<|rz J (by rw[decide_eq_true okI];rfl)
def y6[h:BN a ia][k:BN b ib](hi:ia<=1000000000:=by decide)(hj:ib<=1000000000:=by decide):PF GB prog 113 [dN a,dN b] (dN (a*b)):=by
 have hla:=ck (dg a);have hba:=jH (a:=a) hi;have hlb:=ck (dg b);have hbb:=jH (a:=b) hj;refine fn func113 J J ntmps113 J J (fun C=>?_);refine cl J (qH) J<|cl (fu:=⟨8⟩) J (qH) J<|aj 16 (.d (vI ((dg a).length:Nat))) J omm<|gx (fu:=⟨2⟩) J<|aj 18 (.d (vI ((dg b).length:Nat))) J omJ<|gx (fu:=⟨1⟩) J<|aj 19 (.d (vI ((dg a).length+(dg b).length:Nat))) J omc<|gx J<|mk (fu:=⟨8⟩) ((List.replicate ((dg a).length+(dg b).length) 0).map dU) J J omy J<|aj 22 (.d (vI ((dg a).length:Nat))) J omm<|gx J<|lp (X:=List Nat×Nat) (fun⟨W,i⟩=>[(0, .d (dN a)),(1, .d (dN b)),(5, .rw 20),(21, .d (dN a)),(22, .d (vI ((dg a).length:Nat))),(23, .d (vI (i:Nat)))]) (fun⟨W,i⟩=>[(20,some (.b 225 1 (W.map dU) true))]) (fun⟨W,i⟩=>W.length=(dg a).length+(dg b).length/\bF W/\i<=(dg a).length/\dv (W.take (i+(dg b).length))=dv ((dg a).take i)*b) (fun⟨W,i⟩=>(dg a).length-i) ⟨List.replicate ((dg a).length+(dg b).length) 0,0⟩ J ⟨vb, .replicate _,m5,by rw[rJ,zc];simp[dv]⟩ (fun _=>J) (fun⟨W,i⟩ hk=>?_)
 try dsimp only at hk⊢
 obtain⟨h1,h2,h3,h4⟩:=hk;refine br J J J (fun hc24=>?_) (fun hc24=>?_)
 .
  refine ix (fu:=⟨15⟩) _ J (gc) J<|aj 29 (.d (vI ((dg b).length:Nat))) J omJ<|gx J<|lp (X:=List Nat×Nat×Nat) (fun⟨W2,c,k⟩=>[(0, .d (dN a)),(1, .d (dN b)),(5, .rw 20),(6, .d (vI (i:Nat))),(7, .d (dU ((dg a).getD i 0))),(8, .d (.v (.int .u64 (c:Nat)))),(21, .d (dN a)),(22, .d (vI ((dg a).length:Nat))),(23, .d (vI (i:Nat))),(28, .d (dN b)),(29, .d (vI ((dg b).length:Nat))),(30, .d (vI (k:Nat)))]) (fun⟨W2,c,k⟩=>[(20,some (.b 225 1 (W2.map dU) true))]) (fun⟨W2,c,k⟩=>W2.length=(dg a).length+(dg b).length/\bF W2/\c<4294967296/\k<=(dg b).length/\dv (W2.take (i+(dg b).length))+4294967296^(i+k)*c=dv ((dg a).take i)*b+(dg a).getD i 0*(4294967296^i*dv ((dg b).take k))) (fun⟨W2,c,k⟩=>(dg b).length-k) ⟨W,0,0⟩ J ⟨h1,h2,m5,m5,by rw[h4];simp[dv]⟩ (fun _=>J) (fun⟨W2,c,k⟩ hk=>?_)
  try dsimp only at hk⊢
  obtain⟨g1,g2,g3,g4,g5⟩:=hk;have hlw:=ck W2;have hw:=g2.get (i+k);have hda:=fi a i;have hdb:=fi b k;refine br (fu2:=⟨10⟩) J J J (fun hc31=>?_) (fun hc31=>?_)
  .
   refine ix (fu:=⟨13⟩) (hv:=by simp only[ak];exact⟨⟨m5,m5⟩,⟨(By _ _),(AW (fi _ _) (fi _ _))⟩⟩) _ J (gc) J<|?_;obtain⟨p,hp⟩: ∃p,p=(dg a).getD i 0*(dg b).getD k 0:=⟨_,rfl⟩;have hp1:p<=18446744065119617025:=hp▸Ds hda hdb;refine aj 40 (.d (.v (.int .u64 (p:Nat)))) J (by rw[hp,jQ])<|gx J<|lb (fu:=⟨3⟩) _ J (di (k:=i+k)) J<|?_;obtain⟨t,ht⟩: ∃t,t=p+W2.getD (i+k) 0+c:=⟨_,rfl⟩;refine aj 49 (.d (.v (.int .u64 (t:Nat)))) J (omb m5)<|gx (fu:=⟨11⟩) J<|aj 55 (.d (dU (t%4294967296))) J omc<|gx J<|sb (fu:=⟨5⟩) (hv:=by simp only[ak];exact pb) _ ((W2.set (i+k) (t%4294967296)).map dU) J (di (k:=i+k)) J (by(rw[show((i:Int)+k).toNat=i+k by omega,<-kD])<;>rfl) J<|aj 58 (.d (.v (.int .u64 (t/4294967296:Nat)))) J okh<|gx J<|at_ ⟨W2.set (i+k) (t%4294967296),t/4294967296,k+1⟩ oka
  .
   obtain rfl:k=(dg b).length:=by omega
   refine aj 63 (.d (vI ((dg b).length:Nat))) J omJ<|gx (fu:=⟨3⟩) J<|aj 66 (.d (dU c)) J (omb m5)<|gx J<|sb _ ((W2.set (i+(dg b).length) c).map dU) J (di (k:=i+(dg b).length)) J (by(rw[show((i:Int)+((dg b).length:Nat)).toNat=i+(dg b).length by omega,<-kD])<;>rfl) J<|at_ ⟨W2.set (i+(dg b).length) c,i+1⟩ oku
 .
  obtain rfl:i=(dg a).length:=by omega
  refine fz 20 J J<|cl J (uC (ds:=W)) J<|rz J (ma h2 oki)
def aGW{h l y:Nat}(hh:h<y)(hl:l<4294967296)(hy:y<4294967296):PF GB prog 207 [.v (.int .u32 (h:Int)), .v (.int .u32 (l:Int)), .v (.int .u32 (y:Int))] (.tp [dU ((h*4294967296+l)/y),dU ((h*4294967296+l)%y)]):=by
 refine fn (fu:=⟨11⟩) func207 J J ntmps207 J J (fun C=>?_);refine kT 10 J m5<|gx (fu:=⟨4⟩) J<|kF 14 J m5<|gx (fu:=⟨11⟩) (hv:=by simp only[ak];exact⟨m5,pb⟩) J<|aj 19 (.d (.v (.int .u64 (h*2^32:Nat)))) J omk<|gx (fu:=⟨3⟩) J<|aj 22 (.d (.v (.int .u64 (l+h*2^32:Nat)))) J (congrArg (fun z:Nat=>FX.d (.v (.int .u64 (z:Int)))) (by rw[BitVec.or_comm];exact r6 64 l h 32 hl omn)) ?_;obtain⟨t,ht⟩: ∃t,t=h*4294967296+l:=⟨_,rfl⟩;have hq:t/y<4294967296:=by rw[kS m5];have:=gX 4294967296 (show h+1<=y from hh);omega
 have hr:t%y<y:=dJ _ m5;refine aj 22 (.d (.v (.int .u64 (t:Nat)))) J (by show FX.d (.v (.int _ _))= .d (.v (.int _ _));congr 3;rw[ht];omega)<|gx (hv:=by simp only[ak];exact⟨⟨⟨⟨m5,⟨m5,m5,m5⟩⟩,m5⟩,⟨m5,m5⟩⟩,v6⟩) J<|rz J (by show DV.tp [.v (.int _ _), .v (.int _ _)]= .tp [.v (.int _ _), .v (.int _ _)];rw[<-ht,<-sN,<-Int.natCast_emod];generalize t/y=q at*;generalize t%y=r at*;congr 4<;>(first|omega|(congr 3;omega)))
def Y4{r i:Nat}(d:Nat)(hb:0<b):(A*4294967296+d)/b=A/b*4294967296+(A%b*4294967296+d)/b/\(A*4294967296+d)%b=(A%b*4294967296+d)%b:=by
 have h:=rS A b;have e:A*4294967296+d=(A%b*4294967296+d)+b*(A/b*4294967296):=by
  rw[<-cM,Nat.add_right_comm,<-dV,lK (A%b),h]
 rw[e,qT _ _ hb,rQ];exact⟨lK _ _,J⟩
def Sg{ds:List Nat}{i:Nat}(h:i<ds.length):dv (ds.drop i)=dv (ds.drop (i+1))*4294967296+ds.getD i 0:=by
 rw[bV h,aK,aZ h];simp only[dv,lJ];omega
def Nc{i q:Nat}(h:i<W.length):dv ((W.set i q).drop i)=dv (W.drop (i+1))*4294967296+q:=by
 rw[Sg (by rw[bZ];exact h),rX m5,Bl h]
def axj{k:Nat}(hb:0<b)(hk:k<(dg a).length)(hl:W.length=(dg a).length)(h:dv (W.drop (k+1))=dv ((dg a).drop (k+1))/b):
  dv ((W.set k ((dv ((dg a).drop (k+1))%b*4294967296+(dg a).getD k 0)/b)).drop k)=dv ((dg a).drop k)/b/\dv ((dg a).drop k)%b=(dv ((dg a).drop (k+1))%b*4294967296+(dg a).getD k 0)%b:=by
 have:=Y4 (A:=dv ((dg a).drop (k+1))) (r:=0) (i:=0) ((dg a).getD k 0) hb;rw[Nc m5,h,Sg hk,this.1,this.2];exact⟨J,J⟩
def Ae:jy a b<0↔a<b:=by unfold jy;split<;>(try split)<;>omega
def Cb:0<jy a b↔b<a:=by unfold jy;split<;>(try split)<;>omega
def Jq{x:Nat}(hx:x<4294967296):PF GB prog 251 [dU x] (vI (32-(bl x:Int))):=by
 intro G vs hg hv;obtain⟨v,m,rfl,h1,h2⟩:=bj.1 hv;rw[fj] at h2;subst h2;rw[aO.1 h1];exact(aw9 hx).mono fun v G' _ h=>aO.2 h
def LQ{k:Nat}(h:4294967296^k<=a):k<(dg a).length:=by
 have h1:=so a;rcases jR k (dg a).length with q|q
 .exact q
 .have:4294967296^(dg a).length<=4294967296^k:=bT pb q
  omega
def Om{v:Nat}(hL:L=(dg v).length)(h1:1<=L):(dg v).getD (L-1) 0=v/4294967296^(L-1)/\0<v/4294967296^(L-1):=by
 have h:=Et (ik v) (L-1);rw[r8 (by omega:(dg v).length<=L-1+1),dG,tL,gQ] at h;have h2:=so v;rw[<-hL] at h2;rw[mK (show v<4294967296^(L-1+2) from cN h2 (bT pb m5)),tL,gQ] at h;have h3:=xK (gE v).2.2 (by intro e;rw[e] at hL;simp at hL;omega);rw[dG,<-hL] at h3;exact⟨h.symm,Nat.div_pos h3 (gW pb)⟩
def F6(h1:1<=n)(h:R<4294967296^(n+1)):R/4294967296^(n-1)=(dg R).getD (n-1) 0+(dg R).getD n 0*4294967296:=by
 have e:=Et (ik R) (n-1);rw[dG,show n-1+1=n by omega,mK (show R<4294967296^(n-1+2) by rwa [show n-1+2=n+1 by omega]),tL,gQ,cW] at e;exact e
def ZY{R v j L:Nat}(hL:L=(dg v).length)(h1:1<=L)(hR:R<v*4294967296^(j+1)):R/(v*4294967296^j)<=min (R/4294967296^(L+j-1)/(v/4294967296^(L-1))) 4294967295:=by
 have ht:=(Om hL h1).2;have hp:0<4294967296^j:=gW pb;have hv0:0<v:=by
  rcases fW v with q|q
  .subst q;simp at ht
  .exact q
 have hvp:0<v*4294967296^j:=iM hv0 hp;refine Nat.le_min.2 ⟨?_,?_⟩
 .rw[sM ht,sM (gW pb)]
  have h3:v/4294967296^(L-1)*4294967296^(L-1)<=v:=Nat.div_mul_le_self _ _;have h4:R/(v*4294967296^j)*(v*4294967296^j)<=R:=Nat.div_mul_le_self _ _;rw[show L+j-1=L-1+j by omega,fU]
  calc R/(v*4294967296^j)*(v/4294967296^(L-1))*(4294967296^(L-1)*4294967296^j)
    =R/(v*4294967296^j)*((v/4294967296^(L-1)*4294967296^(L-1))*4294967296^j):=by simp only[cM]
   _<=R/(v*4294967296^j)*(v*4294967296^j):=gX _ (bS _ h3)
   _<=R:=h4
 .have:R/(v*4294967296^j)<4294967296:=by
   rw[kS hvp];rw[iZ] at hR;rwa [cW,cM]
  omega
def Fy(hV:0<V)(h:R<V*g):R/V<g:=by
 rw[kS hV,cW];exact h
def Yx(hV:0<V)(h1:R/V<=g)(h2:V*g<=R):g=R/V:=by
 have:g<=R/V:=by rw[sM hV,cW];exact h2
 omega
def OO{R0 R v j g:Nat}{W:List Nat}(hj:j<W.length)(h:R0=R+dv (W.drop (j+1))*4294967296^(j+1)*v)(hv:0<v*4294967296^j)(hg:g=R/(v*4294967296^j)):
  R0=(R-v*4294967296^j*g)+dv ((W.set j g).drop j)*4294967296^j*v/\R-v*4294967296^j*g<v*4294967296^j:=by
 have h1:=rS R (v*4294967296^j);have h2:=dJ R hv;rw[<-hg] at h1;refine⟨?_,m5⟩;rw[Nc hj,dV,dV,h,iZ];have e:g*4294967296^j*v=v*4294967296^j*g:=by simp only[cM,nV,cW]
 have e2:dv (W.drop (j+1))*(4294967296^j*4294967296)*v=dv (W.drop (j+1))*4294967296*4294967296^j*v:=by simp only[cM,nV,cW]
 rw[e,e2];omega
def aAU{a b s R:Nat}{D:Nat}(hR:R<b*2^s)(h:a*2^s=R+D*(b*2^s)):D=a/b/\R/2^s=a%b:=by
 have hp:0<2^s:=gW pb;have hb:0<b:=by
  rcases fW b with q|q
  .subst q;simp at hR
  .exact q
 have h1:a=R/2^s+D*b:=by
  have:=congrArg (· /2^s) h;rw[Nat.mul_div_cancel _ hp,<-cM,Nat.add_mul_div_right _ _ hp] at this;exact this
 have h2:R/2^s<b:=by rw[kS hp];exact hR
 have h3:R/2^s+b*D=a:=by rw[cW b];exact h1.symm
 have:=(Nat.div_mod_unique hb).2 ⟨h3,h2⟩;exact⟨this.1.symm,this.2.symm⟩
def Xh{a b s:Nat}(hl:(dg b).length<=(dg a).length)(h2:1<=(dg b).length):a*2^s<b*2^s*4294967296^((dg a).length-(dg b).length+1):=by
 have h1:=so a;have h3:=xK (gE b).2.2 (by intro e;rw[e] at h2;simp at h2);rw[dG] at h3;have h4:4294967296^(dg a).length<=b*4294967296^((dg a).length-(dg b).length+1):=by
  rw[show(dg a).length=((dg b).length-1)+((dg a).length-(dg b).length+1) by omega,fU];rw[show(dg b).length-1+((dg a).length-(dg b).length+1)-(dg b).length+1=(dg a).length-(dg b).length+1 by omega];exact bS _ h3
 rw[oZ];exact nL (cN h1 h4) (gW pb)
def TF(x j:Nat):x*2^(32*j)=x*4294967296^j:=by rw[uX]
def WI(h:R<4294967296^(L+j+1))(h1:1<=L):R/4294967296^(L+j-1)<18446744073709551616:=by
 rw[kS (gW pb),show(18446744073709551616:Nat)=4294967296^2 from J,<-fU];rwa [show 2+(L+j-1)=L+j+1 by omega]
def az0{v:Nat}(hL:L=(dg v).length)(hR:R<v*4294967296^(j+1)):R<4294967296^(L+j+1):=by
 have h:=so v;rw[<-hL] at h;rw[lR,fU];exact cN hR (bS _ (gU h))
def V3{a b ia ib:Nat}[ha:BN a ia][hb:BN b ib](hi:ia<=500000000)(hj:ib<=500000000)(h2:1<=(dg b).length)(hl:(dg b).length<=(dg a).length):PF GB prog 208 [dN a,dN b] (.tp [dN (a/b),dN (a%b)]):=by
 have hla:=ck (dg a);have hlb:=ck (dg b);have hba:=lx ha.h;have hba':(dg a).length<=20000000:=by omega
 refine fn func208 J J ntmps208 J J (fun C=>?_);refine ix _ J (di (k:=(dg b).length-1)) J<|cl (fu:=⟨0⟩) J (Jq (fi b ((dg b).length-1))) J<|?_;obtain⟨s,hs⟩: ∃s:Nat,s=32-bl ((dg b).getD ((dg b).length-1) 0):=⟨_,rfl⟩;have hs32:s<=32:=by omega
 refine aj 22 (.d (vI (s:Nat))) J (by show FX.d (.v (.int _ _))= .d (.v (.int _ _));congr 3;have:=qb.2 (show(dg b).getD ((dg b).length-1) 0<2^32 from fi b _);omega)<|gx J<|cl J (Cx (a:=b) (k:=s) (ia:=ib) m5 m5) J<|cl (fu:=⟨0⟩) J (Cx (a:=a) (k:=s) (ia:=ia) m5 m5) J<|?_;obtain⟨v,hv⟩: ∃v,v=b*2^s:=⟨_,rfl⟩;obtain⟨R0,hR0⟩: ∃R0,R0=a*2^s:=⟨_,rfl⟩;refine aj 25 (.d (dN v)) J (by rw[hv])<|aj 28 (.d (dN R0)) J (by rw[hR0]) ?_;obtain⟨L,hL⟩: ∃L,L=(dg v).length:=⟨_,rfl⟩;have hlv:((dg v).map dU).length=L:=by rw[ck,hL]
 have hps:2^s<=2^32:=bT pb hs32;have hpp:0<2^s:=gW pb;have hst:=Xh (a:=a) (b:=b) (s:=s) hl h2;rw[<-hv,<-hR0] at hst;have hvb:v<2^(ib+32):=by rw[hv,fU];exact oX hb.h hps pb
 have hRb:R0<2^(ia+32):=by rw[hR0,fU];exact oX ha.h hps pb
 have hbp:0<b:=iR (fun q=>by subst q;rw[wm] at h2;simp at h2);have hvp:0<v:=hv▸iM hbp hpp;have hLp:1<=L:=by rw[hL];exact LQ (k:=0) (by rw[tN];exact hvp)
 have htop:=Om hL hLp;haveI hvB:BN v (ib+32):=⟨hvb⟩;have hLb:=lx hvb;have hLb':L<=20000000:=by omega
 have htl:=fi v (L-1);refine gx (fu:=⟨9⟩) J<|aj 31 (.d (vI (L:Nat))) J (by rw[hlv];rfl)<|gx J<|ix (fu:=⟨2⟩) _ J (di (k:=L-1)) J<|aj 35 (.d (.v (.int .u64 (v/4294967296^(L-1):Nat)))) J (by rw[htop.1]) ?_;rw[htop.1] at htl;refine gx (fu:=⟨11⟩) J<|?_;obtain⟨m,hm⟩: ∃m,m=(dg a).length-(dg b).length+1:=⟨_,rfl⟩;rw[<-hm] at hst;have hrl:(List.replicate ((m:Nat):Int).toNat (DV.v (.int .u32 0))).length=m:=by rw[aR,cX]
 refine aj 41 (.d (vI (m:Nat))) J (omb m5)<|gx J<|mk ((List.replicate m 0).map dU) J J omy J<|lp (X:=List Nat×Nat×Nat) (fun⟨W,R,k⟩=>[(6, .d (vI (s:Nat))),(7, .d (dN v)),(8, .d (dN R)),(9, .d (.v (.int .u64 (v/4294967296^(L-1):Nat)))),(10, .rw 42),(11, .d (vI ((k:Nat)-1)))]) (fun⟨W,R,k⟩=>[(42,some (.b 225 1 (W.map dU) true))]) (fun⟨W,R,k⟩=>W.length=m/\bF W/\k<=m/\R0=R+dv (W.drop k)*4294967296^k*v/\R<v*4294967296^k/\R<=R0) (fun⟨W,R,k⟩=>k) ⟨List.replicate m 0,R0,m⟩ J ⟨vb, .replicate _,bW _,by simp[dv],hst,bW _⟩ (fun _=>J) (fun⟨W,R,k⟩ hk=>?_);dsimp only at hk⊢;obtain⟨h1,h2',h3,h4,h5,h6⟩:=hk;have hlw:=ck W;refine br (fu1:=⟨10⟩) J J J (fun hc47=>?_) (fun hc47=>?_)
 .
  obtain⟨j,rfl⟩: ∃j,k=j+1:=⟨k-1,m5⟩;have hvj:0<v*4294967296^j:=iM hvp (gW pb);have hge:=ZY hL hLp h5;have hlen:=az0 hL h5;have hlr:((dg R).map dU).length=(dg R).length:=ck _;haveI hRB:BN R (ia+32):=⟨m5⟩;have hq32:R/(v*4294967296^j)<4294967296:=by omega
  have hz1:=Int.natCast_nonneg (R/4294967296^(L+j-1));have hz2:=Int.natCast_nonneg (R/4294967296^(L+j-1)/(v/4294967296^(L-1)));refine aj 11 (.d (vI (j:Nat))) J (omb m5)<|mg (fu:=⟨6⟩) (hv:=fun _ _=>by simp only[ak];exact⟨m5,(by have:=WI hlen hLp;omega),m5⟩) (X:=Unit) (fun _=>[(6, .d (vI (s:Nat))),(7, .d (dN v)),(8, .d (dN R)),(9, .d (.v (.int .u64 (v/4294967296^(L-1):Nat)))),(10, .rw 42),(11, .d (vI (j:Nat))),(12, .d (.v (.int .u64 (R/4294967296^(L+j-1):Nat))))]) (fun _=>[(42,some (.b 225 1 (W.map dU) true))]) (fun _=>True) [6,7,8,9,10,11,12] [42] rfl ?_ (fun _=>J) (fun _ hm=>?_)
  .
   refine gx (fu:=⟨4⟩) J<|aj 51 (.d (vI (L:Nat))) J (by rw[hlv];rfl)<|gx (fu:=⟨2⟩) J<|aj 53 (.d (vI (L+j:Nat))) J omc<|gx (fu:=⟨8⟩) J<|aj 56 (.d (vI ((dg R).length:Nat))) J (by rw[hlr];rfl)<|gx J<|br (fu2:=⟨6⟩) J J J (fun hc57=>?_) (fun hc57=>?_)
   .
    have hd0:=fi R (L+j-1);have hd1:=fi R (L+j);refine ix (hv:=by simp only[ak];exact⟨⟨m5,pb⟩,m5⟩) _ J (di (k:=L+j)) J<|ix (fu:=⟨3⟩) _ J (di (k:=L+j-1)) J<|aj 70 (.d (.v (.int .u64 ((dg R).getD (L+j-1) 0+(dg R).getD (L+j) 0*4294967296:Nat)))) J (congrArg (fun z:Nat=>FX.d (.v (.int .u64 (z:Int)))) (by rw[rj _ 32 pb omx J,BitVec.or_comm];exact r6 64 ((dg R).getD (L+j-1) 0) ((dg R).getD (L+j) 0) 32 hd0 omn))<|gx J<|aj 12 (.d (.v (.int .u64 (R/4294967296^(L+j-1):Nat)))) J (by rw[F6 m5 hlen])<|at_ () trivial
   .
    refine aj 74 (.d (vI ((dg R).length:Nat))) J (by rw[hlr];rfl)<|gx J<|br J J J (fun hc75=>?_) (fun hc75=>?_)
    .
     have hd0:=fi R (L+j-1);refine ix _ J (di (k:=L+j-1)) J<|aj 12 (.d (.v (.int .u64 (R/4294967296^(L+j-1):Nat)))) J (by rw[F6 m5 hlen,r8 (by omega:(dg R).length<=L+j),kM,gQ])<|at_ () trivial
    .
     refine aj 12 (.d (.v (.int .u64 (R/4294967296^(L+j-1):Nat)))) J (by rw[F6 m5 hlen,r8 (by omega:(dg R).length<=L+j),r8 (by omega:(dg R).length<=L+j-1)];rfl)<|at_ () trivial
  .
   obtain⟨g0,hg0'⟩: ∃g0,g0=min (R/4294967296^(L+j-1)/(v/4294967296^(L-1))) 4294967295:=⟨_,rfl⟩;rw[<-hg0'] at hge;have hg0:=hge;have hg1:g0<=4294967295:=by omega
   refine aj 85 (.d (.v (.int .u64 (g0:Nat)))) J (by show FX.d (.v (.int _ _))= .d (.v (.int _ _));congr 3;rw[<-sN];split<;>omega)<|gx J<|cl J (ux (u:=g0)) J<|cl (fu:=⟨2⟩) J (sA (ia:=ib+32) (ib:=32) (hb:=⟨by show _<4294967296;omega⟩) m5 pb) J<|aj 91 (.d (vI (32*j:Nat))) J omc<|gx J<|cl (fu:=⟨0⟩) J (Cx (k:=32*j) (ia:=ib+64) (ha:=⟨by rw[show ib+64=ib+32+32 by omega,fU];exact pT hvb (by show _<4294967296;omega)⟩) m5 m5) J<|aj 92 (.d (dN (v*4294967296^j*g0))) J (by rw[TF,oZ])<|gx J<|lp (X:=Nat) (fun g=>[(6, .d (vI (s:Nat))),(7, .d (dN v)),(8, .d (dN R)),(9, .d (.v (.int .u64 (v/4294967296^(L-1):Nat)))),(10, .rw 42),(11, .d (vI (j:Nat))),(14, .d (.v (.int .u64 (g:Nat)))),(15, .d (dN (v*4294967296^j*g)))]) (fun g=>[(42,some (.b 225 1 (W.map dU) true))]) (fun g=>R/(v*4294967296^j)<=g/\g<=4294967295) (fun g=>g) g0 J ⟨hg0,m5⟩ (fun _=>J) (fun g hk=>?_);obtain⟨g1,g2⟩:=hk;have hlw:=ck W;refine cl J (yD (a:=v*4294967296^j*g) (b:=R) (by have:=BO (a:=v*4294967296^j*g) (k:=L+j+1) (by have h1:=so v;rw[<-hL] at h1;rw[iZ,fU];exact pT (nL h1 (gW pb)) m5);omega) (by have:=BO hlen;omega)) J<|br (fu1:=⟨7⟩) (v1:=fun hc96=>by simp only[ak];exact(by have h:=Fy hvj (Cb.1 hc96);have h1:1<=g:=fQ (bK _) h;omega)) (fu2:=⟨11⟩) J J J (fun hc96=>?_) (fun hc96=>?_)
   .
    have hgd:=Fy hvj (Cb.1 hc96);have hg1p:1<=g:=fQ (bK _) hgd;refine aj 98 (.d (.v (.int .u64 ((g-1:Nat):Int)))) J (omb m5)<|gx J<|cl J (ux (u:=g-1)) J<|cl (fu:=⟨2⟩) J (sA (ia:=ib+32) (ib:=32) (hb:=⟨by show _<4294967296;omega⟩) m5 pb) J<|aj 104 (.d (vI (32*j:Nat))) J omc<|gx J<|cl (fu:=⟨0⟩) J (Cx (k:=32*j) (ia:=ib+64) (ha:=⟨by rw[show ib+64=ib+32+32 by omega,fU];exact pT hvb (by show _<4294967296;omega)⟩) m5 m5) J<|aj 105 (.d (dN (v*4294967296^j*(g-1)))) J (by rw[TF,oZ])<|gx J<|at_ (g-1) ⟨⟨by have h:=Fy hvj (Cb.1 hc96);omega,m5⟩,(by have:=Fy hvj (Cb.1 hc96);omega)⟩
   .
    have hgq:=Yx hvj g1 (tZ fun q=>hc96 (Cb.2 q));refine aj 109 (.d (dU g)) J (omb m5)<|gx J<|sb _ ((W.set j (R/(v*4294967296^j))).map dU) J (di (k:=j)) J (by(rw[<-hgq,cX,<-kD])<;>rfl) J<|cl (fu:=⟨0⟩) J (IW (a:=R) (b:=v*4294967296^j*g) (ia:=ia+32) (by rw[hgq];exact Nat.mul_div_le _ _) m5) J<|aj 113 (.d (dN (R-v*4294967296^j*(R/(v*4294967296^j))))) J (by rw[hgq])<|gx J<|at_ ⟨W.set j (R/(v*4294967296^j)),R-v*4294967296^j*(R/(v*4294967296^j)),j⟩ (by dsimp only;exact⟨⟨by simpa using h1,h2'.set _ m5,m5,(OO m5 h4 hvj J).1,(OO m5 h4 hvj J).2,m5⟩,m5⟩)
 .
  obtain rfl:k=0:=by omega
  rw[tN,jT] at h5;rw[tN,jT,iW,hR0,hv] at h4;rw[hv] at h5;have hend:=aAU h5 h4;haveI hRB:BN R (ia+32):=⟨m5⟩;refine fz 42 J J<|cl J (ub (ds:=W)) J<|cl J (Yg (a:=R) (k:=s) (ia:=ia+32) m5 m5) J<|rz J (by show DV.tp [et _,dN _]= .tp [dN _,dN _];rw[ma h2' hend.1,hend.2])
end Go.Sx
end
