import Derived.Test.YtjpdfobnjmflkaaGreatDoorMk8
set_option linter.all false
set_option maxHeartbeats 4000000
set_option maxRecDepth 100000
section
namespace Go.Sx
open Go Go.Proofs Tryz
variable {GB G:Gh}{C:aF}{n nm d s k a x e by_ i b j v ia ib L R V g r:Nat}{Q0:Exit->Act->World->Prop}{fr fr' fr1 fr2:aC}{own' own1 own2:aI}{cf cf' cf1 cf2:Cf}{vc vc1 vc2:List Prop}{lk:LK}{bk:BM}{fo y:Operand}{args:Array Operand}{tys:Array TypeId}{f:FuncId}{l:List (Option DV)}{ty ty0 t t' ty':TypeId}{pos:String}{af:Array Edge}{dsi dso ds2 ds':List DV}{lo:Bool}{fb:Func}{ds W A:List Nat}{P:Program}{ov B:List aA}{dst:Option Nat}{z rv:DV}{p q:Int}{k':IntKind}
section
variable {own:aI}
def Zi{gd:Option (Nat×Bool)}(hne:Nat.beq nm d=false)
  (ha:zm lk fo args=some (f,nm,l))(hb:bk nm=some (.b ty0 s dsi lo))(hF:PB GB prog f (fw l) s ty0 dsi (fun w=> .v (.slice w.a w.n w.c)) dso):b7 prog GB C n lk bk ⟨some d, .call ⟨.value fo,args,tys⟩,ty,pos,af,gd⟩ (.rw d) [(nm,none),(d,some (.b ty0 s dso lo))] [d]:=by
 intro hd tl tb K' s1 s2 hf hk;refine⟨fun ρ G ov a w r Q=>?_⟩;have r1:=r.mono s1 s2;unfold zm at ha;split at ha<;>try (cases ha;done)
 rename_i h1;split at ha<;>cases ha;rename_i h2;obtain⟨y,hy,hy'⟩:=r1.ev h1;rw[(aH (G:=G)).1 hy'] at hy;obtain⟨B,g1,g2⟩:=r1.bx _ _ hb;have hB:dw G ⟨ρ nm,s,ty0,dsi,lo⟩ B:=g1;obtain⟨vs,h7,h8⟩:=E3 r1 (z:=ρ nm) h2 (fun nm e=>by cases e;rfl);have hp: ∃rest,ov.Perm (B++rest)/\ ∀o∈ov,(∀o'∈B,o.b≠o'.b)->o∈rest:=by
  rcases hB with⟨vs',⟨_,_,e⟩|⟨b0,r0,lo0,_,e,_⟩,_⟩
  .rw[e];exact⟨ov,List.Perm.refl _,fun o ho _=>ho⟩
  .rw[e] at g2⊢
   obtain⟨l1,l2,e2⟩:=mV (g2 _ aQ);rw[e2];refine⟨l1++l2,oT,fun o ho hno=>?_⟩;rcases bJ.1 ho with ho|ho
   .exact bR _ ho
   .rcases aW.1 ho with rfl|ho
    .exact absurd J (hno _ aQ)
    .exact bV _ ho
 obtain⟨rest,h5,h6⟩:=hp;refine uu (M:=B) (rest:=rest) hy h7 h5 (hF G (ρ nm) vs B r.gb hB.weak h8) hd (fun v own1 G' hG hK a' w' rl=>?_) a w Q ⟨r.h,r.sz,cB a,r.df⟩;obtain⟨z,hr,vs',k1,k2,k3,k4⟩:=hK;have k1':=k1.relo (fC B);have e2:lo=true-> ∀o∈own1.map (relo (fC B)),o.lo=true:=fun hl o ho=>by
  obtain⟨o',_,rfl⟩:=aT.1 ho;obtain⟨_,_,_,_,hlo⟩:=hB;exact Ew _ (hlo hl)
 generalize own1.map (relo (fC B))=B' at rl e2 k1';have rl':gq C n (Sx.put (co a) (some d) v) (B'++rest) G' a' w':=rl;have hdis:=(fS.1 rl'.h.nd).2.2;have r2:=r.dropB nm;have hnn:nm≠d:=fun e=>by subst e;rw[lM] at hne;cases hne
 have hf2:jp [d] (some d) tl (Sx.upB tb [(nm,none)]):=fun q hq=>by
  obtain⟨f1,f2⟩:=hf q hq;refine⟨f1,fun k B e1 e=>?_⟩;simp only[Sx.upB] at e;split at e
  .cases e
  .exact f2 k B e1 e
 have hsep: ∀q B0,Sx.upB tb [(nm,none)] q=some B0-> ∀o∈ov,(ρ q).a=some ⟨o.b,0,none⟩->o∈rest:=fun q B0 e o ho hbq=>by
  simp only[Sx.upB] at e;split at e
  .cases e
  .rename_i hqn
   refine h6 o ho fun o' ho' he=>?_;exact r.dj nm q _ _ (s2 _ _ hb) e (Ne.symm hqn) o'.b (g1.blk ho') (by rw[hbq,he])
 rw[aH.1 hr] at rl';have r3:=r2.new' (x:=z) (B':= .b ty0 s dso lo) (os:=B') (ov':=B'++rest) (f:= .rw d) (y:= .slice z.a z.n z.c) hf2 hG.le rl'.h ⟨vs',by simpa using k1',k2,k3,e2⟩ (fun o ho=>bR _ ho)
  (fun q B0 hq e o ho hbq=>⟨bV _ (hsep q B0 e o ho hbq),fun hc=>by
   have hx: ∃o1∈B',o1.b=o.b:=by
    rcases k1' with⟨_,h,_⟩|⟨b0,rest0,lo0,h,hB,_⟩
    .rw[show z=_ from h] at hc;cases hc
    .rw[show z=_ from h] at hc;cases hc;exact⟨⟨_,aE vs'++rest0,_,lo0⟩,by rw[hB];exact aQ,J⟩
   obtain⟨o1,ho1,he1⟩:=hx;exact hdis o1 ho1 o (hsep q B0 e o ho hbq) he1⟩) (by simp[bP]) (jb rl')
 exact hk.run _ G' _ a' w' r3
def cq[fu:Fu](dso':List DV)(ha:Cd fr own cf=some ⟨f,nm,l,ty,s,dsi,lo,d⟩)(hF:PB GB prog f (fw l) s ty dsi (fun w=> .v (.slice w.a w.n w.c)) dso)(he:dso=dso')
  (hgo:cH tt n fu.n fr own cf (.rw d) [(nm,none),(d,some (.b ty s dso' lo))] [d]=⟨vc,fr',own',cf'⟩)(k:av prog GB C n Q0 fr' own' cf')
  (hv:autoParam (ak vc) fn._auto_1):av prog GB C n Q0 fr own cf:=by
 subst he;unfold Cd at ha;split at ha<;>try (cases ha;done)
 rename_i hh;split at ha<;>try (cases ha;done)
 rename_i h1;split at ha<;>try (cases ha;done)
 rename_i h2;rw[cond_eq_ite] at ha;split at ha<;>cases ha;rename_i h3;exact us hh (Zi (by cases hq:Nat.beq nm d with|false=>rfl|true=>exact absurd hq h3) h1 h2 hF) hgo hv k
def Fy(C:aF)(s:Nat)(ty:TypeId)(dso:List DV):Ending->World->Prop:=qj C (fun v own' G'=> ∃w',Is G' (.v (.slice w'.a w'.n w'.c)) v/\dw G' ⟨w',s,ty,dso,false⟩ own')
def DL[fu:Fu]{c:Code}(hf:prog.funcs[f]? =some fb)(hb:fb.body=some c)(hn:(fb.name== "runtime.NumGoroutine")=false)(hm:fb.ntmps=k)(hlen:Nat.ble l.length k=true)
  (hgo:go tt k fu.n [] (vx 0 l) [(NM,some (.b ty s dsi false))] (.code c [])=⟨vc,fr,own,cf⟩)(h: ∀C,av prog GB C k (eg C prog fb (Fy C s ty dso)) fr own cf)
  (hv:autoParam (ak vc) fn._auto_1):PB GB prog f (fw l) s ty dsi (fun w=> .v (.slice w.a w.n w.c)) dso:=by
 intro G w vs B hg hB hvs;refine gt.introR hf hb hn hm (by rw[hvs.len,DI];exact hlen) fun C _ hmb hrd hfx=>?_;intro a wd rl;refine si hrd ?_;have h1:=fB (GB:=GB) (C:=C) (Q0:=eg C prog fb (Fy C s ty dso)) hgo hv (h C);refine h1.run (fun _=>w) G (Sx.asB B) a wd ⟨hg,rl.h,rl.sz,rl.df,fun k f e=>?_,fun nm B' e=>?_,fun nm nm' B' B2 e e' hne=>?_,fun nm p _ _ e=>by rw[hfx] at e;cases e⟩
 .obtain⟨y,⟨j,hj,hy⟩,h2⟩:=DQ (ρ:=fun _=>w) (w:=w) rfl 0 hvs k f e
  refine⟨y,rl.fr k y ?_,h2⟩;rw[hj];exact uY vs 0 j y hy
 .rw[iO] at e
  split at e
  .cases e;exact⟨Sx.asB B,hB.asB,fun o ho=>ho⟩
  .cases e
 .rw[iO] at e e'
  split at e<;>split at e'
  .rename_i h2 h3;exact absurd (h2.trans h3.symm) hne
  .cases e'
  .cases e
  .cases e
def uE{t:Nat}{ds:List DV}(hr:fb.results.toList=[.tmp t])(hl:aO fr t=some (.rw d))(hw:bt own d=some (.b ty s ds false))(ed:ds=dso):
  av prog GB C n (eg C prog fb (Fy C s ty dso)) fr own (.ex .ret []):=by
 subst ed;refine⟨fun ρ G ov a w r=>?_⟩;obtain⟨B,g1,g2⟩:=r.bx _ _ hw;have hB:dw G ⟨ρ d,s,ty,ds,false⟩ B:=g1;obtain⟨rest,hp⟩:=HJ hB g2;obtain⟨y,hy,hy'⟩:=r.ev (x:= .tmp t) (f:= .rw d) hl
 cases (show y=_ from hy')
 exact vQ (C:=C) (n:=n) (fr:=co a) (own:=ov) (G:=G) (vs:=[.slice (ρ d).a (ρ d).n (ρ d).c]) (by rw[hr];exact .tmp hy .nil) (B++rest) B hp (oK _ _) ⟨ρ d,aH.2 J,hB⟩ a w ⟨r.h,r.sz,cB a,r.df⟩
def yy(lk:LK):List Operand->Option (List (Option DV))
 |[]=>none
 |[x]=>match bh lk x with
  |some .nl=>some [none]
  |_=>none
 |x::t=>match bh lk x,yy lk t with
  |some f,some l=>match jm f with
   |some d=>some (some d::l)
   |none=>none
  |_,_=>none
def FS(lk:LK)(fo:Operand)(args:Array Operand):Option (FuncId×List (Option DV)):=match bh lk fo with
 |some (.d (.v (.func (.func f) ⟨[]⟩ ⟨[]⟩)))=>match yy lk args.toList with
  |some l=>some (f,l)
  |_=>none
 |_=>none
def Qm{lk:LK}{bk:BM}{ρ:NE}{G:Gh}{ov:List aA}{a:Act}{w:World}(r:bH GB C n lk bk ρ G ov a w): ∀{x:List Operand} {l:List (Option DV)},yy lk x=some l-> ∃y,fi (co a) x=some y/\IsLs G (fw l ⟨none,0,0⟩) y
 |[],l,e=>by cases e
 |[x],l,e=>by
  simp only[yy] at e;split at e<;>cases e;rename_i h1;obtain⟨y,h3,h4⟩:=r.ev h1
  cases (show y=_ from h4)
  exact⟨[Value.slice none 0 0],by simp only[fi,h3], .cons ((aH (G:=G)).2 J) .nil⟩
 |x::x2::t,l,e=>by
  simp only[yy] at e;split at e
  .rename_i f l' h1 h2
   cases hd:jm f with
   |none=>rw[hd] at e;cases e
   |some d=>
   rw[hd] at e;cases e;obtain⟨y,h3,h4⟩:=r.ev h1;obtain⟨ys,h5,h6⟩:=Qm r (x:=x2::t) (by simpa only[yy] using h2);exact⟨y::ys,by simp only[fi,h3] at h5⊢;rw[h5], .cons (l8 h4 hd) h6⟩
  .cases e
def at8{gd:Option (Nat×Bool)}
  (ha:FS lk fo args=some (f,l))(hF:PB GB prog f (fw l) s ty0 [] (fun w=> .v (.slice w.a w.n w.c)) dso):b7 prog GB C n lk bk ⟨some d, .call ⟨.value fo,args,tys⟩,ty,pos,af,gd⟩ (.rw d) [(d,some (.b ty0 s dso true))] [d]:=by
 intro hd tl tb K' s1 s2 hf hk;refine⟨fun ρ G ov a w r Q=>?_⟩;have r1:=r.mono s1 s2;unfold FS at ha;split at ha<;>try (cases ha;done)
 rename_i h1;split at ha<;>cases ha;rename_i h2;obtain⟨y,hy,hy'⟩:=r1.ev h1;rw[(aH (G:=G)).1 hy'] at hy;obtain⟨vs,h7,h8⟩:=Qm r1 h2;refine uu (M:=[]) (rest:=ov) hy h7 (List.Perm.refl _) (hF G ⟨none,0,0⟩ vs [] r.gb ⟨[], .nil _ _, .nil,by simp,fun h=>by cases h⟩ h8) hd (fun v own1 G' hG hK a' w' rl=>?_) a w Q ⟨r.h,r.sz,cB a,r.df⟩;obtain⟨z,hr,vs',k1,k2,k3,k4⟩:=hK;have k1':=k1.relo (fC []);have e2: ∀o∈own1.map (relo (fC [])),o.lo=true:=fun o ho=>by
  obtain⟨o',_,rfl⟩:=aT.1 ho;rfl
 generalize own1.map (relo (fC []))=B' at rl e2 k1';have rl':gq C n (Sx.put (co a) (some d) v) (B'++ov) G' a' w':=rl;have hdis:=(fS.1 rl'.h.nd).2.2;rw[aH.1 hr] at rl';have r3:=r.new (x:=z) (B':= .b ty0 s dso true) (os:=B') (ov':=B'++ov) (f:= .rw d) (y:= .slice z.a z.n z.c) hf hG.le rl'.h ⟨vs',by simpa using k1',k2,k3,fun _=>e2⟩ (fun o ho=>bR _ ho) (fun o ho=>bV _ ho)
  (fun o ho hc=>by
   have hx: ∃o1∈B',o1.b=o.b:=by
    rcases k1' with⟨_,h,_⟩|⟨b0,rest0,lo0,h,hB,_⟩
    .rw[show z=_ from h] at hc;cases hc
    .rw[show z=_ from h] at hc;cases hc;exact⟨⟨_,aE vs'++rest0,_,lo0⟩,by rw[hB];exact aQ,J⟩
   obtain⟨o1,ho1,he1⟩:=hx;exact hdis o1 ho1 o ho he1) (by simp[bP]) (jb rl')
 exact hk.run _ G' _ a' w' r3
def Kf(fr:aC)(cf:Cf):Option (FuncId×List (Option DV)×Nat):=match cI fr cf with
 |some ⟨some d, .call ⟨.value fo,args,_⟩,_,_,_,_⟩=>match FS (b9 fr cf) fo args with
  |some (f,l)=>some (f,l,d)
  |none=>none
 |_=>none
def WA[fu:Fu](dso':List DV)(ha:Kf fr cf=some (f,l,d))(hF:PB GB prog f (fw l) s ty [] (fun w=> .v (.slice w.a w.n w.c)) dso)(he:dso=dso')
  (hgo:cH tt n fu.n fr own cf (.rw d) [(d,some (.b ty s dso' true))] [d]=⟨vc,fr',own',cf'⟩)(k:av prog GB C n Q0 fr' own' cf')
  (hv:autoParam (ak vc) fn._auto_1):av prog GB C n Q0 fr own cf:=by
 subst he;unfold Kf at ha;split at ha<;>try (cases ha;done)
 rename_i hh;split at ha<;>cases ha;rename_i h1;exact us hh (at8 h1 hF) hgo hv k
end
section
variable {T:TT}{ρ:NE}{a:Act}{w:World}
variable {gd:Option (Nat×Bool)}{x:Operand}
def Vs{i:TI}{ds:List DV}[hT:cw P t e s by_][hN:jn P t'](hi:eH P e=some i)(hz:nq i=some z)(hs:Nat.beq z.cells.length s=true)(hx:bh lk x=some (.rw nm))(hb:bk nm=some (.b e s ds false))(hy:pD lk bk s y=some ds2)(hk2:cE s ds2)
  (hby:Nat.blt 0 by_=true)(hbd:(ds.length+ds2.length)*by_<=140737488355328)(hnd:Nat.beq nm d=false)(hds:ds++ds2=ds'):
  b7 P GB C n lk bk ⟨some d, .call ⟨.builtin .append, #[x,y], #[t,t']⟩,ty',pos,af,gd⟩ (.rw d) [(nm,none),(d,some (.b e s ds' false))] [d]:=by
 intro hd tl tb K s1 s2 hf hk;refine⟨fun ρ G ov a w r Q=>?_⟩;subst hds;have r1:=r.mono s1 s2;obtain⟨v,hz1,hz2,hz3⟩:=yp hi hz;have cz:=((hz2 G).cells hz3).1.len;replace hs:=aN hs;rw[kL] at hby
 have hne:nm≠d:=fun e=>by subst e;simp at hnd
 obtain⟨u,hx',hx2⟩:=r1.ev hx
 cases hx2
 obtain⟨B,hB0,hBo⟩:=r1.bx _ _ hb;have hB1:dw G ⟨ρ nm,s,e,ds,false⟩ B:=hB0;clear hB0;obtain⟨vs,hB,hv,hvs,_⟩:=hB1;simp only[] at hB hv hvs;obtain⟨w2,us,hy',h2,h3,h4,h5,h6⟩:=Ba (P:=P) r1 hy hk2;have hus:(aE us).length=us.length*s:=eD us h4;have hbd':(vs.length+us.length)*by_<=140737488355328:=by rw[hv.len,h3.len];exact hbd
 have hall: ∀v∈vs++us,(aG v).length=s:=fun v hv=>by
  rcases bJ.1 hv with hv|hv
  .exact hvs v hv
  .exact h4 v hv
 have rd:=r.dropB nm;have hf':jp [d] (some d) tl (Sx.upB tb [(nm,none)]):=fun m hm=>by
  obtain⟨g1,g2⟩:=hf m hm;refine⟨g1,fun k B' hk e=>g2 k B' hk ?_⟩;simp only[Sx.upB] at e;split at e
  .cases e
  .exact e
 have hbk: ∀m B',(Sx.upB tb [(nm,none)]) m=some B'->m≠nm/\tb m=some B':=fun m B' e=>by
  simp only[Sx.upB] at e;split at e
  .cases e
  .exact⟨by assumption,e⟩
 have hnew: ∀{z:SV} {ov':List aA} {B1:List aA} {a':Act} {w':World} {dz:List DV},dw G ⟨z,s,e,dz,false⟩ B1->(∀o∈B1,o∈ov')->(∀m B',m≠d->(Sx.upB tb [(nm,none)]) m=some B'-> ∀o∈ov,(ρ m).a=some ⟨o.b,0,none⟩->o∈ov'/\z.a≠some ⟨o.b,0,none⟩)->
   SX GB C n (d8 tl (some d) (.rw d)) (Sx.upB (Sx.upB tb [(nm,none)]) [(d,some (.b e s dz false))]) K->gq C n (Sx.put (co a) (some d) (.slice z.a z.n z.c)) ov' G a' w'->K a' w':=fun hB1 hos hov hk1 rl=>
  hk1.run _ _ _ _ _ (rd.new' (f:= .rw d) (y:= .slice _ _ _) hf' (bI.refl _) rl.h (hB1.toBk (by simp)) hos hov (by show _=_;simp) (jb rl))
 have hfin: ∀(b:Nat) (lo1:Bool) (cap':Nat) (rest':List Value) (ov1:List aA) a' w',vs.length+us.length<=cap'->rest'.length+(vs.length+us.length)*s=cap'*s->(∀o∈ov,(ρ nm).a≠some ⟨o.b,0,none⟩->o∈ov1)->
   gq C n (put (co a) (some d) (.slice (some ⟨b,0,none⟩) (vs.length+us.length) cap')) (⟨b,aE (vs++us)++rest',e,lo1⟩::ov1) G a' w'->K a' w':=by
  intro b lo1 cap' rest' ov1 a' w' hc hr ho1 rl;have hnd':=(bL.1 rl.h.nd).1;refine hnew (z:=⟨some ⟨b,0,none⟩,vs.length+us.length,cap'⟩) (B1:=[⟨b,aE (vs++us)++rest',e,lo1⟩]) ⟨vs++us, .inr ⟨b,rest',lo1,by simp,J,eD _ hall,?_,by simpa using hc⟩,hv.app h3,hall,fun h=>by cases h⟩
   (fun o ho=>by rw[aU.1 ho];exact aQ) (fun m B' hm e o ho hmo=>?_) hk rl
  .rw[eD _ hall,aY]
   simp only[];omega
  .obtain⟨h7,h8⟩:=hbk m B' e
   have ho2:=ho1 o ho fun hc=>r.dj m nm B' _ h8 (s2 _ _ hb) h7 _ hmo hc;exact⟨aJ _ ho2,fun e'=>by cases e';exact hnd' o ho2 J⟩
 rcases hB with⟨e1,e2,e3⟩|⟨b,rest,lo',k3,k4,k5,k6,k7⟩
 .subst e1
  rw[e2] at hx';by_cases hne:us=[]
  .subst hne
   have:ds2=[]:=cV (by rw[<-h3.len];rfl);subst this;rw[h2] at hy';refine P4 hx' hy' hd (fun a' w' rl=>?_) a w Q ⟨r.h,r.sz,cB a,r.df⟩;refine hnew (z:=⟨none,0,0⟩) (B1:=[]) ⟨[], .inl ⟨J,J,J⟩,by simpa using hv,by simp,fun h=>by cases h⟩ (fun o ho=>by cases ho) (fun m B' hm e o ho hmo=>⟨ho,fun e'=>by cases e'⟩) hk rl
  .have hup:0<us.length:=mZ.2 hne
   rw[h2] at hy' h6;refine ES (z:=v) (xs:=[]) (ys:=aE us) hx' hy' tP h6 (by show(0:Nat)<0+us.length;omega) hby (by simpa using hbd') hd (fun b cap' hc a' w' rl=>?_) a w Q ⟨r.h,r.sz,cB a,r.df⟩;exact hfin b true cap' (dm v (cap'-us.length)) ov a' w' (by simpa using hc) (by rw[oh,cz,hs,<-dY];simp at hc⊢;congr 1;omega) (fun o ho _=>ho) (by simpa using rl)
 .subst k4
  have ha:(ρ nm).a=some ⟨b,0,none⟩:=by rw[k3]
  have hn:(ρ nm).n=vs.length:=by rw[k3]
  rw[ha,hn] at hx';rw[h2] at hy' h6;obtain⟨ov1,o1,o2⟩:=jq.of_mem (hBo _ aQ);refine JM (z:=v) (xs:=aE vs) (ys:=aE us) (rest:=rest) (own1:=ov1) hx' hy' o1 k5 k6 k7 h6 hus h5 hby hbd' (by rw[cz,hs]) hd (fun b' lo2 cap' rest' hc hr a' w' rl=>?_) a w Q ⟨r.h,r.sz,cB a,r.df⟩;rw[<-n7] at rl;exact hfin b' lo2 cap' rest' ov1 a' w' hc hr (fun o ho hne=>o2 o ho fun e'=>hne (by rw[ha,e'])) rl
end
section
variable {own:aI}
def RR(fr:aC)(own:aI)(cf:Cf):Option (Nat×Nat×Nat×Nat×Nat×List DV×List DV):=match cI fr cf with
 |some ⟨some d, .call ⟨.builtin .append,⟨[x,y]⟩,⟨[t,t']⟩⟩,_,_,_,_⟩=>match dO tt t with
  |some ⟨.sl e s b,_,_,_⟩=>match dO tt t' with
   |some ⟨.sl _ _ _,_,_,_⟩=>match dO tt e with
    |some i=>match nq i with
     |some z=>bif Nat.beq z.cells.length s&&Nat.blt 0 b then(match pD (b9 fr cf) (iH fr own cf) s y with
      |some ds2=>match bh (b9 fr cf) x with
       |some (.rw nm)=>match iH fr own cf nm with
        |some (.b e' s' ds false)=>bif (Nat.beq e' e&&Nat.beq s' s)&&!Nat.beq nm d then some (d,nm,e,s,b,ds,ds2) else none
        |_=>none
       |_=>none
      |none=>none) else none
     |none=>none
    |none=>none
   |_=>none
  |_=>none
 |_=>none
def QU[fu:Fu]{ds:List DV}(ds':List DV)(h:RR fr own cf=some (d,nm,e,s,b,ds,ds2))(hds:ds++ds2=ds')(ho2:cE s ds2)(hgo:cH tt n fu.n fr own cf (.rw d) [(nm,none),(d,some (.b e s ds' false))] [d]=⟨vc,fr',own',cf'⟩)(k:av prog GB C n Q0 fr' own' cf')
  (hbd:(ds.length+ds2.length)*b<=140737488355328:=by simp;omega)
  (hv:autoParam (ak vc) fn._auto_1):av prog GB C n Q0 fr own cf:=by
 unfold RR at h;split at h<;>try (cases h;done)
 rename_i hh;split at h<;>try (cases h;done)
 rename_i hT;split at h<;>try (cases h;done)
 rename_i hT';split at h<;>try (cases h;done)
 rename_i hi;split at h<;>try (cases h;done)
 rename_i hz;rw[cond_eq_ite] at h;split at h<;>try (cases h;done)
 rename_i hc;simp only[bK] at hc;split at h<;>try (cases h;done)
 rename_i hy;have:=kt (et _ _ hT) J;have hN:jn prog _:=⟨_,(kt (et _ _ hT') J).un⟩;split at h<;>try (cases h;done)
 rename_i hx;split at h<;>try (cases h;done)
 rename_i hb;rw[cond_eq_ite] at h;split at h<;>cases h;rename_i hq;simp only[bK,gM] at hq
 cases aN hq.1.1
 cases aN hq.1.2
 exact us hh (Vs (et _ _ hi) hz hc.1 hx hb hy ho2 hc.2 hbd hq.2 hds) hgo hv k
end
section
variable {own:aI}
variable {gd:Option (Nat×Bool)}{x:Operand}
def aEz{w:SV}{ds:List DV}(h:dw G ⟨w,s,ty,ds,lo⟩ B)(hn:0<ds.length): ∃b,w=⟨some ⟨b,0,none⟩,ds.length,w.c⟩/\ds.length<=w.c:=by
 obtain⟨vs,h1,h2,_⟩:=h;rcases h1 with⟨e1,_,_⟩|⟨b,rest,lo',e1,_,_,_,h5⟩
 .subst e1;have:=h2.len;simp at this;omega
 .exact⟨b,by rw[<-h2.len];exact e1,by rw[<-h2.len];exact h5⟩
def il.cut{z:SV}{vs:List Value}(h:il s ty z vs B)(hs: ∀v∈vs,(aG v).length=s)(hk:k<=vs.length)(hne:0<vs.length):il s ty ⟨z.a,k,z.c⟩ (vs.take k) B:=by
 rcases h with⟨h1,_,_⟩|⟨b,rest,lo,h1,h2,h3,h4,h5⟩
 .subst h1;simp at hne
 .have e:aE vs=aE (vs.take k)++aE (vs.drop k):=by rw[<-n7,kX]
  have hl:=eD (vs.take k) fun v hv=>hs v (eM hv);have hm:(vs.take k).length=k:=by rw[bT];omega
  refine .inr ⟨b,aE (vs.drop k)++rest,lo,by rw[hm,h1],by rw[h2,e,dV],hl,?_,by rw[hm];show k<=z.c;omega⟩;show _=z.c*s;rw[<-h4,e,aY,aY];omega
def aE5[hT:cw P t e s by_]{k:IntKind}{ds:List DV}(hne:Nat.beq nm d=false)(hx:bh lk x=some (.rw nm))(hb:bk nm=some (.b ty s ds lo))(hy:bh lk y=some (.d (.v (.int k j))))(h1:j<ds.length):
  b7 P GB C n lk bk ⟨some d, .slice t x none (some y) none,ty',pos,af,gd⟩ (.rw d) [(nm,none),(d,some (.b ty s (ds.take j) lo))] [d]:=by
 intro hd tl tb K s1 s2 hf hk;refine⟨fun ρ G ov a w r Q=>?_⟩;have r1:=r.mono s1 s2;obtain⟨u,hu,hu2⟩:=r1.ev hx
 cases (show u=_ from hu2)
 obtain⟨v,hv,hv2⟩:=r1.ev hy;rw[c7] at hv2;subst hv2;obtain⟨B,hB0,hBo⟩:=r1.bx _ _ hb;have hB:dw G ⟨ρ nm,s,ty,ds,lo⟩ B:=hB0;obtain⟨b,hw,hc⟩:=aEz hB (by omega);obtain⟨vs,g1,g2,g3,g4⟩:=hB;have hvl:=g2.len;have hcut:dw G ⟨⟨(ρ nm).a,j,(ρ nm).c⟩,s,ty,ds.take j,lo⟩ B:=⟨vs.take j,il.cut g1 g3 (by simp only at hvl⊢;omega) (by simp only at hvl⊢;omega),g2.take _,fun v hv=>g3 v (eM hv),g4⟩;have hs:=EM (P:=P) (C:=C) (own:=ov) (G:=G) (dst:=some d) (ty':=ty') (pos:=pos) (af:=af) (gd:=gd) (t:=t) hu hv;have hnn:nm≠d:=fun e=>by subst e;rw[lM] at hne;cases hne
 have r2:=r.dropB nm;have hf2:jp [d] (some d) tl (Sx.upB tb [(nm,none)]):=fun q hq=>by
  obtain⟨f1,f2⟩:=hf q hq;refine⟨f1,fun k B e1 e=>?_⟩;simp only[Sx.upB] at e;split at e
  .cases e
  .exact f2 k B e1 e
 have r3:=r2.new' (x:=⟨(ρ nm).a,j,(ρ nm).c⟩) (B':= .b ty s (ds.take j) lo) (os:=B) (ov':=ov) (f:= .rw d) (y:= .slice (ρ nm).a j (ρ nm).c) hf2 (bI.refl _) r.h (hcut.toBk (by simp)) hBo
  (fun m B' hm e o ho hmo=>⟨ho,fun hc=>by
   simp only[Sx.upB] at e;split at e
   .cases e
   .rename_i hmn
    exact r.dj m nm B' _ e (s2 _ _ hb) hmn _ hmo hc⟩) (by simp[bP]) (r.putA (.slice (ρ nm).a j (ρ nm).c) hd)
 exact kr (hs a w (cB a) r.h) (hk.run _ G _ _ w r3)
def QZ(fr:aC)(own:aI)(cf:Cf):Option (Nat×Nat×TypeId×Nat×List DV×Bool×Int):=match cI fr cf with
 |some ⟨some d, .slice t x none (some y) none,_,_,_,_⟩=>match dO tt t with
  |some ⟨.sl _ s' _,_,_,_⟩=>match bh (b9 fr cf) x with
   |some (.rw nm)=>match iH fr own cf nm with
    |some (.b ty s ds lo)=>match bh (b9 fr cf) y with
     |some (.d (.v (.int _ i)))=>bif Nat.beq s s'&&!Nat.beq nm d then some (d,nm,ty,s,ds,lo,i) else none
     |_=>none
    |_=>none
   |_=>none
  |_=>none
 |_=>none
def ML[fu:Fu]{ds:List DV}{i:Int}(ds':List DV)(k:Nat)(h:QZ fr own cf=some (d,nm,ty,s,ds,lo,i))(hi:i=(k:Nat))(hl:k<ds.length)(hd:ds.take k=ds')(hgo:cH tt n fu.n fr own cf (.rw d) [(nm,none),(d,some (.b ty s ds' lo))] [d]=⟨vc,fr',own',cf'⟩)(kk:av prog GB C n Q0 fr' own' cf')
  (hv:autoParam (ak vc) fn._auto_1):av prog GB C n Q0 fr own cf:=by
 subst hi hd;unfold QZ at h;split at h<;>try (cases h;done)
 rename_i hh;split at h<;>try (cases h;done)
 rename_i hT;split at h<;>try (cases h;done)
 rename_i hx;split at h<;>try (cases h;done)
 rename_i hb;split at h<;>try (cases h;done)
 rename_i hy;rw[cond_eq_ite] at h;split at h<;>cases h;rename_i hq;simp only[bK,gM] at hq
 cases aN hq.1
 have:=kt (et _ _ hT) J;exact us hh (aE5 hq.2 hx hb hy hl) hgo hv kk
end
section
variable {own:aI}
def jk{e:Exit}{ds:List DV}(hr:rj tt fr own fb.results.toList=some ds)(hd: ∀G y,Is G (eG ds) y->Is G rv y)(he:Cx e=true:=by rfl):av prog GB C n (eg C prog fb (lB C (fun v G'=>Is G' rv v))) fr own (.ex e []):=by
 refine⟨fun ρ G ov a w r=>?_⟩;obtain⟨vs,h1,h2⟩:=Ff r hr;have hk:Is G rv (nv vs):=hd _ _ (EC h2)
 cases e with
 |ret=>exact zD (C:=C) (n:=n) (fr:=co a) (own:=ov) (G:=G) (K:=fun v G'=>Is G' rv v) h1 hk a w ⟨r.h,r.sz,cB a,r.df⟩
 |normal=>exact Qt (C:=C) (n:=n) (fr:=co a) (own:=ov) (G:=G) (K:=fun v G'=>Is G' rv v) h1 hk a w ⟨r.h,r.sz,cB a,r.df⟩
 |_=>cases he
def Oo(fr:aC)(cf:Cf):Option (Int×IntKind):=match cI fr cf with
 |some ⟨_, .convert t t' x,_,_,_,_⟩=>match dO tt t,dO tt t',bh (b9 fr cf) x with
  |some ⟨.int k,_,_,_⟩,some ⟨.int k',_,_,_⟩,some (.d (.v (.int j p)))=>bif kq k j then some (p,k') else none
  |_,_,_=>none
 |_=>none
def cu[fu:Fu](u:Int)(h:Oo fr cf=some (p,k'))(e:k'.wrap p=u)(hgo:cH tt n fu.n fr own cf (.d (.v (.int k' u))) [] []=⟨vc,fr',own',cf'⟩)(k:av prog GB C n Q0 fr' own' cf')
  (hv:autoParam (ak vc) cL._auto_1):av prog GB C n Q0 fr own cf:=by
 unfold Oo at h;split at h<;>try (cases h;done)
 rename_i hh;split at h<;>try (cases h;done)
 rename_i k0 _ _ _ k1 _ _ _ j p0 hT hT' hx
 cases hk:kq k0 j with
 |false=>rw[hk] at h;cases h
 |true=>
  rw[hk,cond_true] at h;cases h;cases DZ hk;have:=x8 (et _ _ hT) J;have:=x8 (et _ _ hT') J;subst e;refine us hh (.x1 hx fun ρ G ov a w y _ r h1 h2=>?_) hgo hv k;rw[c7] at h2;subst h2;exact⟨_,c7.2 J,Cu h1⟩
def RE(fr:aC)(cf:Cf):Option (Int×IntKind):=match cI fr cf with
 |some ⟨_, .unOp .neg _ x,_,_,_,_⟩=>match bh (b9 fr cf) x with
  |some (.d (.v (.int j p)))=>some (p,j)
  |_=>none
 |_=>none
def nu[fu:Fu](u:Int)(h:RE fr cf=some (p,k'))(e:k'.wrap (0-p)=u)(hgo:cH tt n fu.n fr own cf (.d (.v (.int k' u))) [] []=⟨vc,fr',own',cf'⟩)(k:av prog GB C n Q0 fr' own' cf')
  (hv:autoParam (ak vc) cL._auto_1):av prog GB C n Q0 fr own cf:=by
 unfold RE at h;split at h<;>try (cases h;done)
 rename_i hh;split at h<;>cases h;rename_i hx;subst e;exact us hh (.x1 hx fun ρ G ov a w y _ r h1 h2=>by
  rw[c7] at h2;subst h2;exact⟨_,c7.2 J,Ge h1⟩) hgo hv k
end
def SJ(h:0<W.length:=by omega)(hz:W.getD (W.length-1) 0=0:=by omega):trimD W=trimD (W.take (W.length-1)):=by
 have:=Km (ds:=W) (n:=W.length) ⟨h,bW _⟩ hz;rwa [cS] at this
def CO(hz:0<W.length->W.getD (W.length-1) 0≠0):trimD W=W:=by
 have:=KO (ds:=W) (n:=W.length) (bW _) hz;rwa [cS] at this
def sF(hl:ds.length<=1125899906842624:=by omega):PF GB prog 278 [dk ds] (dk (trimD ds)):=by
 refine fn func278 J J ntmps278 J J (fun C=>?_);refine lp (fu:=⟨5⟩) (X:=List Nat) (fun W=>[(0, .d (dk W))]) (fun W=>[]) (fun W=>trimD ds=trimD W/\W.length<=ds.length) (fun W=>W.length) ds J ⟨J,bW _⟩ (fun _=>J) (fun W hk=>?_);obtain⟨h1,h2⟩:=hk;have hml:=bO W;refine aj 4 (.d (vI (W.length:Nat))) J (by rw[hml]<;>rfl)<|gx J<|cs (fu1:=⟨3⟩) 6 J J J (fun hg6=>?_) (fun hg6=>?_)
 .
  refine aj 9 (.d (vI (W.length:Nat))) J (by rw[hml]<;>rfl)<|gx J<|ix _ J (cD (k:=W.length-1)) J<|br (fu1:=⟨7⟩) J J J (fun hc14=>?_) (fun hc14=>?_)
  .
   refine aj 17 (.d (vI (W.length:Nat))) J (by rw[hml]<;>rfl)<|gx (fu:=⟨1⟩) J<|aj 18 (.d (vI (W.length-1:Nat))) J (by show FX.d (.v (.int _ _))= .d (.v (.int _ _));congr 3;omega)<|gx J<|kn (fu:=⟨0⟩) 0 (W.length-1) _ J J J J (rE _) (by omega) (by simp) J<|aj 19 (.d (dk (W.take (W.length-1)))) J (by show FX.d (.sl _)=FX.d (.sl _);simp)<|gx J<|at_ (W.take (W.length-1)) ⟨⟨by rw[h1,SJ],by rw[bT];omega⟩,(by rw[bT];omega)⟩
  .
   exact rz J (by rw[h1,CO (fun _=>by omega)];rfl)
 .
  exact rz J (by rw[h1,CO (fun _=>by omega)];rfl)
def aH8{v:Value}(hd:bD ds)(h:Is G (dk ds) v): ∃x:SV,v=x.v/\mz G x ds:=by
 obtain⟨x,rfl,h1⟩:=Hc.1 h;exact⟨x,J,hd,h1⟩
def RA(hd:bD ds)(hb:ds.length<=1125899906842:=by omega):PF GB prog 303 [dk ds] (dk ds):=fun G vs _ hv=>by
 obtain⟨v,m,rfl,h1,h2⟩:=bi.1 hv
 cases ef.1 h2
 obtain⟨x,rfl,h3⟩:=aH8 hd h1;exact(atz h3 hb).mono fun v G' _ ⟨z,e,h⟩=>by subst e;exact Hc.2 ⟨z,J,h.sl⟩
def Y8(h:ds.length=0):e7 ds:=by rw[cV h];unfold e7;simp
def ZU(h:0<ds.length):e7 ds↔ds.getD (ds.length-1) 0≠0:=by
 unfold e7;rw[nM,aV,aZ (by omega)];simp
def aBW(a:Nat):trimD (dg a)=dg a:=auh (fI a).2.2
def oG(h:(dg a).length<=1125899906842624:=by omega):PF GB prog 278 [dN a] (dN a):=(sF (ds:=dg a) h).to (by rw[aBW];rfl)
def i5[h:BN a i](hi:i<=1000000000:=by omega):(dg a).length<=31250001:=by have:=jC h.h;omega
def uS[h:BN a i](hi:i<=1000000000:=by decide):PF GB prog 272 [dN a] (dN a):=by
 have hla:=bO (dg a);have hba:=i5 (a:=a) hi;refine fn func272 J J ntmps272 J J (fun C=>?_);refine cl J (oG) J<|cl J (RA (gi _)) J<|rz J J
def Kg(hd:bD ds)(hl:ds.length<=1125899906842624):PF GB prog 246 [dk ds] (vB (decide (e7 ds))):=by
 have hla:=bO ds;refine fn (fu:=⟨9⟩) func246 J J ntmps246 J J (fun C=>?_);refine aj 4 (.d (vI (ds.length:Nat))) J (by rw[hla]<;>rfl)<|gx J<|cs (fu2:=⟨3⟩) 6 J J J (fun hg6=>?_) (fun hg6=>?_)
 .
  exact rz J (by rw[decide_eq_true (Y8 (by omega))];rfl)
 .
  refine aj 9 (.d (vI (ds.length:Nat))) J (by rw[hla]<;>rfl)<|gx J<|ix _ J (cD (k:=ds.length-1)) J<|rz J (by show DV.v (.bool (decide _))=DV.v (.bool (decide _));congr 2;exact decide_eq_decide.2 (by rw[ZU (by omega)];omega))
def zq(h:a<18446744073709551616:=by omega):PF GB prog 273 [.v (.int .u64 (a:Nat))] (dN a):=by
 refine fn (fu:=⟨11⟩) (hv:=by simp only[ak];exact(by decide)) func273 J J ntmps273 J J (fun C=>?_);refine aj 6 (.d (.v (.int .u64 (a/4294967296:Nat)))) J (by rw[oB])<|gx J<|rf (fu:=⟨0⟩) J J<|aj 8 (.d (dk [a%4294967296,a/4294967296])) J (by show FX.d (.sl [.v (.int _ _), .v (.int _ _)])= .d (.sl [.v (.int _ _), .v (.int _ _)]);congr 6;omega)<|gx J<|cl J (sF (ds:=[a%4294967296,a/4294967296]) (by simp)) J<|rz J (kC (OY h) (Mu a))
def RG[h:BN a i][k:BN b j](hi:i<=1000000000:=by decide)(hj:j<=1000000000:=by decide):PF GB prog 301 [dN a,dN b] (vI (iE a b)):=by
 have hla:=bO (dg a);have hba:=i5 (a:=a) hi;have hlb:=bO (dg b);have hbb:=i5 (a:=b) hj;refine fn func301 J J ntmps301 J J (fun C=>?_);refine cl J (oG) J<|cl (fu:=⟨9⟩) J (oG) J<|aj 11 (.d (vI ((dg a).length:Nat))) J (by rw[hla]<;>rfl)<|gx (fu:=⟨2⟩) J<|aj 13 (.d (vI ((dg b).length:Nat))) J (by rw[hlb]<;>rfl)<|gx J<|br (fu1:=⟨5⟩) (fu2:=⟨7⟩) J J J (fun hc14=>?_) (fun hc14=>?_)
 .
  refine aj 16 (.d (vI ((dg a).length:Nat))) J (by rw[hla]<;>rfl)<|gx (fu:=⟨2⟩) J<|aj 18 (.d (vI ((dg b).length:Nat))) J (by rw[hlb]<;>rfl)<|gx J<|br J J J (fun hc19=>?_) (fun hc19=>?_)
  .
   exact rz J (by show DV.v (.int _ (-1))=_;rw[<-JG,Ap (by omega)];rfl)
  .
   exact rz J (by show DV.v (.int _ 1)=_;rw[<-JG,zl (by omega)];rfl)
 .
  have hl:(dg a).length=(dg b).length:=by omega
  refine aj 21 (.d (vI ((dg a).length:Nat))) J (by rw[hla]<;>rfl)<|gx J<|lp (X:=Nat) (fun k=>[(5, .d (vI ((k:Nat)-1)))]) (fun k=>[]) (fun k=>k<=(dg a).length/\(dg a).drop k=(dg b).drop k) (fun k=>k) (dg a).length J ⟨bW _,by rw[fL,hl,fL]⟩ (fun _=>J) (fun k hk=>?_);obtain⟨h1,h2⟩:=hk;refine br J J J (fun hc24=>?_) (fun hc24=>?_)
  .
   obtain⟨k,rfl⟩: ∃m,k=m+1:=⟨k-1,by omega⟩;refine ix _ J (cD (k:=k)) J<|ix _ J (cD (k:=k)) J<|br J J J (fun hc27=>?_) (fun hc27=>?_)
   .
    exact rz J (by show DV.v (.int _ (-1))=_;rw[Ap ((xd hl (by omega) h2).1 (by omega))];rfl)
   .
    refine ix _ J (cD (k:=k)) J<|ix _ J (cD (k:=k)) J<|br J J J (fun hc37=>?_) (fun hc37=>?_)
    .
     exact rz J (by show DV.v (.int _ 1)=_;rw[zl ((xd hl (by omega) h2).2.1 (by omega))];rfl)
    .
     exact at_ k ⟨⟨by omega,(xd (i:=k) hl (by omega) h2).2.2 (by omega)⟩,(by omega)⟩
  .
   exact rz rfl (by show DV.v (.int _ 0)=_;rw[F5];rfl;obtain rfl:k=0:=(by omega);rw[iX,iX] at h2;rw[<-c8 a,h2,c8])
def Z2{a b i j:Nat}[h:BN a i][k:BN b j](hi:i<=1000000000:=by decide)(hj:j<=1000000000:=by decide):PF GB prog 269 [dN a,dN b] (dN (a+b)):=by
 have hla:=bO (dg a);have hba:=i5 (a:=a) hi;have hlb:=bO (dg b);have hbb:=i5 (a:=b) hj;refine fn (fu:=⟨6⟩) func269 J J ntmps269 J J (fun C=>?_);refine mg (fu:=⟨4⟩) (X:=Nat×Nat) (fun⟨A,B⟩=>[(0, .d (dN A)),(1, .d (dN B))]) (fun⟨A,B⟩=>[]) (fun⟨A,B⟩=>(dg B).length<=(dg A).length/\A+B=a+b/\(dg A).length<=31250001) [0,1] [] rfl ?_ (fun _=>J) (fun⟨A,B⟩ ⟨hm1,hm2,hm3⟩=>?_)
 .
  refine gx (fu:=⟨4⟩) J<|aj 10 (.d (vI ((dg a).length:Nat))) J (by rw[hla]<;>rfl)<|gx (fu:=⟨2⟩) J<|aj 12 (.d (vI ((dg b).length:Nat))) J (by rw[hlb]<;>rfl)<|gx J<|br J J J (fun hc13=>?_) (fun hc13=>?_)
  .
   exact at_ ⟨b,a⟩ ⟨by omega,kR b a,hbb⟩
  .
   exact at_ ⟨a,b⟩ ⟨by omega,J,hba⟩
 .
  have hlA:=bO (dg A);have hlB:=bO (dg B);refine aj 17 (.d (vI ((dg A).length:Nat))) J (by rw[hlA]<;>rfl)<|gx (fu:=⟨1⟩) J<|aj 18 (.d (vI ((dg A).length+1:Nat))) J (by show FX.d (.v (.int _ _))= .d (.v (.int _ _));congr 3)<|gx J<|mk (fu:=⟨13⟩) ((List.replicate ((dg A).length+1) 0).map dU) J J (by rw[<-m6];rfl) J<|aj 21 (.d (vI ((dg A).length:Nat))) J (by rw[hlA]<;>rfl)<|gx J<|lp (X:=List Nat×Nat×Nat) (fun⟨W,c,i⟩=>[(0, .d (dN A)),(1, .d (dN B)),(5, .rw 19),(6, .d (.v (.int .u64 (c:Nat)))),(20, .d (dN A)),(21, .d (vI ((dg A).length:Nat))),(22, .d (vI (i:Nat)))]) (fun⟨W,c,i⟩=>[(19,some (.b 208 1 (W.map dU) true))]) (fun⟨W,c,i⟩=>W.length=(dg A).length+1/\bD W/\c<=1/\i<=(dg A).length/\dv (W.take i)+4294967296^i*c=dv ((dg A).take i)+dv ((dg B).take i)) (fun⟨W,c,i⟩=>(dg A).length-i) ⟨List.replicate ((dg A).length+1) 0,0,0⟩ J ⟨by simp, .replicate _,by omega,by omega,by simp[dv]⟩ (fun _=>J) (fun⟨W,c,i⟩ hk=>?_)
  try dsimp only at hk⊢
  obtain⟨h1,h2,h3,h4,h5⟩:=hk;have hlw:=bO W;have hda:=dG A i;have hdb:=dG B i;obtain⟨t,ht⟩: ∃t,t=(dg A).getD i 0+(dg B).getD i 0+c:=⟨_,rfl⟩;refine br (fu2:=⟨10⟩) J J J (fun hc23=>?_) (fun hc23=>?_)
  .
   refine ix (fu:=⟨15⟩) _ J (ek) J<|mg (fu:=⟨6⟩) (X:=Unit) (fun _=>[(0, .d (dN A)),(1, .d (dN B)),(5, .rw 19),(6, .d (.v (.int .u64 (t:Nat)))),(20, .d (dN A)),(21, .d (vI ((dg A).length:Nat))),(22, .d (vI (i:Nat))),(7, .d (vI (i:Nat))),(8, .d (dU ((dg A).getD i 0)))]) (fun _=>[(19,some (.b 208 1 (W.map dU) true))]) (fun _=>True) [0,1,5,6,20,21,22,7,8] [19] rfl ?_ (fun _=>J) (fun _ _=>?_)
   .
    refine gx (fu:=⟨5⟩) J<|aj 33 (.d (vI ((dg B).length:Nat))) J (by rw[hlB]<;>rfl)<|gx J<|br J J J (fun hc34=>?_) (fun hc34=>?_)
    .
     refine ix _ J (ek) J<|aj 6 (.d (.v (.int .u64 (t:Nat)))) J (by show FX.d (.v (.int _ _))= .d (.v (.int _ _));congr 3;omega)<|at_ () trivial
    .
     have hz:=pp (ds:=dg B) (i:=i);refine aj 6 (.d (.v (.int .u64 (t:Nat)))) J (by show FX.d (.v (.int _ _))= .d (.v (.int _ _));congr 3;omega)<|at_ () trivial
   .
    refine aj 45 (.d (dU (t%4294967296))) J (by show FX.d (.v (.int _ _))= .d (.v (.int _ _));congr 3)<|gx J<|sb (fu:=⟨5⟩) (hv:=by simp only[ak];exact(by decide)) _ ((W.set i (t%4294967296)).map dU) J (ek) J (by rw[<-jt];rfl) J<|aj 48 (.d (.v (.int .u64 (t/4294967296:Nat)))) J (by rw[oB])<|gx J<|at_ ⟨W.set i (t%4294967296),t/4294967296,i+1⟩ (by dsimp only;exact⟨⟨by simpa using h1,h2.set _ (by omega),by omega,by omega,by rw[ht];exact RZ (by omega) h5⟩,(by omega)⟩)
  .
   obtain rfl:i=(dg A).length:=by omega
   refine aj 52 (.d (vI ((dg A).length:Nat))) J (by rw[hlA]<;>rfl)<|gx (fu:=⟨2⟩) J<|aj 54 (.d (dU c)) J (by show FX.d (.v (.int _ _))= .d (.v (.int _ _));congr 3;omega)<|gx J<|sb _ ((W.set (dg A).length c).map dU) J (ek) J (by rw[<-jt];rfl) J<|fz 19 J J<|cl J (sF (ds:=W.set (dg A).length c) (by simp;omega)) J<|rz J (by rw[<-hm2];exact kC (h2.set _ (by omega)) (SH (by omega) h1 h5))
def VI{y:Nat}(hx:x<4294967296)(hy:y<=4294967296):IntKind.u64.wrap ((x:Int)-y)=(((if x<y then x+18446744073709551616-y else x-y):Nat):Int):=by
 rw[qz];split<;>omega
def AU:iE a b<0↔a<b:=by unfold iE;split<;>(try split)<;>omega
section
variable {own:aI}
def Q6(fr:aC)(cf:Cf):Option (Int×Int):=match cI fr cf with
 |some ⟨_, .binOp .sub _ x y _,_,_,_,_⟩=>match bh (b9 fr cf) x,bh (b9 fr cf) y with
  |some (.d (.v (.int .u64 p))),some (.d (.v (.int .u64 q)))=>some (p,q)
  |_,_=>none
 |_=>none
def sd[fu:Fu](u:Int)(h:Q6 fr cf=some (p,q))(e:IntKind.u64.wrap (p-q)=u)(hgo:cH tt n fu.n fr own cf (.d (.v (.int .u64 u))) [] []=⟨vc,fr',own',cf'⟩)(k:av prog GB C n Q0 fr' own' cf')
  (hv:autoParam (ak vc) cL._auto_1):av prog GB C n Q0 fr own cf:=by
 unfold Q6 at h;split at h<;>try (cases h;done)
 rename_i hh;split at h<;>cases h;rename_i h1 h2;subst e;exact us hh (.yd fun ρ G ov a w r=>by
  obtain⟨y1,h3,h4⟩:=r.ev h1;obtain⟨y2,h5,h6⟩:=r.ev h2;rw[c7] at h4 h6;subst h4 h6;exact⟨_,c7.2 J,lh h3 h5 fun w=>J⟩) hgo hv k
end
def F1(u:Nat):(u:Int).fdiv (2^min (63:Int).toNat IntKind.u64.bits)=((u/9223372036854775808:Nat):Int):=by
 rw[show(2:Int)^min (63:Int).toNat IntKind.u64.bits=((9223372036854775808:Nat):Int) from J,kY _ (by decide)];rfl
def aFE[h:BN a ia][k:BN b ib](hb:b<=a)(hi:ia<=1000000000:=by decide)(hj:ib<=1000000000:=by decide):PF GB prog 302 [dN a,dN b] (dN (a-b)):=by
 have hla:=bO (dg a);have hba:=i5 (a:=a) hi;have hlb:=bO (dg b);have hbb:=i5 (a:=b) hj;refine fn (fu:=⟨9⟩) func302 J J ntmps302 J J (fun C=>?_);refine aj 12 (.d (vI ((dg a).length:Nat))) J (by rw[hla]<;>rfl)<|gx J<|mk (fu:=⟨13⟩) ((List.replicate (dg a).length 0).map dU) J J (by rw[<-m6];rfl) J<|aj 15 (.d (vI ((dg a).length:Nat))) J (by rw[hla]<;>rfl)<|gx J<|lp (X:=List Nat×Nat×Nat) (fun⟨W,c,i⟩=>[(0, .d (dN a)),(1, .d (dN b)),(5, .rw 13),(6, .d (.v (.int .u64 (c:Nat)))),(14, .d (dN a)),(15, .d (vI ((dg a).length:Nat))),(16, .d (vI (i:Nat)))]) (fun⟨W,c,i⟩=>[(13,some (.b 208 1 (W.map dU) true))]) (fun⟨W,c,i⟩=>W.length=(dg a).length/\bD W/\c<=1/\i<=(dg a).length/\dv (W.take i)+dv ((dg b).take i)=dv ((dg a).take i)+4294967296^i*c) (fun⟨W,c,i⟩=>(dg a).length-i) ⟨List.replicate (dg a).length 0,0,0⟩ J ⟨by simp, .replicate _,by omega,by omega,by simp[dv]⟩ (fun _=>J) (fun⟨W,c,i⟩ hk=>?_)
 try dsimp only at hk⊢
 obtain⟨h1,h2,h3,h4,h5⟩:=hk;have hlw:=bO W;have hda:=dG a i;have hdb:=dG b i;obtain⟨t,ht⟩: ∃t,t=(dg b).getD i 0+c:=⟨_,rfl⟩;obtain⟨v,hv⟩: ∃v:Nat,v=if(dg a).getD i 0<t then(dg a).getD i 0+18446744073709551616-t else(dg a).getD i 0-t:=⟨_,rfl⟩
 obtain⟨d,hd⟩: ∃d:Nat,d=if(dg a).getD i 0<(dg b).getD i 0+c then(dg a).getD i 0+4294967296-((dg b).getD i 0+c) else(dg a).getD i 0-((dg b).getD i 0+c):=⟨_,rfl⟩
 obtain⟨c2,hc2⟩: ∃d:Nat,d=if(dg a).getD i 0<(dg b).getD i 0+c then 1 else 0:=⟨_,rfl⟩
 have hvd:v%4294967296=d:=by rw[hv,hd,<-ht];split<;>omega
 have hvc:v/9223372036854775808=c2:=by rw[hv,hc2,<-ht];split<;>omega
 refine br J J J (fun hc17=>?_) (fun hc17=>?_)
 .
  refine ix (fu:=⟨12⟩) _ J (ek) J<|mg (fu:=⟨5⟩) (X:=Unit) (fun _=>[(0, .d (dN a)),(1, .d (dN b)),(5, .rw 13),(6, .d (.v (.int .u64 (c:Nat)))),(14, .d (dN a)),(15, .d (vI ((dg a).length:Nat))),(16, .d (vI (i:Nat))),(7, .d (vI (i:Nat))),(8, .d (dU ((dg a).getD i 0))),(9, .d (.v (.int .u64 (t:Nat))))]) (fun _=>[(13,some (.b 208 1 (W.map dU) true))]) (fun _=>True) [0,1,5,6,14,15,16,7,8,9] [13] rfl ?_ (fun _=>J) (fun _ _=>?_)
  .
   refine gx (fu:=⟨5⟩) J<|aj 24 (.d (vI ((dg b).length:Nat))) J (by rw[hlb]<;>rfl)<|gx J<|br J J J (fun hc25=>?_) (fun hc25=>?_)
   .
    refine ix _ J (ek) J<|aj 9 (.d (.v (.int .u64 (t:Nat)))) J (by show FX.d (.v (.int _ _))= .d (.v (.int _ _));congr 3;omega)<|at_ () trivial
   .
    have hz:=pp (ds:=dg b) (i:=i);refine aj 9 (.d (.v (.int .u64 (t:Nat)))) J (by show FX.d (.v (.int _ _))= .d (.v (.int _ _));congr 3;omega)<|at_ () trivial
  .
   refine sd (fu:=⟨9⟩) ((v:Nat):Int) J (by rw[hv];exact VI hda (by omega)) J<|aj 40 (.d (dU d)) J (by show FX.d (.v (.int _ _))= .d (.v (.int _ _));congr 3;omega)<|gx J<|sb (fu:=⟨5⟩) (hv:=by simp only[ak];exact(by decide)) _ ((W.set i d).map dU) J (ek) J (by rw[<-jt];rfl) J<|aj 43 (.d (.v (.int .u64 (c2:Nat)))) J (by rw[F1,hvc])<|gx J<|at_ ⟨W.set i d,c2,i+1⟩ (by dsimp only;exact⟨⟨by simpa using h1,h2.set _ (by rw[hd];split<;>omega),by rw[hc2];split<;>omega,by omega,Ou (gi a) (gi b) (by omega) h3 h5 hd hc2⟩,(by omega)⟩)
 .
  obtain rfl:i=(dg a).length:=by omega
  refine fz 13 J J<|cl J (sF (ds:=W)) J<|rz J (kC h2 (QB h2 h1 hb h5))
def P0[h:BN a i][k:BN b j](hi:i<=1000000000:=by decide)(hj:j<=1000000000:=by decide):PF GB prog 270 [dN a,dN b] (.tp [dN (a-b),vB (decide (b<=a))]):=by
 have hla:=bO (dg a);have hba:=i5 (a:=a) hi;have hlb:=bO (dg b);have hbb:=i5 (a:=b) hj;refine fn func270 J J ntmps270 J J (fun C=>?_);refine cl J (RG (a:=a) (b:=b) hi hj) J<|br J J J (fun hc9=>?_) (fun hc9=>?_)
 .
  exact rz J (by rw[show a-b=0 by have:=AU (a:=a) (b:=b);omega,decide_eq_false (by have:=AU (a:=a) (b:=b);omega),l9];rfl)
 .
  refine cl J (oG) J<|cl J (oG) J<|cl J (aFE (by have:=AU (a:=a) (b:=b);omega) hi hj) J<|rz J (by rw[decide_eq_true (by have:=AU (a:=a) (b:=b);omega)];rfl)
def xV[h:BN a ia][k:BN b ib](hi:ia<=1000000000:=by decide)(hj:ib<=1000000000:=by decide):PF GB prog 214 [dN a,dN b] (dN (a*b)):=by
 have hla:=bO (dg a);have hba:=i5 (a:=a) hi;have hlb:=bO (dg b);have hbb:=i5 (a:=b) hj;refine fn func214 J J ntmps214 J J (fun C=>?_);refine cl J (oG) J<|cl (fu:=⟨8⟩) J (oG) J<|aj 16 (.d (vI ((dg a).length:Nat))) J (by rw[hla]<;>rfl)<|gx (fu:=⟨2⟩) J<|aj 18 (.d (vI ((dg b).length:Nat))) J (by rw[hlb]<;>rfl)<|gx (fu:=⟨1⟩) J<|aj 19 (.d (vI ((dg a).length+(dg b).length:Nat))) J (by show FX.d (.v (.int _ _))= .d (.v (.int _ _));congr 3)<|gx J<|mk (fu:=⟨8⟩) ((List.replicate ((dg a).length+(dg b).length) 0).map dU) J J (by rw[<-m6];rfl) J<|aj 22 (.d (vI ((dg a).length:Nat))) J (by rw[hla]<;>rfl)<|gx J<|lp (X:=List Nat×Nat) (fun⟨W,i⟩=>[(0, .d (dN a)),(1, .d (dN b)),(5, .rw 20),(21, .d (dN a)),(22, .d (vI ((dg a).length:Nat))),(23, .d (vI (i:Nat)))]) (fun⟨W,i⟩=>[(20,some (.b 208 1 (W.map dU) true))]) (fun⟨W,i⟩=>W.length=(dg a).length+(dg b).length/\bD W/\i<=(dg a).length/\dv (W.take (i+(dg b).length))=dv ((dg a).take i)*b) (fun⟨W,i⟩=>(dg a).length-i) ⟨List.replicate ((dg a).length+(dg b).length) 0,0⟩ J ⟨by simp, .replicate _,by omega,by rw[qV,wM];simp[dv]⟩ (fun _=>J) (fun⟨W,i⟩ hk=>?_)
 try dsimp only at hk⊢
 obtain⟨h1,h2,h3,h4⟩:=hk;refine br J J J (fun hc24=>?_) (fun hc24=>?_)
 .
  refine ix (fu:=⟨15⟩) _ J (ek) J<|aj 29 (.d (vI ((dg b).length:Nat))) J (by rw[hlb]<;>rfl)<|gx J<|lp (X:=List Nat×Nat×Nat) (fun⟨W2,c,k⟩=>[(0, .d (dN a)),(1, .d (dN b)),(5, .rw 20),(6, .d (vI (i:Nat))),(7, .d (dU ((dg a).getD i 0))),(8, .d (.v (.int .u64 (c:Nat)))),(21, .d (dN a)),(22, .d (vI ((dg a).length:Nat))),(23, .d (vI (i:Nat))),(28, .d (dN b)),(29, .d (vI ((dg b).length:Nat))),(30, .d (vI (k:Nat)))]) (fun⟨W2,c,k⟩=>[(20,some (.b 208 1 (W2.map dU) true))]) (fun⟨W2,c,k⟩=>W2.length=(dg a).length+(dg b).length/\bD W2/\c<4294967296/\k<=(dg b).length/\dv (W2.take (i+(dg b).length))+4294967296^(i+k)*c=dv ((dg a).take i)*b+(dg a).getD i 0*(4294967296^i*dv ((dg b).take k))) (fun⟨W2,c,k⟩=>(dg b).length-k) ⟨W,0,0⟩ J ⟨h1,h2,by omega,by omega,by rw[h4];simp[dv]⟩ (fun _=>J) (fun⟨W2,c,k⟩ hk=>?_)
  try dsimp only at hk⊢
  obtain⟨g1,g2,g3,g4,g5⟩:=hk;have hlw:=bO W2;have hw:=g2.get (i+k);have hda:=dG a i;have hdb:=dG b k;refine br (fu2:=⟨10⟩) J J J (fun hc31=>?_) (fun hc31=>?_)
  .
   refine ix (fu:=⟨13⟩) (hv:=by simp only[ak];exact⟨⟨by omega,by omega⟩,⟨(Bv _ _),(z8 (dG _ _) (dG _ _))⟩⟩) _ J (ek) J<|?_;obtain⟨p,hp⟩: ∃p,p=(dg a).getD i 0*(dg b).getD k 0:=⟨_,rfl⟩;have hp1:p<=18446744065119617025:=hp▸CQ hda hdb;refine aj 40 (.d (.v (.int .u64 (p:Nat)))) J (by rw[hp,iL])<|gx J<|lb (fu:=⟨3⟩) _ J (cD (k:=i+k)) J<|?_;obtain⟨t,ht⟩: ∃t,t=p+W2.getD (i+k) 0+c:=⟨_,rfl⟩;refine aj 49 (.d (.v (.int .u64 (t:Nat)))) J (by show FX.d (.v (.int _ _))= .d (.v (.int _ _));congr 3;omega)<|gx (fu:=⟨11⟩) J<|aj 55 (.d (dU (t%4294967296))) J (by show FX.d (.v (.int _ _))= .d (.v (.int _ _));congr 3)<|gx J<|sb (fu:=⟨5⟩) (hv:=by simp only[ak];exact(by decide)) _ ((W2.set (i+k) (t%4294967296)).map dU) J (cD (k:=i+k)) J (by(rw[show((i:Int)+k).toNat=i+k by omega,<-jt])<;>rfl) J<|aj 58 (.d (.v (.int .u64 (t/4294967296:Nat)))) J (by rw[oB])<|gx J<|at_ ⟨W2.set (i+k) (t%4294967296),t/4294967296,k+1⟩ (by dsimp only;exact⟨⟨by simpa using g1,g2.set _ (by omega),by omega,by omega,by rw[n4];exact QJ (by omega) (by omega) g5 ht hp⟩,(by omega)⟩)
  .
   obtain rfl:k=(dg b).length:=by omega
   refine aj 63 (.d (vI ((dg b).length:Nat))) J (by rw[hlb]<;>rfl)<|gx (fu:=⟨3⟩) J<|aj 66 (.d (dU c)) J (by show FX.d (.v (.int _ _))= .d (.v (.int _ _));congr 3;omega)<|gx J<|sb _ ((W2.set (i+(dg b).length) c).map dU) J (cD (k:=i+(dg b).length)) J (by(rw[show((i:Int)+((dg b).length:Nat)).toNat=i+(dg b).length by omega,<-jt])<;>rfl) J<|at_ ⟨W2.set (i+(dg b).length) c,i+1⟩ (by dsimp only;exact⟨⟨by simpa using g1,g2.set _ g3,by omega,OZ J (by omega) g5⟩,(by omega)⟩)
 .
  obtain rfl:i=(dg a).length:=by omega
  refine fz 20 J J<|cl J (sF (ds:=W)) J<|rz J (kC h2 (by have:=h4;rw[km,km,c8] at this;exact this))
def Zb{h l y:Nat}(hh:h<y)(hl:l<4294967296)(hy:y<4294967296):PF GB prog 178 [.v (.int .u32 (h:Int)), .v (.int .u32 (l:Int)), .v (.int .u32 (y:Int))] (.tp [dU ((h*4294967296+l)/y),dU ((h*4294967296+l)%y)]):=by
 refine fn (fu:=⟨11⟩) func178 J J ntmps178 J J (fun C=>?_);refine kT 10 J (by omega)<|gx (fu:=⟨4⟩) J<|kF 14 J (by omega)<|gx (fu:=⟨11⟩) (hv:=by simp only[ak];exact⟨by omega,(by decide)⟩) J<|aj 19 (.d (.v (.int .u64 (h*2^32:Nat)))) J (by show FX.d (.v (.int _ _))= .d (.v (.int _ _));rw[po _ 32 (by decide) (by show _*4294967296<_;omega) J])<|gx (fu:=⟨3⟩) J<|aj 22 (.d (.v (.int .u64 (l+h*2^32:Nat)))) J (congrArg (fun z:Nat=>FX.d (.v (.int .u64 (z:Int)))) (by rw[BitVec.or_comm];exact pE 64 l h 32 hl (by show _+_*4294967296<18446744073709551616;omega))) ?_;obtain⟨t,ht⟩: ∃t,t=h*4294967296+l:=⟨_,rfl⟩;have hq:t/y<4294967296:=by rw[kJ (by omega)];have:=fR 4294967296 (show h+1<=y from hh);omega
 have hr:t%y<y:=dK _ (by omega);refine aj 22 (.d (.v (.int .u64 (t:Nat)))) J (by show FX.d (.v (.int _ _))= .d (.v (.int _ _));congr 3;rw[ht];omega)<|gx (hv:=by simp only[ak];exact⟨⟨⟨⟨by omega,⟨(by omega),(by omega),(by omega)⟩⟩,by omega⟩,⟨(by omega),(by omega)⟩⟩,by kernel_rfl⟩) J<|rz J (by show DV.tp [.v (.int _ _), .v (.int _ _)]= .tp [.v (.int _ _), .v (.int _ _)];rw[<-ht,<-sY,<-Int.natCast_emod];generalize t/y=q at*;generalize t%y=r at*;congr 4<;>(first|omega|(congr 3;omega)))
def aCh{A r i:Nat}(d:Nat)(hb:0<b):(A*4294967296+d)/b=A/b*4294967296+(A%b*4294967296+d)/b/\(A*4294967296+d)%b=(A%b*4294967296+d)%b:=by
 have h:=qN A b;have e:A*4294967296+d=(A%b*4294967296+d)+b*(A/b*4294967296):=by
  rw[<-cW,Nat.add_right_comm,<-dY,kR (A%b),h]
 rw[e,pU _ _ hb,qZ];exact⟨kR _ _,J⟩
def Lo(h:i<ds.length):dv (ds.drop i)=dv (ds.drop (i+1))*4294967296+ds.getD i 0:=by
 rw[bX h,aV,aZ h];simp only[dv,lU];omega
def Pf{q:Nat}(h:i<W.length):dv ((W.set i q).drop i)=dv (W.drop (i+1))*4294967296+q:=by
 rw[Lo (by rw[bQ];exact h),tK (by omega),AC h]
def XU(hb:0<b)(hk:k<(dg a).length)(hl:W.length=(dg a).length)(h:dv (W.drop (k+1))=dv ((dg a).drop (k+1))/b):
  dv ((W.set k ((dv ((dg a).drop (k+1))%b*4294967296+(dg a).getD k 0)/b)).drop k)=dv ((dg a).drop k)/b/\dv ((dg a).drop k)%b=(dv ((dg a).drop (k+1))%b*4294967296+(dg a).getD k 0)%b:=by
 have:=aCh (A:=dv ((dg a).drop (k+1))) (r:=0) (i:=0) ((dg a).getD k 0) hb;rw[Pf (by omega),h,Lo hk,this.1,this.2];exact⟨J,J⟩
def yi:iE a b<0↔a<b:=by unfold iE;split<;>(try split)<;>omega
def BK:0<iE a b↔b<a:=by unfold iE;split<;>(try split)<;>omega
def HB(hx:x<4294967296):PF GB prog 243 [dU x] (vI (32-(bl x:Int))):=by
 intro G vs hg hv;obtain⟨v,m,rfl,h1,h2⟩:=bi.1 hv;rw[ef] at h2;subst h2;rw[aH.1 h1];exact(TX hx).mono fun v G' _ h=>aH.2 h
def LL(h:4294967296^k<=a):k<(dg a).length:=by
 have h1:=r4 a;rcases jK k (dg a).length with q|q
 .exact q
 .have:4294967296^(dg a).length<=4294967296^k:=bY (by decide) q
  omega
def Rm(hL:L=(dg v).length)(h1:1<=L):(dg v).getD (L-1) 0=v/4294967296^(L-1)/\0<v/4294967296^(L-1):=by
 have h:=C0 (gi v) (L-1);rw[pp (by omega:(dg v).length<=L-1+1),c8,tY,gJ] at h;have h2:=r4 v;rw[<-hL] at h2;rw[mW (show v<4294967296^(L-1+2) from cM h2 (bY (by decide) (by omega))),tY,gJ] at h;have h3:=wJ (fI v).2.2 (by intro e;rw[e] at hL;simp at hL;omega);rw[c8,<-hL] at h3;exact⟨h.symm,Nat.div_pos h3 (gQ (by decide))⟩
def He(h1:1<=n)(h:R<4294967296^(n+1)):R/4294967296^(n-1)=(dg R).getD (n-1) 0+(dg R).getD n 0*4294967296:=by
 have e:=C0 (gi R) (n-1);rw[c8,show n-1+1=n by omega,mW (show R<4294967296^(n-1+2) by rwa [show n-1+2=n+1 by omega]),tY,gJ,cK] at e;exact e
def Wd{R v j L:Nat}(hL:L=(dg v).length)(h1:1<=L)(hR:R<v*4294967296^(j+1)):R/(v*4294967296^j)<=min (R/4294967296^(L+j-1)/(v/4294967296^(L-1))) 4294967295:=by
 have ht:=(Rm hL h1).2;have hp:0<4294967296^j:=gQ (by decide);have hv0:0<v:=by
  rcases fT v with q|q
  .subst q;simp at ht
  .exact q
 have hvp:0<v*4294967296^j:=jJ hv0 hp;refine Nat.le_min.2 ⟨?_,?_⟩
 .rw[sW ht,sW (gQ (by decide))]
  have h3:v/4294967296^(L-1)*4294967296^(L-1)<=v:=Nat.div_mul_le_self _ _;have h4:R/(v*4294967296^j)*(v*4294967296^j)<=R:=Nat.div_mul_le_self _ _;rw[show L+j-1=L-1+j by omega,fZ]
  calc R/(v*4294967296^j)*(v/4294967296^(L-1))*(4294967296^(L-1)*4294967296^j)
    =R/(v*4294967296^j)*((v/4294967296^(L-1)*4294967296^(L-1))*4294967296^j):=by simp only[cW]
   _<=R/(v*4294967296^j)*(v*4294967296^j):=fR _ (bS _ h3)
   _<=R:=h4
 .have:R/(v*4294967296^j)<4294967296:=by
   rw[kJ hvp];rw[gT] at hR;rwa [cK,cW]
  omega
def DC(hV:0<V)(h:R<V*g):R/V<g:=by
 rw[kJ hV,cK];exact h
def azH(hV:0<V)(h1:R/V<=g)(h2:V*g<=R):g=R/V:=by
 have:g<=R/V:=by rw[sW hV,cK];exact h2
 omega
def Qj{R0 R v j g:Nat}{W:List Nat}(hj:j<W.length)(h:R0=R+dv (W.drop (j+1))*4294967296^(j+1)*v)(hv:0<v*4294967296^j)(hg:g=R/(v*4294967296^j)):
  R0=(R-v*4294967296^j*g)+dv ((W.set j g).drop j)*4294967296^j*v/\R-v*4294967296^j*g<v*4294967296^j:=by
 have h1:=qN R (v*4294967296^j);have h2:=dK R hv;rw[<-hg] at h1;refine⟨?_,by omega⟩;rw[Pf hj,dY,dY,h,gT];have e:g*4294967296^j*v=v*4294967296^j*g:=by simp only[cW,mT,cK]
 have e2:dv (W.drop (j+1))*(4294967296^j*4294967296)*v=dv (W.drop (j+1))*4294967296*4294967296^j*v:=by simp only[cW,mT,cK]
 rw[e,e2];omega
def X9{a b s R:Nat}{D:Nat}(hR:R<b*2^s)(h:a*2^s=R+D*(b*2^s)):D=a/b/\R/2^s=a%b:=by
 have hp:0<2^s:=gQ (by decide);have hb:0<b:=by
  rcases fT b with q|q
  .subst q;simp at hR
  .exact q
 have h1:a=R/2^s+D*b:=by
  have:=congrArg (· /2^s) h;rw[Nat.mul_div_cancel _ hp,<-cW,Nat.add_mul_div_right _ _ hp] at this;exact this
 have h2:R/2^s<b:=by rw[kJ hp];exact hR
 have h3:R/2^s+b*D=a:=by rw[cK b];exact h1.symm
 have:=(Nat.div_mod_unique hb).2 ⟨h3,h2⟩;exact⟨this.1.symm,this.2.symm⟩
def as6{a b s:Nat}(hl:(dg b).length<=(dg a).length)(h2:1<=(dg b).length):a*2^s<b*2^s*4294967296^((dg a).length-(dg b).length+1):=by
 have h1:=r4 a;have h3:=wJ (fI b).2.2 (by intro e;rw[e] at h2;simp at h2);rw[c8] at h3;have h4:4294967296^(dg a).length<=b*4294967296^((dg a).length-(dg b).length+1):=by
  rw[show(dg a).length=((dg b).length-1)+((dg a).length-(dg b).length+1) by omega,fZ];rw[show(dg b).length-1+((dg a).length-(dg b).length+1)-(dg b).length+1=(dg a).length-(dg b).length+1 by omega];exact bS _ h3
 rw[nW];exact nX (cM h1 h4) (gQ (by decide))
def NO(x j:Nat):x*2^(32*j)=x*4294967296^j:=by rw[tN]
def XW(h:R<4294967296^(L+j+1))(h1:1<=L):R/4294967296^(L+j-1)<18446744073709551616:=by
 rw[kJ (gQ (by decide)),show(18446744073709551616:Nat)=4294967296^2 from J,<-fZ];rwa [show 2+(L+j-1)=L+j+1 by omega]
def ayR(hL:L=(dg v).length)(hR:R<v*4294967296^(j+1)):R<4294967296^(L+j+1):=by
 have h:=r4 v;rw[<-hL] at h;rw[lX,fZ];exact cM hR (bS _ (gK h))
def aGQ{a b ia ib:Nat}[ha:BN a ia][hb:BN b ib](hi:ia<=500000000)(hj:ib<=500000000)(h2:1<=(dg b).length)(hl:(dg b).length<=(dg a).length):PF GB prog 179 [dN a,dN b] (.tp [dN (a/b),dN (a%b)]):=by
 have hla:=bO (dg a);have hlb:=bO (dg b);have hba:=jC ha.h;have hba':(dg a).length<=20000000:=by omega
 refine fn func179 J J ntmps179 J J (fun C=>?_);refine ix _ J (cD (k:=(dg b).length-1)) J<|cl (fu:=⟨0⟩) J (HB (dG b ((dg b).length-1))) J<|?_;obtain⟨s,hs⟩: ∃s:Nat,s=32-bl ((dg b).getD ((dg b).length-1) 0):=⟨_,rfl⟩;have hs32:s<=32:=by omega
 refine aj 22 (.d (vI (s:Nat))) J (by show FX.d (.v (.int _ _))= .d (.v (.int _ _));congr 3;have:=nH.2 (show(dg b).getD ((dg b).length-1) 0<2^32 from dG b _);omega)<|gx J<|cl J (EY (a:=b) (k:=s) (ia:=ib) (by omega) (by omega)) J<|cl (fu:=⟨0⟩) J (EY (a:=a) (k:=s) (ia:=ia) (by omega) (by omega)) J<|?_;obtain⟨v,hv⟩: ∃v,v=b*2^s:=⟨_,rfl⟩;obtain⟨R0,hR0⟩: ∃R0,R0=a*2^s:=⟨_,rfl⟩;refine aj 25 (.d (dN v)) J (by rw[hv])<|aj 28 (.d (dN R0)) J (by rw[hR0]) ?_;obtain⟨L,hL⟩: ∃L,L=(dg v).length:=⟨_,rfl⟩;have hlv:((dg v).map dU).length=L:=by rw[bO,hL]
 have hps:2^s<=2^32:=bY (by decide) hs32;have hpp:0<2^s:=gQ (by decide);have hst:=as6 (a:=a) (b:=b) (s:=s) hl h2;rw[<-hv,<-hR0] at hst;have hvb:v<2^(ib+32):=by rw[hv,fZ];exact nU hb.h hps (by decide)
 have hRb:R0<2^(ia+32):=by rw[hR0,fZ];exact nU ha.h hps (by decide)
 have hbp:0<b:=iV (fun q=>by subst q;rw[vh] at h2;simp at h2);have hvp:0<v:=hv▸jJ hbp hpp;have hLp:1<=L:=by rw[hL];exact LL (k:=0) (by rw[tL];exact hvp)
 have htop:=Rm hL hLp;haveI hvB:BN v (ib+32):=⟨hvb⟩;have hLb:=jC hvb;have hLb':L<=20000000:=by omega
 have htl:=dG v (L-1);refine gx (fu:=⟨9⟩) J<|aj 31 (.d (vI (L:Nat))) J (by rw[hlv];rfl)<|gx J<|ix (fu:=⟨2⟩) _ J (cD (k:=L-1)) J<|aj 35 (.d (.v (.int .u64 (v/4294967296^(L-1):Nat)))) J (by rw[htop.1]) ?_;rw[htop.1] at htl;refine gx (fu:=⟨11⟩) J<|?_;obtain⟨m,hm⟩: ∃m,m=(dg a).length-(dg b).length+1:=⟨_,rfl⟩;rw[<-hm] at hst;have hrl:(List.replicate ((m:Nat):Int).toNat (DV.v (.int .u32 0))).length=m:=by rw[aS,bM]
 refine aj 41 (.d (vI (m:Nat))) J (by show FX.d (.v (.int _ _))= .d (.v (.int _ _));congr 3;omega)<|gx J<|mk ((List.replicate m 0).map dU) J J (by rw[<-m6];rfl) J<|lp (X:=List Nat×Nat×Nat) (fun⟨W,R,k⟩=>[(6, .d (vI (s:Nat))),(7, .d (dN v)),(8, .d (dN R)),(9, .d (.v (.int .u64 (v/4294967296^(L-1):Nat)))),(10, .rw 42),(11, .d (vI ((k:Nat)-1)))]) (fun⟨W,R,k⟩=>[(42,some (.b 208 1 (W.map dU) true))]) (fun⟨W,R,k⟩=>W.length=m/\bD W/\k<=m/\R0=R+dv (W.drop k)*4294967296^k*v/\R<v*4294967296^k/\R<=R0) (fun⟨W,R,k⟩=>k) ⟨List.replicate m 0,R0,m⟩ J ⟨by simp, .replicate _,bW _,by simp[dv],hst,bW _⟩ (fun _=>J) (fun⟨W,R,k⟩ hk=>?_);dsimp only at hk⊢;obtain⟨h1,h2',h3,h4,h5,h6⟩:=hk;have hlw:=bO W;refine br (fu1:=⟨10⟩) J J J (fun hc47=>?_) (fun hc47=>?_)
 .
  obtain⟨j,rfl⟩: ∃j,k=j+1:=⟨k-1,by omega⟩;have hvj:0<v*4294967296^j:=jJ hvp (gQ (by decide));have hge:=Wd hL hLp h5;have hlen:=ayR hL h5;have hlr:((dg R).map dU).length=(dg R).length:=bO _;haveI hRB:BN R (ia+32):=⟨by omega⟩;have hq32:R/(v*4294967296^j)<4294967296:=by omega
  have hz1:=Int.natCast_nonneg (R/4294967296^(L+j-1));have hz2:=Int.natCast_nonneg (R/4294967296^(L+j-1)/(v/4294967296^(L-1)));refine aj 11 (.d (vI (j:Nat))) J (by show FX.d (.v (.int _ _))= .d (.v (.int _ _));congr 3;omega)<|mg (fu:=⟨6⟩) (hv:=fun _ _=>by simp only[ak];exact⟨(by omega),(by have:=XW hlen hLp;omega),(by omega)⟩) (X:=Unit) (fun _=>[(6, .d (vI (s:Nat))),(7, .d (dN v)),(8, .d (dN R)),(9, .d (.v (.int .u64 (v/4294967296^(L-1):Nat)))),(10, .rw 42),(11, .d (vI (j:Nat))),(12, .d (.v (.int .u64 (R/4294967296^(L+j-1):Nat))))]) (fun _=>[(42,some (.b 208 1 (W.map dU) true))]) (fun _=>True) [6,7,8,9,10,11,12] [42] rfl ?_ (fun _=>J) (fun _ hm=>?_)
  .
   refine gx (fu:=⟨4⟩) J<|aj 51 (.d (vI (L:Nat))) J (by rw[hlv];rfl)<|gx (fu:=⟨2⟩) J<|aj 53 (.d (vI (L+j:Nat))) J (by show FX.d (.v (.int _ _))= .d (.v (.int _ _));congr 3)<|gx (fu:=⟨8⟩) J<|aj 56 (.d (vI ((dg R).length:Nat))) J (by rw[hlr];rfl)<|gx J<|br (fu2:=⟨6⟩) J J J (fun hc57=>?_) (fun hc57=>?_)
   .
    have hd0:=dG R (L+j-1);have hd1:=dG R (L+j);refine ix (hv:=by simp only[ak];exact⟨⟨by omega,(by decide)⟩,by omega⟩) _ J (cD (k:=L+j)) J<|ix (fu:=⟨3⟩) _ J (cD (k:=L+j-1)) J<|aj 70 (.d (.v (.int .u64 ((dg R).getD (L+j-1) 0+(dg R).getD (L+j) 0*4294967296:Nat)))) J (congrArg (fun z:Nat=>FX.d (.v (.int .u64 (z:Int)))) (by rw[po _ 32 (by decide) (by show _*4294967296<_;omega) J,BitVec.or_comm];exact pE 64 ((dg R).getD (L+j-1) 0) ((dg R).getD (L+j) 0) 32 hd0 (by show _+_*4294967296<18446744073709551616;omega)))<|gx J<|aj 12 (.d (.v (.int .u64 (R/4294967296^(L+j-1):Nat)))) J (by rw[He (by omega) hlen])<|at_ () trivial
   .
    refine aj 74 (.d (vI ((dg R).length:Nat))) J (by rw[hlr];rfl)<|gx J<|br J J J (fun hc75=>?_) (fun hc75=>?_)
    .
     have hd0:=dG R (L+j-1);refine ix _ J (cD (k:=L+j-1)) J<|aj 12 (.d (.v (.int .u64 (R/4294967296^(L+j-1):Nat)))) J (by rw[He (by omega) hlen,pp (by omega:(dg R).length<=L+j),kK,gJ])<|at_ () trivial
    .
     refine aj 12 (.d (.v (.int .u64 (R/4294967296^(L+j-1):Nat)))) J (by rw[He (by omega) hlen,pp (by omega:(dg R).length<=L+j),pp (by omega:(dg R).length<=L+j-1)];rfl)<|at_ () trivial
  .
   obtain⟨g0,hg0'⟩: ∃g0,g0=min (R/4294967296^(L+j-1)/(v/4294967296^(L-1))) 4294967295:=⟨_,rfl⟩;rw[<-hg0'] at hge;have hg0:=hge;have hg1:g0<=4294967295:=by omega
   refine aj 85 (.d (.v (.int .u64 (g0:Nat)))) J (by show FX.d (.v (.int _ _))= .d (.v (.int _ _));congr 3;rw[<-sY];split<;>omega)<|gx J<|cl J (sO (u:=g0)) J<|cl (fu:=⟨2⟩) J (pc (ia:=ib+32) (ib:=32) (hb:=⟨by show _<4294967296;omega⟩) (by omega) (by decide)) J<|aj 91 (.d (vI (32*j:Nat))) J (by show FX.d (.v (.int _ _))= .d (.v (.int _ _));congr 3)<|gx J<|cl (fu:=⟨0⟩) J (EY (k:=32*j) (ia:=ib+64) (ha:=⟨by rw[show ib+64=ib+32+32 by omega,fZ];exact oR hvb (by show _<4294967296;omega)⟩) (by omega) (by omega)) J<|aj 92 (.d (dN (v*4294967296^j*g0))) J (by rw[NO,nW])<|gx J<|lp (X:=Nat) (fun g=>[(6, .d (vI (s:Nat))),(7, .d (dN v)),(8, .d (dN R)),(9, .d (.v (.int .u64 (v/4294967296^(L-1):Nat)))),(10, .rw 42),(11, .d (vI (j:Nat))),(14, .d (.v (.int .u64 (g:Nat)))),(15, .d (dN (v*4294967296^j*g)))]) (fun g=>[(42,some (.b 208 1 (W.map dU) true))]) (fun g=>R/(v*4294967296^j)<=g/\g<=4294967295) (fun g=>g) g0 J ⟨hg0,by omega⟩ (fun _=>J) (fun g hk=>?_);obtain⟨g1,g2⟩:=hk;have hlw:=bO W;refine cl J (yv (a:=v*4294967296^j*g) (b:=R) (by have:=AT (a:=v*4294967296^j*g) (k:=L+j+1) (by have h1:=r4 v;rw[<-hL] at h1;rw[gT,fZ];exact oR (nX h1 (gQ (by decide))) (by omega));omega) (by have:=AT hlen;omega)) J<|br (fu1:=⟨7⟩) (v1:=fun hc96=>by simp only[ak];exact(by have h:=DC hvj (BK.1 hc96);have h1:1<=g:=dR (aM _) h;omega)) (fu2:=⟨11⟩) J J J (fun hc96=>?_) (fun hc96=>?_)
   .
    have hgd:=DC hvj (BK.1 hc96);have hg1p:1<=g:=dR (aM _) hgd;refine aj 98 (.d (.v (.int .u64 ((g-1:Nat):Int)))) J (by show FX.d (.v (.int _ _))= .d (.v (.int _ _));congr 3;omega)<|gx J<|cl J (sO (u:=g-1)) J<|cl (fu:=⟨2⟩) J (pc (ia:=ib+32) (ib:=32) (hb:=⟨by show _<4294967296;omega⟩) (by omega) (by decide)) J<|aj 104 (.d (vI (32*j:Nat))) J (by show FX.d (.v (.int _ _))= .d (.v (.int _ _));congr 3)<|gx J<|cl (fu:=⟨0⟩) J (EY (k:=32*j) (ia:=ib+64) (ha:=⟨by rw[show ib+64=ib+32+32 by omega,fZ];exact oR hvb (by show _<4294967296;omega)⟩) (by omega) (by omega)) J<|aj 105 (.d (dN (v*4294967296^j*(g-1)))) J (by rw[NO,nW])<|gx J<|at_ (g-1) ⟨⟨by have h:=DC hvj (BK.1 hc96);omega,by omega⟩,(by have:=DC hvj (BK.1 hc96);omega)⟩
   .
    have hgq:=azH hvj g1 (sU fun q=>hc96 (BK.2 q));refine aj 109 (.d (dU g)) J (by show FX.d (.v (.int _ _))= .d (.v (.int _ _));congr 3;omega)<|gx J<|sb _ ((W.set j (R/(v*4294967296^j))).map dU) J (cD (k:=j)) J (by(rw[<-hgq,bM,<-jt])<;>rfl) J<|cl (fu:=⟨0⟩) J (FI (a:=R) (b:=v*4294967296^j*g) (ia:=ia+32) (by rw[hgq];exact Nat.mul_div_le _ _) (by omega)) J<|aj 113 (.d (dN (R-v*4294967296^j*(R/(v*4294967296^j))))) J (by rw[hgq])<|gx J<|at_ ⟨W.set j (R/(v*4294967296^j)),R-v*4294967296^j*(R/(v*4294967296^j)),j⟩ (by dsimp only;exact⟨⟨by simpa using h1,h2'.set _ (by omega),by omega,(Qj (by omega) h4 hvj J).1,(Qj (by omega) h4 hvj J).2,by omega⟩,(by omega)⟩)
 .
  obtain rfl:k=0:=by omega
  rw[tL,jX] at h5;rw[tL,jX,iX,hR0,hv] at h4;rw[hv] at h5;have hend:=X9 h5 h4;haveI hRB:BN R (ia+32):=⟨by omega⟩;refine fz 42 J J<|cl J (qI (ds:=W)) J<|cl J (V3 (a:=R) (k:=s) (ia:=ia+32) (by omega) (by omega)) J<|rz J (by show DV.tp [dk _,dN _]= .tp [dN _,dN _];rw[kC h2' hend.1,hend.2])
def Uu(hl:ds.length<=1125899906842624):PB GB prog 278 (fw [none]) 1 208 (ds.map dU) (fun w=> .v (.slice w.a w.n w.c)) ((trimD ds).map dU):=by
 refine DL func278 J J ntmps278 J J (fun C=>?_);refine lp (fu:=⟨5⟩) (X:=List Nat) (fun W=>[(0, .rw 1000000)]) (fun W=>[(1000000,some (.b 208 1 (W.map dU) false))]) (fun W=>trimD ds=trimD W/\W.length<=ds.length) (fun W=>W.length) ds J ⟨J,bW _⟩ (fun _=>J) (fun W hk=>?_);obtain⟨h1,h2⟩:=hk;have hml:=bO W;refine aj 4 (.d (vI (W.length:Nat))) J (by rw[hml]<;>rfl)<|gx J<|cs (fu1:=⟨3⟩) 6 J J J (fun hg6=>?_) (fun hg6=>?_)
 .
  refine aj 9 (.d (vI (W.length:Nat))) J (by rw[hml]<;>rfl)<|gx J<|lb _ J (cD (k:=W.length-1)) J<|br (fu1:=⟨7⟩) J J J (fun hc14=>?_) (fun hc14=>?_)
  .
   refine aj 17 (.d (vI (W.length:Nat))) J (by rw[hml]<;>rfl)<|gx (fu:=⟨1⟩) J<|aj 18 (.d (vI (W.length-1:Nat))) J (by show FX.d (.v (.int _ _))= .d (.v (.int _ _));congr 3;omega)<|gx (fu:=⟨0⟩) J<|ML ((W.take (W.length-1)).map dU) (W.length-1) J J (by rw[hml];omega) (by rw[iU]) J<|d6 19 1000000 J<|at_ (W.take (W.length-1)) ⟨⟨by rw[h1,SJ],by rw[bT];omega⟩,(by rw[bT];omega)⟩
  .
   exact uE J J J (by rw[h1,CO (fun _=>by omega)])
 .
  exact uE J J J (by rw[h1,CO (fun _=>by omega)])
def ayj(h:0<(dg a).length):bl a=32*((dg a).length-1)+bl ((dg a).getD ((dg a).length-1) 0):=by
 have:=aIQ (gi a) (fI a).2.2 (fun e=>by rw[e] at h;exact absurd h (by decide));rwa [c8] at this
def AL(h:(dg a).length=0:=by omega):a=0:=by rw[<-c8 a,cV h];rfl
def vd[h:BN a i](hi:i<=1000000000:=by decide):PF GB prog 274 [dN a] (vI (bl a:Nat)):=by
 have hla:=bO (dg a);have hba:=i5 (a:=a) hi;have hbl:bl ((dg a).getD ((dg a).length-1) 0)<=32:=nH.2 (dG a _);refine fn func274 J J ntmps274 J J (fun C=>?_);refine cl (fu:=⟨8⟩) J (oG) J<|aj 6 (.d (vI ((dg a).length:Nat))) J (by rw[hla]<;>rfl)<|gx J<|br (fu2:=⟨6⟩) J J J (fun hc7=>?_) (fun hc7=>?_)
 .
  exact rz J (by rw[AL (a:=a)];rfl)
 .
  refine aj 9 (.d (vI ((dg a).length:Nat))) J (by rw[hla]<;>rfl)<|gx (fu:=⟨4⟩) J<|aj 13 (.d (vI ((dg a).length:Nat))) J (by rw[hla]<;>rfl)<|gx J<|ix _ J (cD (k:=(dg a).length-1)) J<|cl J (HB (dG a ((dg a).length-1))) J<|rz J (by show DV.v (.int _ _)=DV.v (.int _ _);have:=ayj (a:=a) (by omega);congr 2;omega)
def Wr(h:a<18446744073709551616)(hi:i<(dg a).length):dv ((dg a).take i)<2^(32*i)/\dv ((dg a).take i)+(dg a).getD i 0*2^(32*i)=dv ((dg a).take (i+1))/\dv ((dg a).take (i+1))<18446744073709551616:=by
 have h1:=l7 ((gi a).take i);rw[bT,jN (by omega)] at h1;have e:(2:Nat)^(32*i)=4294967296^i:=by rw[tN]
 have h2:=A9 (dg a) (i+1);rw[c8] at h2;refine⟨by rw[e];exact h1,by rw[e,n4,cK],?_⟩;have:=aM (4294967296^(i+1)*dv ((dg a).drop (i+1)));omega
def WN(h:a<18446744073709551616):(dg a).length<=2:=by have:=jC (u:=a) (k:=64) h;omega
def Aq(h:a<18446744073709551616):PF GB prog 277 [dN a] (.tp [.v (.int .u64 (a:Nat)),vB true]):=by
 have hla:=bO (dg a);have hl2:=WN h;refine fn func277 J J ntmps277 J J (fun C=>?_);refine cl (fu:=⟨8⟩) J (oG) J<|aj 10 (.d (vI ((dg a).length:Nat))) J (by rw[hla]<;>rfl)<|gx (fu:=⟨0⟩) J<|cC (fu:=⟨15⟩) J (by show some (decide _)=some false;rw[decide_eq_false (by omega)]) J<|aj 13 (.d (vI ((dg a).length:Nat))) J (by rw[hla]<;>rfl)<|gx J<|lp (X:=Nat) (fun i=>[(14, .d (vI (i:Nat))),(4, .d (.v (.int .u64 (dv ((dg a).take i):Nat))))]) (fun i=>[]) (fun i=>i<=(dg a).length) (fun i=>(dg a).length-i) 0 J (aM _) (fun _=>J) (fun i hk=>?_);refine br J J J (fun hc15=>?_) (fun hc15=>?_)
 .
  obtain⟨u1,u2,u3⟩:=Wr h (i:=i) (by omega);have hda:=dG a i;refine ix (fu:=⟨12⟩) (hv:=by simp only[ak];exact⟨⟨by omega,by omega⟩,(by omega)⟩) _ J (ek) J<|aj 24 (.d (.v (.int .u64 ((dg a).getD i 0*2^(32*i):Nat)))) J (by show FX.d (.v (.int _ _))= .d (.v (.int _ _));rw[po _ (32*i) (by omega) (by omega)])<|gx (fu:=⟨1⟩) J<|aj 25 (.d (.v (.int .u64 (dv ((dg a).take (i+1)):Nat)))) J (congrArg (fun z:Nat=>FX.d (.v (.int .u64 (z:Int)))) ((pE 64 _ _ (32*i) u1 (by rw[u2];exact u3)).trans u2))<|gx J<|at_ (i+1) ⟨(by omega),(by omega)⟩
 .
  obtain rfl:i=(dg a).length:=by omega
  exact rz J (by rw[km (bW _),c8];rfl)
def KS(h:j<ds.length):dv (ds.drop j)=ds.getD j 0+4294967296*dv (ds.drop (j+1)):=by
 rw[bX h,aV,aZ h];rfl
def TR(hA:j<A.length)(hW:j<W.length)(hd:0<d)(h:dv (A.drop (j+1))=d*dv (W.drop (j+1))+r)(hv:v=A.getD j 0+r*4294967296):dv (A.drop j)=d*dv ((W.set j (v/d)).drop j)+v%d:=by
 have e1:dv ((W.set j (v/d)).drop j)=v/d+4294967296*dv (W.drop (j+1)):=by
  rw[KS (by rw[bQ];exact hW),AC hW,tK (by omega)]
 have h2:=qN v d;have e3:d*(v/d+4294967296*dv (W.drop (j+1)))=d*(v/d)+4294967296*(d*dv (W.drop (j+1))):=by rw[fQ,mT]
 rw[e1,KS hA,h,e3];omega
def aDc(h:a=d*dv W+r)(hr:r<d):dv W=a/d/\r=a%d:=by
 have:=(Nat.div_mod_unique (by omega:0<d)).2 ⟨show r+d*dv W=a by omega,hr⟩;exact⟨this.1.symm,this.2.symm⟩
def aBj{a d i:Nat}[h:BN a i](hd:0<d)(hd2:d<4294967296)(hi:i<=1000000000:=by decide):PF GB prog 304 [dN a,dU d] (.tp [dN (a/d),dU (a%d)]):=by
 have hla:=bO (dg a);have hba:=i5 (a:=a) hi;refine fn (fu:=⟨10⟩) func304 J J ntmps304 J J (fun C=>?_);refine aj 11 (.d (vI ((dg a).length:Nat))) J (by rw[hla]<;>rfl)<|gx J<|mk (fu:=⟨13⟩) ((List.replicate (dg a).length 0).map dU) J J (by rw[<-m6];rfl) J<|aj 14 (.d (vI ((dg a).length:Nat))) J (by rw[hla]<;>rfl)<|gx J<|lp (X:=List Nat×Nat×Nat) (fun⟨W,r,k⟩=>[(0, .d (dN a)),(1, .d (dU d)),(6, .rw 12),(7, .d (.v (.int .u64 (r:Nat)))),(8, .d (vI ((k:Nat)-1)))]) (fun⟨W,r,k⟩=>[(12,some (.b 208 1 (W.map dU) true))]) (fun⟨W,r,k⟩=>W.length=(dg a).length/\bD W/\r<d/\k<=(dg a).length/\dv ((dg a).drop k)=d*dv (W.drop k)+r) (fun⟨W,r,k⟩=>k) ⟨List.replicate (dg a).length 0,0,(dg a).length⟩ J ⟨by simp, .replicate _,hd,bW _,by simp[dv]⟩ (fun _=>J) (fun⟨W,r,k⟩ hk=>?_)
 try dsimp only at hk⊢
 obtain⟨h1,h2,h3,h4,h5⟩:=hk;have hlw:=bO W;refine br (fu1:=⟨0⟩) J J J (fun hc17=>?_) (fun hc17=>?_)
 .
  obtain⟨j,rfl⟩: ∃m,k=m+1:=⟨k-1,by omega⟩;have hda:=dG a j;obtain⟨v,hv⟩: ∃v,v=(dg a).getD j 0+r*4294967296:=⟨_,rfl⟩;obtain⟨q,hq⟩: ∃q,q=v/d:=⟨_,rfl⟩;have hvq:q<4294967296:=by rw[hq,kJ hd,cK];have:=bS 4294967296 (show r+1<=d from h3);omega
  refine aj 8 (.d (vI (j:Nat))) J (by show FX.d (.v (.int _ _))= .d (.v (.int _ _));congr 3;omega)<|gx (fu:=⟨8⟩) (hv:=by simp only[ak];exact(by decide)) J<|aj 21 (.d (.v (.int .u64 (r*4294967296:Nat)))) J (by show FX.d (.v (.int _ _))= .d (.v (.int _ _));rw[po _ 32 (by decide) (by show _*4294967296<_;omega) J])<|gx J<|ix (fu:=⟨3⟩) _ J (ek) J<|aj 27 (.d (.v (.int .u64 (v:Nat)))) J (congrArg (fun z:Nat=>FX.d (.v (.int .u64 (z:Int)))) ((congrArg BitVec.toNat (BitVec.or_comm ..)).trans ((pE 64 ((dg a).getD j 0) r 32 hda (by show _+_*4294967296<18446744073709551616;omega)).trans hv.symm)))<|gx (fu:=⟨11⟩) J<|aj 33 (.d (.v (.int .u64 (q:Nat)))) J (by show FX.d (.v (.int _ _))= .d (.v (.int _ _));congr 3;rw[hq];rfl)<|gx (fu:=⟨1⟩) J<|aj 34 (.d (dU q)) J (by show FX.d (.v (.int _ _))= .d (.v (.int _ _));congr 3;omega)<|gx J<|sb (fu:=⟨7⟩) _ ((W.set j q).map dU) J (ek) J (by rw[<-jt];rfl) J<|aj 39 (.d (.v (.int .u64 (v%d:Nat)))) J (by show FX.d (.v (.int _ _))= .d (.v (.int _ _));congr 3)<|gx J<|at_ ⟨W.set j q,v%d,j⟩ (by dsimp only;exact⟨⟨by simpa using h1,h2.set _ hvq,dK _ hd,by omega,by rw[hq];exact TR (by omega) (by omega) hd h5 hv⟩,(by omega)⟩)
 .
  obtain rfl:k=0:=by omega
  obtain⟨e1,e2⟩:=aDc (a:=a) (W:=W) (by rw[iX,iX,c8] at h5;exact h5) h3;refine fz 12 J J<|cl (fu:=⟨2⟩) J (sF (ds:=W)) J<|aj 43 (.d (dU r)) J (by show FX.d (.v (.int _ _))= .d (.v (.int _ _));congr 3;omega)<|gx J<|rz J (by show DV.tp [dk _,dU _]= .tp [dN _,dU _];rw[kC h2 e1,<-e2])
def aBE(hk:k<32)(hl:i+1<W.length)(hx:x=A.getD i 0)(h:dv (W.take (i+1))=dv (A.take i)*2^k):dv (((W.set i (W.getD i 0+x*2^k%4294967296)).set (i+1) (x*2^k/4294967296)).take (i+1+1))=dv (A.take (i+1))*2^k:=by
 have:=Le (A:=A) (W:=W) (k:=k) (q:=0) (s:=k) (i:=i) (x:=x) (by omega) (by omega) (by omega) hx (by rw[eJ];exact h);simpa only[eJ] using this
def aCZ(hn:n=(dg a).length)(hl:W.length=n)(h:dv (W.take n)=(a/2^k)%4294967296^n):dv W=a/2^k:=by
 rw[km] at h;have h1:=r4 a;have h2:=mM a (2^k);rw[h,kZ (by rw[hn];omega)]
def XR(h:k<32):(k:Int).tdiv 32=0:=Int.tdiv_eq_zero_of_lt (by omega) (by omega)
def NN[h:BN a ia](hk:k<32)(h0:0<(dg a).length)(hi:ia<=1000000000:=by decide):PR GB prog 325 [dN a, .v (.int .u64 (k:Nat))] 1 208 ((dg (a*2^k)).map dU):=by
 have hla:=bO (dg a);have hba:=i5 (a:=a) hi;refine JB (fu:=⟨8⟩) func325 J J ntmps325 J J (fun C hmb=>?_);refine cl (fu:=⟨2⟩) J (oG (a:=a)) J<|aj 14 (.d (.v (.int .u64 (k:Nat)))) J (by show FX.d (.v (.int _ _))= .d (.v (.int _ _));congr 3;omega)<|gx (fu:=⟨9⟩) J<|aj 16 (.d (vI ((dg a).length:Nat))) J (by rw[hla]<;>rfl)<|gx (fu:=⟨0⟩) J<|cC (fu:=⟨10⟩) J (by show some (decide _)=some false;rw[decide_eq_false (by omega)]) J<|aj 20 (.d (vI (0:Nat))) J (by show FX.d (.v (.int _ _))= .d (.v (.int _ _));congr 3;have:=XR hk;omega)<|gx (fu:=⟨2⟩) J<|aj 22 (.d (.v (.int .u64 (k:Nat)))) J (by show FX.d (.v (.int _ _))= .d (.v (.int _ _));congr 3;omega)<|gx (fu:=⟨8⟩) J<|aj 24 (.d (vI ((dg a).length:Nat))) J (by rw[hla]<;>rfl)<|gx (fu:=⟨3⟩) J<|aj 27 (.d (vI ((dg a).length+1:Nat))) J (by show FX.d (.v (.int _ _))= .d (.v (.int _ _));congr 3)<|gx J<|mk (fu:=⟨8⟩) ((List.replicate ((dg a).length+1) 0).map dU) J J (by rw[<-m6];rfl) J<|aj 30 (.d (vI ((dg a).length:Nat))) J (by rw[hla]<;>rfl)<|gx J<|lp (X:=List Nat×Nat) (fun⟨W,i⟩=>[(0, .d (dN a)),(1, .d (.v (.int .u64 (k:Nat)))),(5, .d (vI (0:Nat))),(6, .d (.v (.int .u64 (k:Nat)))),(7, .rw 28),(29, .d (dN a)),(30, .d (vI ((dg a).length:Nat))),(31, .d (vI (i:Nat)))]) (fun⟨W,i⟩=>[(28,some (.b 208 1 (W.map dU) true))]) (fun⟨W,i⟩=>W.length=(dg a).length+1/\bD W/\i<=(dg a).length/\dv (W.take (i+1))=dv ((dg a).take i)*2^k/\W.getD i 0<2^k) (fun⟨W,i⟩=>(dg a).length-i) ⟨List.replicate ((dg a).length+1) 0,0⟩ J ⟨by simp, .replicate _,by omega,by rw[qV,wM];simp[dv],by rw[Dt];exact gQ (by decide)⟩ (fun _=>J) (fun⟨W,i⟩ hk=>?_)
 try dsimp only at hk⊢
 obtain⟨h1,h2,h3,h4,h5⟩:=hk;have hlw:=bO W;have hda:=dG a i;have hpp:2^k<=2^31:=bY (by decide) (by omega);refine br J J J (fun hc32=>?_) (fun hc32=>?_)
 .
  refine ix (fu:=⟨11⟩) (hv:=by simp only[ak];exact⟨by omega,(by omega)⟩) _ J (ek) J<|?_;have hhi:=Ph hda hk;have hfit0:=Kn hda hk;have hor:=Mb (x:=(dg a).getD i 0) h5 hk;have hfit:W.getD i 0+(dg a).getD i 0*2^k%4294967296<4294967296:=by rw[<-hor];exact BitVec.isLt _
  have hlp:=FF ((dg a).getD i 0) k;refine aj 39 (.d (.v (.int .u64 ((dg a).getD i 0*2^k:Nat)))) J (by show FX.d (.v (.int _ _))= .d (.v (.int _ _));rw[po _ k (by omega) hfit0]) ?_;obtain⟨t,ht⟩: ∃t,t=(dg a).getD i 0*2^k:=⟨_,rfl⟩;simp only[<-ht] at hhi hfit0 hor hfit hlp;rw[<-ht];refine gx (fu:=⟨9⟩) J<|aj 43 (.d (vI (i:Nat))) J (by show FX.d (.v (.int _ _))= .d (.v (.int _ _));congr 3)<|gx J<|lb (fu:=⟨2⟩) _ J (ek) J<|aj 47 (.d (dU (t%4294967296))) J (by show FX.d (.v (.int _ _))= .d (.v (.int _ _));congr 3)<|gx (fu:=⟨1⟩) J<|aj 48 _ J (congrArg (fun z:Nat=>FX.d (.v (.int .u32 (z:Int)))) hor)<|gx J<|sb (fu:=⟨7⟩) _ ((W.set i (W.getD i 0+t%4294967296)).map dU) J (ek) J (by simp only[bM,jW]<;>rfl) J<|aj 53 (.d (vI (i:Nat))) J (by show FX.d (.v (.int _ _))= .d (.v (.int _ _));congr 3)<|gx (fu:=⟨1⟩) J<|aj 54 (.d (vI (i+1:Nat))) J (by show FX.d (.v (.int _ _))= .d (.v (.int _ _));congr 3)<|gx (fu:=⟨2⟩) (hv:=by simp only[ak];exact(by decide)) J<|aj 56 (.d (.v (.int .u64 (t/4294967296:Nat)))) J (by rw[oB])<|gx (fu:=⟨1⟩) J<|aj 57 (.d (dU (t/4294967296))) J (by show FX.d (.v (.int _ _))= .d (.v (.int _ _));congr 3;omega)<|gx J<|sb _ (((W.set i (W.getD i 0+t%4294967296)).set (i+1) (t/4294967296)).map dU) J (ek (by rw[bQ];omega)) J (by simp only[bM,jW]<;>rfl) J<|at_ ⟨(W.set i (W.getD i 0+t%4294967296)).set (i+1) (t/4294967296),i+1⟩ (by dsimp only;exact⟨⟨by simpa using h1,(h2.set _ hfit).set _ (by omega),by omega,by have q:=aBE (x:=(dg a).getD i 0) hk (by omega) J h4;rw[<-ht] at q;exact q,by rw[AC (by simp;omega)];exact hhi⟩,(by omega)⟩)
 .
  obtain rfl:i=(dg a).length:=by omega
  refine cq _ J (Uu (ds:=W) (by omega)) J J<|?_;exact RP J J J (by rw[<-Cn h2];have:=h4;rw[km,km,c8] at this;rw[this])
def aJa(hd:bD ds)(hl:ds.length<=100000000)(hk:k<32):PF GB prog 326 [dk ds, .v (.int .u64 (k:Nat))] (dN (dv ds/2^k)):=by
 obtain⟨a,ha⟩: ∃a,a=dv ds:=⟨_,rfl⟩;rw[<-ha];have hla:=bO (dg a);have hba:(dg a).length<=100000000:=by rw[ha,Cn hd];have:=Ui ds;omega
 refine fn func326 J J ntmps326 J J (fun C=>?_);refine cl (fu:=⟨0⟩) J (sF (ds:=ds)) J<|aj 11 (.d (dN a)) J (by rw[kC hd ha.symm])<|gx (fu:=⟨8⟩) J<|aj 13 (.d (.v (.int .u64 (0:Nat)))) J (by show FX.d (.v (.int _ _))= .d (.v (.int _ _));congr 3;omega)<|gx (fu:=⟨2⟩) J<|aj 15 (.d (vI ((dg a).length:Nat))) J (by rw[hla]<;>rfl)<|gx J<|br (fu2:=⟨7⟩) J J J (fun hc17=>?_) (fun hc17=>?_)
 .
  exact rz J (by rw[AL (a:=a),Nat.zero_div,l9];rfl)
 .
  refine aj 20 (.d (vI (0:Nat))) J (by show FX.d (.v (.int _ _))= .d (.v (.int _ _));congr 3;omega)<|gx (fu:=⟨2⟩) J<|aj 22 (.d (.v (.int .u64 (k:Nat)))) J (by show FX.d (.v (.int _ _))= .d (.v (.int _ _));congr 3;omega)<|gx (fu:=⟨8⟩) J<|aj 24 (.d (vI ((dg a).length:Nat))) J (by rw[hla]<;>rfl)<|gx (fu:=⟨2⟩) J<|aj 26 (.d (vI ((dg a).length:Nat))) J (by show FX.d (.v (.int _ _))= .d (.v (.int _ _));congr 3)<|gx J<|mk (fu:=⟨8⟩) ((List.replicate (dg a).length 0).map dU) J J (by rw[<-m6];rfl) J<|aj 29 (.d (vI ((dg a).length:Nat))) J (by rw[bO,aS]<;>rfl)<|gx J<|lp (X:=List Nat×Nat) (fun⟨W,i⟩=>[(0, .d (dN a)),(5, .d (vI (0:Nat))),(6, .d (.v (.int .u64 (k:Nat)))),(7, .rw 27),(29, .d (vI ((dg a).length:Nat))),(30, .d (vI (i:Nat)))]) (fun⟨W,i⟩=>[(27,some (.b 208 1 (W.map dU) true))]) (fun⟨W,i⟩=>W.length=(dg a).length/\bD W/\i<=(dg a).length/\dv (W.take i)=(a/2^k)%4294967296^i) (fun⟨W,i⟩=>(dg a).length-i) ⟨List.replicate (dg a).length 0,0⟩ J ⟨by simp, .replicate _,by omega,by simp[dv,Nat.mod_one]⟩ (fun _=>J) (fun⟨W,i⟩ hk=>?_)
  try dsimp only at hk⊢
  obtain⟨h1,h2,h3,h4⟩:=hk;have hlw:=bO W;have hda:=dG a i;have hdb:=dG a (i+1);refine br (fu1:=⟨16⟩) J J J (fun hc31=>?_) (fun hc31=>?_)
  .
   refine aj 36 (.d (vI (i:Nat))) J (by show FX.d (.v (.int _ _))= .d (.v (.int _ _));congr 3)<|gx J<|ix (fu:=⟨6⟩) _ J (ek) J<|mg (fu:=⟨6⟩) (hv:=fun _ _=>by simp only[ak];exact(by omega)) (X:=Unit) (fun _=>[(0, .d (dN a)),(5, .d (vI (0:Nat))),(6, .d (.v (.int .u64 (k:Nat)))),(7, .rw 27),(29, .d (vI ((dg a).length:Nat))),(30, .d (vI (i:Nat))),(8, .d (vI (i:Nat))),(9, .d (.v (.int .u64 ((dg a).getD i 0+(dg a).getD (i+1) 0*4294967296:Nat))))]) (fun _=>[(27,some (.b 208 1 (W.map dU) true))]) (fun _=>True) [0,5,6,7,29,30,8,9] [27] rfl ?_ (fun _=>J) (fun _ _=>?_)
   .
    refine gx (fu:=⟨5⟩) J<|aj 42 (.d (vI (i:Nat))) J (by show FX.d (.v (.int _ _))= .d (.v (.int _ _));congr 3)<|gx (fu:=⟨1⟩) J<|aj 43 (.d (vI (i+1:Nat))) J (by show FX.d (.v (.int _ _))= .d (.v (.int _ _));congr 3)<|gx (fu:=⟨2⟩) J<|aj 45 (.d (vI ((dg a).length:Nat))) J (by rw[hla]<;>rfl)<|gx J<|br (fu1:=⟨6⟩) J J J (fun hc46=>?_) (fun hc46=>?_)
    .
     refine aj 51 (.d (vI (i:Nat))) J (by show FX.d (.v (.int _ _))= .d (.v (.int _ _));congr 3)<|gx (fu:=⟨1⟩) J<|aj 52 (.d (vI (i+1:Nat))) J (by show FX.d (.v (.int _ _))= .d (.v (.int _ _));congr 3)<|gx J<|ix (fu:=⟨3⟩) (hv:=by simp only[ak];exact⟨by omega,(by decide)⟩) _ J (cD (k:=i+1)) J<|aj 56 (.d (.v (.int .u64 ((dg a).getD (i+1) 0*4294967296:Nat)))) J (by show FX.d (.v (.int _ _))= .d (.v (.int _ _));rw[po _ 32 (by decide) (by show _*4294967296<_;omega) J])<|gx (fu:=⟨1⟩) J<|aj 57 _ J (congrArg (fun z:Nat=>FX.d (.v (.int .u64 (z:Int)))) (pE 64 ((dg a).getD i 0) ((dg a).getD (i+1) 0) 32 hda (by show _+_*4294967296<18446744073709551616;omega)))<|gx J<|at_ () trivial
    .
     refine aj 9 (.d (.v (.int .u64 ((dg a).getD i 0+(dg a).getD (i+1) 0*4294967296:Nat)))) J (by rw[pp (by omega:(dg a).length<=i+1),kK,gJ])<|at_ () trivial
   .
    refine aj 62 (.d (.v (.int .u64 (((dg a).getD i 0+(dg a).getD (i+1) 0*4294967296)/2^k:Nat)))) J (by show FX.d (.v (.int _ _))= .d (.v (.int _ _));rw[Qu _ k])<|gx (fu:=⟨1⟩) J<|?_;obtain⟨w,hw⟩: ∃w,w=((dg a).getD i 0+(dg a).getD (i+1) 0*4294967296)/2^k%4294967296:=⟨_,rfl⟩;have hw1:w<4294967296:=hw▸dK _ (by decide);refine aj 63 (.d (dU w)) J (by show FX.d (.v (.int _ _))= .d (.v (.int _ _));congr 3;rw[hw];rfl)<|gx J<|sb _ ((W.set i w).map dU) J (ek) J (by rw[<-jt];rfl) J<|at_ ⟨W.set i w,i+1⟩ (by dsimp only;exact⟨⟨by simpa using h1,h2.set _ (by omega),by omega,by rw[vV,h4];exact(Nj hk (by have:=C0 (gi a) i;rwa [c8] at this) hw).symm⟩,(by omega)⟩)
  .
   refine fz 27 J J<|cl rfl (sF (ds:=W)) rfl<|rz rfl (kC h2 (by obtain rfl:i=(dg a).length:=(by omega);exact aCZ rfl h1 h4))
end Go.Sx
end
