import Derived.Test.YtliglnbeohlnnaaGreatDoorMq8
set_option linter.all false
set_option maxHeartbeats 4000000
set_option maxRecDepth 100000
section
namespace Go.Sx
open Go Go.Proofs Tryz
variable {GB G:Gh}{C:aF}{n nm d s k a x e by_ i b j v ia ib L R V g r:Nat}{Q0:Exit->Act->World->Prop}{fr fr' fr1 fr2:aC}{own' own1 own2:aO}{cf cf' cf1 cf2:Cf}{vc vc1 vc2:List Prop}{lk:LK}{bk:BM}{fo y:Operand}{args:Array Operand}{tys:Array TypeId}{f:FuncId}{l:List (Option DV)}{ty ty0 t t' ty':TypeId}{pos:String}{af:Array Edge}{dsi dso ds2 ds':List DV}{lo:Bool}{fb:Func}{ds W A:List Nat}{P:Program}{ov B:List aB}{dst:Option Nat}{z rv:DV}{p q:Int}{k':IntKind}
section
variable {own:aO}
def Vf{gd:Option (Nat×Bool)}(hne:Nat.beq nm d=false)
  (ha:B5 lk fo args=some (f,nm,l))(hb:bk nm=some (.b ty0 s dsi lo))(hF:PB GB prog f (f7 l) s ty0 dsi (fun w=> .v (.slice w.a w.n w.c)) dso):b8 prog GB C n lk bk ⟨some d, .call ⟨.value fo,args,tys⟩,ty,pos,af,gd⟩ (.rw d) [(nm,none),(d,some (.b ty0 s dso lo))] [d]:=by
 intro hd tl tb K' s1 s2 hf hk;refine⟨fun ρ G ov a w r Q=>?_⟩;have r1:=r.mono s1 s2;unfold B5 at ha;split at ha<;>try (cases ha;done)
 rename_i h1;split at ha<;>cases ha;rename_i h2;obtain⟨y,hy,hy'⟩:=r1.ev h1;rw[(aI (G:=G)).1 hy'] at hy;obtain⟨B,g1,g2⟩:=r1.bx _ _ hb;have hB:d9 G ⟨ρ nm,s,ty0,dsi,lo⟩ B:=g1;obtain⟨vs,h7,h8⟩:=Cs r1 (z:=ρ nm) h2 (fun nm e=>by cases e;rfl);have hp: ∃rest,ov.Perm (B++rest)/\ ∀o∈ov,(∀o'∈B,o.b≠o'.b)->o∈rest:=by
  rcases hB with⟨vs',⟨_,_,e⟩|⟨b0,r0,lo0,_,e,_⟩,_⟩
  .rw[e];exact⟨ov,List.Perm.refl _,fun o ho _=>ho⟩
  .rw[e] at g2⊢
   obtain⟨l1,l2,e2⟩:=mN (g2 _ aZ);rw[e2];refine⟨l1++l2,pQ,fun o ho hno=>?_⟩;rcases bX.1 ho with ho|ho
   .exact bM _ ho
   .rcases aW.1 ho with rfl|ho
    .exact absurd J (hno _ aZ)
    .exact bU _ ho
 obtain⟨rest,h5,h6⟩:=hp;refine xU (M:=B) (rest:=rest) hy h7 h5 (hF G (ρ nm) vs B r.gb hB.weak h8) hd (fun v own1 G' hG hK a' w' rl=>?_) a w Q ⟨r.h,r.sz,cC a,r.df⟩;obtain⟨z,hr,vs',k1,k2,k3,k4⟩:=hK;have k1':=k1.relo (gI B);have e2:lo=true-> ∀o∈own1.map (relo (gI B)),o.lo=true:=fun hl o ho=>by
  obtain⟨o',_,rfl⟩:=aU.1 ho;obtain⟨_,_,_,_,hlo⟩:=hB;exact Dy _ (hlo hl)
 generalize own1.map (relo (gI B))=B' at rl e2 k1';have rl':gA C n (Sx.put (cp a) (some d) v) (B'++rest) G' a' w':=rl;have hdis:=(gR.1 rl'.h.nd).2.2;have r2:=r.dropB nm;have hnn:nm≠d:=fun e=>by subst e;rw[oJ] at hne;cases hne
 have hf2:kE [d] (some d) tl (Sx.upB tb [(nm,none)]):=fun q hq=>by
  obtain⟨f1,f2⟩:=hf q hq;refine⟨f1,fun k B e1 e=>?_⟩;simp only[Sx.upB] at e;split at e
  .cases e
  .exact f2 k B e1 e
 have hsep: ∀q B0,Sx.upB tb [(nm,none)] q=some B0-> ∀o∈ov,(ρ q).a=some ⟨o.b,0,none⟩->o∈rest:=fun q B0 e o ho hbq=>by
  simp only[Sx.upB] at e;split at e
  .cases e
  .rename_i hqn
   refine h6 o ho fun o' ho' he=>?_;exact r.dj nm q _ _ (s2 _ _ hb) e (Ne.symm hqn) o'.b (g1.blk ho') (by rw[hbq,he])
 rw[aI.1 hr] at rl';have r3:=r2.new' (x:=z) (B':= .b ty0 s dso lo) (os:=B') (ov':=B'++rest) (f:= .rw d) (y:= .slice z.a z.n z.c) hf2 hG.le rl'.h ⟨vs',by simpa using k1',k2,k3,e2⟩ (fun o ho=>bM _ ho)
  (fun q B0 hq e o ho hbq=>⟨bU _ (hsep q B0 e o ho hbq),fun hc=>by
   have hx: ∃o1∈B',o1.b=o.b:=by
    rcases k1' with⟨_,h,_⟩|⟨b0,rest0,lo0,h,hB,_⟩
    .rw[show z=_ from h] at hc;cases hc
    .rw[show z=_ from h] at hc;cases hc;exact⟨⟨_,aH vs'++rest0,_,lo0⟩,by rw[hB];exact aZ,J⟩
   obtain⟨o1,ho1,he1⟩:=hx;exact hdis o1 ho1 o (hsep q B0 e o ho hbq) he1⟩) (by simp[b9]) (jp rl')
 exact hk.run _ G' _ a' w' r3
def cq[fu:Fu](dso':List DV)(ha:C6 fr own cf=some ⟨f,nm,l,ty,s,dsi,lo,d⟩)(hF:PB GB prog f (f7 l) s ty dsi (fun w=> .v (.slice w.a w.n w.c)) dso)(he:dso=dso')
  (hgo:cB tt n fu.n fr own cf (.rw d) [(nm,none),(d,some (.b ty s dso' lo))] [d]=⟨vc,fr',own',cf'⟩)(k:aA prog GB C n Q0 fr' own' cf')
  (hv:autoParam (ak vc) fn._auto_1):aA prog GB C n Q0 fr own cf:=by
 subst he;unfold C6 at ha;split at ha<;>try (cases ha;done)
 rename_i hh;split at ha<;>try (cases ha;done)
 rename_i h1;split at ha<;>try (cases ha;done)
 rename_i h2;rw[cond_eq_ite] at ha;split at ha<;>cases ha;rename_i h3;exact us hh (Vf okU h1 h2 hF) hgo hv k
def JR(C:aF)(s:Nat)(ty:TypeId)(dso:List DV):Ending->World->Prop:=s7 C (fun v own' G'=> ∃w',Is G' (.v (.slice w'.a w'.n w'.c)) v/\d9 G' ⟨w',s,ty,dso,false⟩ own')
def DR[fu:Fu]{c:Code}(hf:prog.funcs[f]? =some fb)(hb:fb.body=some c)(hn:(fb.name== "runtime.NumGoroutine")=false)(hm:fb.ntmps=k)(hlen:Nat.ble l.length k=true)
  (hgo:go tt k fu.n [] (x7 0 l) [(NM,some (.b ty s dsi false))] (.code c [])=⟨vc,fr,own,cf⟩)(h: ∀C,aA prog GB C k (eH C prog fb (JR C s ty dso)) fr own cf)
  (hv:autoParam (ak vc) fn._auto_1):PB GB prog f (f7 l) s ty dsi (fun w=> .v (.slice w.a w.n w.c)) dso:=by
 intro G w vs B hg hB hvs;refine iu.introR hf hb hn hm (by rw[hvs.len,Ew];exact hlen) fun C _ hmb hrd hfx=>?_;intro a wd rl;refine uO hrd ?_;have h1:=fB (GB:=GB) (C:=C) (Q0:=eH C prog fb (JR C s ty dso)) hgo hv (h C);refine h1.run (fun _=>w) G (Sx.asB B) a wd ⟨hg,rl.h,rl.sz,rl.df,fun k f e=>?_,fun nm B' e=>?_,fun nm nm' B' B2 e e' hne=>?_,fun nm p _ _ e=>by rw[hfx] at e;cases e⟩
 .obtain⟨y,⟨j,hj,hy⟩,h2⟩:=C8 (ρ:=fun _=>w) (w:=w) rfl 0 hvs k f e
  refine⟨y,rl.fr k y ?_,h2⟩;rw[hj];exact w5 vs 0 j y hy
 .rw[jg] at e
  split at e
  .cases e;exact⟨Sx.asB B,hB.asB,fun o ho=>ho⟩
  .cases e
 .rw[jg] at e e'
  split at e<;>split at e'
  .rename_i h2 h3;exact absurd (h2.trans h3.symm) hne
  .cases e'
  .cases e
  .cases e
def wg{t:Nat}{ds:List DV}(hr:fb.results.toList=[.tmp t])(hl:bi fr t=some (.rw d))(hw:bu own d=some (.b ty s ds false))(ed:ds=dso):
  aA prog GB C n (eH C prog fb (JR C s ty dso)) fr own (.ex .ret []):=by
 subst ed;refine⟨fun ρ G ov a w r=>?_⟩;obtain⟨B,g1,g2⟩:=r.bx _ _ hw;have hB:d9 G ⟨ρ d,s,ty,ds,false⟩ B:=g1;obtain⟨rest,hp⟩:=JD hB g2;obtain⟨y,hy,hy'⟩:=r.ev (x:= .tmp t) (f:= .rw d) hl
 cases (show y=_ from hy')
 exact xQ (C:=C) (n:=n) (fr:=cp a) (own:=ov) (G:=G) (vs:=[.slice (ρ d).a (ρ d).n (ρ d).c]) okh (B++rest) B hp (oW _ _) ⟨ρ d,aI.2 J,hB⟩ a w ⟨r.h,r.sz,cC a,r.df⟩
def zA(lk:LK):List Operand->Option (List (Option DV))
 |[]=>none
 |[x]=>match bj lk x with
  |some .nl=>some [none]
  |_=>none
 |x::t=>match bj lk x,zA lk t with
  |some f,some l=>match ke f with
   |some d=>some (some d::l)
   |none=>none
  |_,_=>none
def KL(lk:LK)(fo:Operand)(args:Array Operand):Option (FuncId×List (Option DV)):=match bj lk fo with
 |some (.d (.v (.func (.func f) ⟨[]⟩ ⟨[]⟩)))=>match zA lk args.toList with
  |some l=>some (f,l)
  |_=>none
 |_=>none
def U3{lk:LK}{bk:BM}{ρ:NE}{G:Gh}{ov:List aB}{a:Act}{w:World}(r:bP GB C n lk bk ρ G ov a w): ∀{x:List Operand} {l:List (Option DV)},zA lk x=some l-> ∃y,fG (cp a) x=some y/\IsLs G (f7 l ⟨none,0,0⟩) y
 |[],l,e=>by cases e
 |[x],l,e=>by
  simp only[zA] at e;split at e<;>cases e;rename_i h1;obtain⟨y,h3,h4⟩:=r.ev h1
  cases (show y=_ from h4)
  exact⟨[Value.slice none 0 0],by simp only[fG,h3], .cons ((aI (G:=G)).2 J) .nil⟩
 |x::x2::t,l,e=>by
  simp only[zA] at e;split at e
  .rename_i f l' h1 h2
   cases hd:ke f with
   |none=>rw[hd] at e;cases e
   |some d=>
   rw[hd] at e;cases e;obtain⟨y,h3,h4⟩:=r.ev h1;obtain⟨ys,h5,h6⟩:=U3 r (x:=x2::t) (by simpa only[zA] using h2);exact⟨y::ys,by simp only[fG,h3] at h5⊢;rw[h5], .cons (nq h4 hd) h6⟩
  .cases e
def avm{gd:Option (Nat×Bool)}
  (ha:KL lk fo args=some (f,l))(hF:PB GB prog f (f7 l) s ty0 [] (fun w=> .v (.slice w.a w.n w.c)) dso):b8 prog GB C n lk bk ⟨some d, .call ⟨.value fo,args,tys⟩,ty,pos,af,gd⟩ (.rw d) [(d,some (.b ty0 s dso true))] [d]:=by
 intro hd tl tb K' s1 s2 hf hk;refine⟨fun ρ G ov a w r Q=>?_⟩;have r1:=r.mono s1 s2;unfold KL at ha;split at ha<;>try (cases ha;done)
 rename_i h1;split at ha<;>cases ha;rename_i h2;obtain⟨y,hy,hy'⟩:=r1.ev h1;rw[(aI (G:=G)).1 hy'] at hy;obtain⟨vs,h7,h8⟩:=U3 r1 h2;refine xU (M:=[]) (rest:=ov) hy h7 (List.Perm.refl _) (hF G ⟨none,0,0⟩ vs [] r.gb ⟨[], .nil _ _, .nil,omc,fun h=>by cases h⟩ h8) hd (fun v own1 G' hG hK a' w' rl=>?_) a w Q ⟨r.h,r.sz,cC a,r.df⟩;obtain⟨z,hr,vs',k1,k2,k3,k4⟩:=hK;have k1':=k1.relo (gI []);have e2: ∀o∈own1.map (relo (gI [])),o.lo=true:=fun o ho=>by
  obtain⟨o',_,rfl⟩:=aU.1 ho;rfl
 generalize own1.map (relo (gI []))=B' at rl e2 k1';have rl':gA C n (Sx.put (cp a) (some d) v) (B'++ov) G' a' w':=rl;have hdis:=(gR.1 rl'.h.nd).2.2;rw[aI.1 hr] at rl';have r3:=r.new (x:=z) (B':= .b ty0 s dso true) (os:=B') (ov':=B'++ov) (f:= .rw d) (y:= .slice z.a z.n z.c) hf hG.le rl'.h ⟨vs',by simpa using k1',k2,k3,fun _=>e2⟩ (fun o ho=>bM _ ho) (fun o ho=>bU _ ho)
  (fun o ho hc=>by
   have hx: ∃o1∈B',o1.b=o.b:=by
    rcases k1' with⟨_,h,_⟩|⟨b0,rest0,lo0,h,hB,_⟩
    .rw[show z=_ from h] at hc;cases hc
    .rw[show z=_ from h] at hc;cases hc;exact⟨⟨_,aH vs'++rest0,_,lo0⟩,by rw[hB];exact aZ,J⟩
   obtain⟨o1,ho1,he1⟩:=hx;exact hdis o1 ho1 o ho he1) (by simp[b9]) (jp rl')
 exact hk.run _ G' _ a' w' r3
def Uj(fr:aC)(cf:Cf):Option (FuncId×List (Option DV)×Nat):=match c6 fr cf with
 |some ⟨some d, .call ⟨.value fo,args,_⟩,_,_,_,_⟩=>match KL (cd fr cf) fo args with
  |some (f,l)=>some (f,l,d)
  |none=>none
 |_=>none
def cqn[fu:Fu](dso':List DV)(ha:Uj fr cf=some (f,l,d))(hF:PB GB prog f (f7 l) s ty [] (fun w=> .v (.slice w.a w.n w.c)) dso)(he:dso=dso')
  (hgo:cB tt n fu.n fr own cf (.rw d) [(d,some (.b ty s dso' true))] [d]=⟨vc,fr',own',cf'⟩)(k:aA prog GB C n Q0 fr' own' cf')
  (hv:autoParam (ak vc) fn._auto_1):aA prog GB C n Q0 fr own cf:=by
 subst he;unfold Uj at ha;split at ha<;>try (cases ha;done)
 rename_i hh;split at ha<;>cases ha;rename_i h1;exact us hh (avm h1 hF) hgo hv k
end
section
variable {T:TT}{ρ:NE}{a:Act}{w:World}
variable {gd:Option (Nat×Bool)}{x:Operand}
def azo{i:TI}{ds:List DV}[hT:cD P t e s by_][hN:j0 P t'](hi:fw P e=some i)(hz:oD i=some z)(hs:Nat.beq z.cells.length s=true)(hx:bj lk x=some (.rw nm))(hb:bk nm=some (.b e s ds false))(hy:rB lk bk s y=some ds2)(hk2:cI s ds2)
  (hby:Nat.blt 0 by_=true)(hbd:(ds.length+ds2.length)*by_<=140737488355328)(hnd:Nat.beq nm d=false)(hds:ds++ds2=ds'):
  b8 P GB C n lk bk ⟨some d, .call ⟨.builtin .append, #[x,y], #[t,t']⟩,ty',pos,af,gd⟩ (.rw d) [(nm,none),(d,some (.b e s ds' false))] [d]:=by
 intro hd tl tb K s1 s2 hf hk;refine⟨fun ρ G ov a w r Q=>?_⟩;subst hds;have r1:=r.mono s1 s2;obtain⟨v,hz1,hz2,hz3⟩:=yt hi hz;have cz:=((hz2 G).cells hz3).1.len;replace hs:=aN hs;rw[lU] at hby
 have hne:nm≠d:=fun e=>by subst e;simp at hnd
 obtain⟨u,hx',hx2⟩:=r1.ev hx
 cases hx2
 obtain⟨B,hB0,hBo⟩:=r1.bx _ _ hb;have hB1:d9 G ⟨ρ nm,s,e,ds,false⟩ B:=hB0;clear hB0;obtain⟨vs,hB,hv,hvs,_⟩:=hB1;simp only[] at hB hv hvs;obtain⟨w2,us,hy',h2,h3,h4,h5,h6⟩:=BG (P:=P) r1 hy hk2;have hus:(aH us).length=us.length*s:=fp us h4;have hbd':(vs.length+us.length)*by_<=140737488355328:=by rw[hv.len,h3.len];exact hbd
 have hall: ∀v∈vs++us,(aG v).length=s:=fun v hv=>by
  rcases bX.1 hv with hv|hv
  .exact hvs v hv
  .exact h4 v hv
 have rd:=r.dropB nm;have hf':kE [d] (some d) tl (Sx.upB tb [(nm,none)]):=fun m hm=>by
  obtain⟨g1,g2⟩:=hf m hm;refine⟨g1,fun k B' hk e=>g2 k B' hk ?_⟩;simp only[Sx.upB] at e;split at e
  .cases e
  .exact e
 have hbk: ∀m B',(Sx.upB tb [(nm,none)]) m=some B'->m≠nm/\tb m=some B':=fun m B' e=>by
  simp only[Sx.upB] at e;split at e
  .cases e
  .exact⟨ome,e⟩
 have hnew: ∀{z:SV} {ov':List aB} {B1:List aB} {a':Act} {w':World} {dz:List DV},d9 G ⟨z,s,e,dz,false⟩ B1->(∀o∈B1,o∈ov')->(∀m B',m≠d->(Sx.upB tb [(nm,none)]) m=some B'-> ∀o∈ov,(ρ m).a=some ⟨o.b,0,none⟩->o∈ov'/\z.a≠some ⟨o.b,0,none⟩)->
   SX GB C n (eh tl (some d) (.rw d)) (Sx.upB (Sx.upB tb [(nm,none)]) [(d,some (.b e s dz false))]) K->gA C n (Sx.put (cp a) (some d) (.slice z.a z.n z.c)) ov' G a' w'->K a' w':=fun hB1 hos hov hk1 rl=>
  hk1.run _ _ _ _ _ (rd.new' (f:= .rw d) (y:= .slice _ _ _) hf' (bI.refl _) rl.h (hB1.toBk omc) hos hov ozd (jp rl))
 have hfin: ∀(b:Nat) (lo1:Bool) (cap':Nat) (rest':List Value) (ov1:List aB) a' w',vs.length+us.length<=cap'->rest'.length+(vs.length+us.length)*s=cap'*s->(∀o∈ov,(ρ nm).a≠some ⟨o.b,0,none⟩->o∈ov1)->
   gA C n (put (cp a) (some d) (.slice (some ⟨b,0,none⟩) (vs.length+us.length) cap')) (⟨b,aH (vs++us)++rest',e,lo1⟩::ov1) G a' w'->K a' w':=by
  intro b lo1 cap' rest' ov1 a' w' hc hr ho1 rl;have hnd':=(bY.1 rl.h.nd).1;refine hnew (z:=⟨some ⟨b,0,none⟩,vs.length+us.length,cap'⟩) (B1:=[⟨b,aH (vs++us)++rest',e,lo1⟩]) ⟨vs++us, .inr ⟨b,rest',lo1,omc,J,fp _ hall,?_,by simpa using hc⟩,hv.app h3,hall,fun h=>by cases h⟩
   (fun o ho=>by rw[aR.1 ho];exact aZ) (fun m B' hm e o ho hmo=>?_) hk rl
  .rw[fp _ hall,aY]
   simp only[];omega
  .obtain⟨h7,h8⟩:=hbk m B' e
   have ho2:=ho1 o ho fun hc=>r.dj m nm B' _ h8 (s2 _ _ hb) h7 _ hmo hc;exact⟨aJ _ ho2,fun e'=>by cases e';exact hnd' o ho2 J⟩
 rcases hB with⟨e1,e2,e3⟩|⟨b,rest,lo',k3,k4,k5,k6,k7⟩
 .subst e1
  rw[e2] at hx';by_cases hne:us=[]
  .subst hne
   have:ds2=[]:=cJ (by rw[<-h3.len];rfl);subst this;rw[h2] at hy';refine RB hx' hy' hd (fun a' w' rl=>?_) a w Q ⟨r.h,r.sz,cC a,r.df⟩;refine hnew (z:=⟨none,0,0⟩) (B1:=[]) ⟨[], .inl ⟨J,J,J⟩,by simpa using hv,omc,fun h=>by cases h⟩ (fun o ho=>by cases ho) (fun m B' hm e o ho hmo=>⟨ho,fun e'=>by cases e'⟩) hk rl
  .have hup:0<us.length:=oR.2 hne
   rw[h2] at hy' h6;refine Fd (z:=v) (xs:=[]) (ys:=aH us) hx' hy' vn h6 (by show(0:Nat)<0+us.length;omega) hby (by simpa using hbd') hd (fun b cap' hc a' w' rl=>?_) a w Q ⟨r.h,r.sz,cC a,r.df⟩;exact hfin b true cap' (dH v (cap'-us.length)) ov a' w' (by simpa using hc) (by rw[pu,cz,hs,<-dY];simp at hc⊢;congr 1;omega) (fun o ho _=>ho) (by simpa using rl)
 .subst k4
  have ha:(ρ nm).a=some ⟨b,0,none⟩:=by rw[k3]
  have hn:(ρ nm).n=vs.length:=by rw[k3]
  rw[ha,hn] at hx';rw[h2] at hy' h6;obtain⟨ov1,o1,o2⟩:=jE.of_mem (hBo _ aZ);refine Km (z:=v) (xs:=aH vs) (ys:=aH us) (rest:=rest) (own1:=ov1) hx' hy' o1 k5 k6 k7 h6 hus h5 hby hbd' (by rw[cz,hs]) hd (fun b' lo2 cap' rest' hc hr a' w' rl=>?_) a w Q ⟨r.h,r.sz,cC a,r.df⟩;rw[<-oE] at rl;exact hfin b' lo2 cap' rest' ov1 a' w' hc hr (fun o ho hne=>o2 o ho fun e'=>hne (by rw[ha,e'])) rl
end
section
variable {own:aO}
def Uo(fr:aC)(own:aO)(cf:Cf):Option (Nat×Nat×Nat×Nat×Nat×List DV×List DV):=match c6 fr cf with
 |some ⟨some d, .call ⟨.builtin .append,⟨[x,y]⟩,⟨[t,t']⟩⟩,_,_,_,_⟩=>match eo tt t with
  |some ⟨.sl e s b,_,_,_⟩=>match eo tt t' with
   |some ⟨.sl _ _ _,_,_,_⟩=>match eo tt e with
    |some i=>match oD i with
     |some z=>bif Nat.beq z.cells.length s&&Nat.blt 0 b then(match rB (cd fr cf) (jk fr own cf) s y with
      |some ds2=>match bj (cd fr cf) x with
       |some (.rw nm)=>match jk fr own cf nm with
        |some (.b e' s' ds false)=>bif (Nat.beq e' e&&Nat.beq s' s)&&!Nat.beq nm d then some (d,nm,e,s,b,ds,ds2) else none
        |_=>none
       |_=>none
      |none=>none) else none
     |none=>none
    |none=>none
   |_=>none
  |_=>none
 |_=>none
def Pd[fu:Fu]{ds:List DV}(ds':List DV)(h:Uo fr own cf=some (d,nm,e,s,b,ds,ds2))(hds:ds++ds2=ds')(ho2:cI s ds2)(hgo:cB tt n fu.n fr own cf (.rw d) [(nm,none),(d,some (.b e s ds' false))] [d]=⟨vc,fr',own',cf'⟩)(k:aA prog GB C n Q0 fr' own' cf')
  (hbd:(ds.length+ds2.length)*b<=140737488355328:=by simp;omega)
  (hv:autoParam (ak vc) fn._auto_1):aA prog GB C n Q0 fr own cf:=by
 unfold Uo at h;split at h<;>try (cases h;done)
 rename_i hh;split at h<;>try (cases h;done)
 rename_i hT;split at h<;>try (cases h;done)
 rename_i hT';split at h<;>try (cases h;done)
 rename_i hi;split at h<;>try (cases h;done)
 rename_i hz;rw[cond_eq_ite] at h;split at h<;>try (cases h;done)
 rename_i hc;simp only[bW] at hc;split at h<;>try (cases h;done)
 rename_i hy;have:=lf (fi _ _ hT) J;have hN:j0 prog _:=⟨_,(lf (fi _ _ hT') J).un⟩;split at h<;>try (cases h;done)
 rename_i hx;split at h<;>try (cases h;done)
 rename_i hb;rw[cond_eq_ite] at h;split at h<;>cases h;rename_i hq;simp only[bW,iT] at hq
 cases aN hq.1.1
 cases aN hq.1.2
 exact us hh (azo (fi _ _ hi) hz hc.1 hx hb hy ho2 hc.2 hbd hq.2 hds) hgo hv k
end
section
variable {own:aO}
variable {gd:Option (Nat×Bool)}{x:Operand}
def aJt{w:SV}{ds:List DV}(h:d9 G ⟨w,s,ty,ds,lo⟩ B)(hn:0<ds.length): ∃b,w=⟨some ⟨b,0,none⟩,ds.length,w.c⟩/\ds.length<=w.c:=by
 obtain⟨vs,h1,h2,_⟩:=h;rcases h1 with⟨e1,_,_⟩|⟨b,rest,lo',e1,_,_,_,h5⟩
 .subst e1;have:=h2.len;simp at this;omega
 .exact⟨b,by rw[<-h2.len];exact e1,by rw[<-h2.len];exact h5⟩
def io.cut{z:SV}{vs:List Value}(h:io s ty z vs B)(hs: ∀v∈vs,(aG v).length=s)(hk:k<=vs.length)(hne:0<vs.length):io s ty ⟨z.a,k,z.c⟩ (vs.take k) B:=by
 rcases h with⟨h1,_,_⟩|⟨b,rest,lo,h1,h2,h3,h4,h5⟩
 .subst h1;simp at hne
 .have e:aH vs=aH (vs.take k)++aH (vs.drop k):=by rw[<-oE,jR]
  have hl:=fp (vs.take k) fun v hv=>hs v (fW hv);have hm:(vs.take k).length=k:=by rw[bT];omega
  refine .inr ⟨b,aH (vs.drop k)++rest,lo,by rw[hm,h1],by rw[h2,e,dV],hl,?_,by rw[hm];show k<=z.c;omega⟩;show _=z.c*s;rw[<-h4,e,aY,aY];omega
def aHL[hT:cD P t e s by_]{k:IntKind}{ds:List DV}(hne:Nat.beq nm d=false)(hx:bj lk x=some (.rw nm))(hb:bk nm=some (.b ty s ds lo))(hy:bj lk y=some (.d (.v (.int k j))))(h1:j<ds.length):
  b8 P GB C n lk bk ⟨some d, .slice t x none (some y) none,ty',pos,af,gd⟩ (.rw d) [(nm,none),(d,some (.b ty s (ds.take j) lo))] [d]:=by
 intro hd tl tb K s1 s2 hf hk;refine⟨fun ρ G ov a w r Q=>?_⟩;have r1:=r.mono s1 s2;obtain⟨u,hu,hu2⟩:=r1.ev hx
 cases (show u=_ from hu2)
 obtain⟨v,hv,hv2⟩:=r1.ev hy;rw[dk] at hv2;subst hv2;obtain⟨B,hB0,hBo⟩:=r1.bx _ _ hb;have hB:d9 G ⟨ρ nm,s,ty,ds,lo⟩ B:=hB0;obtain⟨b,hw,hc⟩:=aJt hB we;obtain⟨vs,g1,g2,g3,g4⟩:=hB;have hvl:=g2.len;have hcut:d9 G ⟨⟨(ρ nm).a,j,(ρ nm).c⟩,s,ty,ds.take j,lo⟩ B:=⟨vs.take j,io.cut g1 g3 (by simp only at hvl⊢;omega) (by simp only at hvl⊢;omega),g2.take _,fun v hv=>g3 v (fW hv),g4⟩;have hs:=Eo (P:=P) (C:=C) (own:=ov) (G:=G) (dst:=some d) (ty':=ty') (pos:=pos) (af:=af) (gd:=gd) (t:=t) hu hv;have hnn:nm≠d:=fun e=>by subst e;rw[oJ] at hne;cases hne
 have r2:=r.dropB nm;have hf2:kE [d] (some d) tl (Sx.upB tb [(nm,none)]):=fun q hq=>by
  obtain⟨f1,f2⟩:=hf q hq;refine⟨f1,fun k B e1 e=>?_⟩;simp only[Sx.upB] at e;split at e
  .cases e
  .exact f2 k B e1 e
 have r3:=r2.new' (x:=⟨(ρ nm).a,j,(ρ nm).c⟩) (B':= .b ty s (ds.take j) lo) (os:=B) (ov':=ov) (f:= .rw d) (y:= .slice (ρ nm).a j (ρ nm).c) hf2 (bI.refl _) r.h (hcut.toBk omc) hBo
  (fun m B' hm e o ho hmo=>⟨ho,fun hc=>by
   simp only[Sx.upB] at e;split at e
   .cases e
   .rename_i hmn
    exact r.dj m nm B' _ e (s2 _ _ hb) hmn _ hmo hc⟩) (by simp[b9]) (r.putA (.slice (ρ nm).a j (ρ nm).c) hd)
 exact kO (hs a w (cC a) r.h) (hk.run _ G _ _ w r3)
def Nw(fr:aC)(own:aO)(cf:Cf):Option (Nat×Nat×TypeId×Nat×List DV×Bool×Int):=match c6 fr cf with
 |some ⟨some d, .slice t x none (some y) none,_,_,_,_⟩=>match eo tt t with
  |some ⟨.sl _ s' _,_,_,_⟩=>match bj (cd fr cf) x with
   |some (.rw nm)=>match jk fr own cf nm with
    |some (.b ty s ds lo)=>match bj (cd fr cf) y with
     |some (.d (.v (.int _ i)))=>bif Nat.beq s s'&&!Nat.beq nm d then some (d,nm,ty,s,ds,lo,i) else none
     |_=>none
    |_=>none
   |_=>none
  |_=>none
 |_=>none
def T2[fu:Fu]{ds:List DV}{i:Int}(ds':List DV)(k:Nat)(h:Nw fr own cf=some (d,nm,ty,s,ds,lo,i))(hi:i=(k:Nat))(hl:k<ds.length)(hd:ds.take k=ds')(hgo:cB tt n fu.n fr own cf (.rw d) [(nm,none),(d,some (.b ty s ds' lo))] [d]=⟨vc,fr',own',cf'⟩)(kk:aA prog GB C n Q0 fr' own' cf')
  (hv:autoParam (ak vc) fn._auto_1):aA prog GB C n Q0 fr own cf:=by
 subst hi hd;unfold Nw at h;split at h<;>try (cases h;done)
 rename_i hh;split at h<;>try (cases h;done)
 rename_i hT;split at h<;>try (cases h;done)
 rename_i hx;split at h<;>try (cases h;done)
 rename_i hb;split at h<;>try (cases h;done)
 rename_i hy;rw[cond_eq_ite] at h;split at h<;>cases h;rename_i hq;simp only[bW,iT] at hq
 cases aN hq.1
 have:=lf (fi _ _ hT) J;exact us hh (aHL hq.2 hx hb hy hl) hgo hv kk
end
section
variable {own:aO}
def jP{e:Exit}{ds:List DV}(hr:qh tt fr own fb.results.toList=some ds)(hd: ∀G y,Is G (fg ds) y->Is G rv y)(he:yE e=true:=by rfl):aA prog GB C n (eH C prog fb (jb C (fun v G'=>Is G' rv v))) fr own (.ex e []):=by
 refine⟨fun ρ G ov a w r=>?_⟩;obtain⟨vs,h1,h2⟩:=yx r hr;have hk:Is G rv (m9 vs):=hd _ _ (zF h2)
 cases e with
 |ret=>exact zD (C:=C) (n:=n) (fr:=cp a) (own:=ov) (G:=G) (K:=fun v G'=>Is G' rv v) h1 hk a w ⟨r.h,r.sz,cC a,r.df⟩
 |normal=>exact II (C:=C) (n:=n) (fr:=cp a) (own:=ov) (G:=G) (K:=fun v G'=>Is G' rv v) h1 hk a w ⟨r.h,r.sz,cC a,r.df⟩
 |_=>cases he
def Ro(fr:aC)(cf:Cf):Option (Int×IntKind):=match c6 fr cf with
 |some ⟨_, .convert t t' x,_,_,_,_⟩=>match eo tt t,eo tt t',bj (cd fr cf) x with
  |some ⟨.int k,_,_,_⟩,some ⟨.int k',_,_,_⟩,some (.d (.v (.int j p)))=>bif kq k j then some (p,k') else none
  |_,_,_=>none
 |_=>none
def cu[fu:Fu](u:Int)(h:Ro fr cf=some (p,k'))(e:k'.wrap p=u)(hgo:cB tt n fu.n fr own cf (.d (.v (.int k' u))) [] []=⟨vc,fr',own',cf'⟩)(k:aA prog GB C n Q0 fr' own' cf')
  (hv:autoParam (ak vc) cL._auto_1):aA prog GB C n Q0 fr own cf:=by
 unfold Ro at h;split at h<;>try (cases h;done)
 rename_i hh;split at h<;>try (cases h;done)
 rename_i k0 _ _ _ k1 _ _ _ j p0 hT hT' hx
 cases hk:kq k0 j with
 |false=>rw[hk] at h;cases h
 |true=>
  rw[hk,cond_true] at h;cases h;cases Fl hk;have:=yp (fi _ _ hT) J;have:=yp (fi _ _ hT') J;subst e;refine us hh (.x1 hx fun ρ G ov a w y _ r h1 h2=>?_) hgo hv k;rw[dk] at h2;subst h2;exact⟨_,dk.2 J,CG h1⟩
def UE(fr:aC)(cf:Cf):Option (Int×IntKind):=match c6 fr cf with
 |some ⟨_, .unOp .neg _ x,_,_,_,_⟩=>match bj (cd fr cf) x with
  |some (.d (.v (.int j p)))=>some (p,j)
  |_=>none
 |_=>none
def nu[fu:Fu](u:Int)(h:UE fr cf=some (p,k'))(e:k'.wrap (0-p)=u)(hgo:cB tt n fu.n fr own cf (.d (.v (.int k' u))) [] []=⟨vc,fr',own',cf'⟩)(k:aA prog GB C n Q0 fr' own' cf')
  (hv:autoParam (ak vc) cL._auto_1):aA prog GB C n Q0 fr own cf:=by
 unfold UE at h;split at h<;>try (cases h;done)
 rename_i hh;split at h<;>cases h;rename_i hx;subst e;exact us hh (.x1 hx fun ρ G ov a w y _ r h1 h2=>by
  rw[dk] at h2;subst h2;exact⟨_,dk.2 J,LC h1⟩) hgo hv k
end
def Pa(h:0<W.length:=by omega)(hz:W.getD (W.length-1) 0=0:=by omega):trimD W=trimD (W.take (W.length-1)):=by
 have:=LY (ds:=W) (n:=W.length) ⟨h,bJ _⟩ hz;rwa [dQ] at this
def Ez(hz:0<W.length->W.getD (W.length-1) 0≠0):trimD W=W:=by
 have:=Ug (ds:=W) (n:=W.length) (bJ _) hz;rwa [dQ] at this
theorem omo{p:Prop}(h:p:=by rw[hml]<;>rfl):p:=h
def uA(hl:ds.length<=1125899906842624:=by omega):PF GB prog 244 [bD ds] (bD (trimD ds)):=by
 refine fn func244 J J ntmps244 J J (fun C=>?_);refine lp (fu:=⟨5⟩) (X:=List Nat) (fun W=>[(0, .d (bD W))]) (fun W=>[]) (fun W=>trimD ds=trimD W/\W.length<=ds.length) (fun W=>W.length) ds J ⟨J,bJ _⟩ (fun _=>J) (fun W hk=>?_);obtain⟨h1,h2⟩:=hk;have hml:=b7 W;refine aj 4 (.d (vI (W.length:Nat))) J omo<|gx J<|cs (fu1:=⟨3⟩) 6 J J J (fun hg6=>?_) (fun hg6=>?_)
 .
  refine aj 9 (.d (vI (W.length:Nat))) J omo<|gx J<|ix _ J (cP (k:=W.length-1)) J<|br (fu1:=⟨7⟩) J J J (fun hc14=>?_) (fun hc14=>?_)
  .
   refine aj 17 (.d (vI (W.length:Nat))) J omo<|gx (fu:=⟨1⟩) J<|aj 18 (.d (vI (W.length-1:Nat))) J (omi we)<|gx J<|je (fu:=⟨0⟩) 0 (W.length-1) _ J J J J (r5 _) we omc J<|aj 19 (.d (bD (W.take (W.length-1)))) J (by show FX.d (.sl _)=FX.d (.sl _);simp)<|gx J<|at_ (W.take (W.length-1)) ⟨⟨by rw[h1,Pa],by rw[bT];omega⟩,(by rw[bT];omega)⟩
  .
   exact rz J (by rw[h1,Ez (fun _=>by omega)];rfl)
 .
  exact rz J (by rw[h1,Ez (fun _=>by omega)];rfl)
def YH{v:Value}(hd:bt ds)(h:Is G (bD ds) v): ∃x:SV,v=x.v/\oe G x ds:=by
 obtain⟨x,rfl,h1⟩:=JB.1 h;exact⟨x,J,hd,h1⟩
def Mq(hd:bt ds)(hb:ds.length<=1125899906842:=by omega):PF GB prog 273 [bD ds] (bD ds):=fun G vs _ hv=>by
 obtain⟨v,m,rfl,h1,h2⟩:=bh.1 hv
 cases dm.1 h2
 obtain⟨x,rfl,h3⟩:=YH hd h1;exact(YM h3 hb).mono fun v G' _ ⟨z,e,h⟩=>by subst e;exact JB.2 ⟨z,J,h.sl⟩
def az0(h:ds.length=0):dG ds:=by rw[cJ h];unfold dG;simp
def axB(h:0<ds.length):dG ds↔ds.getD (ds.length-1) 0≠0:=by
 unfold dG;rw[lY,aV,aQ we];simp
def aGG(a:Nat):trimD (dg a)=dg a:=axQ (eE a).2.2
def qb(h:(dg a).length<=1125899906842624:=by omega):PF GB prog 244 [dN a] (dN a):=(uA (ds:=dg a) h).to (by rw[aGG];rfl)
def jl[h:BN a i](hi:i<=1000000000:=by omega):(dg a).length<=218750001:=by have:=ji h.h;omega
def vj[h:BN a i](hi:i<=1000000000:=by decide):PF GB prog 238 [dN a] (dN a):=by
 have hla:=b7 (dg a);have hba:=jl (a:=a) hi;refine fn func238 J J ntmps238 J J (fun C=>?_);refine cl J (qb) J<|cl J (Mq (gt _)) J<|rz J J
theorem omt{p:Prop}(h:p:=by rw[hla]<;>rfl):p:=h
def E9(hd:bt ds)(hl:ds.length<=1125899906842624):PF GB prog 208 [bD ds] (vB (decide (dG ds))):=by
 have hla:=b7 ds;refine fn (fu:=⟨9⟩) func208 J J ntmps208 J J (fun C=>?_);refine aj 4 (.d (vI (ds.length:Nat))) J omt<|gx J<|cs (fu2:=⟨3⟩) 6 J J J (fun hg6=>?_) (fun hg6=>?_)
 .
  exact rz J (by rw[decide_eq_true (az0 we)];rfl)
 .
  refine aj 9 (.d (vI (ds.length:Nat))) J omt<|gx J<|ix _ J (cP (k:=ds.length-1)) J<|rz J (by show DV.v (.bool (decide _))=DV.v (.bool (decide _));congr 2;exact decide_eq_decide.2 (by rw[axB we];omega))
def A9(h:a<18446744073709551616:=by omega):PF GB prog 239 [.v (.int .u64 (a:Nat))] (dN a):=by
 refine fn (fu:=⟨11⟩) (hv:=by simp only[ak];exact oma) func239 J J ntmps239 J J (fun C=>?_);refine aj 6 (.d (.v (.int .u64 (a/4294967296:Nat)))) J okz<|gx J<|rf (fu:=⟨0⟩) J J<|aj 8 (.d (bD [a%4294967296,a/4294967296])) J okj<|gx J<|cl J (uA (ds:=[a%4294967296,a/4294967296]) omc) J<|rz J (lP (Ov h) (MD a))
theorem omT{p:Prop}(h:p:=by rw[hlb]<;>rfl):p:=h
def Qc[h:BN a i][k:BN b j](hi:i<=1000000000:=by decide)(hj:j<=1000000000:=by decide):PF GB prog 271 [dN a,dN b] (vI (i0 a b)):=by
 have hla:=b7 (dg a);have hba:=jl (a:=a) hi;have hlb:=b7 (dg b);have hbb:=jl (a:=b) hj;refine fn func271 J J ntmps271 J J (fun C=>?_);refine cl J (qb) J<|cl (fu:=⟨9⟩) J (qb) J<|aj 11 (.d (vI ((dg a).length:Nat))) J omt<|gx (fu:=⟨2⟩) J<|aj 13 (.d (vI ((dg b).length:Nat))) J omT<|gx J<|br (fu1:=⟨5⟩) (fu2:=⟨7⟩) J J J (fun hc14=>?_) (fun hc14=>?_)
 .
  refine aj 16 (.d (vI ((dg a).length:Nat))) J omt<|gx (fu:=⟨2⟩) J<|aj 18 (.d (vI ((dg b).length:Nat))) J omT<|gx J<|br J J J (fun hc19=>?_) (fun hc19=>?_)
  .
   exact rz J (by show DV.v (.int _ (-1))=_;rw[<-Iv,AD we];rfl)
  .
   exact rz J (by show DV.v (.int _ 1)=_;rw[<-Iv,Ay we];rfl)
 .
  have hl:(dg a).length=(dg b).length:=by omega
  refine aj 21 (.d (vI ((dg a).length:Nat))) J omt<|gx J<|lp (X:=Nat) (fun k=>[(5, .d (vI ((k:Nat)-1)))]) (fun k=>[]) (fun k=>k<=(dg a).length/\(dg a).drop k=(dg b).drop k) (fun k=>k) (dg a).length J ⟨bJ _,by rw[gT,hl,gT]⟩ (fun _=>J) (fun k hk=>?_);obtain⟨h1,h2⟩:=hk;refine br J J J (fun hc24=>?_) (fun hc24=>?_)
  .
   obtain⟨k,rfl⟩: ∃m,k=m+1:=⟨k-1,we⟩;refine ix _ J (cP (k:=k)) J<|ix _ J (cP (k:=k)) J<|br J J J (fun hc27=>?_) (fun hc27=>?_)
   .
    exact rz J (by show DV.v (.int _ (-1))=_;rw[AD ((ym hl we h2).1 we)];rfl)
   .
    refine ix _ J (cP (k:=k)) J<|ix _ J (cP (k:=k)) J<|br J J J (fun hc37=>?_) (fun hc37=>?_)
    .
     exact rz J (by show DV.v (.int _ 1)=_;rw[Ay ((ym hl we h2).2.1 we)];rfl)
    .
     exact at_ k ⟨⟨we,(ym (i:=k) hl we h2).2.2 we⟩,we⟩
  .
   exact rz rfl (by show DV.v (.int _ 0)=_;rw[Lj];rfl;obtain rfl:k=0:=we;rw[iZ,iZ] at h2;rw[<-c8 a,h2,c8])
def VL{a b i j:Nat}[h:BN a i][k:BN b j](hi:i<=1000000000:=by decide)(hj:j<=1000000000:=by decide):PF GB prog 235 [dN a,dN b] (dN (a+b)):=by
 have hla:=b7 (dg a);have hba:=jl (a:=a) hi;have hlb:=b7 (dg b);have hbb:=jl (a:=b) hj;refine fn (fu:=⟨6⟩) func235 J J ntmps235 J J (fun C=>?_);refine mg (fu:=⟨4⟩) (X:=Nat×Nat) (fun⟨A,B⟩=>[(0, .d (dN A)),(1, .d (dN B))]) (fun⟨A,B⟩=>[]) (fun⟨A,B⟩=>(dg B).length<=(dg A).length/\A+B=a+b/\(dg A).length<=218750001) [0,1] [] rfl ?_ (fun _=>J) (fun⟨A,B⟩ ⟨hm1,hm2,hm3⟩=>?_)
 .
  refine gx (fu:=⟨4⟩) J<|aj 10 (.d (vI ((dg a).length:Nat))) J omt<|gx (fu:=⟨2⟩) J<|aj 12 (.d (vI ((dg b).length:Nat))) J omT<|gx J<|br J J J (fun hc13=>?_) (fun hc13=>?_)
  .
   exact at_ ⟨b,a⟩ ⟨we,lV b a,hbb⟩
  .
   exact at_ ⟨a,b⟩ ⟨we,J,hba⟩
 .
  have hlA:=b7 (dg A);have hlB:=b7 (dg B);refine aj 17 (.d (vI ((dg A).length:Nat))) J (by rw[hlA]<;>rfl)<|gx (fu:=⟨1⟩) J<|aj 18 (.d (vI ((dg A).length+1:Nat))) J omj<|gx J<|mk (fu:=⟨13⟩) ((List.replicate ((dg A).length+1) 0).map dU) J J omI J<|aj 21 (.d (vI ((dg A).length:Nat))) J (by rw[hlA]<;>rfl)<|gx J<|lp (X:=List Nat×Nat×Nat) (fun⟨W,c,i⟩=>[(0, .d (dN A)),(1, .d (dN B)),(5, .rw 19),(6, .d (.v (.int .u64 (c:Nat)))),(20, .d (dN A)),(21, .d (vI ((dg A).length:Nat))),(22, .d (vI (i:Nat)))]) (fun⟨W,c,i⟩=>[(19,some (.b 301 1 (W.map dU) true))]) (fun⟨W,c,i⟩=>W.length=(dg A).length+1/\bt W/\c<=1/\i<=(dg A).length/\dv (W.take i)+4294967296^i*c=dv ((dg A).take i)+dv ((dg B).take i)) (fun⟨W,c,i⟩=>(dg A).length-i) ⟨List.replicate ((dg A).length+1) 0,0,0⟩ J ⟨omc, .replicate _,we,we,by simp[dv]⟩ (fun _=>J) (fun⟨W,c,i⟩ hk=>?_)
  try dsimp only at hk⊢
  obtain⟨h1,h2,h3,h4,h5⟩:=hk;have hlw:=b7 W;have hda:=ef A i;have hdb:=ef B i;obtain⟨t,ht⟩: ∃t,t=(dg A).getD i 0+(dg B).getD i 0+c:=⟨_,rfl⟩;refine br (fu2:=⟨10⟩) J J J (fun hc23=>?_) (fun hc23=>?_)
  .
   refine ix (fu:=⟨15⟩) _ J (fe) J<|mg (fu:=⟨6⟩) (X:=Unit) (fun _=>[(0, .d (dN A)),(1, .d (dN B)),(5, .rw 19),(6, .d (.v (.int .u64 (t:Nat)))),(20, .d (dN A)),(21, .d (vI ((dg A).length:Nat))),(22, .d (vI (i:Nat))),(7, .d (vI (i:Nat))),(8, .d (dU ((dg A).getD i 0)))]) (fun _=>[(19,some (.b 301 1 (W.map dU) true))]) (fun _=>True) [0,1,5,6,20,21,22,7,8] [19] rfl ?_ (fun _=>J) (fun _ _=>?_)
   .
    refine gx (fu:=⟨5⟩) J<|aj 33 (.d (vI ((dg B).length:Nat))) J (by rw[hlB]<;>rfl)<|gx J<|br J J J (fun hc34=>?_) (fun hc34=>?_)
    .
     refine ix _ J (fe) J<|aj 6 (.d (.v (.int .u64 (t:Nat)))) J (omi we)<|at_ () trivial
    .
     have hz:=qP (ds:=dg B) (i:=i);refine aj 6 (.d (.v (.int .u64 (t:Nat)))) J (omi we)<|at_ () trivial
   .
    refine aj 45 (.d (dU (t%4294967296))) J omj<|gx J<|sb (fu:=⟨5⟩) (hv:=by simp only[ak];exact oma) _ ((W.set i (t%4294967296)).map dU) J (fe) J okn J<|aj 48 (.d (.v (.int .u64 (t/4294967296:Nat)))) J okz<|gx J<|at_ ⟨W.set i (t%4294967296),t/4294967296,i+1⟩ (by dsimp only;exact⟨⟨by simpa using h1,h2.set _ we,we,we,by rw[ht];exact Pn we h5⟩,we⟩)
  .
   obtain rfl:i=(dg A).length:=by omega
   refine aj 52 (.d (vI ((dg A).length:Nat))) J (by rw[hlA]<;>rfl)<|gx (fu:=⟨2⟩) J<|aj 54 (.d (dU c)) J (omi we)<|gx J<|sb _ ((W.set (dg A).length c).map dU) J (fe) J okn J<|fz 19 J J<|cl J (uA (ds:=W.set (dg A).length c) omp) J<|rz J (by rw[<-hm2];exact lP (h2.set _ we) (Mp we h1 h5))
def aux{y:Nat}(hx:x<4294967296)(hy:y<=4294967296):IntKind.u64.wrap ((x:Int)-y)=(((if x<y then x+18446744073709551616-y else x-y):Nat):Int):=by
 rw[sA];split<;>omega
def Ah:i0 a b<0↔a<b:=by unfold i0;split<;>(try split)<;>omega
section
variable {own:aO}
def Ut(fr:aC)(cf:Cf):Option (Int×Int):=match c6 fr cf with
 |some ⟨_, .binOp .sub _ x y _,_,_,_,_⟩=>match bj (cd fr cf) x,bj (cd fr cf) y with
  |some (.d (.v (.int .u64 p))),some (.d (.v (.int .u64 q)))=>some (p,q)
  |_,_=>none
 |_=>none
def sd[fu:Fu](u:Int)(h:Ut fr cf=some (p,q))(e:IntKind.u64.wrap (p-q)=u)(hgo:cB tt n fu.n fr own cf (.d (.v (.int .u64 u))) [] []=⟨vc,fr',own',cf'⟩)(k:aA prog GB C n Q0 fr' own' cf')
  (hv:autoParam (ak vc) cL._auto_1):aA prog GB C n Q0 fr own cf:=by
 unfold Ut at h;split at h<;>try (cases h;done)
 rename_i hh;split at h<;>cases h;rename_i h1 h2;subst e;exact us hh (.yd fun ρ G ov a w r=>by
  obtain⟨y1,h3,h4⟩:=r.ev h1;obtain⟨y2,h5,h6⟩:=r.ev h2;rw[dk] at h4 h6;subst h4 h6;exact⟨_,dk.2 J,ly h3 h5 fun w=>J⟩) hgo hv k
end
def JY(u:Nat):(u:Int).fdiv (2^min (63:Int).toNat IntKind.u64.bits)=((u/9223372036854775808:Nat):Int):=by
 rw[show(2:Int)^min (63:Int).toNat IntKind.u64.bits=((9223372036854775808:Nat):Int) from J,lX _ oma];rfl
def aKm[h:BN a ia][k:BN b ib](hb:b<=a)(hi:ia<=1000000000:=by decide)(hj:ib<=1000000000:=by decide):PF GB prog 272 [dN a,dN b] (dN (a-b)):=by
 have hla:=b7 (dg a);have hba:=jl (a:=a) hi;have hlb:=b7 (dg b);have hbb:=jl (a:=b) hj;refine fn (fu:=⟨9⟩) func272 J J ntmps272 J J (fun C=>?_);refine aj 12 (.d (vI ((dg a).length:Nat))) J omt<|gx J<|mk (fu:=⟨13⟩) ((List.replicate (dg a).length 0).map dU) J J omI J<|aj 15 (.d (vI ((dg a).length:Nat))) J omt<|gx J<|lp (X:=List Nat×Nat×Nat) (fun⟨W,c,i⟩=>[(0, .d (dN a)),(1, .d (dN b)),(5, .rw 13),(6, .d (.v (.int .u64 (c:Nat)))),(14, .d (dN a)),(15, .d (vI ((dg a).length:Nat))),(16, .d (vI (i:Nat)))]) (fun⟨W,c,i⟩=>[(13,some (.b 301 1 (W.map dU) true))]) (fun⟨W,c,i⟩=>W.length=(dg a).length/\bt W/\c<=1/\i<=(dg a).length/\dv (W.take i)+dv ((dg b).take i)=dv ((dg a).take i)+4294967296^i*c) (fun⟨W,c,i⟩=>(dg a).length-i) ⟨List.replicate (dg a).length 0,0,0⟩ J ⟨omc, .replicate _,we,we,by simp[dv]⟩ (fun _=>J) (fun⟨W,c,i⟩ hk=>?_)
 try dsimp only at hk⊢
 obtain⟨h1,h2,h3,h4,h5⟩:=hk;have hlw:=b7 W;have hda:=ef a i;have hdb:=ef b i;obtain⟨t,ht⟩: ∃t,t=(dg b).getD i 0+c:=⟨_,rfl⟩;obtain⟨v,hv⟩: ∃v:Nat,v=if(dg a).getD i 0<t then(dg a).getD i 0+18446744073709551616-t else(dg a).getD i 0-t:=⟨_,rfl⟩
 obtain⟨d,hd⟩: ∃d:Nat,d=if(dg a).getD i 0<(dg b).getD i 0+c then(dg a).getD i 0+4294967296-((dg b).getD i 0+c) else(dg a).getD i 0-((dg b).getD i 0+c):=⟨_,rfl⟩
 obtain⟨c2,hc2⟩: ∃d:Nat,d=if(dg a).getD i 0<(dg b).getD i 0+c then 1 else 0:=⟨_,rfl⟩
 have hvd:v%4294967296=d:=by rw[hv,hd,<-ht];split<;>omega
 have hvc:v/9223372036854775808=c2:=by rw[hv,hc2,<-ht];split<;>omega
 refine br J J J (fun hc17=>?_) (fun hc17=>?_)
 .
  refine ix (fu:=⟨12⟩) _ J (fe) J<|mg (fu:=⟨5⟩) (X:=Unit) (fun _=>[(0, .d (dN a)),(1, .d (dN b)),(5, .rw 13),(6, .d (.v (.int .u64 (c:Nat)))),(14, .d (dN a)),(15, .d (vI ((dg a).length:Nat))),(16, .d (vI (i:Nat))),(7, .d (vI (i:Nat))),(8, .d (dU ((dg a).getD i 0))),(9, .d (.v (.int .u64 (t:Nat))))]) (fun _=>[(13,some (.b 301 1 (W.map dU) true))]) (fun _=>True) [0,1,5,6,14,15,16,7,8,9] [13] rfl ?_ (fun _=>J) (fun _ _=>?_)
  .
   refine gx (fu:=⟨5⟩) J<|aj 24 (.d (vI ((dg b).length:Nat))) J omT<|gx J<|br J J J (fun hc25=>?_) (fun hc25=>?_)
   .
    refine ix _ J (fe) J<|aj 9 (.d (.v (.int .u64 (t:Nat)))) J (omi we)<|at_ () trivial
   .
    have hz:=qP (ds:=dg b) (i:=i);refine aj 9 (.d (.v (.int .u64 (t:Nat)))) J (omi we)<|at_ () trivial
  .
   refine sd (fu:=⟨9⟩) ((v:Nat):Int) J (by rw[hv];exact aux hda we) J<|aj 40 (.d (dU d)) J (omi we)<|gx J<|sb (fu:=⟨5⟩) (hv:=by simp only[ak];exact oma) _ ((W.set i d).map dU) J (fe) J okn J<|aj 43 (.d (.v (.int .u64 (c2:Nat)))) J (by rw[JY,hvc])<|gx J<|at_ ⟨W.set i d,c2,i+1⟩ (by dsimp only;exact⟨⟨by simpa using h1,h2.set _ (by rw[hd];split<;>omega),by rw[hc2];split<;>omega,we,QQ (gt a) (gt b) we h3 h5 hd hc2⟩,we⟩)
 .
  obtain rfl:i=(dg a).length:=by omega
  refine fz 13 J J<|cl J (uA (ds:=W)) J<|rz J (lP h2 (SO h2 h1 hb h5))
theorem ozb{p:Prop}(h:p:=by have:=Ah (a:=a) (b:=b);omega):p:=h
def N1[h:BN a i][k:BN b j](hi:i<=1000000000:=by decide)(hj:j<=1000000000:=by decide):PF GB prog 236 [dN a,dN b] (.tp [dN (a-b),vB (decide (b<=a))]):=by
 have hla:=b7 (dg a);have hba:=jl (a:=a) hi;have hlb:=b7 (dg b);have hbb:=jl (a:=b) hj;refine fn func236 J J ntmps236 J J (fun C=>?_);refine cl J (Qc (a:=a) (b:=b) hi hj) J<|br J J J (fun hc9=>?_) (fun hc9=>?_)
 .
  exact rz J (by rw[show a-b=0 by have:=Ah (a:=a) (b:=b);omega,decide_eq_false ozb,nD];rfl)
 .
  refine cl J (qb) J<|cl J (qb) J<|cl J (aKm ozb hi hj) J<|rz J (by rw[decide_eq_true ozb];rfl)
def yc[h:BN a ia][k:BN b ib](hi:ia<=1000000000:=by decide)(hj:ib<=1000000000:=by decide):PF GB prog 180 [dN a,dN b] (dN (a*b)):=by
 have hla:=b7 (dg a);have hba:=jl (a:=a) hi;have hlb:=b7 (dg b);have hbb:=jl (a:=b) hj;refine fn func180 J J ntmps180 J J (fun C=>?_);refine cl J (qb) J<|cl (fu:=⟨8⟩) J (qb) J<|aj 16 (.d (vI ((dg a).length:Nat))) J omt<|gx (fu:=⟨2⟩) J<|aj 18 (.d (vI ((dg b).length:Nat))) J omT<|gx (fu:=⟨1⟩) J<|aj 19 (.d (vI ((dg a).length+(dg b).length:Nat))) J omj<|gx J<|mk (fu:=⟨8⟩) ((List.replicate ((dg a).length+(dg b).length) 0).map dU) J J omI J<|aj 22 (.d (vI ((dg a).length:Nat))) J omt<|gx J<|lp (X:=List Nat×Nat) (fun⟨W,i⟩=>[(0, .d (dN a)),(1, .d (dN b)),(5, .rw 20),(21, .d (dN a)),(22, .d (vI ((dg a).length:Nat))),(23, .d (vI (i:Nat)))]) (fun⟨W,i⟩=>[(20,some (.b 301 1 (W.map dU) true))]) (fun⟨W,i⟩=>W.length=(dg a).length+(dg b).length/\bt W/\i<=(dg a).length/\dv (W.take (i+(dg b).length))=dv ((dg a).take i)*b) (fun⟨W,i⟩=>(dg a).length-i) ⟨List.replicate ((dg a).length+(dg b).length) 0,0⟩ J ⟨omc, .replicate _,we,by rw[qR,zp];simp[dv]⟩ (fun _=>J) (fun⟨W,i⟩ hk=>?_)
 try dsimp only at hk⊢
 obtain⟨h1,h2,h3,h4⟩:=hk;refine br J J J (fun hc24=>?_) (fun hc24=>?_)
 .
  refine ix (fu:=⟨15⟩) _ J (fe) J<|aj 29 (.d (vI ((dg b).length:Nat))) J omT<|gx J<|lp (X:=List Nat×Nat×Nat) (fun⟨W2,c,k⟩=>[(0, .d (dN a)),(1, .d (dN b)),(5, .rw 20),(6, .d (vI (i:Nat))),(7, .d (dU ((dg a).getD i 0))),(8, .d (.v (.int .u64 (c:Nat)))),(21, .d (dN a)),(22, .d (vI ((dg a).length:Nat))),(23, .d (vI (i:Nat))),(28, .d (dN b)),(29, .d (vI ((dg b).length:Nat))),(30, .d (vI (k:Nat)))]) (fun⟨W2,c,k⟩=>[(20,some (.b 301 1 (W2.map dU) true))]) (fun⟨W2,c,k⟩=>W2.length=(dg a).length+(dg b).length/\bt W2/\c<4294967296/\k<=(dg b).length/\dv (W2.take (i+(dg b).length))+4294967296^(i+k)*c=dv ((dg a).take i)*b+(dg a).getD i 0*(4294967296^i*dv ((dg b).take k))) (fun⟨W2,c,k⟩=>(dg b).length-k) ⟨W,0,0⟩ J ⟨h1,h2,we,we,by rw[h4];simp[dv]⟩ (fun _=>J) (fun⟨W2,c,k⟩ hk=>?_)
  try dsimp only at hk⊢
  obtain⟨g1,g2,g3,g4,g5⟩:=hk;have hlw:=b7 W2;have hw:=g2.get (i+k);have hda:=ef a i;have hdb:=ef b k;refine br (fu2:=⟨10⟩) J J J (fun hc31=>?_) (fun hc31=>?_)
  .
   refine ix (fu:=⟨13⟩) (hv:=by simp only[ak];exact⟨⟨we,we⟩,⟨(B8 _ _),(Aw (ef _ _) (ef _ _))⟩⟩) _ J (fe) J<|?_;obtain⟨p,hp⟩: ∃p,p=(dg a).getD i 0*(dg b).getD k 0:=⟨_,rfl⟩;have hp1:p<=18446744065119617025:=hp▸F8 hda hdb;refine aj 40 (.d (.v (.int .u64 (p:Nat)))) J (by rw[hp,jQ])<|gx J<|lb (fu:=⟨3⟩) _ J (cP (k:=i+k)) J<|?_;obtain⟨t,ht⟩: ∃t,t=p+W2.getD (i+k) 0+c:=⟨_,rfl⟩;refine aj 49 (.d (.v (.int .u64 (t:Nat)))) J (omi we)<|gx (fu:=⟨11⟩) J<|aj 55 (.d (dU (t%4294967296))) J omj<|gx J<|sb (fu:=⟨5⟩) (hv:=by simp only[ak];exact oma) _ ((W2.set (i+k) (t%4294967296)).map dU) J (cP (k:=i+k)) J (by(rw[show((i:Int)+k).toNat=i+k by omega,<-jI])<;>rfl) J<|aj 58 (.d (.v (.int .u64 (t/4294967296:Nat)))) J okz<|gx J<|at_ ⟨W2.set (i+k) (t%4294967296),t/4294967296,k+1⟩ okr
  .
   obtain rfl:k=(dg b).length:=by omega
   refine aj 63 (.d (vI ((dg b).length:Nat))) J omT<|gx (fu:=⟨3⟩) J<|aj 66 (.d (dU c)) J (omi we)<|gx J<|sb _ ((W2.set (i+(dg b).length) c).map dU) J (cP (k:=i+(dg b).length)) J (by(rw[show((i:Int)+((dg b).length:Nat)).toNat=i+(dg b).length by omega,<-jI])<;>rfl) J<|at_ ⟨W2.set (i+(dg b).length) c,i+1⟩ okN
 .
  obtain rfl:i=(dg a).length:=by omega
  refine fz 20 J J<|cl J (uA (ds:=W)) J<|rz J (lP h2 okA)
def Z8{h l y:Nat}(hh:h<y)(hl:l<4294967296)(hy:y<4294967296):PF GB prog 245 [.v (.int .u32 (h:Int)), .v (.int .u32 (l:Int)), .v (.int .u32 (y:Int))] (.tp [dU ((h*4294967296+l)/y),dU ((h*4294967296+l)%y)]):=by
 refine fn (fu:=⟨11⟩) func245 J J ntmps245 J J (fun C=>?_);refine kT 10 J we<|gx (fu:=⟨4⟩) J<|kF 14 J we<|gx (fu:=⟨11⟩) (hv:=by simp only[ak];exact⟨we,oma⟩) J<|aj 19 (.d (.v (.int .u64 (h*2^32:Nat)))) J oms<|gx (fu:=⟨3⟩) J<|aj 22 (.d (.v (.int .u64 (l+h*2^32:Nat)))) J (congrArg (fun z:Nat=>FX.d (.v (.int .u64 (z:Int)))) (by rw[BitVec.or_comm];exact rD 64 l h 32 hl omu)) ?_;obtain⟨t,ht⟩: ∃t,t=h*4294967296+l:=⟨_,rfl⟩;have hq:t/y<4294967296:=by rw[kR we];have:=gU 4294967296 (show h+1<=y from hh);omega
 have hr:t%y<y:=dK _ we;refine aj 22 (.d (.v (.int .u64 (t:Nat)))) J (by show FX.d (.v (.int _ _))= .d (.v (.int _ _));congr 3;rw[ht];omega)<|gx (hv:=by simp only[ak];exact⟨⟨⟨⟨we,⟨we,we,we⟩⟩,we⟩,⟨we,we⟩⟩,omd⟩) J<|rz J (by show DV.tp [.v (.int _ _), .v (.int _ _)]= .tp [.v (.int _ _), .v (.int _ _)];rw[<-ht,<-sT,<-Int.natCast_emod];generalize t/y=q at*;generalize t%y=r at*;congr 4<;>(first|omega|(congr 3;omega)))
def aDL{A r i:Nat}(d:Nat)(hb:0<b):(A*4294967296+d)/b=A/b*4294967296+(A%b*4294967296+d)/b/\(A*4294967296+d)%b=(A%b*4294967296+d)%b:=by
 have h:=rJ A b;have e:A*4294967296+d=(A%b*4294967296+d)+b*(A/b*4294967296):=by
  rw[<-cY,Nat.add_right_comm,<-dY,lV (A%b),h]
 rw[e,qZ _ _ hb,qW];exact⟨lV _ _,J⟩
def PC(h:i<ds.length):dv (ds.drop i)=dv (ds.drop (i+1))*4294967296+ds.getD i 0:=by
 rw[bK h,aV,aQ h];simp only[dv,lK];omega
def Mr{q:Nat}(h:i<W.length):dv ((W.set i q).drop i)=dv (W.drop (i+1))*4294967296+q:=by
 rw[PC (by rw[bQ];exact h),tN we,AY h]
def W1(hb:0<b)(hk:k<(dg a).length)(hl:W.length=(dg a).length)(h:dv (W.drop (k+1))=dv ((dg a).drop (k+1))/b):
  dv ((W.set k ((dv ((dg a).drop (k+1))%b*4294967296+(dg a).getD k 0)/b)).drop k)=dv ((dg a).drop k)/b/\dv ((dg a).drop k)%b=(dv ((dg a).drop (k+1))%b*4294967296+(dg a).getD k 0)%b:=by
 have:=aDL (A:=dv ((dg a).drop (k+1))) (r:=0) (i:=0) ((dg a).getD k 0) hb;rw[Mr we,h,PC hk,this.1,this.2];exact⟨J,J⟩
def yS:i0 a b<0↔a<b:=by unfold i0;split<;>(try split)<;>omega
def Ar:0<i0 a b↔b<a:=by unfold i0;split<;>(try split)<;>omega
def Im(hx:x<4294967296):PF GB prog 274 [dU x] (vI (32-(bl x:Int))):=by
 intro G vs hg hv;obtain⟨v,m,rfl,h1,h2⟩:=bh.1 hv;rw[dm] at h2;subst h2;rw[aI.1 h1];exact(aya hx).mono fun v G' _ h=>aI.2 h
def U5(h:4294967296^k<=a):k<(dg a).length:=by
 have h1:=sG a;rcases gN k (dg a).length with q|q
 .exact q
 .have:4294967296^(dg a).length<=4294967296^k:=cZ oma q
  omega
def MA(hL:L=(dg v).length)(h1:1<=L):(dg v).getD (L-1) 0=v/4294967296^(L-1)/\0<v/4294967296^(L-1):=by
 have h:=Gb (gt v) (L-1);rw[qP (by omega:(dg v).length<=L-1+1),c8,uK,gK] at h;have h2:=sG v;rw[<-hL] at h2;rw[nQ (show v<4294967296^(L-1+2) from cM h2 (cZ oma we)),uK,gK] at h;have h3:=wT (eE v).2.2 (by intro e;rw[e] at hL;simp at hL;omega);rw[c8,<-hL] at h3;exact⟨h.symm,Nat.div_pos h3 (iX oma)⟩
def Gk(h1:1<=n)(h:R<4294967296^(n+1)):R/4294967296^(n-1)=(dg R).getD (n-1) 0+(dg R).getD n 0*4294967296:=by
 have e:=Gb (gt R) (n-1);rw[c8,show n-1+1=n by omega,nQ (show R<4294967296^(n-1+2) by rwa [show n-1+2=n+1 by omega]),uK,gK,cW] at e;exact e
def Vb{R v j L:Nat}(hL:L=(dg v).length)(h1:1<=L)(hR:R<v*4294967296^(j+1)):R/(v*4294967296^j)<=min (R/4294967296^(L+j-1)/(v/4294967296^(L-1))) 4294967295:=by
 have ht:=(MA hL h1).2;have hp:0<4294967296^j:=iX oma;have hv0:0<v:=by
  rcases fL v with q|q
  .subst q;simp at ht
  .exact q
 have hvp:0<v*4294967296^j:=iY hv0 hp;refine Nat.le_min.2 ⟨?_,?_⟩
 .rw[sY ht,sY (iX oma)]
  have h3:v/4294967296^(L-1)*4294967296^(L-1)<=v:=Nat.div_mul_le_self _ _;have h4:R/(v*4294967296^j)*(v*4294967296^j)<=R:=Nat.div_mul_le_self _ _;rw[show L+j-1=L-1+j by omega,fT]
  calc R/(v*4294967296^j)*(v/4294967296^(L-1))*(4294967296^(L-1)*4294967296^j)
    =R/(v*4294967296^j)*((v/4294967296^(L-1)*4294967296^(L-1))*4294967296^j):=by simp only[cY]
   _<=R/(v*4294967296^j)*(v*4294967296^j):=gU _ (bR _ h3)
   _<=R:=h4
 .have:R/(v*4294967296^j)<4294967296:=by
   rw[kR hvp];rw[iL] at hR;rwa [cW,cY]
  omega
def FH(hV:0<V)(h:R<V*g):R/V<g:=by
 rw[kR hV,cW];exact h
def azN(hV:0<V)(h1:R/V<=g)(h2:V*g<=R):g=R/V:=by
 have:g<=R/V:=by rw[sY hV,cW];exact h2
 omega
def R3{R0 R v j g:Nat}{W:List Nat}(hj:j<W.length)(h:R0=R+dv (W.drop (j+1))*4294967296^(j+1)*v)(hv:0<v*4294967296^j)(hg:g=R/(v*4294967296^j)):
  R0=(R-v*4294967296^j*g)+dv ((W.set j g).drop j)*4294967296^j*v/\R-v*4294967296^j*g<v*4294967296^j:=by
 have h1:=rJ R (v*4294967296^j);have h2:=dK R hv;rw[<-hg] at h1;refine⟨?_,we⟩;rw[Mr hj,dY,dY,h,iL];have e:g*4294967296^j*v=v*4294967296^j*g:=by simp only[cY,nZ,cW]
 have e2:dv (W.drop (j+1))*(4294967296^j*4294967296)*v=dv (W.drop (j+1))*4294967296*4294967296^j*v:=by simp only[cY,nZ,cW]
 rw[e,e2];omega
def azI{a b s R:Nat}{D:Nat}(hR:R<b*2^s)(h:a*2^s=R+D*(b*2^s)):D=a/b/\R/2^s=a%b:=by
 have hp:0<2^s:=iX oma;have hb:0<b:=by
  rcases fL b with q|q
  .subst q;simp at hR
  .exact q
 have h1:a=R/2^s+D*b:=by
  have:=congrArg (· /2^s) h;rw[Nat.mul_div_cancel _ hp,<-cY,Nat.add_mul_div_right _ _ hp] at this;exact this
 have h2:R/2^s<b:=by rw[kR hp];exact hR
 have h3:R/2^s+b*D=a:=by rw[cW b];exact h1.symm
 have:=(Nat.div_mod_unique hb).2 ⟨h3,h2⟩;exact⟨this.1.symm,this.2.symm⟩
def Wo{a b s:Nat}(hl:(dg b).length<=(dg a).length)(h2:1<=(dg b).length):a*2^s<b*2^s*4294967296^((dg a).length-(dg b).length+1):=by
 have h1:=sG a;have h3:=wT (eE b).2.2 (by intro e;rw[e] at h2;simp at h2);rw[c8] at h3;have h4:4294967296^(dg a).length<=b*4294967296^((dg a).length-(dg b).length+1):=by
  rw[show(dg a).length=((dg b).length-1)+((dg a).length-(dg b).length+1) by omega,fT];rw[show(dg b).length-1+((dg a).length-(dg b).length+1)-(dg b).length+1=(dg a).length-(dg b).length+1 by omega];exact bR _ h3
 rw[nR];exact nV (cM h1 h4) (iX oma)
def Ua(x j:Nat):x*2^(32*j)=x*4294967296^j:=by rw[tJ]
def WJ(h:R<4294967296^(L+j+1))(h1:1<=L):R/4294967296^(L+j-1)<18446744073709551616:=by
 rw[kR (iX oma),show(18446744073709551616:Nat)=4294967296^2 from J,<-fT];rwa [show 2+(L+j-1)=L+j+1 by omega]
def aBx(hL:L=(dg v).length)(hR:R<v*4294967296^(j+1)):R<4294967296^(L+j+1):=by
 have h:=sG v;rw[<-hL] at h;rw[lL,fT];exact cM hR (bR _ (fR h))
theorem okI{p:Prop}(h:p:=by show _<4294967296;omega):p:=h
def Va{a b ia ib:Nat}[ha:BN a ia][hb:BN b ib](hi:ia<=500000000)(hj:ib<=500000000)(h2:1<=(dg b).length)(hl:(dg b).length<=(dg a).length):PF GB prog 246 [dN a,dN b] (.tp [dN (a/b),dN (a%b)]):=by
 have hla:=b7 (dg a);have hlb:=b7 (dg b);have hba:=ji ha.h;have hba':(dg a).length<=110000000:=by omega
 refine fn func246 J J ntmps246 J J (fun C=>?_);refine ix _ J (cP (k:=(dg b).length-1)) J<|cl (fu:=⟨0⟩) J (Im (ef b ((dg b).length-1))) J<|?_;obtain⟨s,hs⟩: ∃s:Nat,s=32-bl ((dg b).getD ((dg b).length-1) 0):=⟨_,rfl⟩;have hs32:s<=32:=by omega
 refine aj 22 (.d (vI (s:Nat))) J (by show FX.d (.v (.int _ _))= .d (.v (.int _ _));congr 3;have:=nf.2 (show(dg b).getD ((dg b).length-1) 0<2^32 from ef b _);omega)<|gx J<|cl J (En (a:=b) (k:=s) (ia:=ib) we we) J<|cl (fu:=⟨0⟩) J (En (a:=a) (k:=s) (ia:=ia) we we) J<|?_;obtain⟨v,hv⟩: ∃v,v=b*2^s:=⟨_,rfl⟩;obtain⟨R0,hR0⟩: ∃R0,R0=a*2^s:=⟨_,rfl⟩;refine aj 25 (.d (dN v)) J (by rw[hv])<|aj 28 (.d (dN R0)) J (by rw[hR0]) ?_;obtain⟨L,hL⟩: ∃L,L=(dg v).length:=⟨_,rfl⟩;have hlv:((dg v).map dU).length=L:=by rw[b7,hL]
 have hps:2^s<=2^32:=cZ oma hs32;have hpp:0<2^s:=iX oma;have hst:=Wo (a:=a) (b:=b) (s:=s) hl h2;rw[<-hv,<-hR0] at hst;have hvb:v<2^(7*(ib+32)):=by rw[hv];exact cM (nS hb.h hps oma) (by rw[<-fT];exact cZ oma we)
 have hRb:R0<2^(7*(ia+32)):=by rw[hR0];exact cM (nS ha.h hps oma) (by rw[<-fT];exact cZ oma we)
 have hbp:0<b:=fZ (fun q=>by subst q;rw[sj] at h2;simp at h2);have hvp:0<v:=hv▸iY hbp hpp;have hLp:1<=L:=by rw[hL];exact U5 (k:=0) (by rw[uU];exact hvp)
 have htop:=MA hL hLp;haveI hvB:BN v (ib+32):=⟨hvb⟩;have hLb:=ji hvb;have hLb':L<=110000000:=by omega
 have htl:=ef v (L-1);refine gx (fu:=⟨9⟩) J<|aj 31 (.d (vI (L:Nat))) J (by rw[hlv];rfl)<|gx J<|ix (fu:=⟨2⟩) _ J (cP (k:=L-1)) J<|aj 35 (.d (.v (.int .u64 (v/4294967296^(L-1):Nat)))) J (by rw[htop.1]) ?_;rw[htop.1] at htl;refine gx (fu:=⟨11⟩) J<|?_;obtain⟨m,hm⟩: ∃m,m=(dg a).length-(dg b).length+1:=⟨_,rfl⟩;rw[<-hm] at hst;have hrl:(List.replicate ((m:Nat):Int).toNat (DV.v (.int .u32 0))).length=m:=by rw[aL,cK]
 refine aj 41 (.d (vI (m:Nat))) J (omi we)<|gx J<|mk ((List.replicate m 0).map dU) J J omI J<|lp (X:=List Nat×Nat×Nat) (fun⟨W,R,k⟩=>[(6, .d (vI (s:Nat))),(7, .d (dN v)),(8, .d (dN R)),(9, .d (.v (.int .u64 (v/4294967296^(L-1):Nat)))),(10, .rw 42),(11, .d (vI ((k:Nat)-1)))]) (fun⟨W,R,k⟩=>[(42,some (.b 301 1 (W.map dU) true))]) (fun⟨W,R,k⟩=>W.length=m/\bt W/\k<=m/\R0=R+dv (W.drop k)*4294967296^k*v/\R<v*4294967296^k/\R<=R0) (fun⟨W,R,k⟩=>k) ⟨List.replicate m 0,R0,m⟩ J ⟨omc, .replicate _,bJ _,by simp[dv],hst,bJ _⟩ (fun _=>J) (fun⟨W,R,k⟩ hk=>?_);dsimp only at hk⊢;obtain⟨h1,h2',h3,h4,h5,h6⟩:=hk;have hlw:=b7 W;refine br (fu1:=⟨10⟩) J J J (fun hc47=>?_) (fun hc47=>?_)
 .
  obtain⟨j,rfl⟩: ∃j,k=j+1:=⟨k-1,we⟩;have hvj:0<v*4294967296^j:=iY hvp (iX oma);have hge:=Vb hL hLp h5;have hlen:=aBx hL h5;have hlr:((dg R).map dU).length=(dg R).length:=b7 _;haveI hRB:BN R (ia+32):=⟨we⟩;have hq32:R/(v*4294967296^j)<4294967296:=by omega
  have hz1:=Int.natCast_nonneg (R/4294967296^(L+j-1));have hz2:=Int.natCast_nonneg (R/4294967296^(L+j-1)/(v/4294967296^(L-1)));refine aj 11 (.d (vI (j:Nat))) J (omi we)<|mg (fu:=⟨6⟩) (hv:=fun _ _=>by simp only[ak];exact⟨we,(by have:=WJ hlen hLp;omega),we⟩) (X:=Unit) (fun _=>[(6, .d (vI (s:Nat))),(7, .d (dN v)),(8, .d (dN R)),(9, .d (.v (.int .u64 (v/4294967296^(L-1):Nat)))),(10, .rw 42),(11, .d (vI (j:Nat))),(12, .d (.v (.int .u64 (R/4294967296^(L+j-1):Nat))))]) (fun _=>[(42,some (.b 301 1 (W.map dU) true))]) (fun _=>True) [6,7,8,9,10,11,12] [42] rfl ?_ (fun _=>J) (fun _ hm=>?_)
  .
   refine gx (fu:=⟨4⟩) J<|aj 51 (.d (vI (L:Nat))) J (by rw[hlv];rfl)<|gx (fu:=⟨2⟩) J<|aj 53 (.d (vI (L+j:Nat))) J omj<|gx (fu:=⟨8⟩) J<|aj 56 (.d (vI ((dg R).length:Nat))) J (by rw[hlr];rfl)<|gx J<|br (fu2:=⟨6⟩) J J J (fun hc57=>?_) (fun hc57=>?_)
   .
    have hd0:=ef R (L+j-1);have hd1:=ef R (L+j);refine ix (hv:=by simp only[ak];exact⟨⟨we,oma⟩,we⟩) _ J (cP (k:=L+j)) J<|ix (fu:=⟨3⟩) _ J (cP (k:=L+j-1)) J<|aj 70 (.d (.v (.int .u64 ((dg R).getD (L+j-1) 0+(dg R).getD (L+j) 0*4294967296:Nat)))) J (congrArg (fun z:Nat=>FX.d (.v (.int .u64 (z:Int)))) (by rw[rp _ 32 oma omG J,BitVec.or_comm];exact rD 64 ((dg R).getD (L+j-1) 0) ((dg R).getD (L+j) 0) 32 hd0 omu))<|gx J<|aj 12 (.d (.v (.int .u64 (R/4294967296^(L+j-1):Nat)))) J (by rw[Gk we hlen])<|at_ () trivial
   .
    refine aj 74 (.d (vI ((dg R).length:Nat))) J (by rw[hlr];rfl)<|gx J<|br J J J (fun hc75=>?_) (fun hc75=>?_)
    .
     have hd0:=ef R (L+j-1);refine ix _ J (cP (k:=L+j-1)) J<|aj 12 (.d (.v (.int .u64 (R/4294967296^(L+j-1):Nat)))) J (by rw[Gk we hlen,qP (by omega:(dg R).length<=L+j),kS,gK])<|at_ () trivial
    .
     refine aj 12 (.d (.v (.int .u64 (R/4294967296^(L+j-1):Nat)))) J (by rw[Gk we hlen,qP (by omega:(dg R).length<=L+j),qP (by omega:(dg R).length<=L+j-1)];rfl)<|at_ () trivial
  .
   obtain⟨g0,hg0'⟩: ∃g0,g0=min (R/4294967296^(L+j-1)/(v/4294967296^(L-1))) 4294967295:=⟨_,rfl⟩;rw[<-hg0'] at hge;have hg0:=hge;have hg1:g0<=4294967295:=by omega
   refine aj 85 (.d (.v (.int .u64 (g0:Nat)))) J (by show FX.d (.v (.int _ _))= .d (.v (.int _ _));congr 3;rw[<-sT];split<;>omega)<|gx J<|cl J (vq (u:=g0)) J<|cl (fu:=⟨2⟩) J (qp (ia:=ib+32) (ib:=32) (hb:=⟨rk okI⟩) we oma) J<|aj 91 (.d (vI (32*j:Nat))) J omj<|gx J<|cl (fu:=⟨0⟩) J (En (k:=32*j) (ia:=ib+64) (ha:=⟨show _<2^(7*(ib+32+32)) from kg hvb (rk okI)⟩) we we) J<|aj 92 (.d (dN (v*4294967296^j*g0))) J (by rw[Ua,nR])<|gx J<|lp (X:=Nat) (fun g=>[(6, .d (vI (s:Nat))),(7, .d (dN v)),(8, .d (dN R)),(9, .d (.v (.int .u64 (v/4294967296^(L-1):Nat)))),(10, .rw 42),(11, .d (vI (j:Nat))),(14, .d (.v (.int .u64 (g:Nat)))),(15, .d (dN (v*4294967296^j*g)))]) (fun g=>[(42,some (.b 301 1 (W.map dU) true))]) (fun g=>R/(v*4294967296^j)<=g/\g<=4294967295) (fun g=>g) g0 J ⟨hg0,we⟩ (fun _=>J) (fun g hk=>?_);obtain⟨g1,g2⟩:=hk;have hlw:=b7 W;refine cl J (yj (a:=v*4294967296^j*g) (b:=R) (by have:=Af (a:=v*4294967296^j*g) (k:=L+j+1) (by have h1:=sG v;rw[<-hL] at h1;rw[iL,fT];exact sS (nV h1 (iX oma)) we);omega) (by have:=Af hlen;omega)) J<|br (fu1:=⟨7⟩) (v1:=fun hc96=>by simp only[ak];exact(by have h:=FH hvj (Ar.1 hc96);have h1:1<=g:=dZ (aS _) h;omega)) (fu2:=⟨11⟩) J J J (fun hc96=>?_) (fun hc96=>?_)
   .
    have hgd:=FH hvj (Ar.1 hc96);have hg1p:1<=g:=dZ (aS _) hgd;refine aj 98 (.d (.v (.int .u64 ((g-1:Nat):Int)))) J (omi we)<|gx J<|cl J (vq (u:=g-1)) J<|cl (fu:=⟨2⟩) J (qp (ia:=ib+32) (ib:=32) (hb:=⟨rk okI⟩) we oma) J<|aj 104 (.d (vI (32*j:Nat))) J omj<|gx J<|cl (fu:=⟨0⟩) J (En (k:=32*j) (ia:=ib+64) (ha:=⟨show _<2^(7*(ib+32+32)) from kg hvb (rk okI)⟩) we we) J<|aj 105 (.d (dN (v*4294967296^j*(g-1)))) J (by rw[Ua,nR])<|gx J<|at_ (g-1) ⟨⟨by have h:=FH hvj (Ar.1 hc96);omega,we⟩,(by have:=FH hvj (Ar.1 hc96);omega)⟩
   .
    have hgq:=azN hvj g1 (sL fun q=>hc96 (Ar.2 q));refine aj 109 (.d (dU g)) J (omi we)<|gx J<|sb _ ((W.set j (R/(v*4294967296^j))).map dU) J (cP (k:=j)) J (by(rw[<-hgq,cK,<-jI])<;>rfl) J<|cl (fu:=⟨0⟩) J (H2 (a:=R) (b:=v*4294967296^j*g) (ia:=ia+32) (by rw[hgq];exact Nat.mul_div_le _ _) we) J<|aj 113 (.d (dN (R-v*4294967296^j*(R/(v*4294967296^j))))) J (by rw[hgq])<|gx J<|at_ ⟨W.set j (R/(v*4294967296^j)),R-v*4294967296^j*(R/(v*4294967296^j)),j⟩ (by dsimp only;exact⟨⟨by simpa using h1,h2'.set _ we,we,(R3 we h4 hvj J).1,(R3 we h4 hvj J).2,we⟩,we⟩)
 .
  obtain rfl:k=0:=by omega
  rw[uU,jS] at h5;rw[uU,jS,iZ,hR0,hv] at h4;rw[hv] at h5;have hend:=azI h5 h4;haveI hRB:BN R (ia+32):=⟨we⟩;refine fz 42 J J<|cl J (tB (ds:=W)) J<|cl J (Zd (a:=R) (k:=s) (ia:=ia+32) we we) J<|rz J (by show DV.tp [bD _,dN _]= .tp [dN _,dN _];rw[lP h2' hend.1,hend.2])
def Yt(hl:ds.length<=1125899906842624):PB GB prog 244 (f7 [none]) 1 301 (ds.map dU) (fun w=> .v (.slice w.a w.n w.c)) ((trimD ds).map dU):=by
 refine DR func244 J J ntmps244 J J (fun C=>?_);refine lp (fu:=⟨5⟩) (X:=List Nat) (fun W=>[(0, .rw 1000000)]) (fun W=>[(1000000,some (.b 301 1 (W.map dU) false))]) (fun W=>trimD ds=trimD W/\W.length<=ds.length) (fun W=>W.length) ds J ⟨J,bJ _⟩ (fun _=>J) (fun W hk=>?_);obtain⟨h1,h2⟩:=hk;have hml:=b7 W;refine aj 4 (.d (vI (W.length:Nat))) J omo<|gx J<|cs (fu1:=⟨3⟩) 6 J J J (fun hg6=>?_) (fun hg6=>?_)
 .
  refine aj 9 (.d (vI (W.length:Nat))) J omo<|gx J<|lb _ J (cP (k:=W.length-1)) J<|br (fu1:=⟨7⟩) J J J (fun hc14=>?_) (fun hc14=>?_)
  .
   refine aj 17 (.d (vI (W.length:Nat))) J omo<|gx (fu:=⟨1⟩) J<|aj 18 (.d (vI (W.length-1:Nat))) J (omi we)<|gx (fu:=⟨0⟩) J<|T2 ((W.take (W.length-1)).map dU) (W.length-1) J J (by rw[hml];omega) (by rw[fN]) J<|d8 19 1000000 J<|at_ (W.take (W.length-1)) ⟨⟨by rw[h1,Pa],by rw[bT];omega⟩,(by rw[bT];omega)⟩
  .
   exact wg J J J (by rw[h1,Ez (fun _=>by omega)])
 .
  exact wg J J J (by rw[h1,Ez (fun _=>by omega)])
def azX(h:0<(dg a).length):bl a=32*((dg a).length-1)+bl ((dg a).getD ((dg a).length-1) 0):=by
 have:=aL6 (gt a) (eE a).2.2 (fun e=>by rw[e] at h;exact absurd h oma);rwa [c8] at this
def Au(h:(dg a).length=0:=by omega):a=0:=by rw[<-c8 a,cJ h];rfl
def uM[h:BN a i](hi:i<=1000000000:=by decide):PF GB prog 240 [dN a] (vI (bl a:Nat)):=by
 have hla:=b7 (dg a);have hba:=jl (a:=a) hi;have hbl:bl ((dg a).getD ((dg a).length-1) 0)<=32:=nf.2 (ef a _);refine fn func240 J J ntmps240 J J (fun C=>?_);refine cl (fu:=⟨8⟩) J (qb) J<|aj 6 (.d (vI ((dg a).length:Nat))) J omt<|gx J<|br (fu2:=⟨6⟩) J J J (fun hc7=>?_) (fun hc7=>?_)
 .
  exact rz J (by rw[Au (a:=a)];rfl)
 .
  refine aj 9 (.d (vI ((dg a).length:Nat))) J omt<|gx (fu:=⟨4⟩) J<|aj 13 (.d (vI ((dg a).length:Nat))) J omt<|gx J<|ix _ J (cP (k:=(dg a).length-1)) J<|cl J (Im (ef a ((dg a).length-1))) J<|rz J (by show DV.v (.int _ _)=DV.v (.int _ _);have:=azX (a:=a) we;congr 2;omega)
def aGP(h:a<18446744073709551616)(hi:i<(dg a).length):dv ((dg a).take i)<2^(32*i)/\dv ((dg a).take i)+(dg a).getD i 0*2^(32*i)=dv ((dg a).take (i+1))/\dv ((dg a).take (i+1))<18446744073709551616:=by
 have h1:=k8 ((gt a).take i);rw[bT,kW we] at h1;have e:(2:Nat)^(32*i)=4294967296^i:=by rw[tJ]
 have h2:=Ci (dg a) (i+1);rw[c8] at h2;refine⟨by rw[e];exact h1,by rw[e,ph,cW],?_⟩;have:=aS (4294967296^(i+1)*dv ((dg a).drop (i+1)));omega
def Yj(h:a<18446744073709551616):(dg a).length<=2:=by have:=ji (u:=a) (k:=64) h;omega
def Ac(h:a<18446744073709551616):PF GB prog 243 [dN a] (.tp [.v (.int .u64 (a:Nat)),vB true]):=by
 have hla:=b7 (dg a);have hl2:=Yj h;refine fn func243 J J ntmps243 J J (fun C=>?_);refine cl (fu:=⟨8⟩) J (qb) J<|aj 10 (.d (vI ((dg a).length:Nat))) J omt<|gx (fu:=⟨0⟩) J<|bO (fu:=⟨15⟩) J (omh we) J<|aj 13 (.d (vI ((dg a).length:Nat))) J omt<|gx J<|lp (X:=Nat) (fun i=>[(14, .d (vI (i:Nat))),(4, .d (.v (.int .u64 (dv ((dg a).take i):Nat))))]) (fun i=>[]) (fun i=>i<=(dg a).length) (fun i=>(dg a).length-i) 0 J (aS _) (fun _=>J) (fun i hk=>?_);refine br J J J (fun hc15=>?_) (fun hc15=>?_)
 .
  obtain⟨u1,u2,u3⟩:=aGP h (i:=i) we;have hda:=ef a i;refine ix (fu:=⟨12⟩) (hv:=by simp only[ak];exact⟨⟨we,we⟩,we⟩) _ J (fe) J<|aj 24 (.d (.v (.int .u64 ((dg a).getD i 0*2^(32*i):Nat)))) J (by show FX.d (.v (.int _ _))= .d (.v (.int _ _));rw[rp _ (32*i) we we])<|gx (fu:=⟨1⟩) J<|aj 25 (.d (.v (.int .u64 (dv ((dg a).take (i+1)):Nat)))) J (congrArg (fun z:Nat=>FX.d (.v (.int .u64 (z:Int)))) ((rD 64 _ _ (32*i) u1 (by rw[u2];exact u3)).trans u2))<|gx J<|at_ (i+1) ⟨we,we⟩
 .
  obtain rfl:i=(dg a).length:=by omega
  exact rz J (by rw[lg (bJ _),c8];rfl)
def O5(h:j<ds.length):dv (ds.drop j)=ds.getD j 0+4294967296*dv (ds.drop (j+1)):=by
 rw[bK h,aV,aQ h];rfl
def Zl(hA:j<A.length)(hW:j<W.length)(hd:0<d)(h:dv (A.drop (j+1))=d*dv (W.drop (j+1))+r)(hv:v=A.getD j 0+r*4294967296):dv (A.drop j)=d*dv ((W.set j (v/d)).drop j)+v%d:=by
 have e1:dv ((W.set j (v/d)).drop j)=v/d+4294967296*dv (W.drop (j+1)):=by
  rw[O5 (by rw[bQ];exact hW),AY hW,tN we]
 have h2:=rJ v d;have e3:d*(v/d+4294967296*dv (W.drop (j+1)))=d*(v/d)+4294967296*(d*dv (W.drop (j+1))):=by rw[eX,nZ]
 rw[e1,O5 hA,h,e3];omega
def aFW(h:a=d*dv W+r)(hr:r<d):dv W=a/d/\r=a%d:=by
 have:=(Nat.div_mod_unique (by omega:0<d)).2 ⟨show r+d*dv W=a by omega,hr⟩;exact⟨this.1.symm,this.2.symm⟩
def aEM{a d i:Nat}[h:BN a i](hd:0<d)(hd2:d<4294967296)(hi:i<=1000000000:=by decide):PF GB prog 275 [dN a,dU d] (.tp [dN (a/d),dU (a%d)]):=by
 have hla:=b7 (dg a);have hba:=jl (a:=a) hi;refine fn (fu:=⟨10⟩) func275 J J ntmps275 J J (fun C=>?_);refine aj 11 (.d (vI ((dg a).length:Nat))) J omt<|gx J<|mk (fu:=⟨13⟩) ((List.replicate (dg a).length 0).map dU) J J omI J<|aj 14 (.d (vI ((dg a).length:Nat))) J omt<|gx J<|lp (X:=List Nat×Nat×Nat) (fun⟨W,r,k⟩=>[(0, .d (dN a)),(1, .d (dU d)),(6, .rw 12),(7, .d (.v (.int .u64 (r:Nat)))),(8, .d (vI ((k:Nat)-1)))]) (fun⟨W,r,k⟩=>[(12,some (.b 301 1 (W.map dU) true))]) (fun⟨W,r,k⟩=>W.length=(dg a).length/\bt W/\r<d/\k<=(dg a).length/\dv ((dg a).drop k)=d*dv (W.drop k)+r) (fun⟨W,r,k⟩=>k) ⟨List.replicate (dg a).length 0,0,(dg a).length⟩ J ⟨omc, .replicate _,hd,bJ _,by simp[dv]⟩ (fun _=>J) (fun⟨W,r,k⟩ hk=>?_)
 try dsimp only at hk⊢
 obtain⟨h1,h2,h3,h4,h5⟩:=hk;have hlw:=b7 W;refine br (fu1:=⟨0⟩) J J J (fun hc17=>?_) (fun hc17=>?_)
 .
  obtain⟨j,rfl⟩: ∃m,k=m+1:=⟨k-1,we⟩;have hda:=ef a j;obtain⟨v,hv⟩: ∃v,v=(dg a).getD j 0+r*4294967296:=⟨_,rfl⟩;obtain⟨q,hq⟩: ∃q,q=v/d:=⟨_,rfl⟩;have hvq:q<4294967296:=by rw[hq,kR hd,cW];have:=bR 4294967296 (show r+1<=d from h3);omega
  refine aj 8 (.d (vI (j:Nat))) J (omi we)<|gx (fu:=⟨8⟩) (hv:=by simp only[ak];exact oma) J<|aj 21 (.d (.v (.int .u64 (r*4294967296:Nat)))) J oms<|gx J<|ix (fu:=⟨3⟩) _ J (fe) J<|aj 27 (.d (.v (.int .u64 (v:Nat)))) J (congrArg (fun z:Nat=>FX.d (.v (.int .u64 (z:Int)))) ((congrArg BitVec.toNat (BitVec.or_comm ..)).trans ((rD 64 ((dg a).getD j 0) r 32 hda omu).trans hv.symm)))<|gx (fu:=⟨11⟩) J<|aj 33 (.d (.v (.int .u64 (q:Nat)))) J (by show FX.d (.v (.int _ _))= .d (.v (.int _ _));congr 3;rw[hq];rfl)<|gx (fu:=⟨1⟩) J<|aj 34 (.d (dU q)) J (omi we)<|gx J<|sb (fu:=⟨7⟩) _ ((W.set j q).map dU) J (fe) J okn J<|aj 39 (.d (.v (.int .u64 (v%d:Nat)))) J omj<|gx J<|at_ ⟨W.set j q,v%d,j⟩ (by dsimp only;exact⟨⟨by simpa using h1,h2.set _ hvq,dK _ hd,we,by rw[hq];exact Zl we we hd h5 hv⟩,we⟩)
 .
  obtain rfl:k=0:=by omega
  obtain⟨e1,e2⟩:=aFW (a:=a) (W:=W) (by rw[iZ,iZ,c8] at h5;exact h5) h3;refine fz 12 J J<|cl (fu:=⟨2⟩) J (uA (ds:=W)) J<|aj 43 (.d (dU r)) J (omi we)<|gx J<|rz J (by show DV.tp [bD _,dU _]= .tp [dN _,dU _];rw[lP h2 e1,<-e2])
def aGZ(hk:k<32)(hl:i+1<W.length)(hx:x=A.getD i 0)(h:dv (W.take (i+1))=dv (A.take i)*2^k):dv (((W.set i (W.getD i 0+x*2^k%4294967296)).set (i+1) (x*2^k/4294967296)).take (i+1+1))=dv (A.take (i+1))*2^k:=by
 have:=RM (A:=A) (W:=W) (k:=k) (q:=0) (s:=k) (i:=i) (x:=x) we we we hx (by rw[eM];exact h);simpa only[eM] using this
def aF2(hn:n=(dg a).length)(hl:W.length=n)(h:dv (W.take n)=(a/2^k)%4294967296^n):dv W=a/2^k:=by
 rw[lg] at h;have h1:=sG a;have h2:=mT a (2^k);rw[h,kQ (by rw[hn];omega)]
def aJR(h:k<32):(k:Int).tdiv 32=0:=Int.tdiv_eq_zero_of_lt we we
def RZ[h:BN a ia](hk:k<32)(h0:0<(dg a).length)(hi:ia<=1000000000:=by decide):PR GB prog 292 [dN a, .v (.int .u64 (k:Nat))] 1 301 ((dg (a*2^k)).map dU):=by
 have hla:=b7 (dg a);have hba:=jl (a:=a) hi;refine E7 (fu:=⟨8⟩) func292 J J ntmps292 J J (fun C hmb=>?_);refine cl (fu:=⟨2⟩) J (qb (a:=a)) J<|aj 14 (.d (.v (.int .u64 (k:Nat)))) J (omi we)<|gx (fu:=⟨9⟩) J<|aj 16 (.d (vI ((dg a).length:Nat))) J omt<|gx (fu:=⟨0⟩) J<|bO (fu:=⟨10⟩) J (omh we) J<|aj 20 (.d (vI (0:Nat))) J (by show FX.d (.v (.int _ _))= .d (.v (.int _ _));congr 3;have:=aJR hk;omega)<|gx (fu:=⟨2⟩) J<|aj 22 (.d (.v (.int .u64 (k:Nat)))) J (omi we)<|gx (fu:=⟨8⟩) J<|aj 24 (.d (vI ((dg a).length:Nat))) J omt<|gx (fu:=⟨3⟩) J<|aj 27 (.d (vI ((dg a).length+1:Nat))) J omj<|gx J<|mk (fu:=⟨8⟩) ((List.replicate ((dg a).length+1) 0).map dU) J J omI J<|aj 30 (.d (vI ((dg a).length:Nat))) J omt<|gx J<|lp (X:=List Nat×Nat) (fun⟨W,i⟩=>[(0, .d (dN a)),(1, .d (.v (.int .u64 (k:Nat)))),(5, .d (vI (0:Nat))),(6, .d (.v (.int .u64 (k:Nat)))),(7, .rw 28),(29, .d (dN a)),(30, .d (vI ((dg a).length:Nat))),(31, .d (vI (i:Nat)))]) (fun⟨W,i⟩=>[(28,some (.b 301 1 (W.map dU) true))]) (fun⟨W,i⟩=>W.length=(dg a).length+1/\bt W/\i<=(dg a).length/\dv (W.take (i+1))=dv ((dg a).take i)*2^k/\W.getD i 0<2^k) (fun⟨W,i⟩=>(dg a).length-i) ⟨List.replicate ((dg a).length+1) 0,0⟩ J ⟨omc, .replicate _,we,by rw[qR,zp];simp[dv],by rw[Gc];exact iX oma⟩ (fun _=>J) (fun⟨W,i⟩ hk=>?_)
 try dsimp only at hk⊢
 obtain⟨h1,h2,h3,h4,h5⟩:=hk;have hlw:=b7 W;have hda:=ef a i;have hpp:2^k<=2^31:=cZ oma we;refine br J J J (fun hc32=>?_) (fun hc32=>?_)
 .
  refine ix (fu:=⟨11⟩) (hv:=by simp only[ak];exact⟨we,we⟩) _ J (fe) J<|?_;have hhi:=Sv hda hk;have hfit0:=S3 hda hk;have hor:=Tp (x:=(dg a).getD i 0) h5 hk;have hfit:W.getD i 0+(dg a).getD i 0*2^k%4294967296<4294967296:=by rw[<-hor];exact BitVec.isLt _
  have hlp:=Je ((dg a).getD i 0) k;refine aj 39 (.d (.v (.int .u64 ((dg a).getD i 0*2^k:Nat)))) J (by show FX.d (.v (.int _ _))= .d (.v (.int _ _));rw[rp _ k we hfit0]) ?_;obtain⟨t,ht⟩: ∃t,t=(dg a).getD i 0*2^k:=⟨_,rfl⟩;simp only[<-ht] at hhi hfit0 hor hfit hlp;rw[<-ht];refine gx (fu:=⟨9⟩) J<|aj 43 (.d (vI (i:Nat))) J omj<|gx J<|lb (fu:=⟨2⟩) _ J (fe) J<|aj 47 (.d (dU (t%4294967296))) J omj<|gx (fu:=⟨1⟩) J<|aj 48 _ J (congrArg (fun z:Nat=>FX.d (.v (.int .u32 (z:Int)))) hor)<|gx J<|sb (fu:=⟨7⟩) _ ((W.set i (W.getD i 0+t%4294967296)).map dU) J (fe) J (by simp only[cK,kK]<;>rfl) J<|aj 53 (.d (vI (i:Nat))) J omj<|gx (fu:=⟨1⟩) J<|aj 54 (.d (vI (i+1:Nat))) J omj<|gx (fu:=⟨2⟩) (hv:=by simp only[ak];exact oma) J<|aj 56 (.d (.v (.int .u64 (t/4294967296:Nat)))) J okz<|gx (fu:=⟨1⟩) J<|aj 57 (.d (dU (t/4294967296))) J (omi we)<|gx J<|sb _ (((W.set i (W.getD i 0+t%4294967296)).set (i+1) (t/4294967296)).map dU) J (fe ozk) J (by simp only[cK,kK]<;>rfl) J<|at_ ⟨(W.set i (W.getD i 0+t%4294967296)).set (i+1) (t/4294967296),i+1⟩ (by dsimp only;exact⟨⟨by simpa using h1,(h2.set _ hfit).set _ we,we,by have q:=aGZ (x:=(dg a).getD i 0) hk we J h4;rw[<-ht] at q;exact q,by rw[AY omp];exact hhi⟩,we⟩)
 .
  obtain rfl:i=(dg a).length:=by omega
  refine cq _ J (Yt (ds:=W) we) J J<|?_;exact JZ J J J (by rw[<-DM h2];have:=h4;rw[lg,lg,c8] at this;rw[this])
def aLS(hd:bt ds)(hl:ds.length<=220000000)(hk:k<32):PF GB prog 293 [bD ds, .v (.int .u64 (k:Nat))] (dN (dv ds/2^k)):=by
 obtain⟨a,ha⟩: ∃a,a=dv ds:=⟨_,rfl⟩;rw[<-ha];have hla:=b7 (dg a);have hba:(dg a).length<=220000000:=by rw[ha,DM hd];have:=axx ds;omega
 refine fn func293 J J ntmps293 J J (fun C=>?_);refine cl (fu:=⟨0⟩) J (uA (ds:=ds)) J<|aj 11 (.d (dN a)) J (by rw[lP hd ha.symm])<|gx (fu:=⟨8⟩) J<|aj 13 (.d (.v (.int .u64 (0:Nat)))) J (omi we)<|gx (fu:=⟨2⟩) J<|aj 15 (.d (vI ((dg a).length:Nat))) J omt<|gx J<|br (fu2:=⟨7⟩) J J J (fun hc17=>?_) (fun hc17=>?_)
 .
  exact rz J (by rw[Au (a:=a),Nat.zero_div,nD];rfl)
 .
  refine aj 20 (.d (vI (0:Nat))) J (omi we)<|gx (fu:=⟨2⟩) J<|aj 22 (.d (.v (.int .u64 (k:Nat)))) J (omi we)<|gx (fu:=⟨8⟩) J<|aj 24 (.d (vI ((dg a).length:Nat))) J omt<|gx (fu:=⟨2⟩) J<|aj 26 (.d (vI ((dg a).length:Nat))) J omj<|gx J<|mk (fu:=⟨8⟩) ((List.replicate (dg a).length 0).map dU) J J omI J<|aj 29 (.d (vI ((dg a).length:Nat))) J (by rw[b7,aL]<;>rfl)<|gx J<|lp (X:=List Nat×Nat) (fun⟨W,i⟩=>[(0, .d (dN a)),(5, .d (vI (0:Nat))),(6, .d (.v (.int .u64 (k:Nat)))),(7, .rw 27),(29, .d (vI ((dg a).length:Nat))),(30, .d (vI (i:Nat)))]) (fun⟨W,i⟩=>[(27,some (.b 301 1 (W.map dU) true))]) (fun⟨W,i⟩=>W.length=(dg a).length/\bt W/\i<=(dg a).length/\dv (W.take i)=(a/2^k)%4294967296^i) (fun⟨W,i⟩=>(dg a).length-i) ⟨List.replicate (dg a).length 0,0⟩ J ⟨omc, .replicate _,we,by simp[dv,Nat.mod_one]⟩ (fun _=>J) (fun⟨W,i⟩ hk=>?_)
  try dsimp only at hk⊢
  obtain⟨h1,h2,h3,h4⟩:=hk;have hlw:=b7 W;have hda:=ef a i;have hdb:=ef a (i+1);refine br (fu1:=⟨16⟩) J J J (fun hc31=>?_) (fun hc31=>?_)
  .
   refine aj 36 (.d (vI (i:Nat))) J omj<|gx J<|ix (fu:=⟨6⟩) _ J (fe) J<|mg (fu:=⟨6⟩) (hv:=fun _ _=>by simp only[ak];exact we) (X:=Unit) (fun _=>[(0, .d (dN a)),(5, .d (vI (0:Nat))),(6, .d (.v (.int .u64 (k:Nat)))),(7, .rw 27),(29, .d (vI ((dg a).length:Nat))),(30, .d (vI (i:Nat))),(8, .d (vI (i:Nat))),(9, .d (.v (.int .u64 ((dg a).getD i 0+(dg a).getD (i+1) 0*4294967296:Nat))))]) (fun _=>[(27,some (.b 301 1 (W.map dU) true))]) (fun _=>True) [0,5,6,7,29,30,8,9] [27] rfl ?_ (fun _=>J) (fun _ _=>?_)
   .
    refine gx (fu:=⟨5⟩) J<|aj 42 (.d (vI (i:Nat))) J omj<|gx (fu:=⟨1⟩) J<|aj 43 (.d (vI (i+1:Nat))) J omj<|gx (fu:=⟨2⟩) J<|aj 45 (.d (vI ((dg a).length:Nat))) J omt<|gx J<|br (fu1:=⟨6⟩) J J J (fun hc46=>?_) (fun hc46=>?_)
    .
     refine aj 51 (.d (vI (i:Nat))) J omj<|gx (fu:=⟨1⟩) J<|aj 52 (.d (vI (i+1:Nat))) J omj<|gx J<|ix (fu:=⟨3⟩) (hv:=by simp only[ak];exact⟨we,oma⟩) _ J (cP (k:=i+1)) J<|aj 56 (.d (.v (.int .u64 ((dg a).getD (i+1) 0*4294967296:Nat)))) J oms<|gx (fu:=⟨1⟩) J<|aj 57 _ J (congrArg (fun z:Nat=>FX.d (.v (.int .u64 (z:Int)))) (rD 64 ((dg a).getD i 0) ((dg a).getD (i+1) 0) 32 hda omu))<|gx J<|at_ () trivial
    .
     refine aj 9 (.d (.v (.int .u64 ((dg a).getD i 0+(dg a).getD (i+1) 0*4294967296:Nat)))) J (by rw[qP (by omega:(dg a).length<=i+1),kS,gK])<|at_ () trivial
   .
    refine aj 62 (.d (.v (.int .u64 (((dg a).getD i 0+(dg a).getD (i+1) 0*4294967296)/2^k:Nat)))) J (by show FX.d (.v (.int _ _))= .d (.v (.int _ _));rw[N9 _ k])<|gx (fu:=⟨1⟩) J<|?_;obtain⟨w,hw⟩: ∃w,w=((dg a).getD i 0+(dg a).getD (i+1) 0*4294967296)/2^k%4294967296:=⟨_,rfl⟩;have hw1:w<4294967296:=hw▸dK _ oma;refine aj 63 (.d (dU w)) J (by show FX.d (.v (.int _ _))= .d (.v (.int _ _));congr 3;rw[hw];rfl)<|gx J<|sb _ ((W.set i w).map dU) J (fe) J okn J<|at_ ⟨W.set i w,i+1⟩ (by dsimp only;exact⟨⟨by simpa using h1,h2.set _ we,we,by rw[xN,h4];exact(Oe hk (by have:=Gb (gt a) i;rwa [c8] at this) hw).symm⟩,we⟩)
  .
   refine fz 27 J J<|cl rfl (uA (ds:=W)) rfl<|rz rfl (lP h2 (by obtain rfl:i=(dg a).length:=we;exact aF2 rfl h1 h4))
end Go.Sx
end
