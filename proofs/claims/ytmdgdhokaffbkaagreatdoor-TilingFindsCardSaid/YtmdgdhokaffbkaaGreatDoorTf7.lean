import Derived.Test.YtmdgdhokaffbkaaGreatDoorTf6
import Derived.RangeFuncSeq
set_option linter.all false
set_option maxRecDepth 100000
section
namespace Go.Sx
open Go Go.Proofs Tryz
variable {GB G G1:Gh}{C C':aD}{n b m t k by_ j D:Nat}{Q0 Q:Exit->Act->World->Prop}{fr fr' fr0 fr1 fr2:aA}{own' own0 own1 own2:aF}{cf cf' cf1 cf2:Cf}{vc vc1 vc2:List Prop}{z rv:DV}{lk:LK}{bk:BM}{fo x1 x2 x3 y:Operand}{tys:Array TypeId}{ty0 t' ty':TypeId}{pos:String}{af:Array Edge}{dso rows rws dsi ds':List DV}{ops:Array Oper}{r pre:List Oper}{K:List Kt}{args:Array Operand}{fb:Func}{c:Code}{l:List (Option DV)}{lo:Bool}{P:Program}{ov B:List av}{a:Act}{w w1:World}{dst:Option Nat}{vs:List Value}{o:Oper}{E:List (List DV)}{Jv:Nat->Gh->World->Prop}{Jx:Gh->World->Prop}{X:Type}
section
variable {own:aF}
def Rm[fu:Fu]{d e s:Nat}{k':IntKind}(cap:Nat)(h:Be fr cf=some ⟨d,e,s,b,z,0⟩)(hy:(match cO fr cf with|some ⟨_, .makeSlice _ _ y,_,_,_,_⟩=>ba (bH fr cf) y|_=>none)=some (.d (.v (.int k' (cap:Nat)))))
  (hgo:cv tt n fu.n fr own cf (.rw d) [(d,some (.c e s [] cap))] [d]=⟨vc,fr',own',cf'⟩)(k:ao prog GB C n Q0 fr' own' cf')(hb:b*cap<=140737488355328:=by omega)(hl:cap<=1152921504606846976:=by omega)
  (hv:autoParam (aj vc) cL._auto_1):ao prog GB C n Q0 fr own cf:=by
 unfold Be at h;split at h<;>try (cases h;done)
 rename_i hh;split at h<;>try (cases h;done)
 rename_i hx;split at h<;>try (cases h;done)
 rename_i hT;split at h<;>try (cases h;done)
 rename_i hi;split at h<;>try (cases h;done)
 rename_i hz;rw[cond_eq_ite] at h;split at h<;>cases h;rename_i hs;rw[hh] at hy;have:=ji (dw _ _ hT) J;exact us hh (S5 (dw _ _ hi) hz hs hx hy hb hl) hgo hv k
structure Tp where
 d:Nat
 nm:Nat
 e:Nat
 s:Nat
 ds:List DV
 ds2:List DV
 cap:Nat
def I5(fr:aA)(own:aF)(cf:Cf):Option Tp:=match cO fr cf with
 |some ⟨some d, .call ⟨.builtin .append,⟨[x,y]⟩,⟨[t,t']⟩⟩,_,_,_,_⟩=>match di tt t,di tt t' with
  |some ⟨.sl e s _,_,_,_⟩,some ⟨.sl _ _ _,_,_,_⟩=>match ba (bH fr cf) x with
   |some (.rw nm)=>match gp fr own cf nm,mH (bH fr cf) (gp fr own cf) s y with
    |some (.c e' s' ds cap),some ds2=>bif (Nat.beq e' e&&Nat.beq s' s)&&!Nat.beq nm d then some ⟨d,nm,e,s,ds,ds2,cap⟩ else none
    |_,_=>none
   |_=>none
  |_,_=>none
 |_=>none
def QR[fu:Fu]{d nm e s cap:Nat}{ds ds2:List DV}(ds':List DV)(h:I5 fr own cf=some ⟨d,nm,e,s,ds,ds2,cap⟩)(hds:ds++ds2=ds')(ho2:cd s ds2)(hc:ds.length+ds2.length<=cap)(hgo:cv tt n fu.n fr own cf (.rw d) [(nm,none),(d,some (.c e s ds' cap))] [d]=⟨vc,fr',own',cf'⟩)(k:ao prog GB C n Q0 fr' own' cf')
  (hp:0<ds2.length:=by simp)(hv:autoParam (aj vc) cL._auto_1):ao prog GB C n Q0 fr own cf:=by
 subst hds;unfold I5 at h;split at h<;>try (cases h;done)
 rename_i hh;split at h<;>try (cases h;done)
 rename_i hT hT';split at h<;>try (cases h;done)
 rename_i hx;split at h<;>try (cases h;done)
 rename_i hb hy;rw[cond_eq_ite] at h;split at h<;>cases h;rename_i h2;simp only[bV,fN] at h2
 cases aR h2.1.1
 cases aR h2.1.2
 have:=ji (dw _ _ hT) J;have hN:jh prog _:=⟨_,(ji (dw _ _ hT') J).un⟩;exact us hh (Q6 hx hb hy ho2 hc hp h2.2) hgo hv k
def PI(GB:Gh)(P:Program)(f:FuncId)(i:Int)(s:Nat)(ty ty2:TypeId)(ds:List DV)(x:DV)(cap:Nat)(dso:List DV):Prop:=
 ∀G w w2 B B2,bA GB G->cH G ⟨w,s,ty,ds,false⟩ B->cap<=w.c->cH G ⟨w2,s,ty2,[x],false⟩ B2->lc P f [.slice w.a w.n w.c, .int .i64 i, .slice w2.a w2.n w2.c] (B++B2) G fun v own' G'=> ∃w',v= .slice w'.a w'.n w'.c/\cH G' ⟨w',s,ty,dso,false⟩ own'
structure RR where
 f:FuncId
 nm:Nat
 nm2:Nat
 i:Int
 ty:TypeId
 ty2:TypeId
 s:Nat
 ds:List DV
 x:DV
 cap:Nat
 d:Nat
def L'(fr:aA)(own:aF)(cf:Cf):Option RR:=match cO fr cf with
 |some ⟨some d, .call ⟨.value fo,⟨[x1,x2,x3]⟩,_⟩,_,_,_,_⟩=>match ba (bH fr cf) fo,ba (bH fr cf) x1 with
  |some (.d (.v (.func (.func f) ⟨[]⟩ ⟨[]⟩))),some (.rw nm)=>match ba (bH fr cf) x2,ba (bH fr cf) x3 with
   |some (.d (.v (.int .i64 i))),some (.rw nm2)=>match gp fr own cf nm,gp fr own cf nm2 with
    |some (.c ty s ds cap),some (.b ty2 s2 [x] true)=>bif (!Nat.beq nm d&&!Nat.beq nm2 d)&&(!Nat.beq nm nm2&&(Nat.beq s2 s&&Nat.blt 0 cap)) then some ⟨f,nm,nm2,i,ty,ty2,s,ds,x,cap,d⟩ else none
    |_,_=>none
   |_,_=>none
  |_,_=>none
 |_=>none
def YN{f:FuncId}{nm nm2 d cap s:Nat}{i:Int}{ty2:TypeId}{ty:TypeId}{gd:Option (Nat×Bool)}{ds:List DV}{x:DV}(hne:Nat.beq nm d=false)(hne2:Nat.beq nm2 d=false)(hn2:Nat.beq nm nm2=false)(hcp:0<cap)
  (h0:ba lk fo=some (.d (.v (.func (.func f) ⟨[]⟩ ⟨[]⟩))))(h1:ba lk x1=some (.rw nm))(h2:ba lk x2=some (.d (.v (.int .i64 i))))(h3:ba lk x3=some (.rw nm2))(hb:bk nm=some (.c ty0 s ds cap))(hb2:bk nm2=some (.b ty2 s [x] true))(hF:PI GB prog f i s ty0 ty2 ds x cap dso):
  bD prog GB C n lk bk ⟨some d, .call ⟨.value fo,⟨[x1,x2,x3]⟩,tys⟩,ty,pos,af,gd⟩ (.rw d) [(nm,none),(nm2,none),(d,some (.b ty0 s dso true))] [d]:=by
 intro hd tl tb K' s1 s2 hf hk;refine⟨fun ρ G ov a w r Q=>?_⟩;have r1:=r.mono s1 s2;obtain⟨y,hy,hy'⟩:=r1.ev h0;rw[(bh (G:=G)).1 hy'] at hy;obtain⟨y1,p1,p1'⟩:=r1.ev h1
 cases (show y1=_ from p1')
 obtain⟨y2,p2,p2'⟩:=r1.ev h2;rw[cC] at p2';subst p2';obtain⟨y3,p3,p3'⟩:=r1.ev h3
 cases (show y3=_ from p3')
 have hnn:nm≠d:=fun e=>by subst e;rw[kS] at hne;cases hne
 have hnn2:nm2≠d:=fun e=>by subst e;rw[kS] at hne2;cases hne2
 have hnm:nm≠nm2:=fun e=>by subst e;rw[kS] at hn2;cases hn2
 obtain⟨B,g1,g2⟩:=r1.bx _ _ hb;obtain⟨B2,k1,k2⟩:=r1.bx _ _ hb2;obtain⟨vs,q1,q2,q3,q4,q5⟩:=g1;have hB:cH G ⟨ρ nm,s,ty0,ds,false⟩ B:=⟨vs,q1,q2,q3,fun h=>by cases h⟩;have hB2:cH G ⟨ρ nm2,s,ty2,[x],false⟩ B2:=cH.weak (lo:=true) k1;have e1: ∃o,B=[o]/\(ρ nm).a=some ⟨o.b,0,none⟩:=by
  rcases q1 with⟨_,e,_⟩|⟨b,rest,lo',e,rfl,_⟩
  .rw[e] at q5;simp at q5;omega
  .exact⟨_,J,by rw[e]⟩
 have e2: ∃o,B2=[o]/\(ρ nm2).a=some ⟨o.b,0,none⟩:=by
  obtain⟨vs2,c1,c2,_⟩:=k1;rcases c1 with⟨e,_,_⟩|⟨b,rest,lo',e,rfl,_⟩
  .subst e;have:=c2.len;simp at this
  .exact⟨_,J,by rw[e]⟩
 obtain⟨o1,rfl,a1⟩:=e1;obtain⟨o2,rfl,a2⟩:=e2;have hob:o1.b≠o2.b:=fun e=>r.dj nm nm2 _ _ (s2 _ _ hb) (s2 _ _ hb2) hnm _ a1 (by rw[a2,e]);have hp: ∃rest,ov.Perm ([o1]++[o2]++rest):=by
  obtain⟨l1,l2,e3⟩:=lK (g2 _ aZ);have hm:=k2 _ aZ;rw[e3] at hm⊢;have hm2:o2∈l1++l2:=by
   rcases bJ.1 hm with h|h
   .exact bS _ h
   .rcases aT.1 h with h|h
    .exact absurd (by rw[h]) hob
    .exact cW _ h
  obtain⟨l3,l4,e4⟩:=lK hm2;refine⟨l3++l4,List.perm_middle.trans ?_⟩;rw[e4];exact(nS (l₁:=l3) (l₂:=l4) (a:=o2)).cons o1
 obtain⟨rest,h5⟩:=hp;have h6: ∀o∈ov,o.b≠o1.b->o.b≠o2.b->o∈rest:=fun o ho n1 n2=>by
  have:=h5.mem_iff.1 ho;simp only[iT,kN,aT] at this;rcases this with rfl|rfl|h
  .exact absurd J n1
  .exact absurd J n2
  .exact h
 have hlo2: ∀o∈[o2],o.lo=true:=by obtain⟨_,_,_,_,h⟩:=k1;exact h rfl
 have hall: ∀o∈[o1]++[o2],o.lo=true:=fun o ho=>by
  rcases bJ.1 ho with h|h
  .exact q4 o h
  .exact hlo2 o h
 refine r6 (M:=[o1]++[o2]) (rest:=rest) (vs:=[.slice (ρ nm).a (ρ nm).n (ρ nm).c, .int .i64 i, .slice (ρ nm2).a (ρ nm2).n (ρ nm2).c]) hy (by simp only[fm,p1,p2,p3]) h5 (hF G (ρ nm) (ρ nm2) [o1] [o2] r.gb hB q5 hB2) hd (fun v own1 G' hG hK a' w' rl=>?_) a w Q ⟨r.h,r.sz,b9 a,r.df⟩;obtain⟨z,rfl,vs',k1',k2',k3',k4'⟩:=hK;have hs1:=k1'.relo (gt ([o1]++[o2]));have e3: ∀o∈own1.map (relo (gt ([o1]++[o2]))),o.lo=true:=fun o ho=>by
  obtain⟨o',_,rfl⟩:=aN.1 ho;exact D2 _ hall
 generalize own1.map (relo (gt ([o1]++[o2])))=B' at rl e3 hs1;have rl':gh C n (Sx.put (b8 a) (some d) (.slice z.a z.n z.c)) (B'++rest) G' a' w':=rl;have hdis:=(eY.1 rl'.h.nd).2.2;have rd:=(r.dropB nm).dropB nm2;have hin: ∀q B0,Sx.upB (Sx.upB tb [(nm,none)]) [(nm2,none)] q=some B0->q≠nm/\q≠nm2/\tb q=some B0:=fun q B0 e=>by
  simp only[Sx.upB] at e;split at e
  .cases e
  .split at e
   .cases e
   .exact⟨oma,oma,e⟩
 have hf2:ir [d] (some d) tl (Sx.upB (Sx.upB tb [(nm,none)]) [(nm2,none)]):=fun q hq=>by
  obtain⟨f1,f2⟩:=hf q hq;exact⟨f1,fun k B e1 e=>f2 k B e1 (hin k B e).2.2⟩
 have hsep: ∀q B0,Sx.upB (Sx.upB tb [(nm,none)]) [(nm2,none)] q=some B0-> ∀o∈ov,(ρ q).a=some ⟨o.b,0,none⟩->o∈rest:=fun q B0 e o ho hbq=>by
  obtain⟨n1,n2,n3⟩:=hin q B0 e;exact h6 o ho (fun e'=>r.dj nm q _ _ (s2 _ _ hb) n3 (Ne.symm n1) _ a1 (by rw[hbq,e'])) (fun e'=>r.dj nm2 q _ _ (s2 _ _ hb2) n3 (Ne.symm n2) _ a2 (by rw[hbq,e']))
 have r3:=rd.new' (x:=z) (B':= .b ty0 s dso true) (os:=B') (ov':=B'++rest) (f:= .rw d) (y:= .slice z.a z.n z.c) hf2 hG.le rl'.h ⟨vs',by simpa using hs1,k2',k3',fun _=>e3⟩ (fun o ho=>bS _ ho)
  (fun q B0 hq e o ho hbq=>⟨cW _ (hsep q B0 e o ho hbq),fun hc=>by
   have hx: ∃o1∈B',o1.b=o.b:=by
    rcases hs1 with⟨_,h,_⟩|⟨b0,rest0,lo0,h,hB,_⟩
    .rw[show z=_ from h] at hc;cases hc
    .rw[show z=_ from h] at hc;cases hc;exact⟨⟨_,aG vs'++rest0,_,lo0⟩,by rw[hB];exact aZ,J⟩
   obtain⟨o3,ho3,he3⟩:=hx;exact hdis o3 ho3 o (hsep q B0 e o ho hbq) he3⟩) okV (iA rl')
 exact hk.run _ G' _ a' w' r3
def ci[fu:Fu]{f:FuncId}{nm nm2 d cap s:Nat}{i:Int}{ty ty2:TypeId}{ds:List DV}{x:DV}(dso':List DV)(ha:L' fr own cf=some ⟨f,nm,nm2,i,ty,ty2,s,ds,x,cap,d⟩)(hF:PI GB prog f i s ty ty2 ds x cap dso)(he:dso=dso')
  (hgo:cv tt n fu.n fr own cf (.rw d) [(nm,none),(nm2,none),(d,some (.b ty s dso' true))] [d]=⟨vc,fr',own',cf'⟩)(k:ao prog GB C n Q0 fr' own' cf')
  (hv:autoParam (aj vc) cL._auto_1):ao prog GB C n Q0 fr own cf:=by
 subst he;unfold L' at ha;split at ha<;>try (cases ha;done)
 rename_i hh;split at ha<;>try (cases ha;done)
 rename_i h0 h1;split at ha<;>try (cases ha;done)
 rename_i h2 h3;split at ha<;>try (cases ha;done)
 rename_i hb hb2;rw[cond_eq_ite] at ha;split at ha<;>cases ha;rename_i hc;simp only[bV,fN,jN] at hc;obtain⟨⟨c1,c2⟩,c3,c4,c5⟩:=hc
 cases aR c4
 exact us hh (YN c1 c2 c3 c5 h0 h1 h2 h3 hb hb2 hF) hgo hv k
def ii(d:Nat)(hl:aI fr d=some (.d (.v (.bool true))))(k:ao prog GB C n Q0 ((d, .tt)::fr) own (.ops ops r K)):ao prog GB C n Q0 fr own (.ops ops r K):=ow (g:= .tt) hl (fun _ G _ e=>(bh (G:=G)).1 e) k
def Bn(d:Nat)(hl:aI fr d=some (.d (.v (.bool false))))(k:ao prog GB C n Q0 ((d, .ff)::fr) own (.ops ops r K)):ao prog GB C n Q0 fr own (.ops ops r K):=ow (g:= .ff) hl (fun _ G _ e=>(bh (G:=G)).1 e) k
end
section
variable {own:aF}
def PR(GB:Gh)(P:Program)(f:FuncId)(ds:List DV)(s:Nat)(ty:TypeId)(rows:List DV):Prop:=
 ∀G vs,bA GB G->IsLs G ds vs->lc P f vs [] G (fun v own' G'=> ∃w:SV,v= .slice w.a w.n w.c/\cH G' ⟨w,s,ty,rows,true⟩ own')
def FK: ∀(l:List av),(∀o∈l,o.lo=true)->l.map (relo (gt []))=l
 |[],_=>rfl
 |a::t,h=>by
  have h1:=h a aZ;rw[cZ,FK t fun o ho=>h o (aK _ ho)];congr 1
  cases a
  simp[relo,gt] at*;exact h1
def YT{f:FuncId}{d s:Nat}{ds:List DV}{ty ty2:TypeId}{gd:Option (Nat×Bool)}
  (ha:n9 lk fo args=some (f,ds))(hF:PR GB prog f ds s ty2 rows):bD prog GB C n lk bk ⟨some d, .call ⟨.value fo,args,tys⟩,ty,pos,af,gd⟩ (.rw d) [(d,some (.b ty2 s rows true))] [d]:=by
 intro hd tl tb K' s1 s2 hf hk;refine⟨fun ρ G ov a w r Q=>?_⟩;have r1:=r.mono s1 s2;obtain⟨h1,h2⟩:=vX ha;obtain⟨y,hy,hy'⟩:=r1.ev h1;rw[(bh (G:=G)).1 hy'] at hy;obtain⟨vs,h3,h4⟩:=r1.evDs h2;refine r6 (M:=[]) (rest:=ov) hy h3 (List.Perm.refl _) (hF G vs r.gb h4) hd (fun v own1 G' hG hK a' w' rl=>?_) a w Q ⟨r.h,r.sz,b9 a,r.df⟩;obtain⟨z,rfl,vs',k1,k2,k3,k4⟩:=hK;rw[FK _ (k4 J)] at rl;have rl':gh C n (Sx.put (b8 a) (some d) (.slice z.a z.n z.c)) (own1++ov) G' a' w':=rl;have hdis:=(eY.1 rl'.h.nd).2.2;have r3:=r.new' (x:=z) (B':= .b ty2 s rows true) (os:=own1) (ov':=own1++ov) (f:= .rw d) (y:= .slice z.a z.n z.c) hf hG.le rl'.h ⟨vs',by simpa using k1,k2,k3,k4⟩ (fun o ho=>bS _ ho)
  (fun q B0 hq e o ho hbq=>⟨cW _ ho,fun hc=>by
   have hx: ∃o1∈own1,o1.b=o.b:=by
    rcases k1 with⟨_,h,_⟩|⟨b0,rest0,lo0,h,hB,_⟩
    .rw[show z=_ from h] at hc;cases hc
    .rw[show z=_ from h] at hc;cases hc;exact⟨⟨_,aG vs'++rest0,_,lo0⟩,by rw[hB];exact aZ,J⟩
   obtain⟨o1,ho1,he1⟩:=hx;exact hdis o1 ho1 o ho he1⟩) (by simp[bB]) (iA rl')
 exact hk.run _ G' _ a' w' r3
def BX(fr:aA)(cf:Cf):Option (FuncId×List DV×Nat):=match cO fr cf with
 |some ⟨some d, .call ⟨.value fo,args,_⟩,_,_,_,_⟩=>match n9 (bH fr cf) fo args with
  |some (f,ds)=>some (f,ds,d)
  |none=>none
 |_=>none
def cr[fu:Fu]{f:FuncId}{d s:Nat}{ds:List DV}{ty:TypeId}(ha:BX fr cf=some (f,ds,d))(hF:PR GB prog f ds s ty rows)
  (hgo:cv tt n fu.n fr own cf (.rw d) [(d,some (.b ty s rows true))] [d]=⟨vc,fr',own',cf'⟩)(k:ao prog GB C n Q0 fr' own' cf')
  (hv:autoParam (aj vc) fn._auto_1):ao prog GB C n Q0 fr own cf:=by
 unfold BX at ha;split at ha<;>try (cases ha;done)
 rename_i hh;split at ha<;>cases ha;rename_i h1;exact us hh (YT h1 hF) hgo hv k
def Bc(C:aD)(s:Nat)(ty:TypeId)(rows:List DV):Ending->World->Prop:=qj C (fun v own' G'=> ∃w:SV,v= .slice w.a w.n w.c/\cH G' ⟨w,s,ty,rows,true⟩ own')
def xC[fu:Fu]{f:FuncId}{s:Nat}{ds:List DV}{ty:TypeId}(hf:prog.funcs[f]? =some fb)(hb:fb.body=some c)(hn:(fb.name== "runtime.NumGoroutine")=false)(hm:fb.ntmps=m)(hlen:Nat.ble ds.length m=true)
  (hgo:go tt m fu.n [] (nH 0 ds) [] (.code c [])=⟨vc,fr,own,cf⟩)(k: ∀C:aD,C.mb=[]->ao prog GB C m (dx C prog fb (Bc C s ty rows)) fr own cf)
  (hv:autoParam (aj vc) fn._auto_1):PR GB prog f ds s ty rows:=by
 intro G vs hg hvs;refine lc.introR hf hb hn hm omS fun C _ hmb hrd hfx=>?_;intro a w rl;refine o7 hrd ?_;have h:=eo (GB:=GB) (C:=C) (Q0:=dx C prog fb (Bc C s ty rows)) hgo hv (k C ozj);exact h.run (fun _=>⟨none,0,0⟩) G [] a w ⟨hg,rl.h,rl.sz,rl.df,(fun k f e=>tc hvs rl.fr k f e),(fun nm B e=>by cases e),(fun nm nm' B B' e=>by cases e),fun nm p _ _ e=>by rw[hfx] at e;cases e⟩
def ze{d s:Nat}{ty:TypeId}(hr:fb.results.toList=[.tmp t])(hl:aI fr t=some (.rw d))(hw:aO own d=some (.b ty s rws true))(er:rws=rows):
  ao prog GB C n (dx C prog fb (Bc C s ty rows)) fr own (.ex .ret []):=by
 subst er;refine⟨fun ρ G ov a w r=>?_⟩;obtain⟨B,g1,g2⟩:=r.bx _ _ hw;have hB:cH G ⟨ρ d,s,ty,rws,true⟩ B:=g1;obtain⟨rest,hp⟩:=xA hB g2;obtain⟨y,hy,hy'⟩:=r.ev (x:= .tmp t) (f:= .rw d) hl
 cases (show y=_ from hy')
 exact wK (C:=C) (n:=n) (fr:=b8 a) (own:=ov) (G:=G) (vs:=[.slice (ρ d).a (ρ d).n (ρ d).c]) omK (B++rest) B hp (lY _ _) ⟨ρ d,J,hB⟩ a w ⟨r.h,r.sz,b9 a,r.df⟩
def PA{s:Nat}{ty:TypeId}(hr:fb.results.toList=[.tmp t])(hl:aI fr t=some .nl)(er:rows=[]):
  ao prog GB C n (dx C prog fb (Bc C s ty rows)) fr own (.ex .ret []):=by
 subst er;refine⟨fun ρ G ov a w r=>?_⟩;obtain⟨y,hy,hy'⟩:=r.ev (x:= .tmp t) (f:= .nl) hl
 cases (show y=_ from hy')
 exact wK (C:=C) (n:=n) (fr:=b8 a) (own:=ov) (G:=G) (vs:=[.slice none 0 0]) omK ([]++ov) [] (List.Perm.refl _) (kW _) ⟨⟨none,0,0⟩,J,[], .inl ⟨J,J,J⟩,eD.2 J,fun v h=>okh,fun _ o h=>okh⟩ a w ⟨r.h,r.sz,b9 a,r.df⟩
end
section
variable {own:aF}
def TC{f:FuncId}{nm d:Nat}{s:Nat}{ty:TypeId}{gd:Option (Nat×Bool)}(hne:Nat.beq nm d=false)
  (ha:wR lk fo args=some (f,nm,l))(hb:bk nm=some (.b ty0 s dsi lo))(hF:PB GB prog f (fh l) s ty0 dsi (fun w=> .v (.slice w.a w.n w.c)) dso):bD prog GB C n lk bk ⟨some d, .call ⟨.value fo,args,tys⟩,ty,pos,af,gd⟩ (.rw d) [(nm,none),(d,some (.b ty0 s dso lo))] [d]:=by
 intro hd tl tb K' s1 s2 hf hk;refine⟨fun ρ G ov a w r Q=>?_⟩;have r1:=r.mono s1 s2;unfold wR at ha;split at ha<;>try (cases ha;done)
 rename_i h1;split at ha<;>cases ha;rename_i h2;obtain⟨y,hy,hy'⟩:=r1.ev h1;rw[(bh (G:=G)).1 hy'] at hy;obtain⟨B,g1,g2⟩:=r1.bx _ _ hb;have hB:cH G ⟨ρ nm,s,ty0,dsi,lo⟩ B:=g1;obtain⟨vs,h7,h8⟩:=AE r1 (z:=ρ nm) h2 (fun nm e=>by cases e;rfl);have hp: ∃rest,ov.Perm (B++rest)/\ ∀o∈ov,(∀o'∈B,o.b≠o'.b)->o∈rest:=by
  rcases hB with⟨vs',⟨_,_,e⟩|⟨b0,r0,lo0,_,e,_⟩,_⟩
  .rw[e];exact⟨ov,List.Perm.refl _,fun o ho _=>ho⟩
  .rw[e] at g2⊢
   obtain⟨l1,l2,e2⟩:=lK (g2 _ aZ);rw[e2];refine⟨l1++l2,nS,fun o ho hno=>?_⟩;rcases bJ.1 ho with ho|ho
   .exact bS _ ho
   .rcases aT.1 ho with rfl|ho
    .exact absurd J (hno _ aZ)
    .exact cW _ ho
 obtain⟨rest,h5,h6⟩:=hp;refine r6 (M:=B) (rest:=rest) hy h7 h5 (hF G (ρ nm) vs B r.gb hB.weak h8) hd (fun v own1 G' hG hK a' w' rl=>?_) a w Q ⟨r.h,r.sz,b9 a,r.df⟩;obtain⟨z,hr,vs',k1,k2,k3,k4⟩:=hK;have k1':=k1.relo (gt B);have e2:lo=true-> ∀o∈own1.map (relo (gt B)),o.lo=true:=fun hl o ho=>by
  obtain⟨o',_,rfl⟩:=aN.1 ho;obtain⟨_,_,_,_,hlo⟩:=hB;exact D2 _ (hlo hl)
 generalize own1.map (relo (gt B))=B' at rl e2 k1';have rl':gh C n (Sx.put (b8 a) (some d) v) (B'++rest) G' a' w':=rl;have hdis:=(eY.1 rl'.h.nd).2.2;have r2:=r.dropB nm;have hnn:nm≠d:=fun e=>by subst e;rw[kS] at hne;cases hne
 have hf2:ir [d] (some d) tl (Sx.upB tb [(nm,none)]):=fun q hq=>by
  obtain⟨f1,f2⟩:=hf q hq;refine⟨f1,fun k B e1 e=>?_⟩;simp only[Sx.upB] at e;split at e
  .cases e
  .exact f2 k B e1 e
 have hsep: ∀q B0,Sx.upB tb [(nm,none)] q=some B0-> ∀o∈ov,(ρ q).a=some ⟨o.b,0,none⟩->o∈rest:=fun q B0 e o ho hbq=>by
  simp only[Sx.upB] at e;split at e
  .cases e
  .rename_i hqn
   refine h6 o ho fun o' ho' he=>?_;exact r.dj nm q _ _ (s2 _ _ hb) e (Ne.symm hqn) o'.b (g1.blk ho') (by rw[hbq,he])
 rw[bh.1 hr] at rl';have r3:=r2.new' (x:=z) (B':= .b ty0 s dso lo) (os:=B') (ov':=B'++rest) (f:= .rw d) (y:= .slice z.a z.n z.c) hf2 hG.le rl'.h ⟨vs',by simpa using k1',k2,k3,e2⟩ (fun o ho=>bS _ ho)
  (fun q B0 hq e o ho hbq=>⟨cW _ (hsep q B0 e o ho hbq),fun hc=>by
   have hx: ∃o1∈B',o1.b=o.b:=by
    rcases k1' with⟨_,h,_⟩|⟨b0,rest0,lo0,h,hB,_⟩
    .rw[show z=_ from h] at hc;cases hc
    .rw[show z=_ from h] at hc;cases hc;exact⟨⟨_,aG vs'++rest0,_,lo0⟩,by rw[hB];exact aZ,J⟩
   obtain⟨o1,ho1,he1⟩:=hx;exact hdis o1 ho1 o (hsep q B0 e o ho hbq) he1⟩) (by simp[bB]) (iA rl')
 exact hk.run _ G' _ a' w' r3
def cq[fu:Fu]{f:FuncId}{nm d:Nat}{ty:TypeId}{s:Nat}(dso':List DV)(ha:Bm fr own cf=some ⟨f,nm,l,ty,s,dsi,lo,d⟩)(hF:PB GB prog f (fh l) s ty dsi (fun w=> .v (.slice w.a w.n w.c)) dso)(he:dso=dso')
  (hgo:cv tt n fu.n fr own cf (.rw d) [(nm,none),(d,some (.b ty s dso' lo))] [d]=⟨vc,fr',own',cf'⟩)(k:ao prog GB C n Q0 fr' own' cf')
  (hv:autoParam (aj vc) fn._auto_1):ao prog GB C n Q0 fr own cf:=by
 subst he;unfold Bm at ha;split at ha<;>try (cases ha;done)
 rename_i hh;split at ha<;>try (cases ha;done)
 rename_i h1;split at ha<;>try (cases ha;done)
 rename_i h2;rw[cond_eq_ite] at ha;split at ha<;>cases ha;rename_i h3;exact us hh (TC okM h1 h2 hF) hgo hv k
def F'(C:aD)(s:Nat)(ty:TypeId)(dso:List DV):Ending->World->Prop:=qj C (fun v own' G'=> ∃w',Is G' (.v (.slice w'.a w'.n w'.c)) v/\cH G' ⟨w',s,ty,dso,false⟩ own')
def Gy[fu:Fu]{f:FuncId}{s:Nat}{ty:TypeId}(hf:prog.funcs[f]? =some fb)(hb:fb.body=some c)(hn:(fb.name== "runtime.NumGoroutine")=false)(hm:fb.ntmps=k)(hlen:Nat.ble l.length k=true)
  (hgo:go tt k fu.n [] (uS 0 l) [(NM,some (.b ty s dsi false))] (.code c [])=⟨vc,fr,own,cf⟩)(h: ∀C,ao prog GB C k (dx C prog fb (F' C s ty dso)) fr own cf)
  (hv:autoParam (aj vc) fn._auto_1):PB GB prog f (fh l) s ty dsi (fun w=> .v (.slice w.a w.n w.c)) dso:=by
 intro G w vs B hg hB hvs;refine lc.introR hf hb hn hm (by rw[hvs.len,CS];exact hlen) fun C _ hmb hrd hfx=>?_;intro a wd rl;refine o7 hrd ?_;have h1:=eo (GB:=GB) (C:=C) (Q0:=dx C prog fb (F' C s ty dso)) hgo hv (h C);refine h1.run (fun _=>w) G (Sx.asB B) a wd ⟨hg,rl.h,rl.sz,rl.df,fun k f e=>?_,fun nm B' e=>?_,fun nm nm' B' B2 e e' hne=>?_,fun nm p _ _ e=>by rw[hfx] at e;cases e⟩
 .obtain⟨y,⟨j,hj,hy⟩,h2⟩:=Bh (ρ:=fun _=>w) (w:=w) rfl 0 hvs k f e
  refine⟨y,rl.fr k y ?_,h2⟩;rw[hj];exact ua vs 0 j y hy
 .rw[f7] at e
  split at e
  .cases e;exact⟨Sx.asB B,hB.asB,fun o ho=>ho⟩
  .cases e
 .rw[f7] at e e'
  split at e<;>split at e'
  .rename_i h2 h3;exact absurd (h2.trans h3.symm) hne
  .cases e'
  .cases e
  .cases e
def tP{d s:Nat}{ty:TypeId}{ds:List DV}(hr:fb.results.toList=[.tmp t])(hl:aI fr t=some (.rw d))(hw:aO own d=some (.b ty s ds false))(ed:ds=dso):
  ao prog GB C n (dx C prog fb (F' C s ty dso)) fr own (.ex .ret []):=by
 subst ed;refine⟨fun ρ G ov a w r=>?_⟩;obtain⟨B,g1,g2⟩:=r.bx _ _ hw;have hB:cH G ⟨ρ d,s,ty,ds,false⟩ B:=g1;obtain⟨rest,hp⟩:=xA hB g2;obtain⟨y,hy,hy'⟩:=r.ev (x:= .tmp t) (f:= .rw d) hl
 cases (show y=_ from hy')
 exact wK (C:=C) (n:=n) (fr:=b8 a) (own:=ov) (G:=G) (vs:=[.slice (ρ d).a (ρ d).n (ρ d).c]) omK (B++rest) B hp (lY _ _) ⟨ρ d,bh.2 J,hB⟩ a w ⟨r.h,r.sz,b9 a,r.df⟩
def va(lk:LK):List Operand->Option (List (Option DV))
 |[]=>none
 |[x]=>match ba lk x with
  |some .nl=>some [none]
  |_=>none
 |x::t=>match ba lk x,va lk t with
  |some f,some l=>match ka f with
   |some d=>some (some d::l)
   |none=>none
  |_,_=>none
def Fp(lk:LK)(fo:Operand)(args:Array Operand):Option (FuncId×List (Option DV)):=match ba lk fo with
 |some (.d (.v (.func (.func f) ⟨[]⟩ ⟨[]⟩)))=>match va lk args.toList with
  |some l=>some (f,l)
  |_=>none
 |_=>none
def Nd{lk:LK}{bk:BM}{ρ:NE}{G:Gh}{ov:List av}{a:Act}{w:World}(r:bz GB C n lk bk ρ G ov a w): ∀{x:List Operand} {l:List (Option DV)},va lk x=some l-> ∃y,fm (b8 a) x=some y/\IsLs G (fh l ⟨none,0,0⟩) y
 |[],l,e=>by cases e
 |[x],l,e=>by
  simp only[va] at e;split at e<;>cases e;rename_i h1;obtain⟨y,h3,h4⟩:=r.ev h1
  cases (show y=_ from h4)
  exact⟨[Value.slice none 0 0],by simp only[fm,h3], .cons ((bh (G:=G)).2 J) .nil⟩
 |x::x2::t,l,e=>by
  simp only[va] at e;split at e
  .rename_i f l' h1 h2
   cases hd:ka f with
   |none=>rw[hd] at e;cases e
   |some d=>
   rw[hd] at e;cases e;obtain⟨y,h3,h4⟩:=r.ev h1;obtain⟨ys,h5,h6⟩:=Nd r (x:=x2::t) (by simpa only[va] using h2);exact⟨y::ys,by simp only[fm,h3] at h5⊢;rw[h5], .cons (mh h4 hd) h6⟩
  .cases e
def SJ{f:FuncId}{d:Nat}{s:Nat}{ty:TypeId}{gd:Option (Nat×Bool)}
  (ha:Fp lk fo args=some (f,l))(hF:PB GB prog f (fh l) s ty0 [] (fun w=> .v (.slice w.a w.n w.c)) dso):bD prog GB C n lk bk ⟨some d, .call ⟨.value fo,args,tys⟩,ty,pos,af,gd⟩ (.rw d) [(d,some (.b ty0 s dso true))] [d]:=by
 intro hd tl tb K' s1 s2 hf hk;refine⟨fun ρ G ov a w r Q=>?_⟩;have r1:=r.mono s1 s2;unfold Fp at ha;split at ha<;>try (cases ha;done)
 rename_i h1;split at ha<;>cases ha;rename_i h2;obtain⟨y,hy,hy'⟩:=r1.ev h1;rw[(bh (G:=G)).1 hy'] at hy;obtain⟨vs,h7,h8⟩:=Nd r1 h2;refine r6 (M:=[]) (rest:=ov) hy h7 (List.Perm.refl _) (hF G ⟨none,0,0⟩ vs [] r.gb ⟨[], .nil _ _, .nil,v8,fun h=>by cases h⟩ h8) hd (fun v own1 G' hG hK a' w' rl=>?_) a w Q ⟨r.h,r.sz,b9 a,r.df⟩;obtain⟨z,hr,vs',k1,k2,k3,k4⟩:=hK;have k1':=k1.relo (gt []);have e2: ∀o∈own1.map (relo (gt [])),o.lo=true:=fun o ho=>by
  obtain⟨o',_,rfl⟩:=aN.1 ho;rfl
 generalize own1.map (relo (gt []))=B' at rl e2 k1';have rl':gh C n (Sx.put (b8 a) (some d) v) (B'++ov) G' a' w':=rl;have hdis:=(eY.1 rl'.h.nd).2.2;rw[bh.1 hr] at rl';have r3:=r.new (x:=z) (B':= .b ty0 s dso true) (os:=B') (ov':=B'++ov) (f:= .rw d) (y:= .slice z.a z.n z.c) hf hG.le rl'.h ⟨vs',by simpa using k1',k2,k3,fun _=>e2⟩ (fun o ho=>bS _ ho) (fun o ho=>cW _ ho)
  (fun o ho hc=>by
   have hx: ∃o1∈B',o1.b=o.b:=by
    rcases k1' with⟨_,h,_⟩|⟨b0,rest0,lo0,h,hB,_⟩
    .rw[show z=_ from h] at hc;cases hc
    .rw[show z=_ from h] at hc;cases hc;exact⟨⟨_,aG vs'++rest0,_,lo0⟩,by rw[hB];exact aZ,J⟩
   obtain⟨o1,ho1,he1⟩:=hx;exact hdis o1 ho1 o ho he1) (by simp[bB]) (iA rl')
 exact hk.run _ G' _ a' w' r3
def Me(fr:aA)(cf:Cf):Option (FuncId×List (Option DV)×Nat):=match cO fr cf with
 |some ⟨some d, .call ⟨.value fo,args,_⟩,_,_,_,_⟩=>match Fp (bH fr cf) fo args with
  |some (f,l)=>some (f,l,d)
  |none=>none
 |_=>none
def cqn[fu:Fu]{f:FuncId}{d:Nat}{ty:TypeId}{s:Nat}(dso':List DV)(ha:Me fr cf=some (f,l,d))(hF:PB GB prog f (fh l) s ty [] (fun w=> .v (.slice w.a w.n w.c)) dso)(he:dso=dso')
  (hgo:cv tt n fu.n fr own cf (.rw d) [(d,some (.b ty s dso' true))] [d]=⟨vc,fr',own',cf'⟩)(k:ao prog GB C n Q0 fr' own' cf')
  (hv:autoParam (aj vc) fn._auto_1):ao prog GB C n Q0 fr own cf:=by
 subst he;unfold Me at ha;split at ha<;>try (cases ha;done)
 rename_i hh;split at ha<;>cases ha;rename_i h1;exact us hh (SJ h1 hF) hgo hv k
end
section
variable {T:TT}{ρ:NE}
variable {t:TypeId}{gd:Option (Nat×Bool)}{x:Operand}{e s:Nat}
def UD{d nm:Nat}{i:TI}{ds ds2:List DV}[hT:cg P t e s by_][hN:jh P t'](hi:d7 P e=some i)(hz:lv i=some z)(hs:Nat.beq z.cells.length s=true)(hx:ba lk x=some (.rw nm))(hb:bk nm=some (.b e s ds false))(hy:mH lk bk s y=some ds2)(hk2:cd s ds2)
  (hby:Nat.blt 0 by_=true)(hbd:(ds.length+ds2.length)*by_<=140737488355328)(hnd:Nat.beq nm d=false)(hds:ds++ds2=ds'):
  bD P GB C n lk bk ⟨some d, .call ⟨.builtin .append, #[x,y], #[t,t']⟩,ty',pos,af,gd⟩ (.rw d) [(nm,none),(d,some (.b e s ds' false))] [d]:=by
 intro hd tl tb K s1 s2 hf hk;refine⟨fun ρ G ov a w r Q=>?_⟩;subst hds;have r1:=r.mono s1 s2;obtain⟨v,hz1,hz2,hz3⟩:=ug hi hz;have cz:=((hz2 G).cells hz3).1.len;replace hs:=aR hs;rw[jN] at hby
 have hne:nm≠d:=fun e=>by subst e;simp at hnd
 obtain⟨u,hx',hx2⟩:=r1.ev hx
 cases hx2
 obtain⟨B,hB0,hBo⟩:=r1.bx _ _ hb;have hB1:cH G ⟨ρ nm,s,e,ds,false⟩ B:=hB0;clear hB0;obtain⟨vs,hB,hv,hvs,_⟩:=hB1;simp only[] at hB hv hvs;obtain⟨w2,us,hy',h2,h3,h4,h5,h6⟩:=wi (P:=P) r1 hy hk2;have hus:(aG us).length=us.length*s:=d6 us h4;have hbd':(vs.length+us.length)*by_<=140737488355328:=by rw[hv.len,h3.len];exact hbd
 have hall: ∀v∈vs++us,(aH v).length=s:=fun v hv=>by
  rcases bJ.1 hv with hv|hv
  .exact hvs v hv
  .exact h4 v hv
 have rd:=r.dropB nm;have hf':ir [d] (some d) tl (Sx.upB tb [(nm,none)]):=fun m hm=>by
  obtain⟨g1,g2⟩:=hf m hm;refine⟨g1,fun k B' hk e=>g2 k B' hk ?_⟩;simp only[Sx.upB] at e;split at e
  .cases e
  .exact e
 have hbk: ∀m B',(Sx.upB tb [(nm,none)]) m=some B'->m≠nm/\tb m=some B':=fun m B' e=>by
  simp only[Sx.upB] at e;split at e
  .cases e
  .exact⟨oma,e⟩
 have hnew: ∀{z:SV} {ov':List av} {B1:List av} {a':Act} {w':World} {dz:List DV},cH G ⟨z,s,e,dz,false⟩ B1->(∀o∈B1,o∈ov')->(∀m B',m≠d->(Sx.upB tb [(nm,none)]) m=some B'-> ∀o∈ov,(ρ m).a=some ⟨o.b,0,none⟩->o∈ov'/\z.a≠some ⟨o.b,0,none⟩)->
   SX GB C n (dm tl (some d) (.rw d)) (Sx.upB (Sx.upB tb [(nm,none)]) [(d,some (.b e s dz false))]) K->gh C n (Sx.put (b8 a) (some d) (.slice z.a z.n z.c)) ov' G a' w'->K a' w':=fun hB1 hos hov hk1 rl=>
  hk1.run _ _ _ _ _ (rd.new' (f:= .rw d) (y:= .slice _ _ _) hf' (bA.refl _) rl.h (hB1.toBk v8) hos hov okV (iA rl))
 have hfin: ∀(b:Nat) (lo1:Bool) (cap':Nat) (rest':List Value) (ov1:List av) a' w',vs.length+us.length<=cap'->rest'.length+(vs.length+us.length)*s=cap'*s->(∀o∈ov,(ρ nm).a≠some ⟨o.b,0,none⟩->o∈ov1)->
   gh C n (put (b8 a) (some d) (.slice (some ⟨b,0,none⟩) (vs.length+us.length) cap')) (⟨b,aG (vs++us)++rest',e,lo1⟩::ov1) G a' w'->K a' w':=by
  intro b lo1 cap' rest' ov1 a' w' hc hr ho1 rl;have hnd':=(bN.1 rl.h.nd).1;refine hnew (z:=⟨some ⟨b,0,none⟩,vs.length+us.length,cap'⟩) (B1:=[⟨b,aG (vs++us)++rest',e,lo1⟩]) ⟨vs++us, .inr ⟨b,rest',lo1,v8,J,d6 _ hall,?_,by simpa using hc⟩,hv.app h3,hall,fun h=>by cases h⟩
   (fun o ho=>by rw[aW.1 ho];exact aZ) (fun m B' hm e o ho hmo=>?_) hk rl
  .rw[d6 _ hall,aU]
   simp only[];omega
  .obtain⟨h7,h8⟩:=hbk m B' e
   have ho2:=ho1 o ho fun hc=>r.dj m nm B' _ h8 (s2 _ _ hb) h7 _ hmo hc;exact⟨aK _ ho2,fun e'=>by cases e';exact hnd' o ho2 J⟩
 rcases hB with⟨e1,e2,e3⟩|⟨b,rest,lo',k3,k4,k5,k6,k7⟩
 .subst e1
  rw[e2] at hx';by_cases hne:us=[]
  .subst hne
   have:ds2=[]:=cV (by rw[<-h3.len];rfl);subst this;rw[h2] at hy';refine Hn hx' hy' hd (fun a' w' rl=>?_) a w Q ⟨r.h,r.sz,b9 a,r.df⟩;refine hnew (z:=⟨none,0,0⟩) (B1:=[]) ⟨[], .inl ⟨J,J,J⟩,by simpa using hv,v8,fun h=>by cases h⟩ (fun o ho=>by cases ho) (fun m B' hm e o ho hmo=>⟨ho,fun e'=>by cases e'⟩) hk rl
  .have hup:0<us.length:=mQ.2 hne
   rw[h2] at hy' h6;refine Bo (z:=v) (xs:=[]) (ys:=aG us) hx' hy' sA h6 okP hby (by simpa using hbd') hd (fun b cap' hc a' w' rl=>?_) a w Q ⟨r.h,r.sz,b9 a,r.df⟩;exact hfin b true cap' (dE v (cap'-us.length)) ov a' w' (by simpa using hc) okn (fun o ho _=>ho) (by simpa using rl)
 .subst k4
  have ha:(ρ nm).a=some ⟨b,0,none⟩:=by rw[k3]
  have hn:(ρ nm).n=vs.length:=by rw[k3]
  rw[ha,hn] at hx';rw[h2] at hy' h6;obtain⟨ov1,o1,o2⟩:=iC.of_mem (hBo _ aZ);refine YI (z:=v) (xs:=aG vs) (ys:=aG us) (rest:=rest) (own1:=ov1) hx' hy' o1 k5 k6 k7 h6 hus h5 hby hbd' (by rw[cz,hs]) hd (fun b' lo2 cap' rest' hc hr a' w' rl=>?_) a w Q ⟨r.h,r.sz,b9 a,r.df⟩;rw[<-pg] at rl;exact hfin b' lo2 cap' rest' ov1 a' w' hc hr (fun o ho hne=>o2 o ho fun e'=>hne (by rw[ha,e'])) rl
end
section
variable {own:aF}
def K8(fr:aA)(own:aF)(cf:Cf):Option (Nat×Nat×Nat×Nat×Nat×List DV×List DV):=match cO fr cf with
 |some ⟨some d, .call ⟨.builtin .append,⟨[x,y]⟩,⟨[t,t']⟩⟩,_,_,_,_⟩=>match di tt t with
  |some ⟨.sl e s b,_,_,_⟩=>match di tt t' with
   |some ⟨.sl _ _ _,_,_,_⟩=>match di tt e with
    |some i=>match lv i with
     |some z=>bif Nat.beq z.cells.length s&&Nat.blt 0 b then(match mH (bH fr cf) (gp fr own cf) s y with
      |some ds2=>match ba (bH fr cf) x with
       |some (.rw nm)=>match gp fr own cf nm with
        |some (.b e' s' ds false)=>bif (Nat.beq e' e&&Nat.beq s' s)&&!Nat.beq nm d then some (d,nm,e,s,b,ds,ds2) else none
        |_=>none
       |_=>none
      |none=>none) else none
     |none=>none
    |none=>none
   |_=>none
  |_=>none
 |_=>none
def I'[fu:Fu]{d nm:Nat}{e s:Nat}{ds ds2:List DV}(ds':List DV)(h:K8 fr own cf=some (d,nm,e,s,b,ds,ds2))(hds:ds++ds2=ds')(ho2:cd s ds2)(hgo:cv tt n fu.n fr own cf (.rw d) [(nm,none),(d,some (.b e s ds' false))] [d]=⟨vc,fr',own',cf'⟩)(k:ao prog GB C n Q0 fr' own' cf')
  (hbd:(ds.length+ds2.length)*b<=140737488355328:=by simp;omega)
  (hv:autoParam (aj vc) fn._auto_1):ao prog GB C n Q0 fr own cf:=by
 unfold K8 at h;split at h<;>try (cases h;done)
 rename_i hh;split at h<;>try (cases h;done)
 rename_i hT;split at h<;>try (cases h;done)
 rename_i hT';split at h<;>try (cases h;done)
 rename_i hi;split at h<;>try (cases h;done)
 rename_i hz;rw[cond_eq_ite] at h;split at h<;>try (cases h;done)
 rename_i hc;simp only[bV] at hc;split at h<;>try (cases h;done)
 rename_i hy;have:=ji (dw _ _ hT) J;have hN:jh prog _:=⟨_,(ji (dw _ _ hT') J).un⟩;split at h<;>try (cases h;done)
 rename_i hx;split at h<;>try (cases h;done)
 rename_i hb;rw[cond_eq_ite] at h;split at h<;>cases h;rename_i hq;simp only[bV,fN] at hq
 cases aR hq.1.1
 cases aR hq.1.2
 exact us hh (UD (dw _ _ hi) hz hc.1 hx hb hy ho2 hc.2 hbd hq.2 hds) hgo hv k
end
section
variable {own:aF}
variable {t:TypeId}{gd:Option (Nat×Bool)}{x:Operand}
def Vy{w:SV}{s:Nat}{ty:TypeId}{ds:List DV}(h:cH G ⟨w,s,ty,ds,lo⟩ B)(hn:0<ds.length): ∃b,w=⟨some ⟨b,0,none⟩,ds.length,w.c⟩/\ds.length<=w.c:=by
 obtain⟨vs,h1,h2,_⟩:=h;rcases h1 with⟨e1,_,_⟩|⟨b,rest,lo',e1,_,_,_,h5⟩
 .subst e1;have:=h2.len;simp at this;omega
 .exact⟨b,by rw[<-h2.len];exact e1,by rw[<-h2.len];exact h5⟩
def i4.cut{s:Nat}{ty:TypeId}{z:SV}(h:i4 s ty z vs B)(hs: ∀v∈vs,(aH v).length=s)(hk:k<=vs.length)(hne:0<vs.length):i4 s ty ⟨z.a,k,z.c⟩ (vs.take k) B:=by
 rcases h with⟨h1,_,_⟩|⟨b,rest,lo,h1,h2,h3,h4,h5⟩
 .subst h1;simp at hne
 .have e:aG vs=aG (vs.take k)++aG (vs.drop k):=by rw[<-pg,jK]
  have hl:=d6 (vs.take k) fun v hv=>hs v (dW hv);have hm:(vs.take k).length=k:=by rw[bR];omega
  refine .inr ⟨b,aG (vs.drop k)++rest,lo,by rw[hm,h1],by rw[h2,e,fK],hl,?_,by rw[hm];show k<=z.c;omega⟩;show _=z.c*s;rw[<-h4,e,aU,aU];omega
def YZ{e s:Nat}[hT:cg P t e s by_]{nm d:Nat}{k:IntKind}{ty:TypeId}{ds:List DV}(hne:Nat.beq nm d=false)(hx:ba lk x=some (.rw nm))(hb:bk nm=some (.b ty s ds lo))(hy:ba lk y=some (.d (.v (.int k j))))(h1:j<ds.length):
  bD P GB C n lk bk ⟨some d, .slice t x none (some y) none,ty',pos,af,gd⟩ (.rw d) [(nm,none),(d,some (.b ty s (ds.take j) lo))] [d]:=by
 intro hd tl tb K s1 s2 hf hk;refine⟨fun ρ G ov a w r Q=>?_⟩;have r1:=r.mono s1 s2;obtain⟨u,hu,hu2⟩:=r1.ev hx
 cases (show u=_ from hu2)
 obtain⟨v,hv,hv2⟩:=r1.ev hy;rw[cC] at hv2;subst hv2;obtain⟨B,hB0,hBo⟩:=r1.bx _ _ hb;have hB:cH G ⟨ρ nm,s,ty,ds,lo⟩ B:=hB0;obtain⟨b,hw,hc⟩:=Vy hB pb;obtain⟨vs,g1,g2,g3,g4⟩:=hB;have hvl:=g2.len;have hcut:cH G ⟨⟨(ρ nm).a,j,(ρ nm).c⟩,s,ty,ds.take j,lo⟩ B:=⟨vs.take j,i4.cut g1 g3 (by simp only at hvl⊢;omega) (by simp only at hvl⊢;omega),g2.take _,fun v hv=>g3 v (dW hv),g4⟩;have hs:=HL (P:=P) (C:=C) (own:=ov) (G:=G) (dst:=some d) (ty':=ty') (pos:=pos) (af:=af) (gd:=gd) (t:=t) hu hv;have hnn:nm≠d:=fun e=>by subst e;rw[kS] at hne;cases hne
 have r2:=r.dropB nm;have hf2:ir [d] (some d) tl (Sx.upB tb [(nm,none)]):=fun q hq=>by
  obtain⟨f1,f2⟩:=hf q hq;refine⟨f1,fun k B e1 e=>?_⟩;simp only[Sx.upB] at e;split at e
  .cases e
  .exact f2 k B e1 e
 have r3:=r2.new' (x:=⟨(ρ nm).a,j,(ρ nm).c⟩) (B':= .b ty s (ds.take j) lo) (os:=B) (ov':=ov) (f:= .rw d) (y:= .slice (ρ nm).a j (ρ nm).c) hf2 (bA.refl _) r.h (hcut.toBk v8) hBo
  (fun m B' hm e o ho hmo=>⟨ho,fun hc=>by
   simp only[Sx.upB] at e;split at e
   .cases e
   .rename_i hmn
    exact r.dj m nm B' _ e (s2 _ _ hb) hmn _ hmo hc⟩) (by simp[bB]) (r.putA (.slice (ρ nm).a j (ρ nm).c) hd)
 exact j0 (hs a w (b9 a) r.h) (hk.run _ G _ _ w r3)
def IB(fr:aA)(own:aF)(cf:Cf):Option (Nat×Nat×TypeId×Nat×List DV×Bool×Int):=match cO fr cf with
 |some ⟨some d, .slice t x none (some y) none,_,_,_,_⟩=>match di tt t with
  |some ⟨.sl _ s' _,_,_,_⟩=>match ba (bH fr cf) x with
   |some (.rw nm)=>match gp fr own cf nm with
    |some (.b ty s ds lo)=>match ba (bH fr cf) y with
     |some (.d (.v (.int _ i)))=>bif Nat.beq s s'&&!Nat.beq nm d then some (d,nm,ty,s,ds,lo,i) else none
     |_=>none
    |_=>none
   |_=>none
  |_=>none
 |_=>none
def NS[fu:Fu]{d nm s:Nat}{ty:TypeId}{ds:List DV}{i:Int}(ds':List DV)(k:Nat)(h:IB fr own cf=some (d,nm,ty,s,ds,lo,i))(hi:i=(k:Nat))(hl:k<ds.length)(hd:ds.take k=ds')(hgo:cv tt n fu.n fr own cf (.rw d) [(nm,none),(d,some (.b ty s ds' lo))] [d]=⟨vc,fr',own',cf'⟩)(kk:ao prog GB C n Q0 fr' own' cf')
  (hv:autoParam (aj vc) fn._auto_1):ao prog GB C n Q0 fr own cf:=by
 subst hi hd;unfold IB at h;split at h<;>try (cases h;done)
 rename_i hh;split at h<;>try (cases h;done)
 rename_i hT;split at h<;>try (cases h;done)
 rename_i hx;split at h<;>try (cases h;done)
 rename_i hb;split at h<;>try (cases h;done)
 rename_i hy;rw[cond_eq_ite] at h;split at h<;>cases h;rename_i hq;simp only[bV,fN] at hq
 cases aR hq.1
 have:=ji (dw _ _ hT) J;exact us hh (YZ hq.2 hx hb hy hl) hgo hv kk
end
section
variable {F:Fence}{md:Region.Mode}
def JL: ∀{k:Nat} {listed:Array Bool} {a:Act} {w:World},wpAnyIn F n P md ops Q k listed a w->wpAnyIn F n P md ops Q (k+1) listed a w
 |0,_,_,_,h=>⟨fun _=>h.2,fun i hi=>by rw[h.1] at hi;cases hi⟩
 |_+1,_,_,_,h=>⟨h.1,fun i hi=>wpOpIn_mono (fun _ _ k=>JL k) (h.2 i hi)⟩
def NG{k:Nat}{listed:Array Bool}{a:Act}{w:World}(h:wpAnyIn F n P md ops Q k listed a w): ∀j,wpAnyIn F n P md ops Q (j+k) listed a w
 |0=>by rw[eX];exact h
 |j+1=>by rw[show j+1+k=j+k+1 by omega];exact JL (NG h j)
def Bf.lt{l:List Oper}(he:lw 0 l=true){i:Nat}(h:Bf l i j):j<i:=by
 induction h with
 |b ho hm hb=>have:=p7 he _ _ ho _ hm hb;omega
 |s ho hm hb _ ih=>have:=p7 he _ _ ho _ hm hb;omega
def Bf.inv{l:List Oper}{i:Nat}(h:Bf l i j): ∃o e,l[i]? =some o/\e∈o.after/\Region.binds .any e=true/\(e.on=j\/Bf l e.on j):=by
 induction h with
 |b ho hm hb=>exact⟨_,_,ho,hm,hb, .inl J⟩
 |s ho hm hb hh _=>exact⟨_,_,ho,hm,hb, .inr hh⟩
def Jc(he:lw 0 ops.toList=true): ∀(r pre:List Oper),ops.toList=pre++r->(∀i,pre.length<=i->i<ops.size-> ∀j,j<i->Bf ops.toList i j)-> ∀(listed:Array Bool) (a:Act) (w:World),(∀j d,listed.getD j d=if j<pre.length then true else if j<ops.size then false else d)->wpListIn F n P ops Q r a w->wpAnyIn F n P .any ops Q r.length listed a w
 |[],pre,hops,_,listed,a,w,hl,h=>by
  refine⟨?_,h⟩;rw[List.eq_nil_iff_forall_not_mem];intro i hi;obtain⟨h1,o,h2,_⟩:=mem_ready.1 hi;have h3:=(fZ.1 h2).1;have h4:pre.length=ops.size:=by rw[<-kQ,hops];simp
  rw[hl,if_pos pb] at h1
  cases h1
 |o::r,pre,hops,hc,listed,a,w,hl,h=>by
  have hsz:ops.size=pre.length+(r.length+1):=by rw[<-kQ,hops];simp
  have hp:ops.toList[pre.length]? =some o:=by rw[hops];simp
  have hp':ops[pre.length]? =some o:=by simpa using hp
  have only: ∀i,i∈Region.ready .any ops listed↔i=pre.length:=fun i=>by
   rw[mem_ready];constructor
   .rintro ⟨h1,o',h2,h3⟩
    have h4:=(fZ.1 h2).1;rw[hl] at h1;split at h1
    .cases h1
    .rename_i h5
     apply Classical.byContradiction;intro h6;have hb:=hc i pb h4 pre.length pb;obtain⟨o2,e,ho,hm,hb,hh⟩:=hb.inv;have e':o'=o2:=Option.some.inj (h2.symm.trans okv);subst e';have h7:=h3 _ hm hb;have h9:=p7 he _ _ ho _ hm hb;have h8:pre.length<=e.on:=by
      rcases hh with hh|hh
      .omega
      .have:=hh.lt he;omega
     rw[hl,if_neg pb,if_pos pb] at h7
     cases h7
   .rintro rfl
    refine⟨by rw[hl,if_neg pb,if_pos pb],o,hp',fun e hm hb=>?_⟩;have:=p7 he _ _ hp _ hm hb;rw[hl,if_pos pb]
  refine⟨fun hn=>?_,fun i hi=>?_⟩
  .have:=(only pre.length).2 J
   rw[hn] at this;cases this
  .obtain rfl:=(only i).1 hi
   have ih:=Jc he r (pre++[o]) (by rw[hops];simp) (fun i h1 h2=>hc i (by simp at h1;omega) h2) (listed.setIfInBounds pre.length true);have hl': ∀j d,(listed.setIfInBounds pre.length true).getD j d=if j<(pre++[o]).length then true else if j<ops.size then false else d:=fun j d=>by
    have hls:pre.length<listed.size:=by
     apply Classical.byContradiction;intro hq;have h1:=hl pre.length true;rw[if_neg pb,if_pos pb,bT,oQ pb] at h1
     cases h1
    have h1:=hl j d;rw[bT] at h1⊢;rw[dV];by_cases hj:pre.length=j
    .subst hj;rw[if_pos J,if_pos hls,if_pos v8];rfl
    .rw[if_neg hj,h1]
     simp only[aU,bY,iQ];by_cases h2:j<pre.length
     .rw[if_pos h2,if_pos pb]
     .rw[if_neg h2]
      by_cases h3:j<ops.size
      .rw[if_pos h3,if_neg pb];
      .rw[if_neg h3,if_neg pb]
   unfold wpOpIn;rw[hp'];simp only[wpListIn] at h⊢;split
   .rename_i hw;rw[if_pos hw] at h
    exact Oper.wpIn_mono (fun a w k=>ih a w hl' k) h
   .rename_i hw;rw[if_neg hw] at h
    exact⟨h.1,ih _ _ hl' h.2⟩
def Cr(F:Fence)(n:Nat)(P:Program)(ops:Array Oper)(r:List Oper)(Q:Exit->Act->World->Prop):Exit->Act->World->Prop
 | .normal=>wpListIn F n P ops Q r
 |e=>Q e
def Wv{K:Act->World->Prop}(h:o.wpIn F n P a w K (Cr F n P ops r Q)):o.wpIn F n P a w K Q:=by
 refine⟨h.1,?_⟩;have:=h.2
 cases hr:(o.semAt F.round a.eval).run P w with
 |ok x w'=>
  rw[hr] at this
  cases x with
  |enter f args=>exact⟨this.1,CallsIn.mono this.2 fun e w'' he=>by cases e<;>exact he⟩
  |round l f t x y=>exact⟨this.1,RoundIn.mono this.2 fun e w'' he=>by cases e<;>exact he⟩
  |_=>exact this
 |halt x w'=>
  rw[hr] at this
  cases x<;>exact this
def Y2(hops:ops.toList=pre++r)(hg: ∀o∈pre,o.guard=none)(he:lw 0 ops.toList=true)(hc: ∀i,pre.length<=i->i<ops.size-> ∀j,j<i->Bf ops.toList i j):
  ∀(fuel:Nat) (L listed:Array Bool) (a:Act) (w:World),L.size=pre.length->(∀j d,listed.getD j d=if j<pre.length then L.getD j d else if j<ops.size then false else d)->(∀i o,ops.toList[i]? =some o->listed.getD i false=true-> ∀e∈o.after,Region.binds .any e=true->listed.getD e.on false=true)->
   wpAnyIn F n P .any pre.toArray (Cr F n P ops r Q) fuel L a w->wpAnyIn F n P .any ops Q (fuel+r.length) listed a w:=by
 have hsz:ops.size=pre.length+r.length:=by rw[<-kQ,hops];simp
 have hget: ∀i,i<pre.length->ops[i]? =pre.toArray[i]? :=fun i hi=>by rw[<-oR,hops,fV hi];simp
 -- all of the first part is done
 have fin: ∀(L listed:Array Bool) (a:Act) (w:World),L.size=pre.length->(∀j d,listed.getD j d=if j<pre.length then L.getD j d else if j<ops.size then false else d)->Region.ready .any pre.toArray L=[]->wpListIn F n P ops Q r a w->wpAnyIn F n P .any ops Q r.length listed a w:=by
  intro L listed a w hL hl hr h;have all: ∀i,i<pre.length->L.getD i true=true:=by
   intro i
   induction i using Nat.strongRecOn with
   |ind i ih=>
    intro hi
    cases hq:L.getD i true with
    |true=>rfl
    |false=>
     have:i∈Region.ready .any pre.toArray L:=mem_ready.2 ⟨hq,pre[i],by simp[hi],fun e hm hb=>by
      have hlt:=p7 he i pre[i] (by rw[hops,fV hi];simp[hi]) e hm hb;have:=ih e.on pb pb;rw[bT,fL pb] at this⊢;simpa using this⟩
     rw[hr] at this;cases this
  refine Jc he r pre hops hc listed a w (fun j d=>?_) h;rw[hl];by_cases hj:j<pre.length
  .have:=all j hj
   rw[if_pos hj,if_pos hj];rw[bT,fL pb] at this⊢;simpa using this
  .rw[if_neg hj,if_neg hj]
 intro fuel
 induction fuel with
 |zero=>
  intro L listed a w hL hl hcl h;rw[eX];exact fin L listed a w hL hl h.1 h.2
 |succ fuel ih=>
  intro L listed a w hL hl hcl h;by_cases hr:Region.ready .any pre.toArray L=[]
  .exact NG (fin L listed a w hL hl hr (h.1 hr)) (fuel+1)
  .have sub: ∀i,i∈Region.ready .any pre.toArray L->i∈Region.ready .any ops listed:=fun i hi=>by
    obtain⟨h1,o,h2,h3⟩:=mem_ready.1 hi;have hi':i<pre.length:=by have:=(fZ.1 h2).1;simpa using this
    refine mem_ready.2 ⟨by rw[hl,if_pos hi'];exact h1,o,by rw[hget i hi'];exact h2,fun e hm hb=>?_⟩;have hlt:=p7 he i o (by rw[hops,fV hi'];simpa using h2) e hm hb;rw[hl,if_pos pb];exact h3 e hm hb
   have sup: ∀i,i∈Region.ready .any ops listed->i∈Region.ready .any pre.toArray L:=fun i hi=>by
    obtain⟨h1,o,h2,h3⟩:=mem_ready.1 hi;have h4:=(fZ.1 h2).1;by_cases hi':i<pre.length
    .rw[hl,if_pos hi'] at h1
     refine mem_ready.2 ⟨h1,o,by rw[<-hget i hi'];exact h2,fun e hm hb=>?_⟩;have hlt:=p7 he i o ozq e hm hb;have:=h3 e hm hb;rw[hl,if_pos pb] at this;exact this
    .exfalso
     obtain⟨j,hj⟩:=List.exists_mem_of_ne_nil _ hr;obtain⟨g1,o2,g2,_⟩:=mem_ready.1 hj;have hj':j<pre.length:=by have:=(fZ.1 g2).1;simpa using this
     have clo: ∀i j,Bf ops.toList i j->listed.getD i false=true->listed.getD j false=true:=fun i j hb=>by
      induction hb with
      |b ho hm hb=>intro hi;exact hcl _ _ ho hi _ hm hb
      |s ho hm hb _ ih=>intro hi;exact ih (hcl _ _ ho hi _ hm hb)
     have hjf:listed.getD j false=false:=by
      rw[hl,if_pos hj'];rw[bT,fL pb] at g1⊢;simpa using g1
     have:listed.getD j false=true:=by
      obtain⟨o2,e,ho,hm,hb,hh⟩:=(hc i pb h4 j pb).inv;have e':o=o2:=Option.some.inj (h2.symm.trans okv);subst e';rcases hh with hh|hh
      .rw[<-hh];exact h3 _ hm hb
      .exact clo _ _ hh (h3 _ hm hb)
     rw[hjf] at this;cases this
   rw[show fuel+1+r.length=(fuel+r.length)+1 by omega];refine⟨fun hn=>?_,fun i hi=>?_⟩
   .obtain⟨j,hj⟩:=List.exists_mem_of_ne_nil _ hr
    have:=sub j hj;rw[hn] at this;cases this
   .have hi0:=sup i hi
    have hk:=h.2 i hi0;obtain⟨h1,o,h2,h3⟩:=mem_ready.1 hi0;have hi':i<pre.length:=by have:=(fZ.1 h2).1;simpa using this
    have hgo:o.guard=none:=hg o (by
     have h2':pre[i]? =some o:=by simpa using h2
     exact aV h2')
    have step: ∀a w,wpAnyIn F n P .any pre.toArray (Cr F n P ops r Q) fuel (L.setIfInBounds i true) a w->wpAnyIn F n P .any ops Q (fuel+r.length) (listed.setIfInBounds i true) a w:=by
     intro a w hh;have hls:i<listed.size:=by
      apply Classical.byContradiction;intro hq;have q:=hl i true;have q':=hl i false;rw[if_pos hi'] at q q';rw[bT,oQ pb] at q q';rw[bT,fL pb] at q q';simp only[Option.getD_none,jZ] at q q';rw[<-q] at q';cases q'
     have hl': ∀j d,(listed.setIfInBounds i true).getD j d=if j<pre.length then(L.setIfInBounds i true).getD j d else if j<ops.size then false else d:=fun j d=>by
      have q:=hl j d;rw[bT] at q⊢;rw[bT] at q⊢;rw[dV,dV];by_cases hj:i=j
      .subst hj;rw[if_pos J,if_pos J,if_pos hls,if_pos hi',if_pos pb]
      .rw[if_neg hj,if_neg hj];exact q
     refine ih _ _ a w (by simp[hL]) hl' (fun i2 o2 g1 g2 e hm hb=>?_) hh;have g3:i2=i\/listed.getD i2 false=true:=by
      rw[bT,dV] at g2;by_cases hj:i=i2
      .exact .inl hj.symm
      .rw[if_neg hj] at g2;rw[bT];exact .inr g2
     have g4:listed.getD e.on false=true:=by
      rcases g3 with rfl|g3
      .have e':o=o2:=Option.some.inj (((hget i2 hi').trans h2).symm.trans (by simpa using g1))
       subst e';have hlt:=p7 he i2 o g1 e hm hb;rw[hl,if_pos pb];exact h3 e hm hb
      .exact hcl i2 o2 g1 g3 e hm hb
     rw[bT,dV];by_cases hj:i=e.on
     .rw[if_pos hj];rw[if_pos hls];rfl
     .rw[if_neg hj];rw[bT] at g4;exact g4
    unfold wpOpIn at hk⊢;rw[hget i hi',h2];rw[h2] at hk;have hw: ∀y,Region.wanted o y=true:=fun y=>by unfold Region.wanted;rw[hgo]
    simp only[hw,if_true] at hk⊢;exact Wv (Oper.wpIn_mono step hk)
end
section
variable {own:aF}{us:List Rc}{id:Nat}
def CC(x:Nat):Nat->Bool
 |0=>true
 |i+1=>x.testBit i&&CC x i
def H0{x:Nat}: ∀{i:Nat},CC x i=true-> ∀j,j<i->x.testBit j=true
 |i+1,h,j,hj=>by
  simp only[CC,bV] at h;by_cases e:j=i
  .subst e;exact h.1
  .exact H0 h.2 j pb
def yj:Nat->List Nat->Bool
 |_,[]=>true
 |i,x::t=>CC x i&&yj (i+1) t
def K7: ∀{l:List Nat} {k:Nat},yj k l=true-> ∀i x,l[i]? =some x-> ∀j,j<k+i->x.testBit j=true
 |y::t,k,h,0,x,hx,j,hj=>by
  simp only[yj,bV] at h
  cases hx
  exact H0 h.1 j pb
 |y::t,k,h,i+1,x,hx,j,hj=>by
  simp only[yj,bV] at h;exact K7 h.2 i x (by simpa using hx) j pb
def NA: ∀(r:List Oper) (acc:List Nat),(nC r acc).length=acc.length+r.length
 |[],acc=>by simp[nC]
 |o::r,acc=>by simp only[nC];rw[NA];simp;omega
def GP(m:Nat)(pre all:List Oper)(us:List Rc)(fr0:aA)(own0:aF):Bool:=
 (pre.all (fun o=>o.guard.isNone)&&s9 (nC pre []) [] us)&&((lw 0 all&&yj m ((nC all []).drop m))&&Cm us fr0 own0)
def Ug(hm:P.follows .mixedOrders=true)(h:GP us.length (ops.toList.take us.length) ops.toList us fr0 own0=true)(k:ao P GB C n Q0 fr own (.ops ops r K)):ao P GB C n Q0 fr own (.dr id ops fr0 own0 us r K):=by
 intro D;obtain⟨pre,hp,hl⟩:=D.pre;have ht:ops.toList.take us.length=pre:=by rw[hp,<-hl];simp
 rw[ht] at h;simp only[GP,bV] at h;obtain⟨⟨h1,h2⟩,⟨h3,h4⟩,h5⟩:=h;have hg: ∀o∈pre,o.guard=none:=fun o ho=>by simpa using dZ.1 h1 o ho
 have hgt: ∀i,i<pre.length->ops[i]? =pre.toArray[i]? :=fun i hi=>by rw[<-oR,hp,fV hi];simp
 have hc: ∀i,pre.length<=i->i<ops.size-> ∀j,j<i->Bf ops.toList i j:=fun i g1 g2 j g3=>by
  refine Dk ops.toList [] [] J J (fun i j h=>by simp at h) i j ?_;have hlen:=NA ops.toList [];have hi:i<(nC ops.toList []).length:=by rw[hlen];simpa using g2
  rw[aJ,aQ hi];refine K7 h4 (i-us.length) _ ?_ j pb;rw[oZ,show us.length+(i-us.length)=i by omega];exact aQ hi
 have he':lw 0 pre=true:=by
  have: ∀(l l':List Oper) (k:Nat),lw k (l++l')=true->lw k l=true:=by
   intro l l'
   induction l with
   |nil=>intros;rfl
   |cons o t ih=>intro k h;simp only[iT,lw,bV] at h⊢;exact⟨h.1,ih _ h.2⟩
  exact this pre r 0 (by rw[<-hp];exact h3)
 have D':i7 P GB C n pre.toArray us (aI fr0,aO own0):=by
  refine⟨by simpa using hl.symm,fun i u o hu ho=>?_,by simpa using h2,by simpa using he',Mh h5⟩;have hi:i<pre.length:=by have:=(fZ.1 ho).1;simpa using this
  obtain⟨d1,d2⟩:=D.snd i u o hu (by rw[hgt i hi];exact ho);refine⟨d1,fun Q tl tb K s1 s2 hf hk=>?_⟩;refine(d2 Q tl tb K s1 s2 hf hk).imp fun a w q=>?_;have hgo:o.guard=none:=hg o (aV okv);have hw: ∀y,Region.wanted o y=true:=fun y=>by unfold Region.wanted;rw[hgo]
  unfold wO at q⊢;simp only[hw,if_true] at q⊢;exact q
 have e:cc (dh (Array.replicate pre.length false)) 0 (aI fr0,aO own0) us=(aI fr0,aO own0):=by
  have: ∀(l:List Rc) (k:Nat) (s:ST),cc (dh (Array.replicate pre.length false)) k s l=s:=fun l=>by
   induction l with
   |nil=>intro k s;rfl
   |cons y l ih=>
    intro k s;simp only[cc];rw[ih];rw[A4];rfl
  exact this us 0 _
 have hw:=D'.walk (Q:=Cr (FW C.rd) 0 P ops r (cQ C.rd P Q0 K)) (by rw[D.st];exact k) pre.toArray.size (Array.replicate pre.length false) v8 (fun i o _ hi=>by rw[A4] at hi;cases hi) (by unfold un;exact cJ (lX _ _) v8);rw[e] at hw;refine hw.drew.imp fun a w q=>wpIn_region_any hm ?_;have hsz:ops.size=pre.toArray.size+r.length:=by rw[<-kQ,hp];simp
 rw[show wpAnyIn (FW C.rd) 0 P .any ops (cQ C.rd P Q0 K) ops.size=wpAnyIn (FW C.rd) 0 P .any ops (cQ C.rd P Q0 K) (pre.toArray.size+r.length) by rw[hsz]];refine Y2 hp hg h3 hc _ _ _ _ _ v8 (fun j d=>?_) (fun i o _ hi=>?_) q
 .have hs2:ops.size=pre.length+r.length:=by simpa using hsz
  simp only[bT,pS];by_cases g1:j<pre.length
  .rw[if_pos pb,if_pos g1,if_pos g1]
  .by_cases g2:j<ops.size
   .rw[if_pos g2,if_neg g1,if_pos g2];rfl
   .rw[if_neg g2,if_neg g1,if_neg g2];rfl
 .simp only[bT,pS] at hi
  split at hi<;>cases hi
end
section
variable {own:aF}{us:List Rc}{id:Nat}
def UO[fu:Fu](h:GP us.length (ops.toList.take us.length) ops.toList us fr0 own0=true)(hgo:go tt n fu.n [] fr own (.ops ops r K)=⟨vc,fr',own',cf'⟩)(k:ao prog GB C n Q0 fr' own' cf')
  (hv:autoParam (aj vc) cL._auto_1):ao prog GB C n Q0 fr own (.dr id ops fr0 own0 us r K):=
 Ug follows h (eo hgo hv k)
end
def Fj(o:Obj):Prop:= ∀cs ty z,o≠ .cells cs ty z
section
variable {own:List av}
def bu.ctx(h:bu C own G w)(h1:C'.w0=C.w0)(h2:C'.G0=C.G0)(h3:C'.mb=C.mb)(h4: ∀p∈C'.ex,p∈C.ex):bu C' own G w:=by
 obtain⟨a1,a2,a3,a4,a5,a6,a7,a8,a9,a10,a11,a12⟩:=h;exact⟨by rw[h1];exact a1,by rw[h1];exact a2,by rw[h1];exact a3,by rw[h1];exact a4,by rw[h1,h3];exact a5,a6,by rw[h2];exact a7,by rw[h1,h2];exact a8,by rw[h1,h3];exact a9,a10,by rw[h1];exact a11,fun p hp=>a12 p (h4 p hp)⟩
def bu.addx(h:bu C own G w){o:Obj}(ho:Fj o)(h1:C'.w0=C.w0)(h2:C'.G0=C.G0)(h3:C'.mb=C.mb)(h4: ∀p∈C'.ex,p=(w.heap.size,o)\/p∈C.ex):bu C' own G (w.alloc o):=by
 have old: ∀b,b<w.heap.size->(w.alloc o).heap[b]? =w.heap[b]? :=fun b hb=>RowKit.Below.heap_alloc _ _ _ hb;obtain⟨a1,a2,a3,a4,a5,a6,a7,a8,a9,a10,a11,a12⟩:=h;refine⟨by rw[h1];exact a1,by rw[h1];exact a2,by rw[h1];exact a3,by rw[h1];simp;omega,?_,?_,by rw[h2];exact a7,by rw[h1,h2];exact a8,?_,a10,by rw[h1];exact a11,?_⟩
 .rw[h1,h3];intro b hb hm;rw[old b pb];exact a5 b hb hm
 .intro b cs hb
  obtain⟨ty,fz,hc⟩:=a6 b cs hb;exact⟨ty,fz,by rw[old b (gq hc)];exact hc⟩
 .rw[h1,h3];intro x hx
  obtain⟨b1,b2⟩:=a9 x hx;exact⟨by rw[old _ (gq b1)];exact b1,b2⟩
 .intro p hp
  rcases h4 p hp with rfl|hp
  .exact⟨ho,World.alloc_heap_new w o⟩
  .exact⟨(a12 p hp).1,by rw[old _ (gq (a12 p hp).2)];exact(a12 p hp).2⟩
def bu.putx(h:bu C own G w){l:Nat}{o0 o:Obj}(hl:(l,o0)∈C.ex)(hs:C.w0.heap.size<=l)(ho:Fj o)(h1:C'.w0=C.w0)(h2:C'.G0=C.G0)(h3:C'.mb=C.mb)(h4: ∀p∈C'.ex,p=(l,o)\/p∈C.ex/\p.1≠l):bu C' own G (w.putObj l o):=by
 have hne: ∀{b:Nat} {cs:Array Value} {ty:TypeId} {z:Nat×Nat},w.heap[b]? =some (.cells cs ty z)->b≠l:=fun hb e=>h.extNe hl hb e.symm;have hlt:=gq (h.ext _ hl).2;obtain⟨a1,a2,a3,a4,a5,a6,a7,a8,a9,a10,a11,a12⟩:=h;refine⟨by rw[h1];exact a1,by rw[h1];exact a2,by rw[h1];exact a3,by rw[h1];simpa using a4,?_,?_,by rw[h2];exact a7,by rw[h1,h2];exact a8,?_,a10,by rw[h1];exact a11,?_⟩
 .rw[h1,h3];intro b hb hm;rw[World.putObj_heap_other pb];exact a5 b hb hm
 .intro b cs hb
  obtain⟨ty,fz,hc⟩:=a6 b cs hb;exact⟨ty,fz,by rw[World.putObj_heap_other (hne hc)];exact hc⟩
 .rw[h1,h3];intro x hx
  obtain⟨b1,b2⟩:=a9 x hx;exact⟨by rw[World.putObj_heap_other (hne b1)];exact b1,b2⟩
 .intro p hp
  rcases h4 p hp with rfl|⟨hp,hpl⟩
  .exact⟨ho,World.putObj_heap_same hlt⟩
  .exact⟨(a12 p hp).1,by rw[World.putObj_heap_other hpl];exact(a12 p hp).2⟩
end
abbrev l7 (w:World) (G:Gh):aD:=⟨w,G,[],[],[],none,fun _=>none⟩
def Gs(G:Gh)(w:World):Prop:= ∀b cs,G b=some cs-> ∃ty fz,w.heap[b]? =some (.cells ⟨cs⟩ ty fz)
structure Mv (Jv:Gh->World->Prop):Prop where
 frz: ∀G w,Jv G w->Gs G w
 on: ∀G w G1 w1,Jv G w->bu (l7 w G) [] G1 w1->Jv G1 w1
def DH(h:Gs G w):bu (l7 w G) [] G w:=
 ⟨J,J,J,bZ _,fun _ _ _=>J,h,bA.refl _,fun _ _=>J,fun o ho=>(by cases ho), .nil,bZ _,fun p hp=>by cases hp⟩
structure wU (GB:Gh) (P:Program) (l:Nat) (Jv:Nat->Gh->World->Prop) (Jx:Gh->World->Prop) (E:List (List DV)):Prop where
 st: ∀k,Mv (Jv k)
 sx:Mv Jx
 yd: ∀k e G w ys,E[k]? =some e->bA GB G->Jv k G w->IsLs G e ys->YieldAt (FW none) 0 P l ⟨ys⟩ w fun e w'=> ∃G',bA G G'/\(e= .returned (.bool true)/\Jv (k+1) G' w'\/e= .returned (.bool false)/\Jx G' w')
structure It (GB:Gh) (P:Program) (f:FuncId) (ds:List DV) (E:List (List DV)):Prop where
 able:qm P f
 run: ∀(l:Nat) (Jv:Nat->Gh->World->Prop) (Jx:Gh->World->Prop) (GB':Gh),bA GB GB'->wU GB' P l Jv Jx E-> ∀w vs,Jv 0 GB' w->IsLs GB' ds vs->
  CallsIn (FW none) 0 P f ⟨.func (.yield l) #[] #[]::vs⟩ w fun e w'=> ∃G',bA GB' G'/\(∃v,e= .returned v)/\(Jv E.length G' w'\/Jx G' w')
structure Pl (C:aD):Prop where
 mb:C.mb=[]
 mks:C.mks=[]
 rd:C.rd=none
def Hl(P:Program)(fb:Func)(GB:Gh)(Jv:Nat->Gh->World->Prop)(Jx:Gh->World->Prop)(N:Nat):Exit->Act->World->Prop:=
 bodyPost P fb fun e w'=> ∃G',bA GB G'/\(∃v,e= .returned v)/\(Jv N G' w'\/Jx G' w')
section
variable {own:aF}
def Zo[fu:Fu]{f:FuncId}{ds:List DV}{cf:Nat->Cf}{fr:Nat->aA}{own:Nat->aF}{vc:Nat->List Prop}(hf:prog.funcs[f]? =some fb)(hb:fb.body=some c)(hn:(fb.name== "runtime.NumGoroutine")=false)(hm:fb.ntmps=m)(hlen:Nat.ble (ds.length+1) m=true)
  (hgo: ∀l,go tt m fu.n [] (nH 0 (.v (.func (.yield l) #[] #[])::ds)) [] (.code c [])=⟨vc l,fr l,own l,cf l⟩)
  (k: ∀l Jv Jx GB',bA GB GB'->wU GB' prog l Jv Jx E-> ∀C,Pl C->Jv 0 C.G0 C.w0->ao prog GB' C m (Hl prog fb GB' Jv Jx E.length) (fr l) (own l) (cf l))
  (hv: ∀l,aj (vc l):=by intros;first|exact trivial|(simp only[aj];kernel_rfl)|(simp only[aj];omega)):It GB prog f ds E:=by
 refine⟨⟨fb,hf,hn,by simp[hb]⟩,fun l Jv Jx GB' hg H w vs hJ hvs=>?_⟩;have hlen':vs.length+1<=m:=by rw[hvs.len];simpa using hlen
 have h:=eo (GB:=GB') (C:=l7 w GB') (Q0:=Hl prog fb GB' Jv Jx E.length) (hgo l) (hv l) (k l Jv Jx GB' hg H (l7 w GB') ⟨J,J,J⟩ hJ);refine callsIn_wide.2 (calls_of_wp hf hb ?_);have hvs':IsLs GB' (.v (.func (.yield l) #[] #[])::ds) (.func (.yield l) #[] #[]::vs):= .cons (bh.2 J) hvs;refine o7 J (h.run (fun _=>⟨none,0,0⟩) GB' [] _ w ⟨bA.refl _,DH ((H.st 0).frz _ _ hJ),by simp;omega,J,fun k f e=>tc hvs' (fun k v hk=>?_) k f e,(fun nm B e=>by cases e),(fun nm nm' B B' e=>by cases e),fun nm p _ _ e=>by cases e⟩);obtain⟨j,rfl,hj⟩:=tG (.func (.yield l) #[] #[]::vs) 0 k v hk;have hj':=(aS.1 hj).1;rw[kR omG];simpa using hj
def bu.pl(h:bu C ov G w)(hp:Pl C):bu (l7 C.w0 C.G0) [] G w:=
 (h.drop (kW _)).ctx J J hp.mb.symm (fun p hp=>by cases hp)
def Oo{l:Nat}{e:Exit}(H:wU GB P l Jv Jx E)(hp:Pl C)(hJ:Jv E.length C.G0 C.w0\/Jx C.G0 C.w0)(hr:fb.results.toList=[])(he:y9 e=true:=by rfl):
  ao P GB C n (Hl P fb GB Jv Jx E.length) fr own (.ex e []):=by
 refine⟨fun ρ G ov a w r=>?_⟩;have hj:Jv E.length G w\/Jx G w:=hJ.imp (fun h=>(H.st _).on _ _ _ _ h (r.h.pl hp)) fun h=>H.sx.on _ _ _ _ h (r.h.pl hp);have hr':jn P (b8 a) ov fb.results.toList []:=by rw[hr];exact .nil
 cases e with
 |ret=>exact⟨r.df.trans hp.mks,_,rI hr' (b9 a) r.h,G,r.gb,⟨_,J⟩,hj⟩
 |normal=>exact⟨r.df.trans hp.mks,_,rI hr' (b9 a) r.h,G,r.gb,⟨_,J⟩,hj⟩
 |_=>cases he
def XE{fr:Fr}{l:Nat}{gd:Option (Nat×Bool)}(hf:kh fr a)(ho:aB fr fo=some (.func (.yield l) ⟨[]⟩ ⟨[]⟩))(hv:fm fr args.toList=some vs):
  (execOp a.eval ⟨dst, .call ⟨.value fo,args,tys⟩,ty',pos,af,gd⟩).run P w=(Instr.yield l ⟨vs⟩).run P w:=by
 have e:args.map a.eval=⟨vs⟩:=by apply Array.ext';simpa using Bx hf hv
 simp only[execOp,resolve,bg hf ho,e,Deferred.ofValue];show(invoke (.fn (.yield l) ⟨[]⟩) (⟨[]⟩++⟨vs⟩)).run P w=_;simp only[invoke];rw[show((⟨[]⟩:Array Value)++⟨vs⟩)=⟨vs⟩ by simp]
def me:aA->aA
 |[]=>[]
 |(k,f)::t=>match f with
  | .ov .. =>me t
  | .rw .. =>me t
  | .be .. =>me t
  | .rs .. =>me t
  | .bx .. =>me t
  | .ri .. =>me t
  | .no=>me t
  |f=>(k,f)::me t
def JO(fr:aA)(ops:Array Oper)(o:Oper):Option (Nat×List DV×Nat):=match o with
 |⟨some d, .call ⟨.value fo,args,_⟩,_,_,_,none⟩=>match ba (aI fr) fo,evDs (aI fr) args.toList with
  |some (.d (.v (.func (.yield l) ⟨[]⟩ ⟨[]⟩))),some ds=>some (l,ds,d)
  |_,_=>none
 |_=>none
def cy[fu1:Fu][fu2:Fu]{l d:Nat}{ds:List DV}(frd:aA)(H:wU GB prog l Jv Jx E)(hp:Pl C)(hJ:Jv k C.G0 C.w0)(ha:JO fr ops o=some (l,ds,d))(hE:E[k]? =some ds)(hd:bP n (some d)=true)
  (hfd:sg frd fr)(hnd:me frd=frd)
  (g1:go tt n fu1.n [] ((d, .tt)::frd) [] (.ops ops r K)=⟨vc1,fr1,own1,cf1⟩)(g2:go tt n fu2.n [] ((d, .ff)::frd) [] (.ops ops r K)=⟨vc2,fr2,own2,cf2⟩)
  (k1: ∀C',Pl C'->Jv (k+1) C'.G0 C'.w0->ao prog GB C' n Q0 fr1 own1 cf1)(k2: ∀C',Pl C'->Jx C'.G0 C'.w0->ao prog GB C' n Q0 fr2 own2 cf2)
  (v1:autoParam (aj vc1) cL._auto_1)(v2:autoParam (aj vc2) cL._auto_1):
  ao prog GB C n Q0 fr own (.ops ops (o::r) K):=by
 unfold JO at ha;split at ha<;>try (cases ha;done)
 rename_i d0 fo args tys ty pos af;split at ha<;>cases ha;rename_i h1 h2;have nmd: ∀{f:aA},me f=f-> ∀k x,aI f k=some x->x.nm=none:=by
  have len: ∀f:aA,(me f).length<=f.length:=fun f=>by
   induction f with
   |nil=>exact bZ _
   |cons e t ih=>obtain⟨j,x⟩:=e;cases x<;>simp only[me,bY]<;>omega
  intro f
  induction f with
  |nil=>intro _ k x e;cases e
  |cons e t ih=>
   obtain⟨j,y⟩:=e;intro hd k x hx;rw[i9] at hx;have:=len t;split at hx
   .cases hx
    cases y<;>first|rfl|(have:=congrArg List.length hd;simp only[me,bY] at this;omega)
   .refine ih ?_ k x hx
    cases y<;>first|exact(List.cons.inj hd).2|(have:=congrArg List.length hd;simp only[me,bY] at this;omega)
 refine⟨fun ρ G ov a w rl=>?_⟩;have hJG:Jv k G w:=(H.st k).on _ _ _ _ hJ (rl.h.pl hp);obtain⟨y,hy,hy'⟩:=rl.ev h1;rw[(bh (G:=G)).1 hy'] at hy;obtain⟨vs,h3,h4⟩:=rl.evDs h2;obtain⟨fn,tmps,assign,body,hrun,hround⟩:=H.yd k ds G w vs hE rl.gb hJG h4;rw[hp.rd];simp only[wpListIn];rw[if_pos (by rfl)];refine⟨fun _ _=>trivial,?_⟩;have hs: ∀o:Oper,Oper.semAt (FW none).round a.eval o=execOp a.eval o:=fun _=>J;rw[hs,XE (b9 a) hy h3,hrun];refine⟨fun h=>okh,hround.mono fun e w' he=>?_⟩;obtain⟨G',hg,he⟩:=he;have rel: ∀(b:Bool) (f:FX),(∀ρ,bB ρ G' f (.bool b))->Gs G' w'->bz GB (l7 w' G') n (aI ((d,f)::frd)) (aO []) ρ G' [] (a.put (some d) (.bool b)) w':=fun b f hfb hz=>by
  have pa:=rl.putA (dst:=some d) (.bool b) hd;refine⟨rl.gb.trans hg,DH hz,pa.sz,by rw[pa.df];exact hp.mks,fun k g e=>?_,(fun nm B e=>by cases e),(fun nm nm' B B' e=>by cases e),fun nm p _ _ e=>by cases e⟩;have e':dm (aI frd) (some d) f k=some g:=by
   rw[i9] at e;simp only[dm];split at e
   .rename_i hk;rw[if_pos hk];exact e
   .rename_i hk;rw[if_neg hk];exact e
  refine pa.fx (fun k g _ e=>?_) (hfb ρ) k g e';obtain⟨u,h5,h6⟩:=rl.fx k g (uL hfd k g e);exact⟨u,h5,h6.up hg⟩
 rcases he with⟨rfl,hj⟩|⟨rfl,hj⟩
 .exact(eo (GB:=GB) (C:=l7 w' G') (Q0:=Q0) g1 v1 (k1 (l7 w' G') ⟨J,J,J⟩ hj)).run ρ G' [] _ w' (rel true .tt (fun _=>J) ((H.st _).frz _ _ hj))
 .exact(eo (GB:=GB) (C:=l7 w' G') (Q0:=Q0) g2 v2 (k2 (l7 w' G') ⟨J,J,J⟩ hj)).run ρ G' [] _ w' (rel false .ff (fun _=>J) (H.sx.frz _ _ hj))
def Iz(GB:Gh)(n:Nat)(F:X->aA)(I:X->aD->Prop)(a:Act)(w:World):Prop:=
 ∃C x ρ G ov,Pl C/\I x C/\bz GB C n (aI (F x)) (aO []) ρ G ov a w
def Xw[fu:Fu](F:X->aA)(I:X->aD->Prop)(μ:X->Nat)(x0:X){cf':X->Cf}{fr':X->aA}{own':X->aF}{vc:X->List Prop}(hp:Pl C)(hI:I x0 C)
  (hgo: ∀x,go tt n fu.n [] (F x) [] (.code c (.ag (Iz GB n F (fun y C=>I y C/\μ y<μ x))::K))=⟨vc x,fr' x,own' x,cf' x⟩)
  (round: ∀x C,Pl C->I x C->ao prog GB C n Q0 (fr' x) (own' x) (cf' x))(hF:sg (F x0) fr:=by repeat (first|exact trivial|refine And.intro J ?_|refine And.intro (nv J okg) ?_|refine And.intro (nv J v8) ?_))
  (hv: ∀x C,I x C->aj (vc x):=by intros;first|exact trivial|(simp only[aj];kernel_rfl)|(simp only[aj];omega)|(simp only[aj,aX,aM,aY];omega)):ao prog GB C n Q0 fr own (.code (.loop c) K):=by
 refine⟨fun ρ G ov a w r=>?_⟩;have r0:=r.mono (bk:=aO []) (uL hF) (fun k x e=>by cases e);rw[hp.rd];intro b k cs hro hb hrm;have key: ∀m a w,(∃C x ρ G ov,Pl C/\I x C/\μ x=m/\bz GB C n (aI (F x)) (aO []) ρ G ov a w)->
   ∃e a' w',cQ none prog Q0 K e a' w'/\ArrivesIn (Machine.fenced prog (FW none)) prog (lone (b.atR a (.code c:: .inLoop c::k)) cs w) b k cs e a' w':=by
  intro m
  induction m using Nat.strongRecOn with
  |_ m ih=>
   intro a w ⟨C,x,ρ,G,ov,hpc,hx,hm,hr⟩;have h1:=eo (GB:=GB) (C:=C) (Q0:=Q0) (hgo x) (hv x C hx) (round x C hpc hx);have h2:=h1.run ρ G ov a w hr;rw[hpc.rd] at h2;obtain⟨e,a₁,w₁,hq,harr⟩:=h2 b (.inLoop c::k) cs hro hb hrm
   cases e with
   |normal=>
    obtain⟨C',x',ρ',G',ov',hpc',⟨hx',hlt⟩,hr'⟩:=hq;obtain⟨e₂,a₂,w₂,hq₂,harr₂⟩:=ih (μ x') (hm▸hlt) a₁ w₁ ⟨C',x',ρ',G',ov',hpc',hx',rfl,hr'⟩;exact⟨e₂,a₂,w₂,hq₂, .of_steps (StepsIn.trans harr (.one (fenced_calm hb hrm J) stepR_inLoop)) harr₂⟩
   |exit id=>exact⟨_,a₁,w₁,hq, .pass (x:= .inLoop c) J (fun _ _=> .inl v8) harr⟩
   |goto l=>exact⟨_,a₁,w₁,hq, .pass (x:= .inLoop c) J (fun _ _=> .inl v8) harr⟩
   |ret=>exact⟨_,a₁,w₁,hq, .pass (x:= .inLoop c) J (fun _ _=> .inl v8) harr⟩
   |panic ch=>exact⟨_,a₁,w₁,hq, .pass (x:= .inLoop c) J (fun _ _=> .inl v8) harr⟩
   |outgrown=>exact⟨_,a₁,w₁,hq, .pass (x:= .inLoop c) J (fun _ _=> .inl v8) harr⟩
 obtain⟨e,a',w',q,rr⟩:=key (μ x0) a w ⟨C,x0,ρ,G,ov,hp,hI,rfl,r0⟩;exact⟨e,a',w',q, .of_steps (.one (fenced_calm hb hrm J) stepR_loop) rr⟩
def R2{F:X->aA}{I:X->aD->Prop}(x:X)(hp:Pl C)(hI:I x C)(hF:sg (F x) fr:=by repeat (first|exact trivial|refine And.intro J ?_|refine And.intro (nv J okg) ?_|refine And.intro (nv J v8) ?_)):ao P GB C n Q0 fr own (.ex .normal (.ag (Iz GB n F I)::K)):=
 ⟨fun ρ G ov a w r=>⟨C,x,ρ,G,ov,hp,hI,r.mono (uL hF) (fun k x e=>by cases e)⟩⟩
end
section
variable {own:aF}
def WC{x y:Nat}{Φ:Act->World->Prop}{R:yn}(hfx:C.fx=fun _=>none)(h:vV x y fr own=some R)(hk:SX GB C n (aI R.fr) (aO R.own) Φ):SX GB C n (aI fr) (aO own) Φ:=by
 unfold vV at h;rw[cond_eq_ite] at h;split at h<;>try (cases h;done)
 rename_i hb;have hxy:x≠y:=fun e=>hb (by subst e;simp);rw[G5,Ee] at h;cases h;refine⟨fun ρ G ov a w r=>hk.run (fun k=>if k=y then ρ x else ρ k) G ov a w ?_⟩;have inv: ∀m B,aO (own.map fun e=>(bif Nat.beq e.1 y then x else bif Nat.beq e.1 x then y else e.1,bif Nat.beq e.1 y then none else p9 x y e.2)) m=some B-> ∃m0 B0,aO own m0=some B0/\p9 x y (some B0)=some B/\(m=y/\m0=x\/m≠y/\m≠x/\m0=m):=fun m B e=>by
  rw[Fa hxy] at e;split at e
  .cases e
  .rename_i hm
   split at e
   .cases hl:aO own x with
    |none=>rw[hl] at e;cases e
    |some B0=>rw[hl] at e;exact⟨x,B0,hl,e, .inl ⟨oma,J⟩⟩
   .cases hl:aO own m with
    |none=>rw[hl] at e;cases e
    |some B0=>rw[hl] at e;exact⟨m,B0,hl,e, .inr ⟨oma,hm,J⟩⟩
 have rho: ∀m m0,(m=y/\m0=x\/m≠y/\m≠x/\m0=m)->(fun k=>if k=y then ρ x else ρ k) m=ρ m0:=fun m m0 h=>by
  rcases h with⟨h1,h2⟩|⟨h1,_,h2⟩
  .subst h1 h2;simp
  .subst h2;exact if_neg h1
 refine⟨r.gb,r.h,r.sz,r.df,fun k f e=>?_,fun m B e=>?_,fun m m' B B' e e' hne=>?_,fun m p _ _ e=>by rw[hfx] at e;cases e⟩
 .rw[zr] at e
  cases hf:aI fr k with
  |none=>rw[hf] at e;cases e
  |some g=>
   rw[hf] at e;cases e;obtain⟨v,h1,h2⟩:=r.fx k g hf;exact⟨v,h1,Ev hxy h2⟩
 .obtain⟨m0,B0,h1,h2,h3⟩:=inv m B e
  obtain⟨os,h4,h5⟩:=r.bx m0 B0 h1;refine⟨os,?_,h5⟩;have hr:=rho m m0 h3
  cases B0 with
  |b=>cases h2;obtain⟨vs,q1,q2,q3,q4⟩:=h4;exact⟨vs,by rw[hr];exact q1,q2,q3,q4⟩
  |c=>cases h2;obtain⟨vs,q1,q2,q3,q4,q5⟩:=h4;exact⟨vs,by rw[hr];exact q1,q2,q3,q4,by rw[hr];exact q5⟩
  |p=>cases h2;obtain⟨q0,vs,q1,q2,q3,q4⟩:=h4;exact⟨by rw[hr];exact q0,vs,q1,q2,q3,q4⟩
  |o ty cs lo=>cases h2;obtain⟨b,q,q1,q2,q3⟩:=h4;exact⟨b,q,by rw[hr];exact q1,q2,DJ hxy q3⟩
 .obtain⟨m0,B0,h1,_,h3⟩:=inv m B e
  obtain⟨m1,B1,h4,_,h6⟩:=inv m' B' e';have q1:=rho m m0 h3;have q2:=rho m' m1 h6;simp only at q1 q2;rw[q1,q2];refine r.dj m0 m1 B0 B1 h1 h4 fun e=>?_;rcases h3 with⟨h7,h8⟩|⟨h7,h8,h9⟩<;>rcases h6 with⟨g7,g8⟩|⟨g7,g8,g9⟩
  .exact hne (h7.trans g7.symm)
  .exact g8 (by rw[<-g9,<-e,h8])
  .exact h8 (by rw[<-h9,e,g8])
  .exact hne (by rw[<-h9,e,g9])
def sI(x y:Nat)(hfx:C.fx=fun _=>none)(h:vV x y fr own=some ⟨fr1,own1⟩)(k:ao P GB C n Q0 fr1 own1 (.code c K)):ao P GB C n Q0 fr own (.code c K):=WC hfx h k
def GH(P:Program)(fb:Func)(R:Ending->World->Prop):Exit->Act->World->Prop:=bodyPostM (FW none) 0 P fb R
structure OG (C:aD):Prop where
 mks:C.mks=[]
 rd:C.rd=none
 fx:C.fx=fun _=>none
def A1[fu:Fu]{f:FuncId}{ds:List DV}(hf:prog.funcs[f]? =some fb)(hb:fb.body=some c)(hn:(fb.name== "runtime.NumGoroutine")=false)(hm:fb.ntmps=m)(hlen:Nat.ble ds.length m=true)
  (hgo:go tt m fu.n [] (nH 0 ds) [] (.code c [])=⟨vc,fr,own,cf⟩)(k: ∀C:aD,OG C->ao prog GB C m (GH prog fb (je C (fun v G'=>Is G' rv v))) fr own cf)
  (hv:autoParam (aj vc) fn._auto_1):PF GB prog f ds rv:=by
 intro G vs hg hvs;refine⟨⟨fb,hf,hn,by simp[hb]⟩,fun w hw=>?_⟩;have hlen':vs.length<=m:=by rw[hvs.len];simpa using hlen
 have h:=eo (GB:=GB) (C:=l7 w G) (Q0:=GH prog fb (je (l7 w G) (fun v G'=>Is G' rv v))) hgo hv (k (l7 w G) ⟨J,J,J⟩);refine(callsIn_wide (n:=0)).1 (callsIn_of_wp_marks (F:=FW none) (n:=0) hf hb trivial ?_);refine h.run (fun _=>⟨none,0,0⟩) G [] _ w ⟨hg,DH hw,by simp;omega,J,fun k f e=>tc hvs (fun k v hk=>?_) k f e,(fun nm B e=>by cases e),(fun nm nm' B B' e=>by cases e),fun nm p _ _ e=>by cases e⟩;obtain⟨j,rfl,hj⟩:=tG vs 0 k v hk;have hj':=(aS.1 hj).1;rw[kR omG];simpa using hj
def aD.mk3(C:aD)(D:Nat):aD:={C with ex:=(D, .deferred (some []))::C.ex,mks:=[{target:= .collected D,args:= #[]}]}
def vz{e:Exit}{ds:List DV}(hD:C.w0.heap.size<=D)(hx: ∀p∈C.ex,p.1≠D)(hr:og tt fr own fb.results.toList=some ds)(hd:ic ds=rv)(he:y9 e=true:=by rfl):ao prog GB (C.mk3 D) n (GH prog fb (je C (fun v G'=>Is G' rv v))) fr own (.ex e []):=by
 refine⟨fun ρ G ov a w r=>?_⟩;obtain⟨vs,h1,h2⟩:=yb r hr;have hk:Is G rv (my vs):=hd▸xI h2;have hex:((D,Obj.deferred (some [])):Nat×Obj)∈(C.mk3 D).ex:=aZ;have h3:bu C ov G (w.putObj D (.deferred none)):=r.h.putx hex hD (fun _ _ _ h=>by cases h) J J J fun p hp=> .inr ⟨aK _ hp,hx p hp⟩;have hres:=rI (C:=C) (G:=G) (own:=ov) (w:=w.putObj D (.deferred none)) h1 (b9 a) h3;have key:LeavesInM (FW none) 0 prog fb a.tmps (je C (fun v G'=>Is G' rv v)) a.defers .returning w:=by
  rw[r.df];exact⟨v8, .inl ⟨D,_,J,run_takeDeferred (r.h.ext _ hex).2,_,hres,_,G,J,h3.drop (kW _),hk⟩⟩
 cases e with
 |ret=>exact key
 |normal=>exact key
 |_=>cases he
end
end Go.Sx
end
