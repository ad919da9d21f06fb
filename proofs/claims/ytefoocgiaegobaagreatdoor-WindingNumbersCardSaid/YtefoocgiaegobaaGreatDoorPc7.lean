import Derived.Test.YtefoocgiaegobaaGreatDoorPc6
import Derived.RangeFuncSeq
set_option linter.all false
set_option maxRecDepth 100000
section
namespace Go.Sx
open Go Go.Proofs Tryz
section
variable {GB:Gh} {C:aA} {n:Nat} {Q0:Exit->Act->World->Prop} {fr fr':ao} {own own':aB} {cf cf':Cf} {vc:List Prop}
def PR(GB:Gh)(P:Program)(f:FuncId)(ds:List DV)(s:Nat)(ty:TypeId)(rows:List DV):Prop:=
 ∀G vs,bg GB G->IsLs G ds vs->j' P f vs [] G (fun v own' G'=> ∃w:SV,v= .slice w.a w.n w.c/\cD G' ⟨w,s,ty,rows,true⟩ own')
def F2: ∀(l:List av),(∀o∈l,o.lo=true)->l.map (relo (gE []))=l
 |[],_=>rfl
 |a::t,h=>by
  have h1:=h a aZ;rw[cZ,F2 t fun o ho=>h o (aK _ ho)];congr 1
  cases a
  simp[relo,gE] at*;exact h1
def Vh{lk:LK}{bk:BM}{fo:Operand}{args:Array Operand}{tys:Array TypeId}{f:FuncId}{d s:Nat}{ds rows:List DV}{ty ty2:TypeId}{pos:String}{af:Array Edge}{gd:Option (Nat×Bool)}
  (ha:ly lk fo args=some (f,ds))(hF:PR GB prog f ds s ty2 rows):bm prog GB C n lk bk ⟨some d, .call ⟨.value fo,args,tys⟩,ty,pos,af,gd⟩ (.rw d) [(d,some (.b ty2 s rows true))] [d]:=by
 intro hd tl tb K' s1 s2 hf hk;refine⟨fun ρ G ov a w r Q=>?_⟩;have r1:=r.mono s1 s2;obtain⟨h1,h2⟩:=uK ha;obtain⟨y,hy,hy'⟩:=r1.ev h1;rw[(bc (G:=G)).1 hy'] at hy;obtain⟨vs,h3,h4⟩:=r1.evDs h2;refine vm (M:=[]) (rest:=ov) hy h3 (List.Perm.refl _) (hF G vs r.gb h4) hd (fun v own1 G' hG hK a' w' rl=>?_) a w Q ⟨r.h,r.sz,co a,r.df⟩;obtain⟨z,rfl,vs',k1,k2,k3,k4⟩:=hK;rw[F2 _ (k4 J)] at rl;have rl':eO C n (Sx.put (b9 a) (some d) (.slice z.a z.n z.c)) (own1++ov) G' a' w':=rl;have hdis:=(iQ.1 rl'.h.nd).2.2;have r3:=r.new' (x:=z) (B':= .b ty2 s rows true) (os:=own1) (ov':=own1++ov) (f:= .rw d) (y:= .slice z.a z.n z.c) hf hG.le rl'.h ⟨vs',by simpa using k1,k2,k3,k4⟩ (fun o ho=>cW _ ho)
  (fun q B0 hq e o ho hbq=>⟨fZ _ ho,fun hc=>by
   have hx: ∃o1∈own1,o1.b=o.b:=by
    rcases k1 with⟨_,h,_⟩|⟨b0,rest0,lo0,h,hB,_⟩
    ·rw[show z=_ from h] at hc;cases hc
    ·rw[show z=_ from h] at hc;cases hc;exact⟨⟨_,aH vs'++rest0,_,lo0⟩,by rw[hB];exact aZ,J⟩
   obtain⟨o1,ho1,he1⟩:=hx;exact hdis o1 ho1 o ho he1⟩) (by simp[bp]) (jv rl')
 exact hk.run _ G' _ a' w' r3
def JP(fr:ao)(cf:Cf):Option (FuncId×List DV×Nat):=match bw fr cf with
 |some ⟨some d, .call ⟨.value fo,args,_⟩,_,_,_,_⟩=>match ly (ba fr cf) fo args with
  |some (f,ds)=>some (f,ds,d)
  |none=>none
 |_=>none
def cr[fu:Fu]{f:FuncId}{d s:Nat}{ds rows:List DV}{ty:TypeId}(ha:JP fr cf=some (f,ds,d))(hF:PR GB prog f ds s ty rows)
  (hgo:bG tt n fu.n fr own cf (.rw d) [(d,some (.b ty s rows true))] [d]=⟨vc,fr',own',cf'⟩)(k:ak prog GB C n Q0 fr' own' cf')
  (hv:ah vc:=by first|exact trivial|(simp only[ah];kernel_rfl)|(simp only[ah];omega)|(simp only[ah,aX,aW,aV];omega)):ak prog GB C n Q0 fr own cf:=by
 unfold JP at ha;split at ha<;>try (cases ha;done)
 rename_i hh;split at ha<;>cases ha;rename_i h1;exact us hh (Vh h1 hF) hgo hv k
def X3(C:aA)(s:Nat)(ty:TypeId)(rows:List DV):Ending->World->Prop:=oc C (fun v own' G'=> ∃w:SV,v= .slice w.a w.n w.c/\cD G' ⟨w,s,ty,rows,true⟩ own')
end
section
variable {GB:Gh} {C:aA} {n:Nat} {Q0:Exit->Act->World->Prop} {fr fr':ao} {own own':aB} {cf cf':Cf} {vc:List Prop}
def Sh{lk:LK}{bk:BM}{fo:Operand}{args:Array Operand}{tys:Array TypeId}{f:FuncId}{nm d:Nat}{l:List (Option DV)}{s:Nat}{ty ty0:TypeId}{pos:String}{af:Array Edge}{gd:Option (Nat×Bool)}{dsi dso:List DV}{lo:Bool}(hne:Nat.beq nm d=false)
  (ha:pi lk fo args=some (f,nm,l))(hb:bk nm=some (.b ty0 s dsi lo))(hF:PB GB prog f (iv l) s ty0 dsi (fun w=> .v (.slice w.a w.n w.c)) dso):bm prog GB C n lk bk ⟨some d, .call ⟨.value fo,args,tys⟩,ty,pos,af,gd⟩ (.rw d) [(nm,none),(d,some (.b ty0 s dso lo))] [d]:=by
 intro hd tl tb K' s1 s2 hf hk;refine⟨fun ρ G ov a w r Q=>?_⟩;have r1:=r.mono s1 s2;unfold pi at ha;split at ha<;>try (cases ha;done)
 rename_i h1;split at ha<;>cases ha;rename_i h2;obtain⟨y,hy,hy'⟩:=r1.ev h1;rw[(bc (G:=G)).1 hy'] at hy;obtain⟨B,g1,g2⟩:=r1.bx _ _ hb;have hB:cD G ⟨ρ nm,s,ty0,dsi,lo⟩ B:=g1;obtain⟨vs,h7,h8⟩:=uN r1 (z:=ρ nm) h2 (fun nm e=>by cases e;rfl);have hp: ∃rest,ov.Perm (B++rest)/\ ∀o∈ov,(∀o'∈B,o.b≠o'.b)->o∈rest:=by
  rcases hB with⟨vs',⟨_,_,e⟩|⟨b0,r0,lo0,_,e,_⟩,_⟩
  ·rw[e];exact⟨ov,List.Perm.refl _,fun o ho _=>ho⟩
  ·rw[e] at g2⊢
   obtain⟨l1,l2,e2⟩:=nQ (g2 _ aZ);rw[e2];refine⟨l1++l2,nL,fun o ho hno=>?_⟩;rcases dK.1 ho with ho|ho
   ·exact cW _ ho
   ·rcases aR.1 ho with rfl|ho
    ·exact absurd J (hno _ aZ)
    ·exact fZ _ ho
 obtain⟨rest,h5,h6⟩:=hp;refine vm (M:=B) (rest:=rest) hy h7 h5 (hF G (ρ nm) vs B r.gb hB.weak h8) hd (fun v own1 G' hG hK a' w' rl=>?_) a w Q ⟨r.h,r.sz,co a,r.df⟩;obtain⟨z,hr,vs',k1,k2,k3,k4⟩:=hK;have k1':=k1.relo (gE B);have e2:lo=true-> ∀o∈own1.map (relo (gE B)),o.lo=true:=fun hl o ho=>by
  obtain⟨o',_,rfl⟩:=bY.1 ho;obtain⟨_,_,_,_,hlo⟩:=hB;exact AN _ (hlo hl)
 generalize own1.map (relo (gE B))=B' at rl e2 k1';have rl':eO C n (Sx.put (b9 a) (some d) v) (B'++rest) G' a' w':=rl;have hdis:=(iQ.1 rl'.h.nd).2.2;have r2:=r.dropB nm;have hnn:nm≠d:=fun e=>by subst e;rw[qT] at hne;cases hne
 have hf2:i9 [d] (some d) tl (Sx.upB tb [(nm,none)]):=fun q hq=>by
  obtain⟨f1,f2⟩:=hf q hq;refine⟨f1,fun k B e1 e=>?_⟩;simp only[Sx.upB] at e;split at e
  ·cases e
  ·exact f2 k B e1 e
 have hsep: ∀q B0,Sx.upB tb [(nm,none)] q=some B0-> ∀o∈ov,(ρ q).a=some ⟨o.b,0,none⟩->o∈rest:=fun q B0 e o ho hbq=>by
  simp only[Sx.upB] at e;split at e
  ·cases e
  ·rename_i hqn
   refine h6 o ho fun o' ho' he=>?_;exact r.dj nm q _ _ (s2 _ _ hb) e (Ne.symm hqn) o'.b (g1.blk ho') (by rw[hbq,he])
 rw[bc.1 hr] at rl';have r3:=r2.new' (x:=z) (B':= .b ty0 s dso lo) (os:=B') (ov':=B'++rest) (f:= .rw d) (y:= .slice z.a z.n z.c) hf2 hG.le rl'.h ⟨vs',by simpa using k1',k2,k3,e2⟩ (fun o ho=>cW _ ho)
  (fun q B0 hq e o ho hbq=>⟨fZ _ (hsep q B0 e o ho hbq),fun hc=>by
   have hx: ∃o1∈B',o1.b=o.b:=by
    rcases k1' with⟨_,h,_⟩|⟨b0,rest0,lo0,h,hB,_⟩
    ·rw[show z=_ from h] at hc;cases hc
    ·rw[show z=_ from h] at hc;cases hc;exact⟨⟨_,aH vs'++rest0,_,lo0⟩,by rw[hB];exact aZ,J⟩
   obtain⟨o1,ho1,he1⟩:=hx;exact hdis o1 ho1 o (hsep q B0 e o ho hbq) he1⟩) (by simp[bp]) (jv rl')
 exact hk.run _ G' _ a' w' r3
def cq[fu:Fu]{f:FuncId}{nm d:Nat}{l:List (Option DV)}{ty:TypeId}{s:Nat}{dsi dso:List DV}{lo:Bool}(dso':List DV)(ha:vW fr own cf=some ⟨f,nm,l,ty,s,dsi,lo,d⟩)(hF:PB GB prog f (iv l) s ty dsi (fun w=> .v (.slice w.a w.n w.c)) dso)(he:dso=dso')
  (hgo:bG tt n fu.n fr own cf (.rw d) [(nm,none),(d,some (.b ty s dso' lo))] [d]=⟨vc,fr',own',cf'⟩)(k:ak prog GB C n Q0 fr' own' cf')
  (hv:ah vc:=by first|exact trivial|(simp only[ah];kernel_rfl)|(simp only[ah];omega)|(simp only[ah,aX,aW,aV];omega)):ak prog GB C n Q0 fr own cf:=by
 subst he;unfold vW at ha;split at ha<;>try (cases ha;done)
 rename_i hh;split at ha<;>try (cases ha;done)
 rename_i h1;split at ha<;>try (cases ha;done)
 rename_i h2;rw[cond_eq_ite] at ha;split at ha<;>cases ha;rename_i h3;exact us hh (Sh (by cases hq:Nat.beq nm d with|false=>rfl|true=>exact absurd hq h3) h1 h2 hF) hgo hv k
def yO(C:aA)(s:Nat)(ty:TypeId)(dso:List DV):Ending->World->Prop:=oc C (fun v own' G'=> ∃w',Is G' (.v (.slice w'.a w'.n w'.c)) v/\cD G' ⟨w',s,ty,dso,false⟩ own')
def ww[fu:Fu]{f:FuncId}{fb:Func}{c:Code}{k s:Nat}{l:List (Option DV)}{dsi dso:List DV}{ty:TypeId}(hf:prog.funcs[f]? =some fb)(hb:fb.body=some c)(hn:(fb.name== "runtime.NumGoroutine")=false)(hm:fb.ntmps=k)(hlen:Nat.ble l.length k=true)
  (hgo:go tt k fu.n [] (sA 0 l) [(NM,some (.b ty s dsi false))] (.code c [])=⟨vc,fr,own,cf⟩)(h: ∀C,ak prog GB C k (en C prog fb (yO C s ty dso)) fr own cf)
  (hv:ah vc:=by first|exact trivial|(simp only[ah];kernel_rfl)|(simp only[ah];omega)|(simp only[ah,aX,aW,aV];omega)):PB GB prog f (iv l) s ty dsi (fun w=> .v (.slice w.a w.n w.c)) dso:=by
 intro G w vs B hg hB hvs;refine j'.introR hf hb hn hm (by rw[hvs.len,BH];exact hlen) fun C _ hmb hrd hfx=>?_;intro a wd rl;refine rK hrd ?_;have h1:=d9 (GB:=GB) (C:=C) (Q0:=en C prog fb (yO C s ty dso)) hgo hv (h C);refine h1.run (fun _=>w) G (Sx.asB B) a wd ⟨hg,rl.h,rl.sz,rl.df,fun k f e=>?_,fun nm B' e=>?_,fun nm nm' B' B2 e e' hne=>?_,fun nm p _ _ e=>by rw[hfx] at e;cases e⟩
 ·obtain⟨y,⟨j,hj,hy⟩,h2⟩:=Ao (ρ:=fun _=>w) (w:=w) rfl 0 hvs k f e
  refine⟨y,rl.fr k y ?_,h2⟩;rw[hj];exact rX vs 0 j y hy
 ·rw[jb] at e
  split at e
  ·cases e;exact⟨Sx.asB B,hB.asB,fun o ho=>ho⟩
  ·cases e
 ·rw[jb] at e e'
  split at e<;>split at e'
  ·rename_i h2 h3;exact absurd (h2.trans h3.symm) hne
  ·cases e'
  ·cases e
  ·cases e
def pP{fb:Func}{t d s:Nat}{ty:TypeId}{ds dso:List DV}(hr:fb.results.toList=[.tmp t])(hl:aD fr t=some (.rw d))(hw:aG own d=some (.b ty s ds false))(ed:ds=dso):
  ak prog GB C n (en C prog fb (yO C s ty dso)) fr own (.ex .ret []):=by
 subst ed;refine⟨fun ρ G ov a w r=>?_⟩;obtain⟨B,g1,g2⟩:=r.bx _ _ hw;have hB:cD G ⟨ρ d,s,ty,ds,false⟩ B:=g1;obtain⟨rest,hp⟩:=QA hB g2;obtain⟨y,hy,hy'⟩:=r.ev (x:= .tmp t) (f:= .rw d) hl
 cases (show y=_ from hy')
 exact M1 (C:=C) (n:=n) (fr:=b9 a) (own:=ov) (G:=G) (vs:=[.slice (ρ d).a (ρ d).n (ρ d).c]) (by rw[hr];exact .tmp hy .nil) (B++rest) B hp (List.sublist_append_left _ _) ⟨ρ d,bc.2 J,hB⟩ a w ⟨r.h,r.sz,co a,r.df⟩
def JD(lk:LK):List Operand->Option (List (Option DV))
 |[]=>none
 |[x]=>match aC lk x with
  |some .nl=>some [none]
  |_=>none
 |x::t=>match aC lk x,JD lk t with
  |some f,some l=>match iG f with
   |some d=>some (some d::l)
   |none=>none
  |_,_=>none
def UC(lk:LK)(fo:Operand)(args:Array Operand):Option (FuncId×List (Option DV)):=match aC lk fo with
 |some (.d (.v (.func (.func f) ⟨[]⟩ ⟨[]⟩)))=>match JD lk args.toList with
  |some l=>some (f,l)
  |_=>none
 |_=>none
def W9(fr:ao)(cf:Cf):Option (FuncId×List (Option DV)×Nat):=match bw fr cf with
 |some ⟨some d, .call ⟨.value fo,args,_⟩,_,_,_,_⟩=>match UC (ba fr cf) fo args with
  |some (f,l)=>some (f,l,d)
  |none=>none
 |_=>none
end
section
variable {P:Program} {T:TT} {GB:Gh} {C:aA} {n:Nat} {lk:LK} {bk:BM} {ρ:NE} {G:Gh} {ov:List av} {a:Act} {w:World}
variable {dst:Option Nat} {t t' ty':TypeId} {pos:String} {af:Array Edge} {gd:Option (Nat×Bool)} {x y:Operand} {e s by_:Nat}
end
section
variable {GB:Gh} {C:aA} {n:Nat} {Q0:Exit->Act->World->Prop} {fr fr':ao} {own own':aB} {cf cf':Cf} {vc:List Prop}
def WT(fr:ao)(own:aB)(cf:Cf):Option (Nat×Nat×Nat×Nat×Nat×List DV×List DV):=match bw fr cf with
 |some ⟨some d, .call ⟨.builtin .append,⟨[x,y]⟩,⟨[t,t']⟩⟩,_,_,_,_⟩=>match cd tt t with
  |some ⟨.sl e s b,_,_,_⟩=>match cd tt t' with
   |some ⟨.sl _ _ _,_,_,_⟩=>match cd tt e with
    |some i=>match kA i with
     |some z=>bif Nat.beq z.cells.length s&&Nat.blt 0 b then(match oh (ba fr cf) (eG fr own cf) s y with
      |some ds2=>match aC (ba fr cf) x with
       |some (.rw nm)=>match eG fr own cf nm with
        |some (.b e' s' ds false)=>bif (Nat.beq e' e&&Nat.beq s' s)&&!Nat.beq nm d then some (d,nm,e,s,b,ds,ds2) else none
        |_=>none
       |_=>none
      |none=>none) else none
     |none=>none
    |none=>none
   |_=>none
  |_=>none
 |_=>none
end
def PW(GB:Gh)(P:Program)(f:FuncId)(l:List (Option DV))(s:Nat)(ty:TypeId)(dsi:List DV)(rv:DV)(dso:List DV):Prop:=
 ∀G w vs B,bg GB G->cD G ⟨w,s,ty,dsi,false⟩ B->IsLs G (iv l w) vs->j' P f vs B G (fun v own' G'=>Is G' rv v/\cD G' ⟨w,s,ty,dso,false⟩ own')
def Pn{B:List av}{G:Gh}{w:SV}{s:Nat}{ty:TypeId}{ds:List DV}{lo:Bool}{ov:List av}(h:cD G ⟨w,s,ty,ds,lo⟩ B)(g: ∀o∈B,o∈ov): ∃rest,ov.Perm (B++rest)/\ ∀o∈ov,(∀o'∈B,o.b≠o'.b)->o∈rest:=by
 rcases h with⟨vs',⟨_,_,e⟩|⟨b0,r0,lo0,_,e,_⟩,_⟩
 ·rw[e];exact⟨ov,List.Perm.refl _,fun o ho _=>ho⟩
 ·rw[e] at g⊢
  obtain⟨l1,l2,e2⟩:=nQ (g _ aZ);rw[e2];refine⟨l1++l2,nL,fun o ho hno=>?_⟩;rcases dK.1 ho with ho|ho
  ·exact cW _ ho
  ·rcases aR.1 ho with rfl|ho
   ·exact absurd J (hno _ aZ)
   ·exact fZ _ ho
section
variable {GB:Gh} {C:aA} {n:Nat} {Q0:Exit->Act->World->Prop} {fr fr':ao} {own own':aB} {cf cf':Cf} {vc:List Prop} {lk:LK} {bk:BM}
variable {dst:Option Nat} {t t' ty':TypeId} {pos:String} {af:Array Edge} {gd:Option (Nat×Bool)} {x y:Operand}
def Vm{fo:Operand}{args:Array Operand}{tys:Array TypeId}{f:FuncId}{nm:Nat}{l:List (Option DV)}{s:Nat}{ty0:TypeId}{dsi dso:List DV}{lo:Bool}{rv:DV}
  (ha:pi lk fo args=some (f,nm,l))(hb:bk nm=some (.b ty0 s dsi lo))(hF:PW GB prog f l s ty0 dsi rv dso):bm prog GB C n lk bk ⟨dst, .call ⟨.value fo,args,tys⟩,ty',pos,af,gd⟩ (.d rv) [(nm,some (.b ty0 s dso lo))] []:=by
 intro hd tl tb K' s1 s2 hf hk;refine⟨fun ρ G ov a w r Q=>?_⟩;have r1:=r.mono s1 s2;unfold pi at ha;split at ha<;>try (cases ha;done)
 rename_i h1;split at ha<;>cases ha;rename_i h2;obtain⟨y,hy,hy'⟩:=r1.ev h1;rw[(bc (G:=G)).1 hy'] at hy;obtain⟨B,g1,g2⟩:=r1.bx _ _ hb;have hB:cD G ⟨ρ nm,s,ty0,dsi,lo⟩ B:=g1;obtain⟨vs,h7,h8⟩:=uN r1 (z:=ρ nm) h2 (fun nm e=>by cases e;rfl);obtain⟨rest,h5,h6⟩:=Pn hB g2;refine vm (M:=B) (rest:=rest) hy h7 h5 (hF G (ρ nm) vs B r.gb hB.weak h8) hd (fun v own1 G' hG hK a' w' rl=>?_) a w Q ⟨r.h,r.sz,co a,r.df⟩;obtain⟨hr,vs',k1,k2,k3,k4⟩:=hK;have k1':=k1.relo (gE B);have e2:lo=true-> ∀o∈own1.map (relo (gE B)),o.lo=true:=fun hl o ho=>by
  obtain⟨o',_,rfl⟩:=bY.1 ho;obtain⟨_,_,_,_,hlo⟩:=hB;exact AN _ (hlo hl)
 generalize own1.map (relo (gE B))=B' at rl e2 k1';have r2:=r.upB (G':=G') (ov':=B'++rest) (w':=w') (B':= .b ty0 s dso lo) (os:=B') hG.le rl.h ⟨vs',by simpa using k1',k2,k3,e2⟩ (fun o ho=>cW _ ho)
  (fun o ho hne=>fZ _ (h6 o ho fun o' ho' he=>hne (by rw[g1.blk ho',he]))) ⟨_,s2 _ _ hb⟩
 exact hk.run _ G' _ a' w' (r2.put hr (jv rl))
def Kv(fr:ao)(own:aB)(cf:Cf):Option (FuncId×Nat×List (Option DV)×TypeId×Nat×List DV×Bool):=match bw fr cf with
 |some ⟨_, .call ⟨.value fo,args,_⟩,_,_,_,_⟩=>match pi (ba fr cf) fo args with
  |some (f,nm,l)=>match eG fr own cf nm with
   |some (.b ty s ds lo)=>some (f,nm,l,ty,s,ds,lo)
   |_=>none
  |none=>none
 |_=>none
def cw[fu:Fu]{f:FuncId}{nm:Nat}{l:List (Option DV)}{ty:TypeId}{s:Nat}{dsi dso:List DV}{lo:Bool}{rv:DV}(dso':List DV)(ha:Kv fr own cf=some (f,nm,l,ty,s,dsi,lo))(hF:PW GB prog f l s ty dsi rv dso)(he:dso=dso')
  (hgo:bG tt n fu.n fr own cf (.d rv) [(nm,some (.b ty s dso' lo))] []=⟨vc,fr',own',cf'⟩)(k:ak prog GB C n Q0 fr' own' cf')
  (hv:ah vc:=by first|exact trivial|(simp only[ah];kernel_rfl)|(simp only[ah];omega)|(simp only[ah,aX,aW,aV];omega)):ak prog GB C n Q0 fr own cf:=by
 subst he;unfold Kv at ha;split at ha<;>try (cases ha;done)
 rename_i hh;split at ha<;>try (cases ha;done)
 rename_i h1;split at ha<;>cases ha;rename_i h2;exact us hh (Vm h1 h2 hF) hgo hv k
def Kg{G:Gh}{w:SV}{s:Nat}{ty:TypeId}{ds:List DV}{lo:Bool}{B:List av}(h:cD G ⟨w,s,ty,ds,lo⟩ B)(hn:0<ds.length): ∃b,w=⟨some ⟨b,0,none⟩,ds.length,w.c⟩/\ds.length<=w.c:=by
 obtain⟨vs,h1,h2,_⟩:=h;rcases h1 with⟨e1,_,_⟩|⟨b,rest,lo',e1,_,_,_,h5⟩
 ·subst e1;have:=h2.len;simp at this;omega
 ·exact⟨b,by rw[<-h2.len];exact e1,by rw[<-h2.len];exact h5⟩
def SG{P:Program}{e s by_:Nat}[hT:cB P t e s by_]{nm:Nat}{k:IntKind}{j m:Nat}{ty:TypeId}{ds:List DV}{lo:Bool}(hx:aC lk x=some (.rw nm))(hb:bk nm=some (.b ty s ds lo))(hy:aC lk y=some (.d (.v (.int k j))))(hm:j+m=ds.length)(h1:0<m):
  bm P GB C n lk bk ⟨dst, .slice t x (some y) none none,ty',pos,af,gd⟩ (.rs nm s j m) [] []:= .yd fun ρ G ov a w r=>by
 obtain⟨u,hu,hu2⟩:=r.ev hx
 cases (show u=_ from hu2)
 obtain⟨v,hv,hv2⟩:=r.ev hy;rw[cj] at hv2;subst hv2;obtain⟨B,hB,_⟩:=r.row (y:= .nilFunc) hb;obtain⟨b,hw,hc⟩:=Kg hB (by omega);rw[hw] at hu;have hs:=Ka (P:=P) (C:=C) (own:=ov) (G:=G) (dst:=dst) (ty':=ty') (pos:=pos) (af:=af) (gd:=gd) (t:=t) hu hv (by omega) (by show(j:Int)<=(ds.length:Nat);omega);have hne:(ρ nm).c≠j:=by omega
 refine⟨_,⟨b,(ρ nm).c-j,by rw[hw],?_,?_⟩,hs⟩
 ·unfold jG
  rw[bT,if_neg hne,iJ,mO,dV,show ds.length-j=m by omega]
 ·omega
def TW{P:Program}{e s by_:Nat}[hT:cB P t e s by_]{nm sz off m:Nat}(hx:aC lk x=some (.rs nm sz off m)):bm P GB C n lk bk ⟨dst, .call ⟨.builtin .len, #[x], #[t]⟩,ty',pos,af,gd⟩ (.d (.v (.int .i64 (m:Nat)))) [] []:= .x1 hx fun ρ G ov a w y _ r h1 h2=>by
 obtain⟨b,c,_,rfl,_⟩:=h2;exact⟨_,cj.2 J,pH h1⟩
def LG{P:Program}{e s by_:Nat}[hT:cB P t e s by_]{nm off m j:Nat}{k:IntKind}{i:Int}(hx:aC lk x=some (.rs nm s off m))(hy:aC lk y=some (.d (.v (.int k i))))(h0:0<=i)(h1:i<(m:Nat))(hj:(off:Int)+i=(j:Nat)):
  bm P GB C n lk bk ⟨dst, .indexAddr t x y,ty',pos,af,gd⟩ (.be nm s j 0) [] []:= .yd fun ρ G ov a w r=>by
 obtain⟨u,hu,hu2⟩:=r.ev hx;obtain⟨b,c,hb,rfl,hc⟩:=hu2;obtain⟨v,hv,hv2⟩:=r.ev hy;rw[cj] at hv2;subst hv2;have:=t6 (P:=P) (C:=C) (own:=ov) (G:=G) (dst:=dst) (ty':=ty') (pos:=pos) (af:=af) (gd:=gd) (t:=t) hu hv h0 h1;obtain rfl:off+i.toNat=j:=by omega
 exact⟨_,⟨b,hb,J⟩,by rw[cN,cK];exact this⟩
def Hy(fr:ao)(own:aB)(cf:Cf):Option (Nat×Nat×List DV×Int):=match bw fr cf with
 |some ⟨_, .slice t x (some y) none none,_,_,_,_⟩=>match cd tt t with
  |some ⟨.sl _ s' _,_,_,_⟩=>match aC (ba fr cf) x with
   |some (.rw nm)=>match eG fr own cf nm with
    |some (.b _ s ds _)=>match aC (ba fr cf) y with
     |some (.d (.v (.int _ i)))=>bif Nat.beq s s' then some (nm,s,ds,i) else none
     |_=>none
    |_=>none
   |_=>none
  |_=>none
 |_=>none
def yp[fu:Fu]{nm s:Nat}{ds:List DV}{i:Int}(k m:Nat)(h:Hy fr own cf=some (nm,s,ds,i))(hi:i=(k:Nat))(hm:k+m=ds.length)(hp:0<m)(hgo:bG tt n fu.n fr own cf (.rs nm s k m) [] []=⟨vc,fr',own',cf'⟩)(kk:ak prog GB C n Q0 fr' own' cf')
  (hv:ah vc:=by first|exact trivial|(simp only[ah];kernel_rfl)|(simp only[ah];omega)|(simp only[ah,aX,aW,aV];omega)):ak prog GB C n Q0 fr own cf:=by
 subst hi;unfold Hy at h;split at h<;>try (cases h;done)
 rename_i hh;split at h<;>try (cases h;done)
 rename_i hT;split at h<;>try (cases h;done)
 rename_i hx;split at h<;>try (cases h;done)
 rename_i hb;split at h<;>try (cases h;done)
 rename_i hy;rw[cond_eq_ite] at h;split at h<;>cases h;rename_i hq
 cases aY hq
 have:=iI (dG _ _ hT) J;exact us hh (SG hx hb hy hm hp) hgo hv kk
def JZ(fr:ao)(cf:Cf):Option Nat:=match bw fr cf with
 |some ⟨_, .call ⟨.builtin .len,⟨[x]⟩,⟨[t]⟩⟩,_,_,_,_⟩=>match cd tt t with
  |some ⟨.sl _ _ _,_,_,_⟩=>match aC (ba fr cf) x with
   |some (.rs _ _ _ m)=>some m
   |_=>none
  |_=>none
 |_=>none
def HZ[fu:Fu]{m:Nat}(h:JZ fr cf=some m)(hgo:bG tt n fu.n fr own cf (.d (.v (.int .i64 (m:Nat)))) [] []=⟨vc,fr',own',cf'⟩)(kk:ak prog GB C n Q0 fr' own' cf')
  (hv:ah vc:=by first|exact trivial|(simp only[ah];kernel_rfl)|(simp only[ah];omega)|(simp only[ah,aX,aW,aV];omega)):ak prog GB C n Q0 fr own cf:=by
 unfold JZ at h;split at h<;>try (cases h;done)
 rename_i hh;split at h<;>try (cases h;done)
 rename_i hT;split at h<;>cases h;rename_i hx;have:=iI (dG _ _ hT) J;exact us hh (TW hx) hgo hv kk
def IB(fr:ao)(cf:Cf):Option (Nat×Nat×Nat×Nat×Int):=match bw fr cf with
 |some ⟨_, .indexAddr t x y,_,_,_,_⟩=>match cd tt t with
  |some ⟨.sl _ s' _,_,_,_⟩=>match aC (ba fr cf) x with
   |some (.rs nm s off m)=>match aC (ba fr cf) y with
    |some (.d (.v (.int _ i)))=>bif Nat.beq s s' then some (nm,s,off,m,i) else none
    |_=>none
   |_=>none
  |_=>none
 |_=>none
def s5[fu:Fu]{nm s off m:Nat}{i:Int}(k:Nat)(h:IB fr cf=some (nm,s,off,m,i))(hk:(off:Int)+i=(k:Nat))(h0:0<=i)(h1:i<(m:Nat))(hgo:bG tt n fu.n fr own cf (.be nm s k 0) [] []=⟨vc,fr',own',cf'⟩)(kk:ak prog GB C n Q0 fr' own' cf')
  (hv:ah vc:=by first|exact trivial|(simp only[ah];kernel_rfl)|(simp only[ah];omega)|(simp only[ah,aX,aW,aV];omega)):ak prog GB C n Q0 fr own cf:=by
 unfold IB at h;split at h<;>try (cases h;done)
 rename_i hh;split at h<;>try (cases h;done)
 rename_i hT;split at h<;>try (cases h;done)
 rename_i hx;split at h<;>try (cases h;done)
 rename_i hy;rw[cond_eq_ite] at h;split at h<;>cases h;rename_i hq
 cases aY hq
 have:=iI (dG _ _ hT) J;exact us hh (LG hx hy h0 h1 hk) hgo hv kk
def jA.cut{s:Nat}{ty:TypeId}{z:SV}{vs:List Value}{B:List av}(h:jA s ty z vs B)(hs: ∀v∈vs,(aF v).length=s){k:Nat}(hk:k<=vs.length)(hne:0<vs.length):jA s ty ⟨z.a,k,z.c⟩ (vs.take k) B:=by
 rcases h with⟨h1,_,_⟩|⟨b,rest,lo,h1,h2,h3,h4,h5⟩
 ·subst h1;simp at hne
 ·have e:aH vs=aH (vs.take k)++aH (vs.drop k):=by rw[<-qo,lV]
  have hl:=f0 (vs.take k) fun v hv=>hs v (fJ hv);have hm:(vs.take k).length=k:=by rw[bR];omega
  refine .inr ⟨b,aH (vs.drop k)++rest,lo,by rw[hm,h1],by rw[h2,e,fX],hl,?_,by rw[hm];show k<=z.c;omega⟩;show _=z.c*s;rw[<-h4,e,bK,bK];omega
def K8{P:Program}{e s by_:Nat}[hT:cB P t e s by_]{nm d:Nat}{k:IntKind}{j:Nat}{ty:TypeId}{ds:List DV}{lo:Bool}(hne:Nat.beq nm d=false)(hx:aC lk x=some (.rw nm))(hb:bk nm=some (.b ty s ds lo))(hy:aC lk y=some (.d (.v (.int k j))))(h1:j<ds.length):
  bm P GB C n lk bk ⟨some d, .slice t x none (some y) none,ty',pos,af,gd⟩ (.rw d) [(nm,none),(d,some (.b ty s (ds.take j) lo))] [d]:=by
 intro hd tl tb K s1 s2 hf hk;refine⟨fun ρ G ov a w r Q=>?_⟩;have r1:=r.mono s1 s2;obtain⟨u,hu,hu2⟩:=r1.ev hx
 cases (show u=_ from hu2)
 obtain⟨v,hv,hv2⟩:=r1.ev hy;rw[cj] at hv2;subst hv2;obtain⟨B,hB0,hBo⟩:=r1.bx _ _ hb;have hB:cD G ⟨ρ nm,s,ty,ds,lo⟩ B:=hB0;obtain⟨b,hw,hc⟩:=Kg hB (by omega);obtain⟨vs,g1,g2,g3,g4⟩:=hB;have hvl:=g2.len;have hcut:cD G ⟨⟨(ρ nm).a,j,(ρ nm).c⟩,s,ty,ds.take j,lo⟩ B:=⟨vs.take j,jA.cut g1 g3 (by simp only at hvl⊢;omega) (by simp only at hvl⊢;omega),g2.take _,fun v hv=>g3 v (fJ hv),g4⟩;have hs:=vr (P:=P) (C:=C) (own:=ov) (G:=G) (dst:=some d) (ty':=ty') (pos:=pos) (af:=af) (gd:=gd) (t:=t) hu hv (by omega) (by omega);have hnn:nm≠d:=fun e=>by subst e;rw[qT] at hne;cases hne
 have r2:=r.dropB nm;have hf2:i9 [d] (some d) tl (Sx.upB tb [(nm,none)]):=fun q hq=>by
  obtain⟨f1,f2⟩:=hf q hq;refine⟨f1,fun k B e1 e=>?_⟩;simp only[Sx.upB] at e;split at e
  ·cases e
  ·exact f2 k B e1 e
 have r3:=r2.new' (x:=⟨(ρ nm).a,j,(ρ nm).c⟩) (B':= .b ty s (ds.take j) lo) (os:=B) (ov':=ov) (f:= .rw d) (y:= .slice (ρ nm).a j (ρ nm).c) hf2 (bg.refl _) r.h (hcut.toBk (by simp)) hBo
  (fun m B' hm e o ho hmo=>⟨ho,fun hc=>by
   simp only[Sx.upB] at e;split at e
   ·cases e
   ·rename_i hmn
    exact r.dj m nm B' _ e (s2 _ _ hb) hmn _ hmo hc⟩) (by simp[bp]) (r.putA (.slice (ρ nm).a j (ρ nm).c) hd)
 exact kr (hs a w (co a) r.h) (hk.run _ G _ _ w r3)
def H8(fr:ao)(own:aB)(cf:Cf):Option (Nat×Nat×TypeId×Nat×List DV×Bool×Int):=match bw fr cf with
 |some ⟨some d, .slice t x none (some y) none,_,_,_,_⟩=>match cd tt t with
  |some ⟨.sl _ s' _,_,_,_⟩=>match aC (ba fr cf) x with
   |some (.rw nm)=>match eG fr own cf nm with
    |some (.b ty s ds lo)=>match aC (ba fr cf) y with
     |some (.d (.v (.int _ i)))=>bif Nat.beq s s'&&!Nat.beq nm d then some (d,nm,ty,s,ds,lo,i) else none
     |_=>none
    |_=>none
   |_=>none
  |_=>none
 |_=>none
def Dq[fu:Fu]{d nm s:Nat}{ty:TypeId}{ds:List DV}{lo:Bool}{i:Int}(ds':List DV)(k:Nat)(h:H8 fr own cf=some (d,nm,ty,s,ds,lo,i))(hi:i=(k:Nat))(hl:k<ds.length)(hd:ds.take k=ds')(hgo:bG tt n fu.n fr own cf (.rw d) [(nm,none),(d,some (.b ty s ds' lo))] [d]=⟨vc,fr',own',cf'⟩)(kk:ak prog GB C n Q0 fr' own' cf')
  (hv:ah vc:=by first|exact trivial|(simp only[ah];kernel_rfl)|(simp only[ah];omega)|(simp only[ah,aX,aW,aV];omega)):ak prog GB C n Q0 fr own cf:=by
 subst hi hd;unfold H8 at h;split at h<;>try (cases h;done)
 rename_i hh;split at h<;>try (cases h;done)
 rename_i hT;split at h<;>try (cases h;done)
 rename_i hx;split at h<;>try (cases h;done)
 rename_i hb;split at h<;>try (cases h;done)
 rename_i hy;rw[cond_eq_ite] at h;split at h<;>cases h;rename_i hq;simp only[bZ,gM] at hq
 cases aY hq.1
 have:=iI (dG _ _ hT) J;exact us hh (K8 hq.2 hx hb hy hl) hgo hv kk
def GF(v:Value)(m:Nat):aH (List.replicate m v)=dw v m:=by
 unfold dw
 induction m with
 |zero=>rfl
 |succ m ih=>rw[fM,fM,jY,<-ih];rfl
def GA{G:Gh}{z:DV}{v:Value}(h:Is G z v): ∀m:Nat,IsLs G (List.replicate m z) (List.replicate m v)
 |0=> .nil
 |m+1=>by rw[fM,fM];exact .cons h (GA h m)
def Qv{P:Program}{e s by_:Nat}[hT:cB P t e s by_]{i:TI}{z:DV}(hi:dO P e=some i)(hz:kA i=some z)(hzs:z.cells.length=s){nm off m:Nat}{ty:TypeId}{ds:List DV}{lo:Bool}(hx:aC lk x=some (.rs nm s off (m+1)))(hb:bk nm=some (.b ty s ds lo))(hm:off+(m+1)=ds.length):
  bm P GB C n lk bk ⟨dst, .call ⟨.builtin .clear, #[x], #[t]⟩,ty',pos,af,gd⟩ (.d (.tp [])) [(nm,some (.b ty s (ds.take off++List.replicate (m+1) z) lo))] []:=by
 intro hd tl tb K s1 s2 hf hk;refine⟨fun ρ G ov a w r Q=>?_⟩;have r1:=r.mono s1 s2;obtain⟨v,hz1,hz2,hz3⟩:=ui hi hz;have cz:=((hz2 G).cells hz3).1.len;have cf:=((hz2 G).cells hz3).2;rw[hzs] at cz;obtain⟨u,hu,b,c,hbq,rfl,hc⟩:=r1.ev hx;obtain⟨B,hB0,hBo⟩:=r1.bx _ _ hb;have hB:cD G ⟨ρ nm,s,ty,ds,lo⟩ B:=hB0;obtain⟨vs,g1,g2,g3,g4⟩:=hB;simp only at g1 g2 g3 g4;have hvl:=g2.len;rcases g1 with⟨e1,e2,_⟩|⟨b',rest,lo',k1,k2,k3,k4,k5⟩
 ·subst e1;simp at hvl;omega
 ·have hbe:b'=b:=by rw[k1] at hbq;cases hbq;rfl
  subst hbe;subst k2;have hmem:=hBo _ aZ;have hblk:=(r.h.hown _ hmem).1;simp only at hblk;have hzl:(dw v (m+1)).length=(m+1)*s:=by rw[rG,cz]
  have hls:vs.length*s=off*s+(m+1)*s:=by rw[<-cK];congr 1;omega
  have hst:=uD (P:=P) (dw v (m+1)) w (off*s) 0 (aH vs++rest) (fun q hq=>by
   unfold dw at hq;obtain⟨l,hl,hql⟩:=List.mem_flatten.1 hq;rw[kJ hl] at hql;exact cf q hql) hblk (by rw[hzl,bK];omega)
  rw[cN] at hst;have htk:=f0 (vs.take off) fun q hq=>g3 q (fJ hq);have hov:cP (aH vs++rest) (off*s) (dw v (m+1))=aH (vs.take off++List.replicate (m+1) v)++rest:=by
   rw[rR _ _ _ (by rw[hzl,bK];omega),qo,GF];have e1:(aH vs++rest).take (off*s)=aH (vs.take off):=by
    rw[fK (by omega),yN vs off g3 (by omega)]
   rw[e1,hzl,<-hls,iU (by omega),fL (by omega),jL]
  have hrun:(Builtin.clear_ #[t] ty' #[.slice (some ⟨b',off*s,none⟩) (m+1) c]).run P w= .ok (.tuple #[]) (e8 w b' (.cells ⟨aH (vs.take off++List.replicate (m+1) v)++rest⟩ ty (0,0))):=by
   unfold Builtin.clear_;show(underlying t>>=_).run P w=_;rw[aE (hT.u w)];show(zeroValue e>>=fun q=>storeCells ⟨b',off*s,none⟩ (Builtin.zeroCells q.cells (m+1)).toList>>=fun _=>pure (Value.tuple #[])).run P w=_;rw[aE (hz1.zero w)];show(storeCells ⟨b',off*s,none⟩ (Builtin.zeroCells v.cells (m+1)).toList>>=fun _=>pure (Value.tuple #[])).run P w=_;rw[mv,KI,aE (hov▸hst)];rfl
  obtain⟨own',u1,u2,u3⟩:=f5.of_mem (cs':=aH (vs.take off++List.replicate (m+1) v)++rest) hmem;have r2:=r.upB (G':=G) (ov':=own') (w':=e8 w b' (.cells ⟨aH (vs.take off++List.replicate (m+1) v)++rest⟩ ty (0,0))) (B':= .b ty s (ds.take off++List.replicate (m+1) z) lo) (os:=[⟨b',aH (vs.take off++List.replicate (m+1) v)++rest,ty,lo'⟩]) (bg.refl _) (r.h.store u1)
   ⟨vs.take off++List.replicate (m+1) v, .inr ⟨b',rest,lo',?_,J,?_,?_,?_⟩,(g2.take _).app (GA (hz2 G) _),?_,?_⟩ (fun o ho=>by rw[aN.1 ho];exact u2) (fun o ho hne=>u3 o ho fun e=>hne (by rw[hbq,e])) ⟨_,s2 _ _ hb⟩
  ·have h3:=hk.run _ G _ _ _ (r2.put (f:= .d (.tp [])) (y:= .tuple #[]) (kH.2 ⟨[],J, .nil⟩) (r2.putA (.tuple #[]) hd))
   refine kr (v:= .tuple #[]) ?_ h3;simp only[execOp,resolve,iW,cZ,iR,aP (co a) hu];exact cv hrun
  ·rw[k1,bK,bR,aV,fV (by omega)]
   simp only[SV.mk.injEq,true_and,and_true];omega
  ·refine f0 _ fun q hq=>?_
   rcases dK.1 hq with hq|hq
   ·exact g3 q (fJ hq)
   ·rw[kJ hq,cz]
  ·rw[qo,GF,bK,htk,hzl,bR,fV (by omega)]
   omega
  ·rw[bK,bR,aV,fV (by omega)];omega
  ·intro q hq
   rcases dK.1 hq with hq|hq
   ·exact g3 q (fJ hq)
   ·rw[kJ hq,cz]
  ·intro hl o ho
   have:=g4 hl _ aZ;rw[aN.1 ho];exact this
def JS(fr:ao)(own:aB)(cf:Cf):Option (Nat×TypeId×Nat×List DV×Bool×Nat×Nat×DV):=match bw fr cf with
 |some ⟨_, .call ⟨.builtin .clear,⟨[x]⟩,⟨[t]⟩⟩,_,_,_,_⟩=>match cd tt t with
  |some ⟨.sl e s' _,_,_,_⟩=>match aC (ba fr cf) x with
   |some (.rs nm s off m)=>match eG fr own cf nm with
    |some (.b ty s2 ds lo)=>match cd tt e with
     |some i=>match kA i with
      |some z=>bif Nat.beq s s'&&(Nat.beq s s2&&Nat.beq z.cells.length s) then some (nm,ty,s,ds,lo,off,m,z) else none
      |none=>none
     |none=>none
    |_=>none
   |_=>none
  |_=>none
 |_=>none
def HO[fu:Fu]{nm s off m:Nat}{ty:TypeId}{ds:List DV}{lo:Bool}{z:DV}(ds':List DV)(h:JS fr own cf=some (nm,ty,s,ds,lo,off,m,z))(hm:off+m=ds.length)(hp:0<m)(hd:ds.take off++List.replicate m z=ds')(hgo:bG tt n fu.n fr own cf (.d (.tp [])) [(nm,some (.b ty s ds' lo))] []=⟨vc,fr',own',cf'⟩)(kk:ak prog GB C n Q0 fr' own' cf')
  (hv:ah vc:=by first|exact trivial|(simp only[ah];kernel_rfl)|(simp only[ah];omega)|(simp only[ah,aX,aW,aV];omega)):ak prog GB C n Q0 fr own cf:=by
 subst hd;obtain⟨m,rfl⟩: ∃q,m=q+1:=⟨m-1,by omega⟩;unfold JS at h;split at h<;>try (cases h;done)
 rename_i hh;split at h<;>try (cases h;done)
 rename_i hT;split at h<;>try (cases h;done)
 rename_i hx;split at h<;>try (cases h;done)
 rename_i hb;split at h<;>try (cases h;done)
 rename_i hi;split at h<;>try (cases h;done)
 rename_i hz;rw[cond_eq_ite] at h;split at h<;>cases h;rename_i hq;simp only[bZ] at hq
 cases aY hq.1
 cases aY hq.2.1
 have:=iI (dG _ _ hT) J;exact us hh (Qv (dG _ _ hi) hz (aY hq.2.2) hx hb hm) hgo hv kk
end
section
variable {F:Fence} {n:Nat} {P:Program} {Q:Exit->Act->World->Prop} {ops:Array Oper} {md:Region.Mode}
def Jo: ∀{k:Nat} {listed:Array Bool} {a:Act} {w:World},wpAnyIn F n P md ops Q k listed a w->wpAnyIn F n P md ops Q (k+1) listed a w
 |0,_,_,_,h=>⟨fun _=>h.2,fun i hi=>by rw[h.1] at hi;cases hi⟩
 |_+1,_,_,_,h=>⟨h.1,fun i hi=>wpOpIn_mono (fun _ _ k=>Jo k) (h.2 i hi)⟩
def HX{k:Nat}{listed:Array Bool}{a:Act}{w:World}(h:wpAnyIn F n P md ops Q k listed a w): ∀j,wpAnyIn F n P md ops Q (j+k) listed a w
 |0=>by rw[dV];exact h
 |j+1=>by rw[show j+1+k=j+k+1 by omega];exact Jo (HX h j)
def Bf.lt{l:List Oper}(he:km 0 l=true){i j:Nat}(h:Bf l i j):j<i:=by
 induction h with
 |b ho hm hb=>have:=ny he _ _ ho _ hm hb;omega
 |s ho hm hb _ ih=>have:=ny he _ _ ho _ hm hb;omega
def Bf.inv{l:List Oper}{i j:Nat}(h:Bf l i j): ∃o e,l[i]? =some o/\e∈o.after/\Region.binds .any e=true/\(e.on=j\/Bf l e.on j):=by
 induction h with
 |b ho hm hb=>exact⟨_,_,ho,hm,hb, .inl J⟩
 |s ho hm hb hh _=>exact⟨_,_,ho,hm,hb, .inr hh⟩
def Hp(he:km 0 ops.toList=true): ∀(r pre:List Oper),ops.toList=pre++r->(∀i,pre.length<=i->i<ops.size-> ∀j,j<i->Bf ops.toList i j)-> ∀(listed:Array Bool) (a:Act) (w:World),(∀j d,listed.getD j d=if j<pre.length then true else if j<ops.size then false else d)->wpListIn F n P ops Q r a w->wpAnyIn F n P .any ops Q r.length listed a w
 |[],pre,hops,_,listed,a,w,hl,h=>by
  refine⟨?_,h⟩;rw[List.eq_nil_iff_forall_not_mem];intro i hi;obtain⟨h1,o,h2,_⟩:=mem_ready.1 hi;have h3:=(dX.1 h2).1;have h4:pre.length=ops.size:=by rw[<-fR,hops];simp
  rw[hl,if_pos (by omega)] at h1
  cases h1
 |o::r,pre,hops,hc,listed,a,w,hl,h=>by
  have hsz:ops.size=pre.length+(r.length+1):=by rw[<-fR,hops];simp
  have hp:ops.toList[pre.length]? =some o:=by rw[hops];simp
  have hp':ops[pre.length]? =some o:=by simpa using hp
  have only: ∀i,i∈Region.ready .any ops listed↔i=pre.length:=fun i=>by
   rw[mem_ready];constructor
   ·rintro ⟨h1,o',h2,h3⟩
    have h4:=(dX.1 h2).1;rw[hl] at h1;split at h1
    ·cases h1
    ·rename_i h5
     apply Classical.byContradiction;intro h6;have hb:=hc i (by omega) h4 pre.length (by omega);obtain⟨o2,e,ho,hm,hb,hh⟩:=hb.inv;have e':o'=o2:=Option.some.inj (h2.symm.trans (by simpa using ho));subst e';have h7:=h3 _ hm hb;have h9:=ny he _ _ ho _ hm hb;have h8:pre.length<=e.on:=by
      rcases hh with hh|hh
      ·omega
      ·have:=hh.lt he;omega
     rw[hl,if_neg (by omega),if_pos (by omega)] at h7
     cases h7
   ·rintro rfl
    refine⟨by rw[hl,if_neg (by omega),if_pos (by omega)],o,hp',fun e hm hb=>?_⟩;have:=ny he _ _ hp _ hm hb;rw[hl,if_pos (by omega)]
  refine⟨fun hn=>?_,fun i hi=>?_⟩
  ·have:=(only pre.length).2 J
   rw[hn] at this;cases this
  ·obtain rfl:=(only i).1 hi
   have ih:=Hp he r (pre++[o]) (by rw[hops];simp) (fun i h1 h2=>hc i (by simp at h1;omega) h2) (listed.setIfInBounds pre.length true);have hl': ∀j d,(listed.setIfInBounds pre.length true).getD j d=if j<(pre++[o]).length then true else if j<ops.size then false else d:=fun j d=>by
    have hls:pre.length<listed.size:=by
     apply Classical.byContradiction;intro hq;have h1:=hl pre.length true;rw[if_neg (by omega),if_pos (by omega),bQ,kR (by omega)] at h1
     cases h1
    have h1:=hl j d;rw[bQ] at h1⊢;rw[cL];by_cases hj:pre.length=j
    ·subst hj;rw[if_pos J,if_pos hls,if_pos (by simp)];rfl
    ·rw[if_neg hj,h1]
     simp only[bK,bL,iS];by_cases h2:j<pre.length
     ·rw[if_pos h2,if_pos (by omega)]
     ·rw[if_neg h2]
      by_cases h3:j<ops.size
      ·rw[if_pos h3,if_neg (by omega)];
      ·rw[if_neg h3,if_neg (by omega)]
   unfold wpOpIn;rw[hp'];simp only[wpListIn] at h⊢;split
   ·rename_i hw;rw[if_pos hw] at h
    exact Oper.wpIn_mono (fun a w k=>ih a w hl' k) h
   ·rename_i hw;rw[if_neg hw] at h
    exact⟨h.1,ih _ _ hl' h.2⟩
def xe(F:Fence)(n:Nat)(P:Program)(ops:Array Oper)(r:List Oper)(Q:Exit->Act->World->Prop):Exit->Act->World->Prop
 | .normal=>wpListIn F n P ops Q r
 |e=>Q e
def Lh{o:Oper}{a:Act}{w:World}{r:List Oper}{K:Act->World->Prop}(h:o.wpIn F n P a w K (xe F n P ops r Q)):o.wpIn F n P a w K Q:=by
 refine⟨h.1,?_⟩;have:=h.2
 cases hr:(o.semAt F.round a.eval).run P w with
 |ok x w'=>
  rw[hr] at this
  cases x with
  |enter f args=>exact⟨this.1,CallsIn.mono this.2 fun e w'' he=>by cases e<;>exact he⟩
  |round l f t x y=>exact⟨this.1,RoundIn.mono this.2 fun e w'' he=>by cases e<;>exact he⟩
  |_=>exact this
 |halt x w'=>
  rw[hr] at this
  cases x<;>exact this
def MS{pre r:List Oper}(hops:ops.toList=pre++r)(hg: ∀o∈pre,o.guard=none)(he:km 0 ops.toList=true)(hc: ∀i,pre.length<=i->i<ops.size-> ∀j,j<i->Bf ops.toList i j):
  ∀(fuel:Nat) (L listed:Array Bool) (a:Act) (w:World),L.size=pre.length->(∀j d,listed.getD j d=if j<pre.length then L.getD j d else if j<ops.size then false else d)->(∀i o,ops.toList[i]? =some o->listed.getD i false=true-> ∀e∈o.after,Region.binds .any e=true->listed.getD e.on false=true)->
   wpAnyIn F n P .any pre.toArray (xe F n P ops r Q) fuel L a w->wpAnyIn F n P .any ops Q (fuel+r.length) listed a w:=by
 have hsz:ops.size=pre.length+r.length:=by rw[<-fR,hops];simp
 have hget: ∀i,i<pre.length->ops[i]? =pre.toArray[i]? :=fun i hi=>by rw[<-nJ,hops,cR hi];simp
 -- all of the first part is done
 have fin: ∀(L listed:Array Bool) (a:Act) (w:World),L.size=pre.length->(∀j d,listed.getD j d=if j<pre.length then L.getD j d else if j<ops.size then false else d)->Region.ready .any pre.toArray L=[]->wpListIn F n P ops Q r a w->wpAnyIn F n P .any ops Q r.length listed a w:=by
  intro L listed a w hL hl hr h;have all: ∀i,i<pre.length->L.getD i true=true:=by
   intro i
   induction i using Nat.strongRecOn with
   |ind i ih=>
    intro hi
    cases hq:L.getD i true with
    |true=>rfl
    |false=>
     have:i∈Region.ready .any pre.toArray L:=mem_ready.2 ⟨hq,pre[i],by simp[hi],fun e hm hb=>by
      have hlt:=ny he i pre[i] (by rw[hops,cR hi];simp[hi]) e hm hb;have:=ih e.on (by omega) (by omega);rw[bQ,eY (by omega)] at this⊢;simpa using this⟩
     rw[hr] at this;cases this
  refine Hp he r pre hops hc listed a w (fun j d=>?_) h;rw[hl];by_cases hj:j<pre.length
  ·have:=all j hj
   rw[if_pos hj,if_pos hj];rw[bQ,eY (by omega)] at this⊢;simpa using this
  ·rw[if_neg hj,if_neg hj]
 intro fuel
 induction fuel with
 |zero=>
  intro L listed a w hL hl hcl h;rw[dV];exact fin L listed a w hL hl h.1 h.2
 |succ fuel ih=>
  intro L listed a w hL hl hcl h;by_cases hr:Region.ready .any pre.toArray L=[]
  ·exact HX (fin L listed a w hL hl hr (h.1 hr)) (fuel+1)
  ·have sub: ∀i,i∈Region.ready .any pre.toArray L->i∈Region.ready .any ops listed:=fun i hi=>by
    obtain⟨h1,o,h2,h3⟩:=mem_ready.1 hi;have hi':i<pre.length:=by have:=(dX.1 h2).1;simpa using this
    refine mem_ready.2 ⟨by rw[hl,if_pos hi'];exact h1,o,by rw[hget i hi'];exact h2,fun e hm hb=>?_⟩;have hlt:=ny he i o (by rw[hops,cR hi'];simpa using h2) e hm hb;rw[hl,if_pos (by omega)];exact h3 e hm hb
   have sup: ∀i,i∈Region.ready .any ops listed->i∈Region.ready .any pre.toArray L:=fun i hi=>by
    obtain⟨h1,o,h2,h3⟩:=mem_ready.1 hi;have h4:=(dX.1 h2).1;by_cases hi':i<pre.length
    ·rw[hl,if_pos hi'] at h1
     refine mem_ready.2 ⟨h1,o,by rw[<-hget i hi'];exact h2,fun e hm hb=>?_⟩;have hlt:=ny he i o (by simpa using h2) e hm hb;have:=h3 e hm hb;rw[hl,if_pos (by omega)] at this;exact this
    ·exfalso
     obtain⟨j,hj⟩:=List.exists_mem_of_ne_nil _ hr;obtain⟨g1,o2,g2,_⟩:=mem_ready.1 hj;have hj':j<pre.length:=by have:=(dX.1 g2).1;simpa using this
     have clo: ∀i j,Bf ops.toList i j->listed.getD i false=true->listed.getD j false=true:=fun i j hb=>by
      induction hb with
      |b ho hm hb=>intro hi;exact hcl _ _ ho hi _ hm hb
      |s ho hm hb _ ih=>intro hi;exact ih (hcl _ _ ho hi _ hm hb)
     have hjf:listed.getD j false=false:=by
      rw[hl,if_pos hj'];rw[bQ,eY (by omega)] at g1⊢;simpa using g1
     have:listed.getD j false=true:=by
      obtain⟨o2,e,ho,hm,hb,hh⟩:=(hc i (by omega) h4 j (by omega)).inv;have e':o=o2:=Option.some.inj (h2.symm.trans (by simpa using ho));subst e';rcases hh with hh|hh
      ·rw[<-hh];exact h3 _ hm hb
      ·exact clo _ _ hh (h3 _ hm hb)
     rw[hjf] at this;cases this
   rw[show fuel+1+r.length=(fuel+r.length)+1 by omega];refine⟨fun hn=>?_,fun i hi=>?_⟩
   ·obtain⟨j,hj⟩:=List.exists_mem_of_ne_nil _ hr
    have:=sub j hj;rw[hn] at this;cases this
   ·have hi0:=sup i hi
    have hk:=h.2 i hi0;obtain⟨h1,o,h2,h3⟩:=mem_ready.1 hi0;have hi':i<pre.length:=by have:=(dX.1 h2).1;simpa using this
    have hgo:o.guard=none:=hg o (by
     have h2':pre[i]? =some o:=by simpa using h2
     exact aU h2')
    have step: ∀a w,wpAnyIn F n P .any pre.toArray (xe F n P ops r Q) fuel (L.setIfInBounds i true) a w->wpAnyIn F n P .any ops Q (fuel+r.length) (listed.setIfInBounds i true) a w:=by
     intro a w hh;have hls:i<listed.size:=by
      apply Classical.byContradiction;intro hq;have q:=hl i true;have q':=hl i false;rw[if_pos hi'] at q q';rw[bQ,kR (by omega)] at q q';rw[bQ,eY (by omega)] at q q';simp only[Option.getD_none,gU] at q q';rw[<-q] at q';cases q'
     have hl': ∀j d,(listed.setIfInBounds i true).getD j d=if j<pre.length then(L.setIfInBounds i true).getD j d else if j<ops.size then false else d:=fun j d=>by
      have q:=hl j d;rw[bQ] at q⊢;rw[bQ] at q⊢;rw[cL,cL];by_cases hj:i=j
      ·subst hj;rw[if_pos J,if_pos J,if_pos hls,if_pos hi',if_pos (by omega)]
      ·rw[if_neg hj,if_neg hj];exact q
     refine ih _ _ a w (by simp[hL]) hl' (fun i2 o2 g1 g2 e hm hb=>?_) hh;have g3:i2=i\/listed.getD i2 false=true:=by
      rw[bQ,cL] at g2;by_cases hj:i=i2
      ·exact .inl hj.symm
      ·rw[if_neg hj] at g2;rw[bQ];exact .inr g2
     have g4:listed.getD e.on false=true:=by
      rcases g3 with rfl|g3
      ·have e':o=o2:=Option.some.inj (((hget i2 hi').trans h2).symm.trans (by simpa using g1))
       subst e';have hlt:=ny he i2 o g1 e hm hb;rw[hl,if_pos (by omega)];exact h3 e hm hb
      ·exact hcl i2 o2 g1 g3 e hm hb
     rw[bQ,cL];by_cases hj:i=e.on
     ·rw[if_pos hj];rw[if_pos hls];rfl
     ·rw[if_neg hj];rw[bQ] at g4;exact g4
    unfold wpOpIn at hk⊢;rw[hget i hi',h2];rw[h2] at hk;have hw: ∀y,Region.wanted o y=true:=fun y=>by unfold Region.wanted;rw[hgo]
    simp only[hw,if_true] at hk⊢;exact Lh (Oper.wpIn_mono step hk)
end
section
variable {P:Program} {GB:Gh} {C:aA} {n:Nat} {Q0:Exit->Act->World->Prop} {fr fr0:ao} {own own0:aB} {ops:Array Oper} {us:List Rc} {r:List Oper} {K:List Kt} {id:Nat}
def wm(x:Nat):Nat->Bool
 |0=>true
 |i+1=>x.testBit i&&wm x i
def HY{x:Nat}: ∀{i:Nat},wm x i=true-> ∀j,j<i->x.testBit j=true
 |i+1,h,j,hj=>by
  simp only[wm,bZ] at h;by_cases e:j=i
  ·subst e;exact h.1
  ·exact HY h.2 j (by omega)
def uj:Nat->List Nat->Bool
 |_,[]=>true
 |i,x::t=>wm x i&&uj (i+1) t
def Dn: ∀{l:List Nat} {k:Nat},uj k l=true-> ∀i x,l[i]? =some x-> ∀j,j<k+i->x.testBit j=true
 |y::t,k,h,0,x,hx,j,hj=>by
  simp only[uj,bZ] at h
  cases hx
  exact HY h.1 j (by omega)
 |y::t,k,h,i+1,x,hx,j,hj=>by
  simp only[uj,bZ] at h;exact Dn h.2 i x (by simpa using hx) j (by omega)
def DS: ∀(r:List Oper) (acc:List Nat),(lq r acc).length=acc.length+r.length
 |[],acc=>by simp[lq]
 |o::r,acc=>by simp only[lq];rw[DS];simp;omega
def Ap(m:Nat)(pre all:List Oper)(us:List Rc)(fr0:ao)(own0:aB):Bool:=
 (pre.all (fun o=>o.guard.isNone)&&qg (lq pre []) [] us)&&((km 0 all&&uj m ((lq all []).drop m))&&x7 us fr0 own0)
def OC(hm:P.follows .mixedOrders=true)(h:Ap us.length (ops.toList.take us.length) ops.toList us fr0 own0=true)(k:ak P GB C n Q0 fr own (.ops ops r K)):ak P GB C n Q0 fr own (.dr id ops fr0 own0 us r K):=by
 intro D;obtain⟨pre,hp,hl⟩:=D.pre;have ht:ops.toList.take us.length=pre:=by rw[hp,<-hl];simp
 rw[ht] at h;simp only[Ap,bZ] at h;obtain⟨⟨h1,h2⟩,⟨h3,h4⟩,h5⟩:=h;have hg: ∀o∈pre,o.guard=none:=fun o ho=>by simpa using dT.1 h1 o ho
 have hgt: ∀i,i<pre.length->ops[i]? =pre.toArray[i]? :=fun i hi=>by rw[<-nJ,hp,cR hi];simp
 have hc: ∀i,pre.length<=i->i<ops.size-> ∀j,j<i->Bf ops.toList i j:=fun i g1 g2 j g3=>by
  refine Dd ops.toList [] [] J J (fun i j h=>by simp at h) i j ?_;have hlen:=DS ops.toList [];have hi:i<(lq ops.toList []).length:=by rw[hlen];simpa using g2
  rw[aJ,aQ hi];refine Dn h4 (i-us.length) _ ?_ j (by omega);rw[iM,show us.length+(i-us.length)=i by omega];exact aQ hi
 have he':km 0 pre=true:=by
  have: ∀(l l':List Oper) (k:Nat),km k (l++l')=true->km k l=true:=by
   intro l l'
   induction l with
   |nil=>intros;rfl
   |cons o t ih=>intro k h;simp only[jZ,km,bZ] at h⊢;exact⟨h.1,ih _ h.2⟩
  exact this pre r 0 (by rw[<-hp];exact h3)
 have D':ge P GB C n pre.toArray us (aD fr0,aG own0):=by
  refine⟨by simpa using hl.symm,fun i u o hu ho=>?_,by simpa using h2,by simpa using he',ET h5⟩;have hi:i<pre.length:=by have:=(dX.1 ho).1;simpa using this
  obtain⟨d1,d2⟩:=D.snd i u o hu (by rw[hgt i hi];exact ho);refine⟨d1,fun Q tl tb K s1 s2 hf hk=>?_⟩;refine(d2 Q tl tb K s1 s2 hf hk).imp fun a w q=>?_;have hgo:o.guard=none:=hg o (aU (by simpa using ho));have hw: ∀y,Region.wanted o y=true:=fun y=>by unfold Region.wanted;rw[hgo]
  unfold wO at q⊢;simp only[hw,if_true] at q⊢;exact q
 have e:bF (cE (Array.replicate pre.length false)) 0 (aD fr0,aG own0) us=(aD fr0,aG own0):=by
  have: ∀(l:List Rc) (k:Nat) (s:ST),bF (cE (Array.replicate pre.length false)) k s l=s:=fun l=>by
   induction l with
   |nil=>intro k s;rfl
   |cons y l ih=>
    intro k s;simp only[bF];rw[ih];rw[wZ];rfl
  exact this us 0 _
 have hw:=D'.walk (Q:=xe (FW C.rd) 0 P ops r (cQ C.rd P Q0 K)) (by rw[D.st];exact k) pre.toArray.size (Array.replicate pre.length false) (by simp) (fun i o _ hi=>by rw[wZ] at hi;cases hi) (by unfold un;exact fQ (List.length_filter_le _ _) (by simp));rw[e] at hw;refine hw.drew.imp fun a w q=>wpIn_region_any hm ?_;have hsz:ops.size=pre.toArray.size+r.length:=by rw[<-fR,hp];simp
 rw[show wpAnyIn (FW C.rd) 0 P .any ops (cQ C.rd P Q0 K) ops.size=wpAnyIn (FW C.rd) 0 P .any ops (cQ C.rd P Q0 K) (pre.toArray.size+r.length) by rw[hsz]];refine MS hp hg h3 hc _ _ _ _ _ (by simp) (fun j d=>?_) (fun i o _ hi=>?_) q
 ·have hs2:ops.size=pre.length+r.length:=by simpa using hsz
  simp only[bQ,oK];by_cases g1:j<pre.length
  ·rw[if_pos (by omega),if_pos g1,if_pos g1]
  ·by_cases g2:j<ops.size
   ·rw[if_pos g2,if_neg g1,if_pos g2];rfl
   ·rw[if_neg g2,if_neg g1,if_neg g2];rfl
 ·simp only[bQ,oK] at hi
  split at hi<;>cases hi
end
section
variable {GB:Gh} {C:aA} {n:Nat} {Q0:Exit->Act->World->Prop} {fr fr0 fr':ao} {own own0 own':aB} {cf':Cf} {vc:List Prop} {ops:Array Oper} {us:List Rc} {r:List Oper} {K:List Kt} {id:Nat}
def O6[fu:Fu](h:Ap us.length (ops.toList.take us.length) ops.toList us fr0 own0=true)(hgo:go tt n fu.n [] fr own (.ops ops r K)=⟨vc,fr',own',cf'⟩)(k:ak prog GB C n Q0 fr' own' cf')
  (hv:ah vc:=by first|exact trivial|(simp only[ah];kernel_rfl)|(simp only[ah];omega)):ak prog GB C n Q0 fr own (.dr id ops fr0 own0 us r K):=
 OC follows h (d9 hgo hv k)
end
def As(o:Obj):Prop:= ∀cs ty z,o≠ .cells cs ty z
section
variable {C C':aA} {own:List av} {G G1:Gh} {w w1:World}
def bh.ctx(h:bh C own G w)(h1:C'.w0=C.w0)(h2:C'.G0=C.G0)(h3:C'.mb=C.mb)(h4: ∀p∈C'.ex,p∈C.ex):bh C' own G w:=by
 obtain⟨a1,a2,a3,a4,a5,a6,a7,a8,a9,a10,a11,a12⟩:=h;exact⟨by rw[h1];exact a1,by rw[h1];exact a2,by rw[h1];exact a3,by rw[h1];exact a4,by rw[h1,h3];exact a5,a6,by rw[h2];exact a7,by rw[h1,h2];exact a8,by rw[h1,h3];exact a9,a10,by rw[h1];exact a11,fun p hp=>a12 p (h4 p hp)⟩
def bh.addx(h:bh C own G w){o:Obj}(ho:As o)(h1:C'.w0=C.w0)(h2:C'.G0=C.G0)(h3:C'.mb=C.mb)(h4: ∀p∈C'.ex,p=(w.heap.size,o)\/p∈C.ex):bh C' own G (w.alloc o):=by
 have old: ∀b,b<w.heap.size->(w.alloc o).heap[b]? =w.heap[b]? :=fun b hb=>RowKit.Below.heap_alloc _ _ _ hb;obtain⟨a1,a2,a3,a4,a5,a6,a7,a8,a9,a10,a11,a12⟩:=h;refine⟨by rw[h1];exact a1,by rw[h1];exact a2,by rw[h1];exact a3,by rw[h1];simp;omega,?_,?_,by rw[h2];exact a7,by rw[h1,h2];exact a8,?_,a10,by rw[h1];exact a11,?_⟩
 ·rw[h1,h3];intro b hb hm;rw[old b (by omega)];exact a5 b hb hm
 ·intro b cs hb
  obtain⟨ty,fz,hc⟩:=a6 b cs hb;exact⟨ty,fz,by rw[old b (eH hc)];exact hc⟩
 ·rw[h1,h3];intro x hx
  obtain⟨b1,b2⟩:=a9 x hx;exact⟨by rw[old _ (eH b1)];exact b1,b2⟩
 ·intro p hp
  rcases h4 p hp with rfl|hp
  ·exact⟨ho,World.alloc_heap_new w o⟩
  ·exact⟨(a12 p hp).1,by rw[old _ (eH (a12 p hp).2)];exact(a12 p hp).2⟩
def bh.putx(h:bh C own G w){l:Nat}{o0 o:Obj}(hl:(l,o0)∈C.ex)(hs:C.w0.heap.size<=l)(ho:As o)(h1:C'.w0=C.w0)(h2:C'.G0=C.G0)(h3:C'.mb=C.mb)(h4: ∀p∈C'.ex,p=(l,o)\/p∈C.ex/\p.1≠l):bh C' own G (w.putObj l o):=by
 have hne: ∀{b:Nat} {cs:Array Value} {ty:TypeId} {z:Nat×Nat},w.heap[b]? =some (.cells cs ty z)->b≠l:=fun hb e=>h.extNe hl hb e.symm;have hlt:=eH (h.ext _ hl).2;obtain⟨a1,a2,a3,a4,a5,a6,a7,a8,a9,a10,a11,a12⟩:=h;refine⟨by rw[h1];exact a1,by rw[h1];exact a2,by rw[h1];exact a3,by rw[h1];simpa using a4,?_,?_,by rw[h2];exact a7,by rw[h1,h2];exact a8,?_,a10,by rw[h1];exact a11,?_⟩
 ·rw[h1,h3];intro b hb hm;rw[World.putObj_heap_other (by omega)];exact a5 b hb hm
 ·intro b cs hb
  obtain⟨ty,fz,hc⟩:=a6 b cs hb;exact⟨ty,fz,by rw[World.putObj_heap_other (hne hc)];exact hc⟩
 ·rw[h1,h3];intro x hx
  obtain⟨b1,b2⟩:=a9 x hx;exact⟨by rw[World.putObj_heap_other (hne b1)];exact b1,b2⟩
 ·intro p hp
  rcases h4 p hp with rfl|⟨hp,hpl⟩
  ·exact⟨ho,World.putObj_heap_same hlt⟩
  ·exact⟨(a12 p hp).1,by rw[World.putObj_heap_other hpl];exact(a12 p hp).2⟩
end
abbrev jO (w:World) (G:Gh):aA:=⟨w,G,[],[],[],none,fun _=>none⟩
def AU(G:Gh)(w:World):Prop:= ∀b cs,G b=some cs-> ∃ty fz,w.heap[b]? =some (.cells ⟨cs⟩ ty fz)
structure IL (Jv:Gh->World->Prop):Prop where
 frz: ∀G w,Jv G w->AU G w
 on: ∀G w G1 w1,Jv G w->bh (jO w G) [] G1 w1->Jv G1 w1
def Af{G:Gh}{w:World}(h:AU G w):bh (jO w G) [] G w:=
 ⟨J,J,J,aS _,fun _ _ _=>J,h,bg.refl _,fun _ _=>J,fun o ho=>(by cases ho), .nil,aS _,fun p hp=>by cases hp⟩
structure vu (GB:Gh) (P:Program) (l:Nat) (Jv:Nat->Gh->World->Prop) (Jx:Gh->World->Prop) (E:List (List DV)):Prop where
 st: ∀k,IL (Jv k)
 sx:IL Jx
 yd: ∀k e G w ys,E[k]? =some e->bg GB G->Jv k G w->IsLs G e ys->YieldAt (FW none) 0 P l ⟨ys⟩ w fun e w'=> ∃G',bg G G'/\(e= .returned (.bool true)/\Jv (k+1) G' w'\/e= .returned (.bool false)/\Jx G' w')
structure It (GB:Gh) (P:Program) (f:FuncId) (ds:List DV) (E:List (List DV)):Prop where
 able:kO P f
 run: ∀(l:Nat) (Jv:Nat->Gh->World->Prop) (Jx:Gh->World->Prop) (GB':Gh),bg GB GB'->vu GB' P l Jv Jx E-> ∀w vs,Jv 0 GB' w->IsLs GB' ds vs->
  CallsIn (FW none) 0 P f ⟨.func (.yield l) #[] #[]::vs⟩ w fun e w'=> ∃G',bg GB' G'/\(∃v,e= .returned v)/\(Jv E.length G' w'\/Jx G' w')
structure Pl (C:aA):Prop where
 mb:C.mb=[]
 mks:C.mks=[]
 rd:C.rd=none
def BZ(P:Program)(fb:Func)(GB:Gh)(Jv:Nat->Gh->World->Prop)(Jx:Gh->World->Prop)(N:Nat):Exit->Act->World->Prop:=
 bodyPost P fb fun e w'=> ∃G',bg GB G'/\(∃v,e= .returned v)/\(Jv N G' w'\/Jx G' w')
section
variable {GB:Gh} {C:aA} {n:Nat} {Q0:Exit->Act->World->Prop} {fr fr':ao} {own own':aB} {cf':Cf} {vc:List Prop} {ops:Array Oper} {o:Oper} {r:List Oper} {K:List Kt}
def NK[fu:Fu]{f:FuncId}{fb:Func}{c:Code}{m:Nat}{ds:List DV}{E:List (List DV)}{cf:Nat->Cf}{fr:Nat->ao}{own:Nat->aB}{vc:Nat->List Prop}(hf:prog.funcs[f]? =some fb)(hb:fb.body=some c)(hn:(fb.name== "runtime.NumGoroutine")=false)(hm:fb.ntmps=m)(hlen:Nat.ble (ds.length+1) m=true)
  (hgo: ∀l,go tt m fu.n [] (ni 0 (.v (.func (.yield l) #[] #[])::ds)) [] (.code c [])=⟨vc l,fr l,own l,cf l⟩)
  (k: ∀l Jv Jx GB',bg GB GB'->vu GB' prog l Jv Jx E-> ∀C,Pl C->Jv 0 C.G0 C.w0->ak prog GB' C m (BZ prog fb GB' Jv Jx E.length) (fr l) (own l) (cf l))
  (hv: ∀l,ah (vc l):=by intros;first|exact trivial|(simp only[ah];kernel_rfl)|(simp only[ah];omega)):It GB prog f ds E:=by
 refine⟨⟨fb,hf,hn,by simp[hb]⟩,fun l Jv Jx GB' hg H w vs hJ hvs=>?_⟩;have hlen':vs.length+1<=m:=by rw[hvs.len];simpa using hlen
 have h:=d9 (GB:=GB') (C:=jO w GB') (Q0:=BZ prog fb GB' Jv Jx E.length) (hgo l) (hv l) (k l Jv Jx GB' hg H (jO w GB') ⟨J,J,J⟩ hJ);refine callsIn_wide.2 (calls_of_wp hf hb ?_);have hvs':IsLs GB' (.v (.func (.yield l) #[] #[])::ds) (.func (.yield l) #[] #[]::vs):= .cons (bc.2 J) hvs;refine rK J (h.run (fun _=>⟨none,0,0⟩) GB' [] _ w ⟨bg.refl _,Af ((H.st 0).frz _ _ hJ),by simp;omega,J,fun k f e=>r6 hvs' (fun k v hk=>?_) k f e,(fun nm B e=>by cases e),(fun nm nm' B B' e=>by cases e),fun nm p _ _ e=>by cases e⟩);obtain⟨j,rfl,hj⟩:=qG (.func (.yield l) #[] #[]::vs) 0 k v hk;have hj':=(aL.1 hj).1;rw[iZ (by simpa using hj')];simpa using hj
def bh.pl{ov:List av}{G:Gh}{w:World}(h:bh C ov G w)(hp:Pl C):bh (jO C.w0 C.G0) [] G w:=
 (h.drop (mV _)).ctx J J hp.mb.symm (fun p hp=>by cases hp)
def DM{P:Program}{l:Nat}{Jv:Nat->Gh->World->Prop}{Jx:Gh->World->Prop}{E:List (List DV)}{fb:Func}{e:Exit}(H:vu GB P l Jv Jx E)(hp:Pl C)(hJ:Jv E.length C.G0 C.w0\/Jx C.G0 C.w0)(hr:fb.results.toList=[])(he:ue e=true:=by rfl):
  ak P GB C n (BZ P fb GB Jv Jx E.length) fr own (.ex e []):=by
 refine⟨fun ρ G ov a w r=>?_⟩;have hj:Jv E.length G w\/Jx G w:=hJ.imp (fun h=>(H.st _).on _ _ _ _ h (r.h.pl hp)) fun h=>H.sx.on _ _ _ _ h (r.h.pl hp);have hr':il P (b9 a) ov fb.results.toList []:=by rw[hr];exact .nil
 cases e with
 |ret=>exact⟨r.df.trans hp.mks,_,oP hr' (co a) r.h,G,r.gb,⟨_,J⟩,hj⟩
 |normal=>exact⟨r.df.trans hp.mks,_,oP hr' (co a) r.h,G,r.gb,⟨_,J⟩,hj⟩
 |_=>cases he
def UR{P:Program}{fo:Operand}{args:Array Operand}{tys:Array TypeId}{vs:List Value}{a:Act}{w:World}{fr:Fr}{l:Nat}{dst:Option Nat}{ty':TypeId}{pos:String}{af:Array Edge}{gd:Option (Nat×Bool)}(hf:iE fr a)(ho:az fr fo=some (.func (.yield l) ⟨[]⟩ ⟨[]⟩))(hv:fI fr args.toList=some vs):
  (execOp a.eval ⟨dst, .call ⟨.value fo,args,tys⟩,ty',pos,af,gd⟩).run P w=(Instr.yield l ⟨vs⟩).run P w:=by
 have e:args.map a.eval=⟨vs⟩:=by apply Array.ext';simpa using yj hf hv
 simp only[execOp,resolve,aP hf ho,e,Deferred.ofValue];show(invoke (.fn (.yield l) ⟨[]⟩) (⟨[]⟩++⟨vs⟩)).run P w=_;simp only[invoke];rw[show((⟨[]⟩:Array Value)++⟨vs⟩)=⟨vs⟩ by simp]
def kD:ao->ao
 |[]=>[]
 |(k,f)::t=>match f with
  | .ov .. =>kD t
  | .rw .. =>kD t
  | .be .. =>kD t
  | .rs .. =>kD t
  | .bx .. =>kD t
  | .no=>kD t
  |f=>(k,f)::kD t
def ID(k:Nat):ao->Bool
 |[]=>false
 |(j,_)::t=>Nat.beq j k||ID k t
def OP:ao->Bool
 |[]=>true
 |(k,_)::t=>!ID k t&&OP t
def DZ(fr:ao)(ops:Array Oper)(o:Oper):Option (Nat×List DV×Nat):=match o with
 |⟨some d, .call ⟨.value fo,args,_⟩,_,_,_,none⟩=>match aC (aD fr) fo,evDs (aD fr) args.toList with
  |some (.d (.v (.func (.yield l) ⟨[]⟩ ⟨[]⟩))),some ds=>some (l,ds,d)
  |_,_=>none
 |_=>none
def cy[fu1:Fu][fu2:Fu]{l d k:Nat}{Jv:Nat->Gh->World->Prop}{Jx:Gh->World->Prop}{E:List (List DV)}{ds:List DV}{fr1 fr2:ao}{own1 own2:aB}{cf1 cf2:Cf}{vc1 vc2:List Prop}(frd:ao)(H:vu GB prog l Jv Jx E)(hp:Pl C)(hJ:Jv k C.G0 C.w0)(ha:DZ fr ops o=some (l,ds,d))(hE:E[k]? =some ds)(hd:bH n (some d)=true)
  (hfd:o7 frd fr)(hnd:kD frd=frd)
  (g1:go tt n fu1.n [] ((d, .tt)::frd) [] (.ops ops r K)=⟨vc1,fr1,own1,cf1⟩)(g2:go tt n fu2.n [] ((d, .ff)::frd) [] (.ops ops r K)=⟨vc2,fr2,own2,cf2⟩)
  (k1: ∀C',Pl C'->Jv (k+1) C'.G0 C'.w0->ak prog GB C' n Q0 fr1 own1 cf1)(k2: ∀C',Pl C'->Jx C'.G0 C'.w0->ak prog GB C' n Q0 fr2 own2 cf2)
  (v1:ah vc1:=by first|exact trivial|(simp only[ah];kernel_rfl)|(simp only[ah];omega))(v2:ah vc2:=by first|exact trivial|(simp only[ah];kernel_rfl)|(simp only[ah];omega)):
  ak prog GB C n Q0 fr own (.ops ops (o::r) K):=by
 unfold DZ at ha;split at ha<;>try (cases ha;done)
 rename_i d0 fo args tys ty pos af;split at ha<;>cases ha;rename_i h1 h2;have nmd: ∀{f:ao},kD f=f-> ∀k x,aD f k=some x->x.nm=none:=by
  have len: ∀f:ao,(kD f).length<=f.length:=fun f=>by
   induction f with
   |nil=>exact aS _
   |cons e t ih=>obtain⟨j,x⟩:=e;cases x<;>simp only[kD,bL]<;>omega
  intro f
  induction f with
  |nil=>intro _ k x e;cases e
  |cons e t ih=>
   obtain⟨j,y⟩:=e;intro hd k x hx;rw[gi] at hx;have:=len t;split at hx
   ·cases hx
    cases y<;>first|rfl|(have:=congrArg List.length hd;simp only[kD,bL] at this;omega)
   ·refine ih ?_ k x hx
    cases y<;>first|exact(List.cons.inj hd).2|(have:=congrArg List.length hd;simp only[kD,bL] at this;omega)
 refine⟨fun ρ G ov a w rl=>?_⟩;have hJG:Jv k G w:=(H.st k).on _ _ _ _ hJ (rl.h.pl hp);obtain⟨y,hy,hy'⟩:=rl.ev h1;rw[(bc (G:=G)).1 hy'] at hy;obtain⟨vs,h3,h4⟩:=rl.evDs h2;obtain⟨fn,tmps,assign,body,hrun,hround⟩:=H.yd k ds G w vs hE rl.gb hJG h4;rw[hp.rd];simp only[wpListIn];rw[if_pos (by rfl)];refine⟨fun _ _=>trivial,?_⟩;have hs: ∀o:Oper,Oper.semAt (FW none).round a.eval o=execOp a.eval o:=fun _=>J;rw[hs,UR (co a) hy h3,hrun];refine⟨fun h=>(by cases h),hround.mono fun e w' he=>?_⟩;obtain⟨G',hg,he⟩:=he;have rel: ∀(b:Bool) (f:FX),(∀ρ,bp ρ G' f (.bool b))->AU G' w'->bj GB (jO w' G') n (aD ((d,f)::frd)) (aG []) ρ G' [] (a.put (some d) (.bool b)) w':=fun b f hfb hz=>by
  have pa:=rl.putA (dst:=some d) (.bool b) hd;refine⟨rl.gb.trans hg,Af hz,pa.sz,by rw[pa.df];exact hp.mks,fun k g e=>?_,(fun nm B e=>by cases e),(fun nm nm' B B' e=>by cases e),fun nm p _ _ e=>by cases e⟩;have e':dh (aD frd) (some d) f k=some g:=by
   rw[gi] at e;simp only[dh];split at e
   ·rename_i hk;rw[if_pos hk];exact e
   ·rename_i hk;rw[if_neg hk];exact e
  refine pa.fx (fun k g _ e=>?_) (hfb ρ) k g e';obtain⟨u,h5,h6⟩:=rl.fx k g (rx hfd k g e);exact⟨u,h5,h6.up hg⟩
 rcases he with⟨rfl,hj⟩|⟨rfl,hj⟩
 ·exact(d9 (GB:=GB) (C:=jO w' G') (Q0:=Q0) g1 v1 (k1 (jO w' G') ⟨J,J,J⟩ hj)).run ρ G' [] _ w' (rel true .tt (fun _=>J) ((H.st _).frz _ _ hj))
 ·exact(d9 (GB:=GB) (C:=jO w' G') (Q0:=Q0) g2 v2 (k2 (jO w' G') ⟨J,J,J⟩ hj)).run ρ G' [] _ w' (rel false .ff (fun _=>J) (H.sx.frz _ _ hj))
def Ft(GB:Gh)(n:Nat){X:Type}(F:X->ao)(I:X->aA->Prop)(a:Act)(w:World):Prop:=
 ∃C x ρ G ov,Pl C/\I x C/\bj GB C n (aD (F x)) (aG []) ρ G ov a w
def P8[fu:Fu]{c:Code}{X:Type}(F:X->ao)(I:X->aA->Prop)(μ:X->Nat)(x0:X){cf':X->Cf}{fr':X->ao}{own':X->aB}{vc:X->List Prop}(hp:Pl C)(hI:I x0 C)
  (hgo: ∀x,go tt n fu.n [] (F x) [] (.code c (.ag (Ft GB n F (fun y C=>I y C/\μ y<μ x))::K))=⟨vc x,fr' x,own' x,cf' x⟩)
  (round: ∀x C,Pl C->I x C->ak prog GB C n Q0 (fr' x) (own' x) (cf' x))(hF:o7 (F x0) fr:=by repeat (first|exact trivial|refine And.intro J ?_|refine And.intro (k9 J (by first|omega|(dsimp only;omega))) ?_|refine And.intro (k9 J (by simp)) ?_))
  (hv: ∀x C,I x C->ah (vc x):=by intros;first|exact trivial|(simp only[ah];kernel_rfl)|(simp only[ah];omega)|(simp only[ah,aX,aW,aV];omega)):ak prog GB C n Q0 fr own (.code (.loop c) K):=by
 refine⟨fun ρ G ov a w r=>?_⟩;have r0:=r.mono (bk:=aG []) (rx hF) (fun k x e=>by cases e);rw[hp.rd];intro b k cs hro hb hrm;have key: ∀m a w,(∃C x ρ G ov,Pl C/\I x C/\μ x=m/\bj GB C n (aD (F x)) (aG []) ρ G ov a w)->
   ∃e a' w',cQ none prog Q0 K e a' w'/\ArrivesIn (Machine.fenced prog (FW none)) prog (lone (b.atR a (.code c:: .inLoop c::k)) cs w) b k cs e a' w':=by
  intro m
  induction m using Nat.strongRecOn with
  |_ m ih=>
   intro a w ⟨C,x,ρ,G,ov,hpc,hx,hm,hr⟩;have h1:=d9 (GB:=GB) (C:=C) (Q0:=Q0) (hgo x) (hv x C hx) (round x C hpc hx);have h2:=h1.run ρ G ov a w hr;rw[hpc.rd] at h2;obtain⟨e,a₁,w₁,hq,harr⟩:=h2 b (.inLoop c::k) cs hro hb hrm
   cases e with
   |normal=>
    obtain⟨C',x',ρ',G',ov',hpc',⟨hx',hlt⟩,hr'⟩:=hq;obtain⟨e₂,a₂,w₂,hq₂,harr₂⟩:=ih (μ x') (hm▸hlt) a₁ w₁ ⟨C',x',ρ',G',ov',hpc',hx',rfl,hr'⟩;exact⟨e₂,a₂,w₂,hq₂, .of_steps (StepsIn.trans harr (.one (fenced_calm hb hrm J) stepR_inLoop)) harr₂⟩
   |exit id=>exact⟨_,a₁,w₁,hq, .pass (x:= .inLoop c) J (fun _ _=> .inl (by simp)) harr⟩
   |goto l=>exact⟨_,a₁,w₁,hq, .pass (x:= .inLoop c) J (fun _ _=> .inl (by simp)) harr⟩
   |ret=>exact⟨_,a₁,w₁,hq, .pass (x:= .inLoop c) J (fun _ _=> .inl (by simp)) harr⟩
   |panic ch=>exact⟨_,a₁,w₁,hq, .pass (x:= .inLoop c) J (fun _ _=> .inl (by simp)) harr⟩
   |outgrown=>exact⟨_,a₁,w₁,hq, .pass (x:= .inLoop c) J (fun _ _=> .inl (by simp)) harr⟩
 obtain⟨e,a',w',q,rr⟩:=key (μ x0) a w ⟨C,x0,ρ,G,ov,hp,hI,rfl,r0⟩;exact⟨e,a',w',q, .of_steps (.one (fenced_calm hb hrm J) stepR_loop) rr⟩
def QX{P:Program}{X:Type}{F:X->ao}{I:X->aA->Prop}(x:X)(hp:Pl C)(hI:I x C)(hF:o7 (F x) fr:=by repeat (first|exact trivial|refine And.intro J ?_|refine And.intro (k9 J (by first|omega|(dsimp only;omega))) ?_|refine And.intro (k9 J (by simp)) ?_)):ak P GB C n Q0 fr own (.ex .normal (.ag (Ft GB n F I)::K)):=
 ⟨fun ρ G ov a w r=>⟨C,x,ρ,G,ov,hp,hI,r.mono (rx hF) (fun k x e=>by cases e)⟩⟩
end
section
variable {GB:Gh} {C:aA} {n:Nat} {Q0:Exit->Act->World->Prop} {fr fr':ao} {own own':aB} {cf cf':Cf} {vc:List Prop} {ops:Array Oper} {r:List Oper} {K:List Kt}
def Rz{x y:Nat}{Φ:Act->World->Prop}{R:uh}(hfx:C.fx=fun _=>none)(h:si x y fr own=some R)(hk:SX GB C n (aD R.fr) (aG R.own) Φ):SX GB C n (aD fr) (aG own) Φ:=by
 unfold si at h;rw[cond_eq_ite] at h;split at h<;>try (cases h;done)
 rename_i hb;have hxy:x≠y:=fun e=>hb (by subst e;simp);rw[BO,yR] at h;cases h;refine⟨fun ρ G ov a w r=>hk.run (fun k=>if k=y then ρ x else ρ k) G ov a w ?_⟩;have inv: ∀m B,aG (own.map fun e=>(bif Nat.beq e.1 y then x else bif Nat.beq e.1 x then y else e.1,bif Nat.beq e.1 y then none else nj x y e.2)) m=some B-> ∃m0 B0,aG own m0=some B0/\nj x y (some B0)=some B/\(m=y/\m0=x\/m≠y/\m≠x/\m0=m):=fun m B e=>by
  rw[AB hxy] at e;split at e
  ·cases e
  ·rename_i hm
   split at e
   ·cases hl:aG own x with
    |none=>rw[hl] at e;cases e
    |some B0=>rw[hl] at e;exact⟨x,B0,hl,e, .inl ⟨by assumption,J⟩⟩
   ·cases hl:aG own m with
    |none=>rw[hl] at e;cases e
    |some B0=>rw[hl] at e;exact⟨m,B0,hl,e, .inr ⟨by assumption,hm,J⟩⟩
 have rho: ∀m m0,(m=y/\m0=x\/m≠y/\m≠x/\m0=m)->(fun k=>if k=y then ρ x else ρ k) m=ρ m0:=fun m m0 h=>by
  rcases h with⟨h1,h2⟩|⟨h1,_,h2⟩
  ·subst h1 h2;simp
  ·subst h2;exact if_neg h1
 refine⟨r.gb,r.h,r.sz,r.df,fun k f e=>?_,fun m B e=>?_,fun m m' B B' e e' hne=>?_,fun m p _ _ e=>by rw[hfx] at e;cases e⟩
 ·rw[x4] at e
  cases hf:aD fr k with
  |none=>rw[hf] at e;cases e
  |some g=>
   rw[hf] at e;cases e;obtain⟨v,h1,h2⟩:=r.fx k g hf;exact⟨v,h1,De hxy h2⟩
 ·obtain⟨m0,B0,h1,h2,h3⟩:=inv m B e
  obtain⟨os,h4,h5⟩:=r.bx m0 B0 h1;refine⟨os,?_,h5⟩;have hr:=rho m m0 h3
  cases B0 with
  |b=>cases h2;obtain⟨vs,q1,q2,q3,q4⟩:=h4;exact⟨vs,by rw[hr];exact q1,q2,q3,q4⟩
  |c=>cases h2;obtain⟨vs,q1,q2,q3,q4,q5⟩:=h4;exact⟨vs,by rw[hr];exact q1,q2,q3,q4,by rw[hr];exact q5⟩
  |o ty cs lo=>cases h2;obtain⟨b,q,q1,q2,q3⟩:=h4;exact⟨b,q,by rw[hr];exact q1,q2,Bb hxy q3⟩
 ·obtain⟨m0,B0,h1,_,h3⟩:=inv m B e
  obtain⟨m1,B1,h4,_,h6⟩:=inv m' B' e';have q1:=rho m m0 h3;have q2:=rho m' m1 h6;simp only at q1 q2;rw[q1,q2];refine r.dj m0 m1 B0 B1 h1 h4 fun e=>?_;rcases h3 with⟨h7,h8⟩|⟨h7,h8,h9⟩<;>rcases h6 with⟨g7,g8⟩|⟨g7,g8,g9⟩
  ·exact hne (h7.trans g7.symm)
  ·exact g8 (by rw[<-g9,<-e,h8])
  ·exact h8 (by rw[<-h9,e,g8])
  ·exact hne (by rw[<-h9,e,g9])
def BD{P:Program}(x y:Nat){fr1:ao}{own1:aB}{c:Code}(hfx:C.fx=fun _=>none)(h:si x y fr own=some ⟨fr1,own1⟩)(k:ak P GB C n Q0 fr1 own1 (.code c K)):ak P GB C n Q0 fr own (.code c K):=Rz hfx h k
def Df(P:Program)(fb:Func)(R:Ending->World->Prop):Exit->Act->World->Prop:=bodyPostM (FW none) 0 P fb R
structure EB (C:aA):Prop where
 mks:C.mks=[]
 rd:C.rd=none
 fx:C.fx=fun _=>none
def FC[fu:Fu]{f:FuncId}{fb:Func}{c:Code}{m:Nat}{ds:List DV}{rv:DV}(hf:prog.funcs[f]? =some fb)(hb:fb.body=some c)(hn:(fb.name== "runtime.NumGoroutine")=false)(hm:fb.ntmps=m)(hlen:Nat.ble ds.length m=true)
  (hgo:go tt m fu.n [] (ni 0 ds) [] (.code c [])=⟨vc,fr,own,cf⟩)(k: ∀C:aA,EB C->ak prog GB C m (Df prog fb (gA C (fun v G'=>Is G' rv v))) fr own cf)
  (hv:ah vc:=by first|exact trivial|(simp only[ah];kernel_rfl)|(simp only[ah];omega)|(simp only[ah,aX,aW,aV];omega)):PF GB prog f ds rv:=by
 intro G vs hg hvs;refine⟨⟨fb,hf,hn,by simp[hb]⟩,fun w hw=>?_⟩;have hlen':vs.length<=m:=by rw[hvs.len];simpa using hlen
 have h:=d9 (GB:=GB) (C:=jO w G) (Q0:=Df prog fb (gA (jO w G) (fun v G'=>Is G' rv v))) hgo hv (k (jO w G) ⟨J,J,J⟩);refine(callsIn_wide (n:=0)).1 (callsIn_of_wp_marks (F:=FW none) (n:=0) hf hb trivial ?_);refine h.run (fun _=>⟨none,0,0⟩) G [] _ w ⟨hg,Af hw,by simp;omega,J,fun k f e=>r6 hvs (fun k v hk=>?_) k f e,(fun nm B e=>by cases e),(fun nm nm' B B' e=>by cases e),fun nm p _ _ e=>by cases e⟩;obtain⟨j,rfl,hj⟩:=qG vs 0 k v hk;have hj':=(aL.1 hj).1;rw[iZ (by simpa using hj')];simpa using hj
def aA.mk3(C:aA)(D:Nat):aA:={C with ex:=(D, .deferred (some []))::C.ex,mks:=[{target:= .collected D,args:= #[]}]}
def Gl{fb:Func}{e:Exit}{ds:List DV}{rv:DV}{D:Nat}(hD:C.w0.heap.size<=D)(hx: ∀p∈C.ex,p.1≠D)(hr:lP tt fr own fb.results.toList=some ds)(hd:kC ds=rv)(he:ue e=true:=by rfl):ak prog GB (C.mk3 D) n (Df prog fb (gA C (fun v G'=>Is G' rv v))) fr own (.ex e []):=by
 refine⟨fun ρ G ov a w r=>?_⟩;obtain⟨vs,h1,h2⟩:=uP r hr;have hk:Is G rv (eE vs):=hd▸uw h2;have hex:((D,Obj.deferred (some [])):Nat×Obj)∈(C.mk3 D).ex:=aZ;have h3:bh C ov G (w.putObj D (.deferred none)):=r.h.putx hex hD (fun _ _ _ h=>by cases h) J J J fun p hp=> .inr ⟨aK _ hp,hx p hp⟩;have hres:=oP (C:=C) (G:=G) (own:=ov) (w:=w.putObj D (.deferred none)) h1 (co a) h3;have key:LeavesInM (FW none) 0 prog fb a.tmps (gA C (fun v G'=>Is G' rv v)) a.defers .returning w:=by
  rw[r.df];exact⟨by simp, .inl ⟨D,_,J,run_takeDeferred (r.h.ext _ hex).2,_,hres,_,G,J,h3.drop (mV _),hk⟩⟩
 cases e with
 |ret=>exact key
 |normal=>exact key
 |_=>cases he
end
section
variable {GB:Gh} {C:aA} {n:Nat} {Q0:Exit->Act->World->Prop} {fr fr':ao} {own own':aB} {cf cf':Cf} {vc:List Prop} {ops:Array Oper} {r:List Oper} {K:List Kt}
def bj.later{lk:LK}{bk:BM}{ρ:NE}{G G1:Gh}{ov:List av}{a:Act}{w w1:World}(r:bj GB C n lk bk ρ G ov a w)(h:bh (jO w G) [] G1 w1):bj GB C n lk bk ρ G1 ov a w1:=
 ⟨r.gb.trans h.gle,r.h.called h,r.sz,r.df,fun k f e=>by obtain⟨y,h1,h2⟩:=r.fx k f e;exact⟨y,h1,h2.up h.gle⟩,fun nm B e=>by obtain⟨os,h1,h2⟩:=r.bx nm B e;exact⟨os,h1.up h.gle,h2⟩,r.dj,r.fxd⟩
def uW:List Nat->List DV->ao->ao
 |p::ps,d::ds,fr=>uW ps ds ((p, .d d)::fr)
 |_,_,fr=>fr
def GJ{ρ:NE}{G:Gh}: ∀{ps:List Nat} {ds:List DV} {ys tm:List Value} {fr:ao},IsLs G ds ys->(∀p∈ps,p<tm.length)->(∀k f,aD fr k=some f-> ∃y,tm[k]? =some y/\bp ρ G f y)->
  ((ps.zip ys).foldl (fun t e=>t.set e.1 e.2) tm).length=tm.length/\ ∀k f,aD (uW ps ds fr) k=some f-> ∃y,((ps.zip ys).foldl (fun t e=>t.set e.1 e.2) tm)[k]? =some y/\bp ρ G f y
 |[],ds,ys,tm,fr,_,_,h=>⟨J,fun k f e=>h k f (by cases ds<;>exact e)⟩
 |p::ps,[],ys,tm,fr,hd,_,h=>by rw[cp.1 hd];exact⟨J,fun k f e=>h k f e⟩
 |p::ps,d::ds,ys,tm,fr,hd,hp,h=>by
  obtain⟨y,m,rfl,h1,h2⟩:=bD.1 hd;simp only[List.zip_cons_cons,iK,uW];have:=GJ (ps:=ps) (ds:=ds) (ys:=m) (tm:=tm.set p y) (fr:=(p, .d d)::fr) h2 (fun q hq=>by rw[aW];exact hp q (aK _ hq)) fun k f e=>by
   rw[gi] at e;split at e
   ·rename_i hk;subst hk;cases e
    exact⟨y,by rw[nK];rw[if_pos J,if_pos (hp k aZ)],h1⟩
   ·rename_i hk
    obtain⟨u,h3,h4⟩:=h k f e;exact⟨u,by rw[nK];rw[if_neg (fun e=>hk e.symm)];exact h3,h4⟩
  rw[aW] at this;exact this
def E2: ∀(l:List (Nat×Value)) (t:Array Value),(l.foldl (fun t e=>t.setIfInBounds e.1 e.2) t).toList=l.foldl (fun t e=>t.set e.1 e.2) t.toList
 |[],t=>rfl
 |e::l,t=>by simp only[iK];rw[E2 l];simp
def BT:FX->Bool
 | .ov nm _=>Nat.ble 2000000 nm
 | .rw _=>false
 | .be .. =>false
 | .rs .. =>false
 | .bx .. =>false
 |_=>true
def vN:ao->Bool
 |[]=>true
 |(_,f)::t=>BT f&&vN t
def KL: ∀{fr:ao},vN fr=true-> ∀k f,aD fr k=some f->BT f=true
 |[],_,k,f,e=>by cases e
 |(j,g)::t,h,k,f,e=>by
  simp only[vN,bZ] at h;rw[gi] at e;split at e
  ·cases e;exact h.1
  ·exact KL h.2 k f e
def D1(GB:Gh)(C:aA)(n:Nat)(fr:ao)(own:aB)(a:Act)(w:World):Prop:= ∃ρ G ov,bj GB C n (aD fr) (aG own) ρ G ov a w
def atR{P:Program}:ak P GB C n Q0 fr own (.ex .normal (.ag (D1 GB C n fr own)::K)):=⟨fun ρ G ov a w r=>⟨ρ,G,ov,r⟩⟩
def RQ(GB:Gh)(C:aA)(n:Nat)(p:Prop)(O:aB){σ:Type}(S:σ->aB)(q:σ->Prop):Exit->Act->World->Prop
 | .normal,a,w=>p/\ ∃ρ G ov,bj GB C n (fun _=>none) (aG O) ρ G ov a w
 | .ret,a,w=> ∃s,q s/\ ∃ρ G ov,bj GB C n (fun _=>none) (aG (S s)) ρ G ov a w
 |_,_,_=>False
def rq{P:Program}{p:Prop}{O:aB}{σ:Type}{S:σ->aB}{q:σ->Prop}(hp:p)(hO:ti O own:=by repeat (first|exact trivial|refine And.intro J ?_)):ak P GB C n (RQ GB C n p O S q) fr own (.ex .normal []):=
 ⟨fun ρ G ov a w r=>⟨hp,ρ,G,ov,r.mono (fun k x e=>by cases e) (ri hO)⟩⟩
def I0{P:Program}{g:Operand}{ps:Array Nat}{assign body:Code}{gf:FuncId}{caps:List Value}{ds:List DV}{E:List (List DV)}{σ:Type}(I:Nat->aB)(p:Nat->Prop)(S:σ->aB)(q:σ->Prop)(fr1:ao)
  (h0:EB C)(hg:aC (aD fr) g=some (.d (.v (.func (.func gf) ⟨[]⟩ ⟨caps⟩))))(hIt:It GB P gf ds E)(hc:IsLs GB ds caps)
  (hfr:o7 fr1 fr)(hfix:vN fr1=true)(hO:ti (I 0) own)(hp:p 0)(hps: ∀e∈E,e.length=ps.size)(hpn:ps.toList.all (fun k=>Nat.blt k n)=true)(hn2:Nat.ble n 2000000=true)
  (round: ∀k e GB',E[k]? =some e->bg GB GB'->p k-> ∃fr2 own2,(∀C2,ak P GB' C2 n (fun _ _ _=>False) (uW ps.toList e fr1) (I k) (.code assign [.ag (D1 GB' C2 n fr2 own2)]))/\ ∀C2,ak P GB' C2 n (RQ GB' C2 n (p (k+1)) (I (k+1)) S q) fr2 own2 (.code body []))
  (after: ∀D,C.w0.heap.size<=D->(∀x∈C.ex,x.1≠D)->p E.length->ak P GB (C.mk3 D) n Q0 fr1 (I E.length) (.ex .normal K))
  (early: ∀D s,C.w0.heap.size<=D->(∀x∈C.ex,x.1≠D)->q s->ak P GB (C.mk3 D) n Q0 fr1 (S s) (.ex .ret K)):
  ak P GB C n Q0 fr own (.code (.rangeFunc g ps assign body) K):=by
 refine⟨fun ρ0 G0 ov0 a w r=>?_⟩;rw[h0.rd];refine wpIn_rangeFunc fun fn _=>?_;obtain⟨y,hy,hy'⟩:=r.ev hg;rw[(bc (G:=G0)).1 hy'] at hy;have hev:=aP (co a) hy
 let D:=w.heap.size
 let l:=w.heap.size+1
 let rec_:Loop:={state:= .ready,pending:=none,fn,tmps:=a.tmps,params:=ps,assign,body,defers:=D}
 let w2:=(w.alloc (.deferred (some []))).alloc (.loop rec_)
 let mk:Deferred:={target:= .collected D,args:= #[]}
 let fx1:Nat->Option Addr:=fun nm=>(ρ0 nm).a
 let C1:Loop->aA:=fun rc=>{C with ex:=(l, .loop rc)::(D, .deferred (some []))::C.ex,mks:=[mk],fx:=fx1}
 let a0:Act:={a with defers:=[mk]++a.defers}
 have hszD:C.w0.heap.size<=D:=r.h.size;have hlt: ∀x∈C.ex,x.1<D:=fun x hx=>eH (r.h.ext x hx).2;have hszl:C.w0.heap.size<=l:=Nat.le_succ_of_le hszD;have hnl: ∀x∈((D,Obj.deferred (some []))::C.ex:List (Nat×Obj)),x.1≠l:=fun x hx=>by
  rcases aR.1 hx with rfl|hx
  ·show D≠D+1;omega
  ·have:=hlt x hx;show x.1≠D+1;omega
 have ncl: ∀rc:Loop,As (.loop rc):=fun rc _ _ _ h=>by cases h
 -- the slots of the loop, at any time
 have stat: ∀(ρ':NE) (G':Gh),bg G0 G'->(∀nm p,n<=nm->2000000<=nm->fx1 nm=some p->(ρ' nm).a=some p)-> ∀k f,aD fr1 k=some f-> ∃y,a.tmps[k]? =some y/\bp ρ' G' f y:=by
  intro ρ' G' hg' hf k f e;obtain⟨y,h1,h2⟩:=r.fx k f (rx hfr k f e);refine⟨y,h1,?_⟩;have hx:=KL hfix k f e
  cases f with
  |ov nm off=>
   obtain⟨b,h3,h4⟩:=h2;have h5:2000000<=nm:=by simpa[BT] using hx
   have h6:n<=2000000:=by simpa using hn2
   exact⟨b,hf nm _ (by omega) h5 h3,h4⟩
  |rw _=>cases hx
  |be _ _ _ _=>cases hx
  |rs _ _ _ _=>cases hx
  |bx _ _ _ _=>cases hx
  |_=>exact(h2.up hg').ren fun _ h=>by cases h
 let Jv:Nat->Gh->World->Prop:=fun k G' w'=>p k/\ ∃ρ ov,bj G0 (C1 rec_) n (aD fr1) (aG (I k)) ρ G' ov a0 w'
 let rcx:Loop:={rec_ with state:= .done,pending:=some .ret}
 let Jx:Gh->World->Prop:=fun G' w'=> ∃s,q s/\ ∃ρ ov,bj G0 (C1 rcx) n (aD fr1) (aG (S s)) ρ G' ov a0 w'
 have hsz0:a0.tmps.size=n:=r.sz;have hdf0:a0.defers=[mk]:=by show [mk]++a.defers=_;rw[r.df,h0.mks];rfl
 have H:vu G0 P l Jv Jx E:=by
  refine⟨fun k=>⟨fun G' w' ⟨_,ρ,ov,h⟩=>h.h.sub,fun G' w' G1 w1 ⟨h1,ρ,ov,h⟩ k=>⟨h1,ρ,ov,h.later k⟩⟩,⟨fun G' w' ⟨_,_,ρ,ov,h⟩=>h.h.sub,fun G' w' G1 w1 ⟨s,h1,ρ,ov,h⟩ k=>⟨s,h1,ρ,ov,h.later k⟩⟩,?_⟩;intro k e G' w' ys hE hgg ⟨hpk,ρ,ov,r1⟩ hys;have hrec:w'.heap[l]? =some (.loop rec_):=(r1.h.ext _ aZ).2;have hel:=hps e (aU hE);obtain⟨fr2,own2,hA,hB⟩:=round k e G' hE (r.gb.trans hgg) hpk;refine⟨_,_,_,_,run_yield hrec (by show ys.length=ps.size;rw[hys.len,hel]),roundIn_of_wpIn trivial ?_⟩
  let C2:aA:={C1 rec_ with mks:=[],rd:=some l}
  let tm:Array Value:=(ps.zip (⟨ys⟩:Array Value)).foldl (fun tmps (t,a)=>tmps.setIfInBounds t a) a.tmps
  have htm:tm.toList=(ps.toList.zip ys).foldl (fun t e=>t.set e.1 e.2) a.tmps.toList:=by
   simp only[tm];rw[<-Array.foldl_toList,Array.toList_zip];exact E2 _ _
  have hfx0:=r1.fx;obtain⟨q1,q2⟩:=GJ (ρ:=ρ) (ps:=ps.toList) (tm:=a.tmps.toList) (fr:=fr1) hys (fun k hk=>by have:=dT.1 hpn k hk;rw[fR,r.sz];simpa[lN] using this) fun k f e=>by
   obtain⟨y,h1,h2⟩:=hfx0 k f e;exact⟨y,by simpa using h1,h2⟩
  have hR0:bj G' C2 n (aD (uW ps.toList e fr1)) (aG (I k)) ρ G' ov {tmps:=tm,defers:=[]} w':=by
   refine⟨bg.refl _,r1.h.ctx J J J (fun _ h=>h),?_,J,fun k f e=>?_,r1.bx,r1.dj,r1.fxd⟩
   ·show tm.size=n
    rw[<-fR,htm,q1,fR,r.sz]
   ·obtain⟨y,h1,h2⟩:=q2 k f e
    exact⟨y,by rw[<-htm] at h1;simpa using h1,h2⟩
  refine wpIn_mono ((hA C2).run ρ G' ov _ w' hR0) fun ex a1 w1 hex=>?_
  cases ex with
  |normal=>
   obtain⟨ρ2,G2,ov2,r2⟩:=hex;have hrec1:w1.heap[l]? =some (.loop rec_):=(r2.h.ext _ aZ).2;refine⟨_,run_beginRound hrec1 J,?_⟩
   let busy:Loop:={rec_ with state:= .busy}
   let C3:aA:={C1 busy with mks:=[],rd:=some l}
   have h3:bh C3 ov2 G2 (w1.putObj l (.loop busy)):=r2.h.putx aZ hszl (ncl _) J J J fun x hx=>by
    rcases aR.1 hx with rfl|hx
    ·exact .inl J
    ·exact .inr ⟨aK _ hx,hnl x hx⟩
   refine wpIn_mono ((hB C3).run ρ2 G2 ov2 a1 (w1.putObj l (.loop busy)) ⟨r2.gb,h3,r2.sz,r2.df,r2.fx,r2.bx,r2.dj,r2.fxd⟩) fun ex a2 w3 hex=>?_
   cases ex with
   |normal=>
    obtain⟨hp1,ρ3,G3,ov3,r3⟩:=hex;have hrec3:w3.heap[l]? =some (.loop busy):=(r3.h.ext _ aZ).2;refine⟨_,_,run_endRound none hrec3,G3,r3.gb, .inl ⟨J,hp1,ρ3,ov3,hgg.trans r3.gb,?_,hsz0,hdf0,stat ρ3 G3 (hgg.trans r3.gb) r3.fxd,r3.bx,r3.dj,r3.fxd⟩⟩;exact r3.h.putx aZ hszl (ncl _) J J J fun x hx=>by
     rcases aR.1 hx with rfl|hx
     ·exact .inl J
     ·exact .inr ⟨aK _ hx,hnl x hx⟩
   |ret=>
    obtain⟨s,hq,ρ3,G3,ov3,r3⟩:=hex;have hrec3:w3.heap[l]? =some (.loop busy):=(r3.h.ext _ aZ).2;refine⟨_,_,run_endRound (some .ret) hrec3,G3,r3.gb, .inr ⟨J,s,hq,ρ3,ov3,hgg.trans r3.gb,?_,hsz0,hdf0,stat ρ3 G3 (hgg.trans r3.gb) r3.fxd,r3.bx,r3.dj,r3.fxd⟩⟩;exact r3.h.putx aZ hszl (ncl _) J J J fun x hx=>by
     rcases aR.1 hx with rfl|hx
     ·exact .inl J
     ·exact .inr ⟨aK _ hx,hnl x hx⟩
   |exit id=>exact hex.elim
   |goto t=>exact hex.elim
   |panic ch=>exact hex.elim
   |outgrown=>exact hex.elim
  |exit id=>exact hex.elim
  |goto t=>exact hex.elim
  |ret=>exact hex.elim
  |panic ch=>exact hex.elim
  |outgrown=>exact hex.elim
 have hC1:bh (C1 rec_) ov0 G0 w2:=by
  have h1:bh {C with ex:=(D, .deferred (some []))::C.ex} ov0 G0 (w.alloc (.deferred (some []))):=r.h.addx (fun _ _ _ h=>by cases h) J J J fun x hx=>aR.1 hx;refine h1.addx (ncl rec_) J J J fun x hx=>?_;rcases aR.1 hx with rfl|hx
  ·exact .inl (by show((l,Obj.loop rec_):Nat×Obj)=_;rw[show(w.alloc (.deferred (some []))).heap.size=w.heap.size+1 by simp])
  ·exact .inr hx
 have hJ0:Jv 0 G0 w2:=⟨hp,ρ0,ov0,bg.refl _,hC1,hsz0,hdf0,stat ρ0 G0 (bg.refl _) (fun _ _ _ _ h=>h),fun nm B e=>r.bx nm B (ri hO nm B e),fun nm nm' B B' e e'=>r.dj nm nm' B B' (ri hO nm B e) (ri hO nm' B' e'),fun _ _ _ _ h=>h⟩;refine⟨l,[mk],w2,{target:= .fn (.func gf) ⟨caps⟩,args:= #[.func (.yield l) #[] #[]]},w2,gf, #[.func (.yield l) #[] #[]]++⟨caps⟩,w2,run_enterLoop_outer fn a.tmps ps assign body,?_,fun _ _=>trivial,?_,fun h=>(by cases h),?_⟩
 ·have he:(⟨[]⟩:Array Value)++Array.map a.eval #[.const (.func (.yield l) #[] #[])]= #[.func (.yield l) #[] #[]]:=by
   apply Array.ext';rw[Array.toList_append,mW];rfl
  simp only[resolve,hev,Deferred.ofValue];rw[he];rfl
 ·simp only[invoke]
  exact xg hIt.able _ _
 refine CallsIn.mono (show CallsIn (FW none) 0 P gf _ w2 _ from by
  have:=hIt.run l Jv Jx G0 r.gb H w2 caps hJ0 (hc.up r.gb);rw[show(#[Value.func (.yield l) #[] #[]]++(⟨caps⟩:Array Value))=⟨.func (.yield l) #[] #[]::caps⟩ by simp];exact this) fun e w3 he=>?_
 obtain⟨G',hgg,⟨v,rfl⟩,hj⟩:=he;have fin: ∀(rc:Loop) (O:aB) (ρ:NE) (ov:List av),bj G0 (C1 rc) n (aD fr1) (aG O) ρ G' ov a0 w3->bj GB (C.mk3 D) n (aD fr1) (aG O) ρ G' ov a0 (w3.putObj l (.loop {rc with state:= .exhausted})):=fun rc O ρ ov r3=>
  ⟨r.gb.trans r3.gb,r3.h.putx aZ hszl (ncl _) J J J fun x hx=> .inr ⟨aK _ hx,hnl x hx⟩,r3.sz,r3.df,r3.fx,r3.bx,r3.dj,fun nm p _ _ e=>by rw[show(C.mk3 D).fx=fun _=>none from h0.fx] at e;cases e⟩
 have hxD: ∀x∈C.ex,x.1≠D:=fun x hx e=>by have:=hlt x hx;omega
 rcases hj with⟨hpn,ρ,ov,r3⟩|⟨s,hq,ρ,ov,r3⟩
 ·have hrec3:w3.heap[l]? =some (.loop rec_):=(r3.h.ext _ aZ).2
  have:=(after D hszD hxD hpn).run ρ G' ov a0 _ (fin rec_ _ ρ ov r3);rw[show(C.mk3 D).rd=none from h0.rd] at this;exact⟨_,_,run_endLoop hrec3 (by simp[rec_]),this⟩
 ·have hrec3:w3.heap[l]? =some (.loop rcx):=(r3.h.ext _ aZ).2
  have:=(early D s hszD hxD hq).run ρ G' ov a0 _ (fin rcx _ ρ ov r3);rw[show(C.mk3 D).rd=none from h0.rd] at this;exact⟨_,_,run_endLoop hrec3 (by simp[rcx]),wpIn_ret this⟩
end
end Go.Sx
end
