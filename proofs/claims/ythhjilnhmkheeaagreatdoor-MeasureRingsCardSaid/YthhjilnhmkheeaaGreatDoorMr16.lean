import Derived.Test.YthhjilnhmkheeaaGreatDoorMr15
set_option linter.all false
set_option maxHeartbeats 4000000
set_option maxRecDepth 100000
section
namespace Go.Sx
open Go Go.Proofs Tryz
variable {GB:Gh}
def jj(r:List ZP)(i k:Nat):Bool:=decide (k=i)||decide (k=(i+1)%r.length)||decide (0<tr (r.getD i (0,0)).q (cj r i).q (r.getD k (0,0)).q)
def vt(r:List ZP):Bool:=(List.range r.length).all fun i=>(List.range r.length).all fun k=>jj r i k
def Mv{r:List ZP}{i k:Nat}(hi:i<r.length)(hk:k<r.length)(h:jj r i k=false):vt r=false:=by
 rw[Bool.eq_false_iff];intro e;have:=(cN.1 ((cN.1 e) i (dS.2 hi))) k (dS.2 hk);rw[h] at this;cases this
def PC{r:List ZP}(h: ∀i,i<r.length-> ∀k,k<r.length->jj r i k=true):vt r=true:=
 cN.2 fun i hi=>cN.2 fun k hk=>h i (dS.1 hi) k (dS.1 hk)
def Ht(a b c:ZP):tr a.q b.q c.q=(lf (b.1-a.1,b.2-a.2) (c.1-a.1,c.2-a.2)).sign:=by
 have e:aa.cross (av b.q a.q (-1)) (av c.q a.q (-1))=((lf (b.1-a.1,b.2-a.2) (c.1-a.1,c.2-a.2):Int):Rat):=by
  unfold aa.cross av lf ZP.q iP;push_cast;grind
 unfold tr;rw[e,pT]
def Hh{a:Int}:0<a.sign↔0<a:=by
 rcases kS a 0 with h|h|h
 .rw[fZ h];omega
 .subst h;simp
 .rw[fJ h];omega
def aqZ{p u v:ZP}:vt (jc p u v)=decide (0<lf u v):=by
 obtain⟨p1,p2⟩:=p;obtain⟨u1,u2⟩:=u;obtain⟨v1,v2⟩:=v;have e1:jj (jc (p1,p2) (u1,u2) (v1,v2)) 0 2=decide (0<lf (u1,u2) (v1,v2)):=by
  unfold jj cj jc vk;simp only[bZ,gQ,mS,jJ,Nat.reduceAdd,Nat.reduceMod,Ht,Hh];simp[lf];congr 2
  all_goals (first|omega|grind)
 have e2:jj (jc (p1,p2) (u1,u2) (v1,v2)) 1 0=decide (0<lf (u1,u2) (v1,v2)):=by
  unfold jj cj jc vk;simp only[bZ,gQ,mS,jJ,Nat.reduceAdd,Nat.reduceMod,Ht,Hh];simp[lf];constructor<;>intro h<;>grind
 have e3:jj (jc (p1,p2) (u1,u2) (v1,v2)) 2 1=decide (0<lf (u1,u2) (v1,v2)):=by
  unfold jj cj jc vk;simp only[bZ,gQ,mS,jJ,Nat.reduceAdd,Nat.reduceMod,Ht,Hh];simp[lf];constructor<;>intro h<;>grind
 by_cases h:0<lf (u1,u2) (v1,v2)
 .rw[decide_eq_true h] at e1 e2 e3⊢
  refine PC fun i hi k hk=>?_;have hl:(jc (p1,p2) (u1,u2) (v1,v2)).length=3:=J;rw[hl] at hi hk;have hs: ∀j,jj (jc (p1,p2) (u1,u2) (v1,v2)) j j=true:=fun j=>by unfold jj;simp
  have hn: ∀j,jj (jc (p1,p2) (u1,u2) (v1,v2)) j ((j+1)%3)=true:=fun j=>by unfold jj;simp[hl]
  have h1:i=0\/i=1\/i=2:=by omega
  have h2:k=0\/k=1\/k=2:=by omega
  rcases h1 with rfl|rfl|rfl<;>rcases h2 with rfl|rfl|rfl<;>first|assumption|exact hs _|exact hn _
 .rw[decide_eq_false h] at e1⊢
  exact Mv (i:=0) (k:=2) (by simp[jc]) (by simp[jc]) e1
def HB{r:List ZP}(hle: ∀p∈r,ZP.le 100 p)(h6:r.length<=6):PF GB prog 21 [.sl (r.map gP)] (vB (vt r)):=by
 have hm:=ik gP r;refine fn (fu:=⟨9⟩) func21 J J ntmps21 J J (fun C=>?_);refine ah 7 (.d (vI (r.length:Nat))) J omu<|gx (fu:=⟨8⟩) J<|ah 9 (.d (vI (r.length:Nat))) J omu<|gx J<|lp (X:=Nat) (fun i=>[(10, .d (vI (i:Nat)))]) (fun i=>[]) (fun i=>i<=r.length/\ ∀j,j<i-> ∀q,q<r.length->jj r j q=true) (fun i=>r.length-i) 0 J ⟨bS _,fun j hj=>absurd hj we⟩ (fun _=>J) (fun i hk=>?_);obtain⟨i1,i2⟩:=hk;refine br (fu1:=⟨14⟩) J J J (fun hc11=>?_) (fun hc11=>?_)
 .
  have hir:i<r.length:=by omega
  refine ah 14 (.d (vI (r.length:Nat))) J omu<|gx J<|lp (X:=Nat) (fun k=>[(15, .d (vI (k:Nat)))]) (fun k=>[]) (fun k=>k<=r.length/\ ∀q,q<k->jj r i q=true) (fun k=>r.length-k) 0 J ⟨bS _,fun j hj=>absurd hj we⟩ (fun _=>J) (fun k hk=>?_);obtain⟨k1,k2⟩:=hk;refine br (fu1:=⟨14⟩) J J J (fun hc16=>?_) (fun hc16=>?_)
  .
   have hkr:k<r.length:=by omega
   haveI hvb:aE (r.getD i (0,0)).q 12:=nE (hle _ (qv hir));haveI hwb:aE (cj r i).q 12:=nE (hle _ (xz hir));haveI hub:aE (r.getD k (0,0)).q 12:=nE (hle _ (qv hkr));refine ji (fu1:=⟨6⟩) (v2:=fun hg20=>by simp only[ae];exact⟨omd,we⟩) J J J J (fun hg20=>?_) (fun hg20=>?_)
   .
    refine ah 26 (.d (vI ((i+1)%r.length:Nat))) J (by rfl)<|gx (fu:=⟨0⟩) J<|ji (v2:=fun hg27=>by simp only[ae];exact⟨omd,we⟩) J J J J (fun hg27=>?_) (fun hg27=>?_)
    .
     refine ix (fu:=⟨6⟩) _ J (vA hir) J<|ah 38 (.d (vI ((i+1)%r.length:Nat))) J (by rfl)<|gx J<|ix _ J (Hi hir) J<|ix _ J (vA hkr) J<|cl J (IH (a:=(r.getD i (0,0)).q) (b:=(cj r i).q) (c:=(r.getD k (0,0)).q) (i:=12) (j:=12) (k:=12)) J<|br J J J (fun hc47=>?_) (fun hc47=>?_)
     .
      have hcv:jj r i k=false:=by unfold jj;rw[decide_eq_false (show¬k=i by omega),decide_eq_false (show¬k=(i+1)%r.length by omega),decide_eq_false (show¬0<(tr (r.getD i (0,0)).q (cj r i).q (r.getD k (0,0)).q) by omega)];rfl
      exact rz J (by rw[Mv hir hkr hcv];rfl)
     .
      have hcv:jj r i k=true:=by unfold jj;rw[decide_eq_true (show 0<tr _ _ _ by omega)];simp
      exact at_ (k+1) ⟨⟨we,fun q hq=>by by_cases e:q=k;(subst e;exact hcv);exact k2 q we⟩,we⟩
    .
     have hcv:jj r i k=true:=by unfold jj;rw[decide_eq_true (show k=(i+1)%r.length by omega)];simp
     exact at_ (k+1) ⟨⟨we,fun q hq=>by by_cases e:q=k;(subst e;exact hcv);exact k2 q we⟩,we⟩
   .
    have hcv:jj r i k=true:=by unfold jj;rw[decide_eq_true (show k=i by omega)];rfl
    exact at_ (k+1) ⟨⟨we,fun q hq=>by by_cases e:q=k;(subst e;exact hcv);exact k2 q we⟩,we⟩
  .
   obtain rfl:k=r.length:=by omega
   exact at_ (i+1) ⟨⟨we,fun j hj q hq=>by by_cases e:j=i;(subst e;exact k2 q we);exact i2 j we q hq⟩,we⟩
 .
  obtain rfl:i=r.length:=by omega
  exact rz J (by rw[PC fun j hj q hq=>i2 j hj q hq];rfl)
def aG3{p u v:ZP}(h1:ZP.le 40 p)(h2:ZP.le 40 u)(h3:ZP.le 40 v): ∀q∈jc p u v,ZP.le 100 q:=fun q hq=>by
 unfold ZP.le at*;simp only[jc,vk,aW,jU,or_false] at hq;rcases hq with rfl|rfl|rfl<;>((try dsimp only);omega)
def arh{p u v:ZP}(h1:ZP.le 40 p)(h2:ZP.le 40 u)(h3:ZP.le 40 v):PF GB prog 21 [.sl ((jc p u v).map gP)] (vB (decide (0<lf u v))):=by
 have:=HB (GB:=GB) (r:=jc p u v) (aG3 h1 h2 h3) (by simp[jc]);rw[aqZ] at this;exact this
def Yy{b:Nat}{es:List Int}(hes:es.length<=400){a:Nat}(ha:a<=es.length):PM GB prog 7 (mO [none] b) b 70 [.sl (es.map vI), .v (.int .i64 (a:Nat))] (mC (qb es a).1) [.sl (es.map vI), .v (.int .i64 ((qb es a).2:Nat))]:=by
 have hk0:=gO (n:=2) ha;have hx1:=gO (n:=3) hk0;have hy1:=gO (n:=3) hx1;have l1:=il (es:=es) (n:=3) (a:=(aj es 2 a).2);have l2:=il (es:=es) (n:=3) (a:=(aj es 3 (aj es 2 a).2).2);refine AC func7 J J ntmps7 J J (fun C b m lo hmb=>?_);refine cm J (fun b=>(kw (n:=2) hes ha)) J<|br J J J (fun hc13=>?_) (fun hc13=>?_)
 .
  have hz1:=gO (n:=2) hy1;have l3:=il (es:=es) (n:=2) (a:=(aj es 3 (aj es 3 (aj es 2 a).2).2).2);have l4:=il (es:=es) (n:=2) (a:=(aj es 2 (aj es 3 (aj es 3 (aj es 2 a).2).2).2).2);refine cm J (fun b=>(kw (n:=3) hes hk0)) J<|cm J (fun b=>(kw (n:=3) hes hx1)) J<|cm J (fun b=>(kw (n:=2) hes hy1)) J<|cm J (fun b=>(kw (n:=2) hes hz1)) J<|cl J (iG (m:=(((aj es 3 (aj es 2 a).2).1:Int)-1)) (n:=(((aj es 3 (aj es 3 (aj es 2 a).2).2).1:Int)-1))) J<|cl J (iG (m:=(((aj es 3 (aj es 2 a).2).1:Int)-1+1+((aj es 2 (aj es 3 (aj es 3 (aj es 2 a).2).2).2).1:Int))) (n:=(((aj es 3 (aj es 3 (aj es 2 a).2).2).1:Int)-1))) J<|cl J (iG (m:=(((aj es 3 (aj es 2 a).2).1:Int)-1+1+((aj es 2 (aj es 3 (aj es 3 (aj es 2 a).2).2).2).1:Int))) (n:=(((aj es 3 (aj es 3 (aj es 2 a).2).2).1:Int)-1+1+((aj es 2 (aj es 2 (aj es 3 (aj es 3 (aj es 2 a).2).2).2).2).1:Int)))) J<|cl J (iG (m:=(((aj es 3 (aj es 2 a).2).1:Int)-1)) (n:=(((aj es 3 (aj es 3 (aj es 2 a).2).2).1:Int)-1+1+((aj es 2 (aj es 2 (aj es 3 (aj es 3 (aj es 2 a).2).2).2).2).1:Int)))) J<|rf J J<|?_;exact nH hmb J J (by rw[show qb es a=_ from if_pos hc13];rfl) (by rw[show qb es a=_ from if_pos hc13];rfl)
 .
  have hu1:=gO (n:=2) hy1;have hu2:=gO (n:=3) hu1;have hv1:=gO (n:=3) hu2;have m1:=il (es:=es) (n:=2) (a:=(aj es 3 (aj es 3 (aj es 2 a).2).2).2);have m2:=il (es:=es) (n:=3) (a:=(aj es 2 (aj es 3 (aj es 3 (aj es 2 a).2).2).2).2);have m3:=il (es:=es) (n:=3) (a:=(aj es 3 (aj es 2 (aj es 3 (aj es 3 (aj es 2 a).2).2).2).2).2);have m4:=il (es:=es) (n:=2) (a:=(aj es 3 (aj es 3 (aj es 2 (aj es 3 (aj es 3 (aj es 2 a).2).2).2).2).2).2);refine cm J (fun b=>(kw (n:=3) hes hk0)) J<|cm J (fun b=>(kw (n:=3) hes hx1)) J<|cl J (iG (m:=(((aj es 3 (aj es 2 a).2).1:Int)-1)) (n:=(((aj es 3 (aj es 3 (aj es 2 a).2).2).1:Int)-1))) J<|cm J (fun b=>(kw (n:=2) hes hy1)) J<|cm J (fun b=>(kw (n:=3) hes hu1)) J<|cl J (iG (m:=(1+((aj es 2 (aj es 3 (aj es 3 (aj es 2 a).2).2).2).1:Int))) (n:=(((aj es 3 (aj es 2 (aj es 3 (aj es 3 (aj es 2 a).2).2).2).2).1:Int)-1))) J<|cm J (fun b=>(kw (n:=3) hes hu2)) J<|cm J (fun b=>(kw (n:=2) hes hv1)) J<|cl J (iG (m:=(((aj es 3 (aj es 3 (aj es 2 (aj es 3 (aj es 3 (aj es 2 a).2).2).2).2).2).1:Int)-1)) (n:=(1+((aj es 2 (aj es 3 (aj es 3 (aj es 2 (aj es 3 (aj es 3 (aj es 2 a).2).2).2).2).2).2).1:Int)))) J<|cl J (lh (n:=1)) J<|cl J (Ai (m:=(((aj es 3 (aj es 2 a).2).1:Int)-1)) (n:=(((aj es 3 (aj es 3 (aj es 2 a).2).2).1:Int)-1)) (m':=(1+((aj es 2 (aj es 3 (aj es 3 (aj es 2 a).2).2).2).1:Int))) (n':=(((aj es 3 (aj es 2 (aj es 3 (aj es 3 (aj es 2 a).2).2).2).2).1:Int)-1)) (k:=1) we we we we) J<|cl J (lh (n:=1)) J<|cl J (Ai (m:=(((aj es 3 (aj es 2 a).2).1:Int)-1)) (n:=(((aj es 3 (aj es 3 (aj es 2 a).2).2).1:Int)-1)) (m':=(((aj es 3 (aj es 3 (aj es 2 (aj es 3 (aj es 3 (aj es 2 a).2).2).2).2).2).1:Int)-1)) (n':=(1+((aj es 2 (aj es 3 (aj es 3 (aj es 2 (aj es 3 (aj es 3 (aj es 2 a).2).2).2).2).2).2).1:Int))) (k:=1) we we we we) J<|rf J J<|cl J (arh (p:=((((aj es 3 (aj es 2 a).2).1:Int)-1),(((aj es 3 (aj es 3 (aj es 2 a).2).2).1:Int)-1))) (u:=((1+((aj es 2 (aj es 3 (aj es 3 (aj es 2 a).2).2).2).1:Int)),(((aj es 3 (aj es 2 (aj es 3 (aj es 3 (aj es 2 a).2).2).2).2).1:Int)-1))) (v:=((((aj es 3 (aj es 3 (aj es 2 (aj es 3 (aj es 3 (aj es 2 a).2).2).2).2).2).1:Int)-1),(1+((aj es 2 (aj es 3 (aj es 3 (aj es 2 (aj es 3 (aj es 3 (aj es 2 a).2).2).2).2).2).2).1:Int)))) ⟨we,we⟩ ⟨we,we⟩ ⟨we,we⟩) J<|bb J J J (fun hc76=>?_) (fun hc76=>?_)
  .
   refine cl J (iG (m:=0) (n:=0) oma oma) J<|cl J (iG (m:=1) (n:=0) oma oma) J<|cl J (iG (m:=0) (n:=1) oma oma) J<|rf J J<|?_;exact nH hmb J J (by rw[show qb es a=_ from(if_neg hc13).trans (congrArg (fun r=>(r,(aj es 2 (aj es 3 (aj es 3 (aj es 2 (aj es 3 (aj es 3 (aj es 2 a).2).2).2).2).2).2).2)) (if_neg (by simpa using hc76)))];rfl) (by rw[show qb es a=_ from if_neg hc13])
  .
   exact nH hmb J J (by rw[show qb es a=_ from(if_neg hc13).trans (congrArg (fun r=>(r,(aj es 2 (aj es 3 (aj es 3 (aj es 2 (aj es 3 (aj es 3 (aj es 2 a).2).2).2).2).2).2).2)) (if_pos (by simpa using hc76)))];rfl) (by rw[show qb es a=_ from if_neg hc13])
section
variable {GB:Gh} {C:aH} {n:Nat} {Q0:Exit->Act->World->Prop} {fr fr' fr1 fr2:aD} {own own' own1 own2:aO} {cf cf' cf1 cf2:Cf} {vc vc1 vc2:List Prop}
end
def Xx{es0 es:List Int}(hb:es0.length<=1125899906842624)(he:es=es0.take 400):PN GB prog 4 [.sl (es0.map vI)] 70 Unit (fun _=>[.sl (es.map vI), .v (.int .i64 (0:Nat))]):=by
 subst he;exact aJ1 hb
def NL{k:Nat}{t:Tr}(h:ju k t):PF GB prog 10 [eT t] (eA t):=aDV h.bl (by have:=h.s;omega)
def jG.nil:jG []:=fun s hs=>by cases hs

section
variable {GB:Gh} {C:aH} {n:Nat} {Q0:Exit->Act->World->Prop} {fr fr':aD} {own own':aO} {cf cf':Cf} {vc:List Prop} {ops:Array Oper} {r:List Oper} {K:List Kt}
def UC(k:Nat){d:DV}(hl:bh fr k=some (.d d))(h: ∀(GB':Gh) (pv:Value),cc GB GB'->Is GB' d pv->ao prog GB' C n Q0 ((k, .d (.v pv))::fr) own (.ops ops r K)):ao prog GB C n Q0 fr own (.ops ops r K):=by
 refine⟨fun ρ G ov a w r0=>?_⟩;obtain⟨y,hy,hy'⟩:=r0.fx k _ hl;refine(h G y r0.gb hy').run ρ G ov a w ⟨cc.refl _,r0.h,r0.sz,r0.df,fun j f e=>?_,r0.bx,r0.dj,r0.fxd⟩;rw[kH] at e;split at e
 .rename_i hj
  cases e;subst hj
  exact⟨y,hy,(bE (G:=G)).2 J⟩
 .exact r0.fx j f e
def TC(fr:aD)(own:aO)(cf:Cf):Option (TypeId×Nat×Nat×List FX×Bool×FX):=match dw fr cf with
 |some ⟨_, .store t x y,_,_,_,_⟩=>match ba (co fr cf) x with
  |some (.ov nm 0)=>match i6 fr own cf nm with
   |some (.o ty cs lo)=>match ba (co fr cf) y with
    |some fv=>some (t,nm,ty,cs,lo,fv)
    |_=>none
   |_=>none
  |_=>none
 |_=>none
def F4[fu:Fu]{t nm ty len e:Nat}{cs:List FX}{lo:Bool}{fv:FX}{j:TypeInfo}(h:TC fr own cf=some (t,nm,ty,cs,lo,fv))(hu:prog.underlying t=some (.array len e))(hj:prog.info? t=some j)(hc:fv.okc=true/\fv.cells.length=j.size/\j.size=cs.length)
  (hgo:dl tt n fu.n fr own cf .un [(nm,some (.o ty (xy cs 0 fv.cells) lo))] []=⟨vc,fr',own',cf'⟩)(k:ao prog GB C n Q0 fr' own' cf')
  (hv:autoParam (ae vc) cL._auto_1):ao prog GB C n Q0 fr own cf:=by
 unfold TC at h;split at h<;>try (cases h;done)
 rename_i hh;split at h<;>try (cases h;done)
 rename_i e1;split at h<;>try (cases h;done)
 rename_i hb;split at h<;>cases h;rename_i e2;obtain⟨c1,c2,c3⟩:=hc;have:nf prog t j.size:=⟨fun w=>AQ hu w,fun w=>vC hj w⟩;refine us hh ?_ hgo hv k;intro hd tl tb K s1 s2 hf hk;refine⟨fun ρ G ov a w r Q=>?_⟩;have r1:=r.mono s1 s2;obtain⟨p,h1,h2⟩:=r1.ev e1;obtain⟨q,h3,h4⟩:=r1.ev e2;obtain⟨b,m,rfl,ha,h5,h6⟩:=r1.own h2 hb;obtain⟨h7,h8⟩:=h4.cells c1;obtain⟨own',u1,u2,u3⟩:=i7.of_mem (cs':=dd m 0 (aP q)) h6;exact DE h1 h3 u1 (by rw[h7.len,c2]) (by rw[h5.len,c3];omega) (cN.2 h8) hd (fun a' w' rl=>r.wrote (m:=m) (s2 _ _ hb) ha (h5.ov h7) u2 u3 hk rl) a w Q ⟨r.h,r.sz,dt a,r.df⟩
end
def vq(ns:List NQ):Nat->Tr->Prop
 |_, .leaf _=>True
 |k, .node l x y=>ns[k]? =some ⟨l,x.num (k+1),y.num (k+1+x.size)⟩/\vq ns (k+1) x/\vq ns (k+1+x.size) y
def vq.of: ∀{t:Tr} {ns a b:List NQ} {k:Nat},ns=a++t.wr k++b->a.length=k->vq ns k t
 | .leaf _,_,_,_,_,_,_=>trivial
 | .node l x y,ns,a,b,k,e,ha=>by
  simp only[Tr.wr,gX,jW] at e;refine⟨?_,vq.of (a:=a++[⟨l,x.num (k+1),y.num (k+1+x.size)⟩]) (b:=y.wr (k+1+x.size)++b) (by rw[e];simp) (by simp[ha]),vq.of (a:=a++⟨l,x.num (k+1),y.num (k+1+x.size)⟩::x.wr (k+1)) (b:=b) (by rw[e];simp) (by rw[aR,bZ,Tr.wr_len,ha];omega)⟩;rw[e,fL we,ha,tJ];rfl
abbrev LX (x:SV) (ns:List NQ) (A:Gh):Prop:= ∃es,jl A 8 x es/\IsLs A (ns.map eN) es
def sK(n k:Nat):List Value:=uX n (fun j=>Nat.blt j k)
def aGM(n k:Nat):(sK n k).length=n:=Mx _ _
def aI2{n k:Nat}(h:k<n):(sK n k)[k]? =some (.bool false):=Tb h (by rw[Bool.eq_false_iff,ne_eq,lJ];omega)
def Zb(n k:Nat):(sK n k).set k (.bool true)=sK n (k+1):=by
 refine(avE n k _).trans (congrArg _ (funext fun j=>?_));unfold yg;rw[Bool.eq_iff_iff,fU,lJ,lJ,Nat.beq_eq];omega
def aMg{G:Gh}{l:ab}{a b:Int}{v:Value}(h:Is G (eN ⟨l,a,b⟩) v): ∃x1 x2 x3:SV,v= .agg ⟨[.bool (decide (l.a<0)), .slice x1.a x1.n x1.c, .bool (decide (l.b<0)), .slice x2.a x2.n x2.c, .bool (decide (l.c<0)), .slice x3.a x3.n x3.c, .int .i64 a, .int .i64 b]⟩/\
  Is G (eL l) (.agg ⟨[.bool (decide (l.a<0)), .slice x1.a x1.n x1.c, .bool (decide (l.b<0)), .slice x2.a x2.n x2.c, .bool (decide (l.c<0)), .slice x3.a x3.n x3.c]⟩):=Y5 (n:=RN.of ⟨l,a,b⟩) h
def aJn{G:Gh}{l:ab}{v:Value}(h:Is G (.tp [iq l,vB true]) v): ∃n1 d1 p1 n2 d2 p2 n3 d3 p3,v= .tuple #[.agg ⟨[.int .i64 n1, .int .i64 d1, .pointer p1, .int .i64 n2, .int .i64 d2, .pointer p2, .int .i64 n3, .int .i64 d3, .pointer p3]⟩, .bool true]/\
  Is G (iq l) (.agg ⟨[.int .i64 n1, .int .i64 d1, .pointer p1, .int .i64 n2, .int .i64 d2, .pointer p2, .int .i64 n3, .int .i64 d3, .pointer p3]⟩):=by
 obtain⟨m,rfl,g⟩:=mm.1 h;obtain⟨v1,m,rfl,h1,h⟩:=bO.1 g;obtain⟨v2,m,rfl,h2,h⟩:=bO.1 h;rw[gw] at h;subst h;obtain⟨n1,d1,p1,n2,d2,p2,n3,d3,p3,rfl⟩:=Xi h1;rw[bE.1 h2];exact⟨_,_,_,_,_,_,_,_,_,J,h1⟩
def aD7{G:Gh}{t:Tr}{vs:List Value}(hv:IsLs G [eA t] vs): ∃x:SV,x.n=(t.wr 0).length/\vs=[.agg ⟨[.int .i64 (t.num 0), .slice x.a x.n x.c]⟩]/\LX x (t.wr 0) G:=by
 obtain⟨v0,m,rfl,h0,hm⟩:=bO.1 hv;rw[gw] at hm;subst hm;obtain⟨m,rfl,g⟩:=fC.1 h0;obtain⟨v1,m,rfl,h1,hm⟩:=bO.1 g;obtain⟨v2,m,rfl,h2,hm⟩:=bO.1 hm;rw[gw] at hm;subst hm;obtain⟨s0,x,es,rfl,hsl,hes⟩:=je.1 h2;rw[bE.1 h1];have hel:=hes.len;rw[aK] at hel;have hlen:=hsl.len;rw[hel] at hlen;refine⟨x,hlen,J,es,?_,hes⟩;rcases Cg (s:=8) hsl hes (fun d hd=>by obtain⟨n,_,rfl⟩:=aS.1 hd;exact⟨rfl,rfl⟩) with e|e
 .exact⟨hsl.len,hsl.cap, .inl e⟩
 .rw[e] at hsl;exact hsl
theorem okp{p:Prop}(h:p:=by repeat (first|exact .hd .. |apply i7.tl)):p:=h
def aKr{A:Gh}{ns:List NQ}{x:SV}(hx:LX x ns A)(hn:ns.length<=1000000): ∀{t:Tr} {k:Nat},vq ns k t->k+t.size<=ns.length->t.all LB->t.all ab.ok-> ∀{G:Gh} {rb sb:Nat} {lo lo2:Bool},[GL A G]->
  nv prog 105 [.pointer (some ⟨rb,0,none⟩), .int .i64 (t.num k)] [⟨rb,[.slice x.a x.n x.c, .slice (some ⟨sb,0,none⟩) ns.length ns.length, .int .i64 k, .bool false],188,lo⟩,⟨sb,sK ns.length k,4,lo2⟩] G
   (fun v css G'=> ∃p,v= .pointer p/\Is G' (eU t) (.pointer p)/\css=[[.slice x.a x.n x.c, .slice (some ⟨sb,0,none⟩) ns.length ns.length, .int .i64 (k+t.size:Nat), .bool false],sK ns.length (k+t.size)]):=by
 obtain⟨es,hx,hes⟩:=hx;have hel:=hes.len;rw[aK] at hel;have hlen:=hx.len;rw[hel] at hlen;obtain⟨xa,xn,xc⟩:=x;simp only[] at hlen;subst hlen;intro t
 induction t with
 |leaf bb=>
  intro k _ _ _ _ G rb sb lo lo2 _;refine nv.intro func105 J J ntmps105 J ?_;intro C _ _;show St C _ _ [⟨rb,_,_,false⟩,⟨sb,_,_,false⟩] _ _
  cases bb
  case true=>
   refine sR<|sa J J<|zE<|mG<|KD<|sR<|sm J J<|sy (tu J J) J<|sm J J<|ss J J J J<|ss J J J J<|?_;refine sy (Pu J J) J<|sa J J<|zE<|Jz J<|sR<|sm J J<|sy (tu J J) J<|?_;refine sc (zC J J (PF.fn0 (Rd (b:=true)) (.cons (bE.2 J) .nil)) J ?_);rintro _ G1 _ hp;obtain⟨p,rfl⟩:=Jg hp;refine sa J J<|zE<|vG<|?_;exact zn (css:=[_,_]) (.tmp J .nil) J _ (List.Perm.refl _) (List.Sublist.refl _) ⟨p,J,hp,J⟩
  refine sR<|sa J J<|zE<|mG<|KD<|sR<|sm J J<|sy (tu J J) J<|sm J J<|lv J J (sH J) J<|lv J J (tu J J) J<|?_;refine sy (yL J J) J<|sa J J<|zE<|Jz J<|sR<|sm J J<|sy (tu J J) J<|?_;refine sc (zC J J (PF.fn0 (Rd (b:=false)) (.cons (bE.2 J) .nil)) J ?_);rintro _ G1 _ hp;obtain⟨p,rfl⟩:=Jg hp;refine sa J J<|zE<|vG<|?_;exact zn (css:=[_,_]) (.tmp J .nil) J _ (List.Perm.refl _) (List.Sublist.refl _) ⟨p,J,hp,J⟩
 |node l tx ty ih1 ih2=>
  intro k ⟨h0,h1,h2⟩ hk ⟨hb,hb1,hb2⟩ ⟨ho,ho1,ho2⟩ G rb sb lo lo2 _;haveI:=hb;have hsz:k+(Tr.node l tx ty).size=k+1+tx.size+ty.size:=by simp only[Tr.size];omega
  rw[hsz] at hk⊢;have hbn:k<ns.length:=by omega
  obtain⟨z,hzi,hz⟩:=hes.get (i:=k) (by rw[cV,h0];rfl);obtain⟨x1,x2,x3,rfl,hzg⟩:=aMg hz;refine nv.intro func105 J J ntmps105 J ?_;intro C _ _;show St C _ [(0, .pointer (some ⟨rb,0,none⟩)),(1, .int .i64 (k:Int))] [⟨rb,[.slice xa ns.length xc, .slice (some ⟨sb,0,none⟩) ns.length ns.length, .int .i64 k, .bool false],_,false⟩,⟨sb,sK ns.length k,_,false⟩] _ _;refine sR<|sa J J<|zE<|mG<|KD<|sR<|sm J J<|sy (tu J J) J<|sm J J<|?_;refine HP 12 J (fun hg=>absurd hg we) (fun hg=>?_);refine lv J J (sH J) J<|lv J J (tu J J) J<|sy (yL J J) J<|sa J J<|zE<|?_;refine Aj J (fun hc=>absurd hc we) (fun _=>?_);refine sR<|sm J J<|sy (Ti J J) J<|sm J J<|?_;refine HP 22 J (fun hg=>absurd hg we) (fun hg=>?_);refine lv J J (sH J) J<|lv J J (sH J) J<|lv J J (uI J) J<|lv J J (uN J) J<|lv J J (ue J J) J<|lv J J (vZ J) J<|lv J J (N0 J J) J<|sy (yL J J) J<|sm J J<|?_;refine HP 31 J (fun hg=>absurd hg we) (fun hg=>?_);refine lv J J (sH J) J<|lv J J (uI J) J<|lv J J (uN J) J<|lv J J (ue J J) J<|lv J J (sH J) J<|lv J J (TO J J) J<|?_;refine lv J J (ue (v:= .bool false) J (by rw[dR,lY];exact aI2 hbn)) J<|sy (yL J J) J<|sa J J<|zE<|Jy J<|zK<|?_;refine sR<|sm J J<|sn J J<|sf J J<|y4 J J J<|sm J J<|sy (TO J J) J<|?_;refine sc (Aq J J (.tl _ _ _ _ _ _ _ _ (.hd ..)) (by rw[aGM,dR,lY];exact hbn) J J ?_);rw[dR,lY,Zb];refine zE<|sR<|sm J J<|sn J J<|sf J J<|y4 J J J<|sy (Bx J J) J<|sn J J<|sf J J<|?_;refine sc (Wb J J J okp (nb J) J J ?_)
  rw[show(k:Int)+1=((k+1:Nat):Int) by omega];refine zE<|sR<|sm J J<|sn J J<|sf J J<|y4 J J J<|sm J J<|sy (aLg (z:=⟨xa,ns.length,xc⟩) hx J J we (by show(k:Int)<(ns.length:Int);omega)) J<|?_;rw[dR];refine sy (aH3 (i:=k) hx J (by rw[hel];exact hbn) hzi) J<|?_;refine sc (FU J ?_);intro b5;refine sc (TG J J J okp J (nb J) J J ?_);refine zE<|sR<|sf J J<|slo J J J<|?_;refine sc (zC J J (PF.fn0 (ZZ ho) (.cons (hzg.up GL.le) .nil)) J ?_);rintro _ G6 _ hw;obtain⟨n1,d1,p1,n2,d2,p2,n3,d3,p3,rfl,hwl⟩:=aJn hw;refine sm J J<|sx J J J<|sx J J J<|?_;refine sc (FU J ?_);intro b6;refine sc (TG J J J okp J (nb J) J J ?_);refine sa J J<|zE<|mG<|sR<|sm J J<|sy (HE J) J<|zE<|Jy J<|zK<|?_;refine sR<|sm J J<|sf J J<|y4 J J J<|?_;have hrp:=ih1 h1 we hb1 ho1 (G:=G6) (rb:=rb) (sb:=sb) (lo:=false) (lo2:=false);refine sc (Ew J J (List.perm_append_comm (l₁:=[_,_]) (l₂:=[_,_])) hrp J ?_);rintro _ css G7 _ _ ⟨q1,rfl,hp1,rfl⟩;show St C _ _ [⟨rb,[.slice xa ns.length xc, .slice (some ⟨sb,0,none⟩) ns.length ns.length, .int .i64 (k+1+tx.size:Nat), .bool false],188,false⟩,⟨sb,sK ns.length (k+1+tx.size),4,false⟩,⟨b6,[.int .i64 n1, .int .i64 d1, .pointer p1, .int .i64 n2, .int .i64 d2, .pointer p2, .int .i64 n3, .int .i64 d3, .pointer p3],258,true⟩,⟨b5,[.bool (decide (l.a<0)), .slice x1.a x1.n x1.c, .bool (decide (l.b<0)), .slice x2.a x2.n x2.c, .bool (decide (l.c<0)), .slice x3.a x3.n x3.c, .int .i64 (tx.num (k+1)), .int .i64 (ty.num (k+1+tx.size))],166,true⟩] _ _
  refine sa J J<|zE<|mG<|?_;refine drS [⟨b6,[.int .i64 n1, .int .i64 d1, .pointer p1, .int .i64 n2, .int .i64 d2, .pointer p2, .int .i64 n3, .int .i64 d3, .pointer p3],258,true⟩,⟨b5,[.bool (decide (l.a<0)), .slice x1.a x1.n x1.c, .bool (decide (l.b<0)), .slice x2.a x2.n x2.c, .bool (decide (l.c<0)), .slice x3.a x3.n x3.c, .int .i64 (tx.num (k+1)), .int .i64 (ty.num (k+1+tx.size))],166,true⟩] (fun _=>false) [(0,true),(1,true),(2,true),(3,true),(4,true),(5,false),(6,false),(7,true)] follows omd<|?_;refine dL J J J J<|dM J J J<|dM J J J<|dF J J J<|Fh J J J J<|?_;have hrp:=ih2 h2 hk hb2 ho2 (G:=G7) (rb:=rb) (sb:=sb) (lo:=false) (lo2:=false);refine dc J J (Ew J J (M:=[_,_]) (rest:=[_,_]) (List.Perm.refl _) hrp J ?_);rintro _ css G8 _ _ ⟨q2,rfl,hp2,rfl⟩;show St C _ _ [⟨rb,[.slice xa ns.length xc, .slice (some ⟨sb,0,none⟩) ns.length ns.length, .int .i64 (k+1+tx.size+ty.size:Nat), .bool false],188,false⟩,⟨sb,sK ns.length (k+1+tx.size+ty.size),4,false⟩,⟨b6,[.int .i64 n1, .int .i64 d1, .pointer p1, .int .i64 n2, .int .i64 d2, .pointer p2, .int .i64 n3, .int .i64 d3, .pointer p3],258,true⟩,⟨b5,[.bool (decide (l.a<0)), .slice x1.a x1.n x1.c, .bool (decide (l.b<0)), .slice x2.a x2.n x2.c, .bool (decide (l.c<0)), .slice x3.a x3.n x3.c, .int .i64 (tx.num (k+1)), .int .i64 (ty.num (k+1+tx.size))],166,true⟩] _ _;refine Am<|?_;refine dc J J (zC J J (PF.fn0 (WZ (l:=l) (x:=tx) (y:=ty)) (.cons (hwl.up GL.le) (.cons (hp1.up GL.le) (.cons hp2 .nil)))) J ?_);rintro _ G9 _ hp;obtain⟨p,rfl⟩:=Jg hp
  refine Am<|dA J J J<|dn<|vG<|?_;exact zn (css:=[_,_]) (.tmp J .nil) J _ (List.Perm.refl _) (.cons_cons _ (.cons_cons _ (lN _))) ⟨p,J,hp,J⟩
def ZY{t:Tr}(hb:t.all LB)(ho:t.all ab.ok)(hs:t.size<=65536):PF GB prog 56 [eA t] (.tp [eU t,vB true]):=by
 intro G vs _ hv;obtain⟨⟨xa,xn,xc⟩,rfl,rfl,hx⟩:=aD7 hv;have hn:=t.wr_len 0;show Fn _ _ [.agg ⟨[.int .i64 (t.num 0), .slice xa (t.wr 0).length xc]⟩] _ _;refine Fn.intro func56 J J ntmps56 J ?_;intro C _ _;refine sR<|?_;refine sc (KW J J ?_);intro b1;refine sa J J<|sa J J<|zE<|mG<|sR<|sf J J<|y4 J J J<|FY J J<|sy (F7 J J) J<|zE<|?_;refine Aj J (fun hc=>absurd hc we) (fun _=>?_);refine zK<|mG<|dr (fun _=>false) [(0,true),(1,true),(2,true),(3,true),(4,true),(5,false),(6,true),(7,false),(8,true)] follows omd<|dF J J J<|?_;refine Fh J J J J<|dF J J J<|Fh J J J J<|dy J (fun _=>vZ J) J J<|?_;refine dc J J (LT J J we we we (by rfl) J ?_);intro b2;rw[dR,aqt];refine Am<|dy J (fun _=>F3 J) J J<|?_;refine dc J J (KW J J ?_);intro b3;refine Am<|dA J J J<|dn<|sR<|sm J J<|sf J J<|y4 J J J<|?_;refine sc (Ew J J (M:=[_,_]) (rest:=[_]) (List.Perm.refl _) (aKr hx we (vq.of (a:=[]) (b:=[]) (k:=0) omc J) we hb ho (G:=G) (rb:=b3) (sb:=b2) (lo:=true) (lo2:=true)) J ?_);rintro _ css G4 _ _ ⟨p,rfl,hp,rfl⟩;show St C _ _ [⟨b3,[.slice xa (t.wr 0).length xc, .slice (some ⟨b2,0,none⟩) (t.wr 0).length (t.wr 0).length, .int .i64 (0+t.size:Nat), .bool false],188,true⟩,⟨b2,sK (t.wr 0).length (0+t.size),4,true⟩,⟨b1,[.int .i64 (t.num 0), .slice xa (t.wr 0).length xc],32,true⟩] _ _;refine sa J J<|zE<|mG<|mG<|dr (fun _=>false) [(0,true),(1,true),(2,true),(3,true),(4,true),(5,true),(6,true),(7,true),(8,true),(9,true),(10,true),(11,true),(12,true),(13,true)] follows omd<|?_
 refine dM J J J<|dy J (fun _=>uI J) J J<|dF J J J<|Fh J J J J<|dM J J J<|?_;refine vy J J J J (fun _=>sH J) J<|vy J J J J (fun _=>uI J) J<|vy J J J J (fun _=>uN J) J<|vy J J J J (fun _=>ue J J) J<|?_;refine vy J J J J (fun _=>uN J) J<|vy J J J J (fun _=>ue J J) J<|vy J J J J (fun _=>vZ J) J<|vy J J J J (fun _=>Rs J J) J<|?_;refine dy J (fun _=>yL J J) J J<|dn<|?_;refine Aj J (fun hc=>absurd hc we) (fun _=>?_);refine zK<|sR<|sm J J<|sa J J<|sa J J<|zE<|vG<|?_;refine zD (.tmp J (.tmp J .nil)) ?_;exact mm.2 ⟨_,J, .cons hp (.cons (bE.2 J) .nil)⟩
def Li{k:Nat}{t:Tr}(h:ju k t):PF GB prog 56 [eA t] (.tp [eU t,vB true]):=ZY h.lb h.ok (by have:=h.s;omega)


def Ka{c:List ab}(hok: ∀l∈c,l.ok):sC c=true↔ ∃p,du c p:=by
 rw[<-C7 hok];unfold sC la
 cases c with
 |nil=>simp
 |cons a b=>
  rw[if_neg omo];simp only[decide_eq_true_eq,aK,List.isEmpty_cons,sW,jY];constructor
  .intro h
   obtain⟨m,hm⟩:=List.exists_mem_of_length_pos (l:=im (a::b)) we;exact⟨m,r8.1 hm⟩
  .rintro ⟨m,hm⟩
   have:=rT (r8.2 hm);omega
def oh:Tr->List ab->List (List ab×Bool)
 | .leaf b,c=>if sC c then [(im c,b)] else []
 | .node l x y,c=>if sC c then oh x (im c++[l])++oh y (im c++[l.rev]) else []
def UA{l m:ab}(hl:l.ok)(hm:m.ok)(h:cF l.dir m.dir=0): ∃k e:Rat,0<k/\ ∀p,m.value p=k*l.value p+e:=by
 obtain⟨h1,h2⟩:=QF.1 h;have z1:=vm hl;have key: ∃k:Rat,0<k/\m.dir.x=k*l.dir.x/\m.dir.y=k*l.dir.y:=by
  unfold aa.cross at h2;rcases lI l.dir with⟨e,k⟩|⟨e,k⟩|⟨e,k⟩
  .rw[e] at h1
   have k2:=mr.1 h1.symm;rcases k with k|⟨k,k'⟩
   .have y2:0<m.dir.y:=by
     rcases k2 with k2|⟨k2,k3⟩
     .exact k2
     .exfalso
      rw[k2] at h2;have:=bg k k3;grind
    refine⟨m.dir.y/l.dir.y,?_,omb,omb⟩;have:0<m.dir.y/l.dir.y:=(gi k).1 (by rw[show m.dir.y/l.dir.y*l.dir.y=m.dir.y by grind];exact y2);exact this
   .rw[k] at h2
    have y2:m.dir.y=0:=by
     rcases bX.1 (show l.dir.x*m.dir.y=0 by grind) with q|q
     .rw[q] at k';exact absurd k' oma
     .exact q
    have x2:0<m.dir.x:=by
     rcases k2 with k2|⟨_,k3⟩
     .rw[y2] at k2;exact absurd k2 oma
     .exact k3
    refine⟨m.dir.x/l.dir.x,(gi k').1 (by rw[show m.dir.x/l.dir.x*l.dir.x=m.dir.x by grind];exact x2),omb,by rw[y2,k];grind⟩
  .rw[e] at h1
   have k2:=qC.1 h1.symm;rcases k with k|⟨k,k'⟩
   .have y2:m.dir.y<0:=by
     rcases k2 with k2|⟨k2,k3⟩
     .exact k2
     .exfalso
      rw[k2] at h2;have:=bg (show 0< -l.dir.y by grind) (show 0< -m.dir.x by grind);grind
    refine⟨m.dir.y/l.dir.y,(gi (show 0< -l.dir.y by grind)).1 (by rw[show m.dir.y/l.dir.y* -l.dir.y= -m.dir.y by grind];grind),omb,omb⟩
   .rw[k] at h2
    have y2:m.dir.y=0:=by
     rcases bX.1 (show l.dir.x*m.dir.y=0 by grind) with q|q
     .rw[q] at k';exact absurd k' oma
     .exact q
    have x2:m.dir.x<0:=by
     rcases k2 with k2|⟨_,k3⟩
     .rw[y2] at k2;exact absurd k2 oma
     .exact k3
    refine⟨m.dir.x/l.dir.x,(gi (show 0< -l.dir.x by grind)).1 (by rw[show m.dir.x/l.dir.x* -l.dir.x= -m.dir.x by grind];grind),omb,by rw[y2,k];grind⟩
  .exact absurd e z1
 obtain⟨k,k0,kx,ky⟩:=key;simp only[ab.dir] at kx ky;refine⟨k,(m.c:Rat)-k*(l.c:Rat),k0,fun p=>?_⟩;rw[iC,iC,kx];have:(m.a:Rat)=k*(l.a:Rat):=by grind
 rw[this];grind
def Re{e:au}(hne: ∃q,bm e q){l m:ab}(hl:l.ok)(hm:m.ok)(pl: ∀p,bm e p->0<l.value p)(pm: ∀p,bm e p->0<m.value p)(tl: ∃p,m6 e p/\l.value p=0)(tm: ∃p,m6 e p/\m.value p=0)(ha:cF l.dir m.dir=0):l=m:=by
 obtain⟨k,c,k0,hk⟩:=UA hl hm ha;obtain⟨p,p1,p2⟩:=tl;obtain⟨q,q1,q2⟩:=tm;have g1:=uR hne pm p1;rw[hk,p2] at g1;have g2:=uR hne pl q1;have g3:=bz (aN k0) g2;rw[hk] at q2;have c0:c=0:=by grind
 have hz: ∀t,m.value (l.at t)=0:=fun t=>by rw[hk,jB hl.ne,c0];grind
 rcases vN hm hl hz with h|h
 .exact h.symm
 .exfalso
  obtain⟨u,hu⟩:=hne;have a:=pl u hu;have b:=pm u hu;rw[h,fg] at b;grind
def AS{c:au}(hc:bw c){s:aI}(hs:s∈c):m6 c (s.l.at s.v.sample)/\s.l.value (s.l.at s.v.sample)=0:=
 ⟨((hc.edge s hs).2 _).1 (qk (hc.edge s hs).1).has,jB (hc.ok s hs).ne _⟩
def dE(c:au):Prop:=(c.map fun s=>s.l.dir).Pairwise cp
def Hb{p:Nat->Bool}{N:Nat}(hm: ∀i j,i<=j->j<N->p j=true->p i=true): ∀(d i j:Nat),j-i<=d->i<=j->j<=N->(∀k,k<i->p k=true)->(∀k,j<=k->k<N->p k=false)->(∀k,k<ic p i j->p k=true)/\ ∀k,ic p i j<=k->k<N->p k=false
 |0,i,j,h,hij,hN,h1,h2=>by
  obtain rfl:i=j:=by omega
  rw[ic,dif_neg we];exact⟨h1,h2⟩
 |d+1,i,j,h,hij,hN,h1,h2=>by
  by_cases q:i<j
  .rw[ic,dif_pos q]
   by_cases r:p ((i+j)/2)=true
   .rw[if_pos r]
    exact Hb hm d _ _ we we hN (fun k hk=>hm k ((i+j)/2) we we r) h2
   .rw[if_neg r]
    refine Hb hm d _ _ we we we h1 fun k hk hkN=>?_
    cases hp:p k with
    |false=>rfl
    |true=>exact absurd (hm _ k hk hkN hp) r
  .obtain rfl:i=j:=by omega
   rw[ic,dif_neg q];exact⟨h1,h2⟩
def OX{ds:List aa}{d:aa}{n:Nat}(h:ds.Pairwise cp)(h1: ∀x∈ds.take n,cp x d)(h2: ∀x∈ds.drop n,cp d x):(ds.take n++d::ds.drop n).Pairwise cp:=by
 have hs:=h;rw[<-jZ n ds,gK] at hs;obtain⟨a,b,c⟩:=hs;rw[gK];refine⟨a,bM.2 ⟨h2,b⟩,fun x hx y hy=>?_⟩;rcases aW.1 hy with rfl|hy
 .exact h1 x hx
 .exact c x hx y hy
def Iz(l:ab): ∀c:au,((eO l c).map fun s=>s.l.dir).Sublist (c.map fun s=>s.l.dir)
 |[]=>List.Sublist.refl _
 |s::c=>by
  rw[eO];split
  .exact(Iz l c).cons_cons _
  .exact(Iz l c).cons _
def Mq{α:Type}{l:List α}{n:Nat}{x:α}(h:x∈l.take n): ∃i,i<n/\l[i]? =some x:=by
 obtain⟨i,hi,e⟩:=mJ.1 h;rw[cR] at hi;exact⟨i,we,by rw[List.getElem_take] at e;rw[aZ we,e]⟩
def Qn{α:Type}{l:List α}{n:Nat}{x:α}(h:x∈l.drop n): ∃i,n<=i/\i<l.length/\l[i]? =some x:=by
 obtain⟨i,hi,e⟩:=mJ.1 h;rw[gN] at hi;exact⟨n+i,we,we,by rw[List.getElem_drop] at e;rw[aZ we,e]⟩
def lj{c:au}{l:ab}(hc:bw c)(hl:l.ok)(ha:dE c)(hb:bG c l=true):dE (b9 c l):=by
 have hg:=(gg hc hl hb).1;unfold b9 at hg⊢
 cases hp:kC c l with
 |none=>exact ha
 |some v=>
  simp only[hp] at hg⊢;have hs:dE (eO l c):=ha.sublist (Iz l c);have nt: ∀s∈eO l c,cF s.l.dir l.dir≠0:=fun s h e=>by
   have m1:s∈k8 (eO l c) l v:=pk.2 (.inr h);have m2:(⟨l,v⟩:aI)∈k8 (eO l c) l v:=pk.2 (.inl J);have ee:=Re hg.ne (hg.ok s m1) hl (fun p hp=>hp s m1) (fun p hp=>hp ⟨l,v⟩ m2) ⟨_,AS hg m1⟩ ⟨_,AS hg m2⟩ e;obtain⟨s0,g1,_,rfl⟩:=tB.1 h;obtain⟨_,q,q1,q2⟩:=Fm hl.ne hp;have h5:=q1 s0 g1;have e5:s0.l=l:=ee;rw[e5] at h5;grind
  generalize eO l c=d at*;have hmo: ∀i j,i<=j->j<d.length->jw d l j=true->jw d l i=true:=fun i j hij hj h=>by
   unfold jw at h⊢;rw[aZ hj] at h;rw[aZ we];simp only[decide_eq_true_eq,nC] at h⊢;by_cases q:i=j
   .subst q;exact h
   .have:=jS.1 hs i j omo omo we
    simp only[lU] at this;exact vY this h
  obtain⟨k1,k2⟩:=Hb hmo d.length 0 d.length we we (bV _) (fun k h=>absurd h we) (fun k h h'=>absurd h' we);unfold k8 dE;generalize ic (jw d l) 0 d.length=n at*;rw[bL,cJ,gR,jQ];refine OX hs (fun x hx=>?_) (fun x hx=>?_)
  .rw[<-gR] at hx
   obtain⟨s,h1,rfl⟩:=aS.1 hx;obtain⟨i,hi,e⟩:=Mq h1;have:=k1 i hi;unfold jw at this;rw[e] at this;simpa[nC] using this
  .rw[<-jQ] at hx
   obtain⟨s,h1,rfl⟩:=aS.1 hx;obtain⟨i,hi,hi2,e⟩:=Qn h1;have:=k2 i hi hi2;unfold jw at this;rw[e] at this;have h3: ¬cp s.l.dir l.dir:=by simpa[nC] using this
   by_cases q:cp l.dir s.l.dir
   .exact q
   .exact absurd (EK h3 q) (nt s (gS h1))
def DG: ∀{t:Tr} {c:au},t.all ab.ok->bw c->dE c-> ∀x∈t.parts c,dE x.2
 | .leaf b,c,_,_,ha,x,h=>by
  rw[Tr.parts,aV] at h;subst h;exact ha
 | .node l u v,c,ht,hc,ha,x,h=>by
  rw[Tr.parts] at h;rcases bJ.1 h with h|h
  .split at h
   .rename_i hb
    exact DG ht.2.1 (gg hc ht.1 hb).1 (lj hc ht.1 ha hb) x h
   .cases h
  .split at h
   .rename_i hb
    exact DG ht.2.2 (gg hc ht.1.rev hb).1 (lj hc ht.1.rev ha hb) x h
   .cases h
def uM(c:List ab):Prop:=(c.map ab.dir).Pairwise cp
def GY{c:List ab}{e:au}(hs: ∀s∈e,s.l∈c){l:ab}(hl:l.ok)(he:(gk l c ai.all).isSome=true): ∃w:ai,w.Pos/\ ∀t,w.ins t->m6 e (l.at t)/\l.value (l.at t)=0/\ ∀m∈c,m≠l->0<m.value (l.at t):=by
 obtain⟨w,hw⟩:=qR.1 he;obtain⟨h1,h2⟩:=BO l c _ w uB hw;refine⟨w,h1,fun t ht=>?_⟩;have h3:=((h2 t).1 ht).2;refine⟨fun s hs'=>?_,jB hl.ne t,h3⟩;by_cases q:s.l=l
 .rw[q,jB hl.ne];exact dX
 .exact aN (h3 _ (hs s hs') q)
def Si{α:Type}{p:α->Bool}: ∀(l:List α),(∀i x,i<(l.takeWhile p).length->l[i]? =some x->p x=true)/\ ∀x,l[(l.takeWhile p).length]? =some x->p x=false
 |[]=>⟨fun i x h _=>by simp at h,fun x h=>by simp at h⟩
 |a::l=>by
  obtain⟨h1,h2⟩:=Si (p:=p) l;rw[oS]
  cases ha:p a with
  |false=>
   refine⟨fun i x h _=>by simp at h,fun x h=>?_⟩;simp at h;rw[<-h];exact ha
  |true=>
   simp only[if_true,bZ];refine⟨fun i x h e=>?_,fun x h=>h2 x omy⟩
   cases i with
   |zero=>simp at e;rw[<-e];exact ha
   |succ i=>exact h1 i x we (by simpa using e)
def YK{out:List ab}{l:ab}(ha:uM out)(ht: ∀m∈out,cF m.dir l.dir=0->m=l):uM (qB out l):=by
 unfold qB;split
 .exact ha
 .rename_i hne
  obtain⟨k1,k2⟩:=Si (p:=fun x:ab=>decide (cF x.dir l.dir<0)) out;have e0:pc out l=(out.takeWhile fun x=>decide (cF x.dir l.dir<0)).length:=J;rw[<-e0] at k1 k2;generalize pc out l=n at*;unfold uM;rw[bL,cJ,gR,jQ];refine OX ha (fun x hx=>?_) (fun x hx=>?_)
  .rw[<-gR] at hx
   obtain⟨m,h1,rfl⟩:=aS.1 hx;obtain⟨i,hi,e⟩:=Mq h1;simpa[nC] using k1 i m hi e
  .rw[<-jQ] at hx
   obtain⟨m,h1,rfl⟩:=aS.1 hx;obtain⟨i,hi,hi2,e⟩:=Qn h1;have hn:n<out.length:=by omega
   have h3: ¬cp (out[n]).dir l.dir:=by simpa[nC] using k2 _ (aZ hn)
   have h4:cp l.dir (out[n]).dir:=by
    by_cases q:cp l.dir (out[n]).dir
    .exact q
    .exact absurd (by rw[aZ hn,ht _ (bN hn) (EK h3 q)]) hne
   by_cases q:i=n
   .subst q
    rw[aZ hn] at e
    cases e
    exact h4
   .have:=jS.1 ha n i omo omo we
    simp only[lU] at this;rw[aZ hi2] at e
    cases e
    exact vY h4 this
def JW{c:List ab}(ht: ∀l∈c,∀m∈c,(gk l c ai.all).isSome=true->(gk m c ai.all).isSome=true->cF m.dir l.dir=0->m=l): ∀{t out:List ab},(∀l∈t,l∈c)->(∀m∈out,m∈c/\(gk m c ai.all).isSome=true)->uM out->uM (pg c t out)
 |[],out,_,_,ha=>ha
 |l::t,out,hc,ho,ha=>by
  have hl:=hc l aQ;rw[pg];by_cases q:(gk l c ai.all).isSome=true
  .rw[if_pos q]
   refine JW ht (fun l h=>hc l (aX _ h)) (fun m hm=>?_) (YK ha fun m hm e=>ht l hl m (ho m hm).1 q (ho m hm).2 e);rcases Hl.1 hm with rfl|h
   .exact⟨hl,q⟩
   .exact ho m h
  .rw[if_neg q]
   exact JW ht (fun l h=>hc l (aX _ h)) ho ha
def Vw{c:List ab}(hok: ∀l∈c,l.ok)(hne: ∃p,du c p):uM (im c):=by
 obtain⟨e,_,hg,hi,hs⟩:=DN hok hne;refine JW (fun l hl m hm el em h=>?_) (fun l h=>h) (fun m h=>by cases h) .nil;obtain⟨w1,p1,k1⟩:=GY (fun s h=>(hs s h).1) (hok l hl) el;obtain⟨w2,p2,k2⟩:=GY (fun s h=>(hs s h).1) (hok m hm) em;obtain⟨a1,a2,_⟩:=k1 _ (qk p1);obtain⟨b1,b2,_⟩:=k2 _ (qk p2);exact Re hg.ne (hok m hm) (hok l hl) (fun p hp=>(hi p).1 hp m hm) (fun p hp=>(hi p).1 hp l hl) ⟨_,b1,b2⟩ ⟨_,a1,a2⟩ h
def OO{v:ai}{t u:Rat}(h:v.ins t)(k:v.has u):v.ins ((t+u)*(1/2)):=by
 obtain⟨lo,hi,nl,nh⟩:=v;unfold ai.ins at*;unfold ai.has at k
 cases nl<;>cases nh<;>simp at* <;>grind
def E8{c d:au}(hc: ∃q,bm c q)(h: ∀p,bm c p↔bm d p){p:aa}(hp:m6 c p):m6 d p:=fun s hs=>uR hc (fun q hq=>(h q).1 hq s hs) hp
def WX{c:List ab}{d:au}(hok: ∀l∈c,l.ok)(hd:bw d)(h: ∀p,bm d p↔du c p)(l:ab):l∈d.map (·.l)↔l∈im c:=by
 have hne: ∃p,du c p:=hd.ne.elim fun q hq=>⟨q,(h q).1 hq⟩;obtain⟨e,_,hg,hi,hs⟩:=DN hok hne;have hde: ∀p,bm d p↔bm e p:=fun p=>by rw[h,hi]
 constructor
 .intro hl
  obtain⟨s,k,rfl⟩:=aS.1 hl;obtain⟨t1,t2⟩:=AS hd k;have t3:=E8 hd.ne hde t1;have: ¬bm e (s.l.at s.v.sample):=fun q=>by
   have:=(hde _).2 q s k;rw[t2] at this;exact absurd this oma
  obtain⟨u,hu,hz⟩: ∃u∈e,u.l.value (s.l.at s.v.sample)=0:=by
   by_cases q: ∃u∈e,u.l.value (s.l.at s.v.sample)=0
   .exact q
   .exfalso
    refine this fun u hu=>?_;have g1:=t3 u hu;have g2:u.l.value (s.l.at s.v.sample)≠0:=fun e=>q ⟨u,hu,e⟩;grind
  have:=L5 hd k (hg.ok u hu) (fun p hp=>(hde p).1 hp u hu) hz;rw[<-this];exact r8.2 (hs u hu)
 .intro hl
  obtain⟨l1,l2⟩:=r8.1 hl;obtain⟨w,p1,k1⟩:=GY (fun s h=>(hs s h).1) (hok l l1) l2;have hed: ∀p,bm e p↔bm d p:=fun p=>(hde p).symm;have hi1:=qk p1;obtain⟨⟨u1,m1,n1⟩,⟨u2,m2,n2⟩⟩:=HA hi1;have g1:=OO hi1 n1;have g2:=OO hi1 n2;obtain⟨c0,c1,_⟩:=k1 _ hi1;have c2:=E8 hg.ne hed c0;have: ¬bm d (l.at w.sample):=fun q=>by
   have:=(h _).1 q l l1;rw[c1] at this;exact absurd this oma
  obtain⟨s,hsd,hz⟩: ∃s∈d,s.l.value (l.at w.sample)=0:=by
   by_cases q: ∃u∈d,u.l.value (l.at w.sample)=0
   .exact q
   .exfalso
    refine this fun u hu=>?_;have g1:=c2 u hu;have g2:u.l.value (l.at w.sample)≠0:=fun e=>q ⟨u,hu,e⟩;grind
  have e1:=E8 hg.ne hed (k1 _ g1).1 s hsd;have e2:=E8 hg.ne hed (k1 _ g2).1 s hsd;rw[jx] at hz e1 e2;have hK:l.cutK s.l=0:=by
   rcases cP (l.cutK s.l) with h|h|h
   .exact h
   .exfalso
    have:=bg (a:=w.sample-u1) (b:=l.cutK s.l) omb h;grind
   .exfalso
    have:=bg (a:=u2-w.sample) (b:= -l.cutK s.l) omb omb;grind
  have hz2: ∀t,s.l.value (l.at t)=0:=fun t=>by rw[jx,hK];rw[hK] at hz;grind
  rcases vN (hd.ok s hsd) (hok l l1) hz2 with q|q
  .rw[<-q];exact eX hsd
  .exfalso
   obtain⟨u,hu⟩:=hd.ne;have a:=hu s hsd;have b:=(h u).1 hu l l1;rw[q,fg] at a;grind
def LA: ∀{l m:List ab},uM l->uM m->(∀x,x∈l↔x∈m)->l=m
 |[],[],_,_,_=>rfl
 |[],b::m,_,_,h=>absurd ((h b).2 aQ) omc
 |a::l,[],_,_,h=>absurd ((h a).1 aQ) omc
 |a::l,b::m,h1,h2,h=>by
  obtain⟨p1,p2⟩:=bM.1 h1;obtain⟨q1,q2⟩:=bM.1 h2;have p1': ∀x∈l,cp a.dir x.dir:=fun x hx=>p1 _ (eX hx);have q1': ∀x∈m,cp b.dir x.dir:=fun x hx=>q1 _ (eX hx);have e:a=b:=by
   rcases aW.1 ((h a).1 aQ) with e|e
   .exact e
   .rcases aW.1 ((h b).2 aQ) with f|f
    .exact f.symm
    .exact(zb (q1' a e) (p1' b f)).elim
  subst e;congr 1;refine LA p2 q2 fun x=>⟨fun hx=>?_,fun hx=>?_⟩
  .rcases aW.1 ((h x).1 (aX _ hx)) with e|e
   .subst e;exact(so _ (p1' _ hx)).elim
   .exact e
  .rcases aW.1 ((h x).2 (aX _ hx)) with e|e
   .subst e;exact(so _ (q1' _ hx)).elim
   .exact e
def KS{c:List ab}{d:au}(hok: ∀l∈c,l.ok)(hd:bw d)(ha:dE d)(h: ∀p,bm d p↔du c p):im c=d.map (·.l):=by
 refine LA (Vw hok (hd.ne.elim fun q hq=>⟨q,(h q).1 hq⟩)) ?_ fun x=>(WX hok hd h x).symm;unfold uM;rw[qK];exact ha
def YE{c:List ab}(h:sC c≠true)(t:Tr):oh t c=[]:=by
 cases t<;>rw[oh,if_neg h]
def I3: ∀{t:Tr} {c:List ab} {d:au},t.all ab.ok->(∀l∈c,l.ok)->bw d->dE d->(∀p,bm d p↔du c p)->oh t c=(t.parts d).map fun x=>(x.2.map (·.l),x.1)
 | .leaf b,c,d,_,hok,hd,ha,h=>by
  have hb:sC c=true:=(Ka hok).2 (hd.ne.elim fun q hq=>⟨q,(h q).1 hq⟩);rw[oh,if_pos hb,Tr.parts,KS hok hd ha h];rfl
 | .node l x y,c,d,ht,hok,hd,ha,h=>by
  have hne: ∃p,du c p:=hd.ne.elim fun q hq=>⟨q,(h q).1 hq⟩;have hb:sC c=true:=(Ka hok).2 hne;have hck: ∀m∈im c,m.ok:=fun m hm=>hok m (r8.1 hm).1;have go: ∀(k:ab) (u:Tr),k.ok->u.all ab.ok->(∀{c:List ab} {d:au},(∀l∈c,l.ok)->bw d->dE d->(∀p,bm d p↔du c p)->oh u c=(u.parts d).map fun x=>(x.2.map (·.l),x.1))->oh u (im c++[k])=(if bG d k then u.parts (b9 d k) else []).map fun x=>(x.2.map (·.l),x.1):=fun k u hk hu ih=>by
   have hok2:=mI hck hk;have hin: ∀p,du (im c++[k]) p↔bm d p/\0<k.value p:=fun p=>by rw[qF,HL hok hne,h]
   by_cases q:bG d k=true
   .rw[if_pos q]
    obtain⟨g1,g2⟩:=gg hd hk q;exact ih hok2 g1 (lj hd hk ha q) fun p=>by rw[g2,hin]
   .rw[if_neg q]
    refine YE (fun e=>q ((fE hd hk).2 ?_)) u;obtain⟨p,hp⟩:=(Ka hok2).1 e;exact⟨p,(hin p).1 hp⟩
  rw[oh,if_pos hb,Tr.parts,bL,go l x ht.1 ht.2.1 (fun a b c d=>I3 ht.2.1 a b c d),go l.rev y ht.1.rev ht.2.2 fun a b c d=>I3 ht.2.2 a b c d]
def dB(c:au):Bool:=!c.isEmpty&&c.all fun s=>!s.v.nl&&!s.v.nh
def aEY{c:au}(hc:bw c){s:aI}(hs:s∈c)(h:s.v.nh=true): ∀u∈c,0<=u.l.nor.dot s.l.dir:=fun u hu=>by
 obtain⟨p1,p2⟩:=hc.edge s hs;have hi:=(qk p1).has;have key: ∀n:Rat,0<=n->0<=u.l.value (s.l.at (s.v.sample+n)):=fun n hn=>((p2 _).1 ⟨hi.1.imp id fun q=>by grind, .inl h⟩) u hu;have h0:=key 0 oma;rw[jx] at h0;by_cases q:0<=u.l.nor.dot s.l.dir
 .exact q
 .exfalso
  have q':0< -(s.l.cutK u.l):=by unfold ab.cutK;grind
  have h1:=key ((s.l.cutC u.l+s.v.sample*s.l.cutK u.l+1)/ -(s.l.cutK u.l)) (by
   have:=(gi (s:=(s.l.cutC u.l+s.v.sample*s.l.cutK u.l+1)/ -(s.l.cutK u.l)) q').1 (by rw[show(s.l.cutC u.l+s.v.sample*s.l.cutK u.l+1)/ -(s.l.cutK u.l)* -(s.l.cutK u.l)=s.l.cutC u.l+s.v.sample*s.l.cutK u.l+1 by grind];grind);grind)
  rw[jx] at h1;have:(s.l.cutC u.l+s.v.sample*s.l.cutK u.l+1)/ -(s.l.cutK u.l)*s.l.cutK u.l= -(s.l.cutC u.l+s.v.sample*s.l.cutK u.l+1):=by grind
  grind
def ZJ{c:au}(hc:bw c){s:aI}(hs:s∈c)(h:s.v.nl=true): ∀u∈c,u.l.nor.dot s.l.dir<=0:=fun u hu=>by
 obtain⟨p1,p2⟩:=hc.edge s hs;have hi:=(qk p1).has;have key: ∀n:Rat,0<=n->0<=u.l.value (s.l.at (s.v.sample-n)):=fun n hn=>((p2 _).1 ⟨.inl h,hi.2.imp id fun q=>by grind⟩) u hu;have h0:=key 0 oma;rw[jx] at h0;by_cases q:u.l.nor.dot s.l.dir<=0
 .exact q
 .exfalso
  have q':0<s.l.cutK u.l:=by unfold ab.cutK;grind
  have h1:=key ((s.l.cutC u.l+s.v.sample*s.l.cutK u.l+1)/s.l.cutK u.l) (by
   have:=(gi (s:=(s.l.cutC u.l+s.v.sample*s.l.cutK u.l+1)/s.l.cutK u.l) q').1 (by rw[show(s.l.cutC u.l+s.v.sample*s.l.cutK u.l+1)/s.l.cutK u.l*s.l.cutK u.l=s.l.cutC u.l+s.v.sample*s.l.cutK u.l+1 by grind];grind);grind)
  rw[jx] at h1;have:(s.l.cutC u.l+s.v.sample*s.l.cutK u.l+1)/s.l.cutK u.l*s.l.cutK u.l=s.l.cutC u.l+s.v.sample*s.l.cutK u.l+1:=by grind
  grind
def tz:ab:=⟨1,0,0⟩
def rx(c:List ab)(i:Nat):List aa:=
 if 0<Int.sign ((c.getD i tz).dir.cross (c.getD ((i+1)%c.length) tz).dir).num then [c9 (c.getD i tz) (c.getD ((i+1)%c.length) tz)] else []
def ge(c:List ab):List aa:=(List.range c.length).flatMap (rx c)
def yF{c:List ab}{i:Nat}{l m:ab}(h1:c[i]? =some l)(h2:c[(i+1)%c.length]? =some m):rx c i=if 0<Int.sign (l.dir.cross m.dir).num then [c9 l m] else []:=by
 unfold rx;rw[aJ,aJ,h1,h2];rfl
def Ia(c:List ab)(k:Nat):(List.range (k+1)).flatMap (rx c)=(List.range k).flatMap (rx c)++rx c k:=by
 rw[pR,mL];simp
def EQ(c:List ab): ∀k,((List.range k).flatMap (rx c)).length<=k
 |0=>bV _
 |k+1=>by
  have:=EQ c k;have h2:(rx c k).length<=1:=by unfold rx;split<;>simp
  rw[Ia,aR];omega
def azT{c:List ab}{p:aa}(h:p∈ge c): ∃l∈c,∃m∈c,p=c9 l m:=by
 obtain⟨i,hi,hp⟩:=dK.1 h;have hi':=dS.1 hi;have e1:=aZ hi';have e2:=aZ (l:=c) (dQ (i+1) (show 0<c.length by omega));rw[yF e1 e2] at hp;split at hp
 .exact⟨_,bN _,_,bN _,aV.1 hp⟩
 .cases hp
def aJi{t:Tr}(ht:t.all ab.ok):((oh t []).filter (·.2)).map (·.1)=(bF t).map fun c=>c.map (·.l):=by
 rw[I3 (d:=[]) ht (fun l h=>by cases h) bw.nil .nil (fun p=>⟨fun _ _ h=>okS,fun _ _ h=>okS⟩)];unfold bF;rw[List.filter_map,qK,qK];rfl
def GH{t:Tr}(ht:t.all ab.ok): ∀c∈bF t,bw c:=fun c hc=>(uC ht bw.nil (n8.1 hc)).1
def Jj{l:ab}: ∀{c:List ab} {v:ai},(gl l c v).2=true->gk l c v=some (gl l c v).1
 |[],v,_=>rfl
 |m::t,v,h=>by
  rw[gl] at h⊢;rw[gk];split
  .rename_i e;rw[if_pos e] at h;exact Jj h
  .rename_i e
   rw[if_neg e] at h;split
   .rename_i k;rw[if_pos k] at h;exact Jj h
   .rename_i k;rw[if_neg k] at h;cases h
def WT{v:ai}(h:v.Pos):v.ins (kr v):=by
 obtain⟨lo,hi,nl,nh⟩:=v;unfold ai.Pos at h;unfold kr ai.ins
 cases nl<;>cases nh<;>simp at* <;>grind
def R2{p v:aa}: ∀{c:List ab} {s:Rat},0<s->0<nO p v c s/\nO p v c s<=s/\ ∀m∈c,0<m.value p->m.nor.dot v<0->nO p v c s<= -(m.value p/m.nor.dot v)/2
 |[],s,h=>⟨h,dX,fun m hm=>by cases hm⟩
 |m::t,s,h=>by
  have hk:m.value (av p v ((1:Int):Rat))-m.value p=m.nor.dot v:=by rw[iw];grind
  have key:0<pB p v m s/\pB p v m s<=s/\(0<m.value p->m.nor.dot v<0->pB p v m s<= -(m.value p/m.nor.dot v)/2):=by
   unfold pB um;simp only[hk,l5,k9,zy];split
   .rename_i e;exact⟨h,dX,fun _ k=>by rw[e] at k;exact absurd k oma⟩
   .split
    .rename_i e;exact⟨h,dX,fun k=>by rw[e] at k;exact absurd k oma⟩
    .split
     .rename_i e
      split
      .exact⟨omb,omb,fun _ _=>dX⟩
      .exact⟨h,dX,fun _ _=>by grind⟩
     .rename_i e
      exact⟨h,dX,fun k1 k2=>absurd (LL k2 k1) e⟩
  obtain⟨a1,a2,a3⟩:=key;obtain⟨b1,b2,b3⟩:=R2 (p:=p) (v:=v) (c:=t) a1;rw[nO];refine⟨b1,omb,fun u hu k1 k2=>?_⟩;rcases aW.1 hu with rfl|hu
  .have:=a3 k1 k2;grind
  .exact b3 u hu k1 k2
def aDK{c:List ab}{p v:aa}(h: ∀m∈c,0<m.value p\/(m.value p=0/\0<m.nor.dot v)):du c (zp c p v):=fun m hm=>by
 obtain⟨s0,_,s2⟩:=R2 (p:=p) (v:=v) (c:=c) (s:=((1:Int):Rat)) oma;unfold zp;generalize nO p v c ((1:Int):Rat)=s at*;rw[iw];rcases h m hm with k|⟨k,k2⟩
 .by_cases q:m.nor.dot v<0
  .have h3:=s2 m hm k q
   have h4:=LL q k;have e:m.value p/m.nor.dot v*m.nor.dot v=m.value p:=by grind
   generalize m.value p/m.nor.dot v=z at*;have h5:=bz (a:= -z/2-s) (b:= -m.nor.dot v) omb omb;grind
  .have:=bz (aN s0) (show 0<=m.nor.dot v by grind)
   grind
 .have:=bg s0 k2
  grind
def azh{m:ab}(h:m.Ne):0<m.nor.dot (eG m.dir):=by
 have:=q9 h;have e:m.nor.dot (eG m.dir)=m.nor.dot m.nor:=by unfold eG ab.dir ab.nor aa.dot;grind
 rw[e];exact this
def aym{c:List ab}(hok: ∀m∈c,m.ok)(hb:la c=true):du c (jo c c):=by
 have key: ∀t:List ab,(∀m∈t,m∈c)->(∃m∈t,(gk m c ai.all).isSome=true)->du c (jo c t):=by
  intro t
  induction t with
  |nil=>rintro _ ⟨m,hm,_⟩;cases hm
  |cons m t ih=>
   intro hs hx;rw[jo];split
   .rename_i e
    obtain⟨h1,h2⟩:=BO m c _ _ uB (Jj e);have h3:=((h2 _).1 (WT h1)).2;have hmo:=(hok m (hs m aQ)).ne;refine aDK fun u hu=>?_;by_cases q:u=m
    .subst q;exact .inr ⟨jB hmo _,azh hmo⟩
    .exact .inl (h3 u hu q)
   .rename_i e
    refine ih (fun u hu=>hs u (aX _ hu)) ?_;obtain⟨u,hu,h⟩:=hx;rcases aW.1 hu with rfl|hu
    .rw[xR] at e;exact absurd h e
    .exact⟨u,hu,h⟩
 unfold la at hb;rw[fU,List.isEmpty_iff,jY] at hb;rcases hb with rfl|⟨m,hm,h⟩
 .exact fun m hm=>by cases hm
 .exact key c (fun _ h=>h) ⟨m,hm,h⟩
def du.seg{c:List ab}{q p:aa}{e:Rat}(hq:du c q)(hp:du c p)(h0:0<=e)(h1:e<=1):du c (aA q p e):=fun m hm=>by
 rw[mz];have a:=hq m hm;have b:=hp m hm;by_cases z:e=0
 .subst z;grind
 .have k1:=bg (show 0<e by grind) b
  have k2:=bz (show 0<=1-e by grind) (aN a);grind
def du.open{c:List ab}{q:aa}(u:aa)(h:du c q): ∃e:Rat,0<e/\ ∀d,0<=d->d<=e->du c (av q u d):=by
 have hd:bm (c.map fun m=>(⟨m,ai.all⟩:aI)) q:=fun s hs=>by
  obtain⟨m,hm,rfl⟩:=aS.1 hs;exact h m hm
 obtain⟨e,he,ho⟩:=hd.open u;exact⟨e,he,fun d d0 d1 m hm=>ho d d0 d1 ⟨m,ai.all⟩ (eX hm)⟩
def wg(l:ab)(t u:Rat):l.at (t+u)=av (l.at t) l.dir u:=by
 rw[<-uT,<-uT];unfold av;simp only[aa.mk.injEq];constructor<;>grind
def IR(l:ab)(a b s:Rat):aA (l.at a) (l.at b) s=l.at (a+s*(b-a)):=by
 rw[<-uT,<-uT,<-uT];unfold aA av;simp only[aa.mk.injEq];constructor<;>grind
def B6{l:ab}(h:l.Ne)(t:Rat):fI l (l.at t)=t:=by
 obtain⟨q,_,hq⟩:=w7 h;have h2:=q9 h;have e0:l.dir.dot l.dir=l.nor.dot l.nor:=by unfold ab.dir ab.nor aa.dot;grind
 have e1:(l.at t).dot l.dir=t*l.dir.dot l.dir:=by
  rw[<-uT,hq];unfold av ab.dir aa.dot;grind
 unfold fI;rw[e1];rw[<-e0] at h2;generalize l.dir.dot l.dir=d at*;have:d≠0:=by grind
 grind
def Cc{l:ab}(h:l.Ne){p:aa}(hp:l.value p=0):l.at (fI l p)=p:=by
 obtain⟨t,rfl⟩:=Cq h hp;rw[B6 h]
def GQ(a:Int){g:Nat}(h:g∣a.natAbs):(g:Int)*zv (decide (a<0)) (a.natAbs/g)=a:=by
 obtain⟨k,hk⟩:=h;by_cases g0:g=0
 .subst g0;simp at hk⊢;omega
 have e:a.natAbs/g=k:=by rw[hk];exact Nat.mul_div_cancel_left k (jM g0)
 rw[e];unfold zv;have hc:((g*k:Nat):Int)=(g:Int)*(k:Int):=by push_cast;rfl
 by_cases n:a<0
 .simp only[n,decide_true,if_true];rw[sS];omega
 .simp only[n,decide_false];show(g:Int)*(k:Int)=a;omega
def aDX{a b c:Int}(h: ¬(a=0/\b=0)): ∃g:Int,0<g/\g*(rE a b c).a=a/\g*(rE a b c).b=b/\g*(rE a b c).c=c:=by
 have hg:0<Nat.gcd (Nat.gcd a.natAbs b.natAbs) c.natAbs:=mV _ (jM fun e=>h ⟨nY.1 (oY e),nY.1 (oJ e)⟩);refine⟨(Nat.gcd (Nat.gcd a.natAbs b.natAbs) c.natAbs:Nat),we,?_,?_,?_⟩
 .exact GQ a (sT (nK _ _) (nK _ _))
 .exact GQ b (sT (nK _ _) (oZ _ _))
 .exact GQ c (oZ _ _)
def Gb{v w:ZP}(h:v≠w): ∃g:Rat,0<g/\(lC v.1 v.2 w.1 w.2).value v.q=0/\(lC v.1 v.2 w.1 w.2).value w.q=0/\w.q=av v.q (lC v.1 v.2 w.1 w.2).dir g:=by
 obtain⟨m,n⟩:=v;obtain⟨p,q⟩:=w;have hne: ¬(qr n q=0/\q7 m p=0):=fun e=>h (by unfold qr q7 at e;rw[Prod.mk.injEq];omega);obtain⟨g,g0,ga,gb,gc⟩:=aDX (c:=w9 m n p q) hne;dsimp only;unfold lC;generalize rE (qr n q) (q7 m p) (w9 m n p q)=l at*;have g0':(0:Rat)<(g:Rat):=by exact_mod_cast g0
 have ra:(g:Rat)*(l.a:Rat)= -((q:Rat)-(n:Rat)):=by rw[<-cS,ga];unfold qr;push_cast;grind
 have rb:(g:Rat)*(l.b:Rat)=(p:Rat)-(m:Rat):=by rw[<-cS,gb];unfold q7;push_cast;grind
 have rc:(g:Rat)*(l.c:Rat)= -(-((q:Rat)-(n:Rat))*(m:Rat)+((p:Rat)-(m:Rat))*(n:Rat)):=by rw[<-cS,gc];unfold w9 qr q7;push_cast;grind
 have z: ∀x:Rat,(g:Rat)*x=0->x=0:=fun x hx=>by
  rcases bX.1 hx with e|e
  .rw[e] at g0';exact absurd g0' oma
  .exact e
 refine⟨g,g0',z _ ?_,z _ ?_,?_⟩
 .rw[iC];unfold ZP.q iP;dsimp only;grind
 .rw[iC];unfold ZP.q iP;dsimp only;grind
 .unfold ZP.q iP av ab.dir;simp only[aa.mk.injEq];constructor<;>grind
def Cx{v w:ZP}(h:v≠w)(ho:(cH v w).l.ok):(cH v w).l.at (cH v w).v.lo=v.q/\(cH v w).l.at (cH v w).v.hi=w.q/\(cH v w).v.lo<(cH v w).v.hi:=by
 obtain⟨g,g0,h1,h2,h3⟩:=Gb h;unfold cH at ho⊢;dsimp only at ho⊢;generalize lC v.1 v.2 w.1 w.2=l at*;have e1:=Cc ho.ne h1;have e2:=Cc ho.ne h2;refine⟨e1,e2,?_⟩;have:fI l w.q=fI l v.q+g:=by
  have e3:=wg l (fI l v.q) g;rw[e1,<-h3] at e3;rw[<-e3,B6 ho.ne]
 rw[this];grind
def y8{r:List ZP}{k:Nat}: ∀{n:Nat},k<n->cH (r.getD k (0,0)) (cj r k)∈oa r n
 |n+1,h=>by
  rw[oa];by_cases e:k=n
  .subst e;exact bW _ (aV.2 J)
  .exact bK _ (y8 we)
def azy{r:List ZP}(hr:bD r){c:List ab}(hc: ∀e∈kh r,∀t,e.v.ins t-> ¬du c (e.l.at t)){q p:aa}(hq:du c q)(hp:du c p):xH r q p:=fun k hk s t s0 s1 t0 t1 he=>by
 have hm:cH (r.getD k (0,0)) (cj r k)∈kh r:=y8 hk;have ho:=((Dl hr).2 _ hm).ok;obtain⟨e1,e2,e3⟩:=Cx (hr.ne k hk) ho;have hno:=hc _ hm;have hx:=hq.seg hp t0 t1;rw[<-he,<-e1,<-e2,IR] at hx;have hv: ∀u,(cH (r.getD k (0,0)) (cj r k)).v.lo<u->u<(cH (r.getD k (0,0)) (cj r k)).v.hi-> ¬du c ((cH (r.getD k (0,0)) (cj r k)).l.at u):=fun u h1 h2=>hno u ⟨.inr h1, .inr h2⟩;generalize cH (r.getD k (0,0)) (cj r k)=e at*;have hb:=IX s0 s1 (dX) (aN e3) (aN e3) (dX);generalize e.v.lo+s*(e.v.hi-e.v.lo)=u at*;obtain⟨d,d0,hd⟩:=hx.open e.l.dir;obtain⟨d',d0',hd'⟩:=hx.open (bP e.l.dir);by_cases h1:e.v.lo<u
 .by_cases h2:u<e.v.hi
  .exact hv u h1 h2 hx
  .have eu:u=e.v.hi:=by grind
   obtain⟨z,z0,z1,z2⟩: ∃z:Rat,0<z/\z<=d'/\z<e.v.hi-e.v.lo:=by
    by_cases k:d'<(e.v.hi-e.v.lo)/2
    .exact⟨d',d0',dX,omb⟩
    .exact⟨(e.v.hi-e.v.lo)/2,omb,omb,omb⟩
   refine hv (u+ -z) omb omb ?_;rw[wg];have:=hd' z (aN z0) z1;have e5:av (e.l.at u) (bP e.l.dir) z=av (e.l.at u) e.l.dir (-z):=by unfold av bP;simp only[aa.mk.injEq];constructor<;>grind
   rw[e5] at this;exact this
 .have eu:u=e.v.lo:=by grind
  obtain⟨z,z0,z1,z2⟩: ∃z:Rat,0<z/\z<=d/\z<e.v.hi-e.v.lo:=by
   by_cases k:d<(e.v.hi-e.v.lo)/2
   .exact⟨d,d0,dX,omb⟩
   .exact⟨(e.v.hi-e.v.lo)/2,omb,omb,omb⟩
  refine hv (u+z) omb omb ?_;rw[wg];exact hd z (aN z0) z1
def aA7{rs:List (List ZP)}{fill:Int}(hr: ∀r∈rs,bD r){c:List ab}(hc: ∀e∈gm rs,∀t,e.v.ins t-> ¬du c (e.l.at t)){q p:aa}(hq:du c q)(hp:du c p):iH rs fill q=iH rs fill p:=by
 have key: ∀(rs:List (List ZP)),(∀r∈rs,bD r)->(∀e∈gm rs,∀t,e.v.ins t-> ¬du c (e.l.at t))-> ∀n:Int,rs.foldl (fun n r=>n+cx r q) n=rs.foldl (fun n r=>n+cx r p) n:=by
  intro rs
  induction rs with
  |nil=>intro _ _ n;rfl
  |cons r t ih=>
   intro hr hc n;rw[jV,jV,<-KB (azy (hr r aQ) (fun e he=>hc e (dK.2 ⟨r,aQ,he⟩)) hq hp)];exact ih (fun r h=>hr r (aX _ h)) (fun e he=>hc e (by obtain⟨r,h1,h2⟩:=dK.1 he;exact dK.2 ⟨r,aX _ h1,h2⟩)) _
 unfold iH;rw[key rs hr hc]
def BB{cuts:List Rat}(h:cuts.Pairwise (· < ·)){i j:Nat}(hij:i<j)(hj:j<cuts.length):cuts.getD i 0<cuts.getD j 0:=by
 rw[aJ,aJ,aZ hj,aZ we];exact jS.1 h i j we hj hij
def Kr{cuts:List Rat}{marks:List Bool}(h:cuts.Pairwise (· < ·)): ∀{k:Nat},∀v∈gz cuts marks (k+1),k<cuts.length->(v.nh=false/\v.hi<=cuts.getD k 0)/\(v.nl=true\/v.lo<cuts.getD k 0)
 |k,v,hv,hk=>by
  have hg:((eE cuts k).nh=false/\(eE cuts k).hi<=cuts.getD k 0)/\((eE cuts k).nl=true\/(eE cuts k).lo<cuts.getD k 0):=by
   unfold eE;dsimp only;refine⟨⟨by simp;omega,by rw[if_pos hk];exact dX⟩,?_⟩;by_cases z:k=0
   .left;simp[z]
   .right;rw[if_neg z];exact BB h we hk
  have hold: ∀v∈gz cuts marks k,(v.nh=false/\v.hi<=cuts.getD k 0)/\(v.nl=true\/v.lo<cuts.getD k 0):=fun v hv=>by
   cases k with
   |zero=>cases hv
   |succ k=>
    have ih:=Kr h v hv we;have:=BB h (Nat.lt_succ_self k) hk;exact⟨⟨ih.1.1,by have:=ih.1.2;grind⟩,ih.2.imp id fun z=>by grind⟩
  rw[gz] at hv;split at hv
  .split at hv
   .split at hv
    .rename_i w hw
     rcases bJ.1 hv with q|q
     .exact hold v ((sX _).subset q)
     .rw[aV] at q;subst q
      exact⟨hg.1,(hold w (oX hw)).2⟩
    .rcases bJ.1 hv with q|q
     .exact hold v q
     .rw[aV] at q;subst q;exact hg
   .rcases bJ.1 hv with q|q
    .exact hold v q
    .rw[aV] at q;subst q;exact hg
  .exact hold v hv
def R7{cuts:List Rat}{marks:List Bool}(h:cuts.Pairwise (· < ·)){x:Rat}{i:Nat}(hm:marks.getD i false=true)(hx:(eE cuts i).ins x): ∀{k:Nat},k<=cuts.length+1->i<k-> ∃v∈gz cuts marks k,v.ins x
 |k+1,hk,hi=>by
  by_cases e:i=k
  .subst e
   rw[gz,if_pos hm];split
   .rename_i h0
    split
    .rename_i w hw
     refine⟨_,bW _ (aV.2 J),?_,hx.2⟩;obtain⟨j,rfl⟩: ∃j,i=j+1:=⟨i-1,we⟩;have:=(Kr h w (oX hw) we).2;have hl:=hx.1;unfold eE at hl;dsimp only at hl;rw[if_neg we,show j+1-1=j by omega] at hl;have hl':cuts.getD j 0<x:=hl.resolve_left omc;exact this.imp id fun z=>by show w.lo<x;grind
    .exact⟨_,bW _ (aV.2 J),hx⟩
   .exact⟨_,bW _ (aV.2 J),hx⟩
  .obtain⟨v,hv,hvx⟩:=R7 h hm hx (k:=k) we we
   rw[gz];split
   .split
    .split
     .rename_i w hw
      by_cases q:v=w
      .subst q
       refine⟨_,bW _ (aV.2 J),hvx.1,?_⟩;show(eE cuts k).nh=true\/x<(eE cuts k).hi;obtain⟨j,rfl⟩: ∃j,k=j+1:=⟨k-1,we⟩;obtain⟨⟨b1,b2⟩,_⟩:=Kr h v hv we;have hh:=hvx.2.resolve_left (by rw[b1];decide);unfold eE;dsimp only;by_cases z:j+1<cuts.length
       .right;rw[if_pos z];have:=BB h (Nat.lt_succ_self j) z;grind
       .left;simp;omega
      .refine⟨v,bK _ ?_,hvx⟩
       obtain⟨l,hl⟩:=List.getLast?_eq_some_iff.1 hw;rw[hl] at hv⊢;rw[List.dropLast_concat];rcases bJ.1 hv with z|z
       .exact z
       .rw[aV] at z;exact absurd z q
     .exact⟨v,bK _ hv,hvx⟩
    .exact⟨v,bK _ hv,hvx⟩
   .exact⟨v,hv,hvx⟩
def Pw: ∀{l:List Rat} {i:Nat},i+1<l.length->(jn l).getD i 0=(l.getD i 0+l.getD (i+1) 0)/2
 |[],_,h=>by simp at h
 |[_],_,h=>by simp at h
 |a::b::t,0,_=>by simp[jn]
 |a::b::t,i+1,h=>by
  have:=Pw (l:=b::t) (i:=i) (by simp at h⊢;omega);rw[jn,jJ,this];simp only[jJ]
def E9: ∀(l:List Rat) (a:Rat),(jn (a::l)).length=l.length
 |[],_=>rfl
 |b::t,a=>by rw[jn,bZ,E9 t b,bZ]
def U1{cuts:List Rat}(h:cuts.Pairwise (· < ·)){i j:Nat}(hi:i<=cuts.length)(hj:j<cuts.length):(cuts.getD j 0<(gt cuts).getD i 0↔j<i)/\cuts.getD j 0≠(gt cuts).getD i 0:=by
 have mono: ∀{a b:Nat},a<=b->b<cuts.length->cuts.getD a 0<=cuts.getD b 0:=fun{a b} hab hb=>by
  by_cases e:a=b
  .subst e;exact dX
  .exact aN (BB h we hb)
 cases cuts with
 |nil=>simp at hj
 |cons a t=>
  have hl:(a::t).length=t.length+1:=J;rw[gt]
  cases i with
  |zero=>
   rw[mS];have:=mono (bS j) hj;rw[mS] at this;constructor
   .constructor
    .intro q;exfalso;grind
    .intro q;omega
   .intro q;grind
  |succ i=>
   rw[jJ];by_cases e:i<t.length
   .have e1:(jn (a::t)++[(a::t).getLast omc+1]).getD i 0=((a::t).getD i 0+(a::t).getD (i+1) 0)/2:=by
     rw[<-Pw we,aJ,aJ,dY (by rw[E9];exact e)]
    rw[e1];have h1:=BB h (Nat.lt_succ_self i) we;by_cases q:j<=i
    .have:=mono q we
     constructor
     .exact⟨fun _=>by omega,fun _=>by grind⟩
     .grind
    .have:=mono (show i+1<=j by omega) hj
     constructor
     .exact⟨fun _=>by exfalso;grind,fun _=>by omega⟩
     .grind
   .have ei:i=t.length:=by omega
    have e1:(jn (a::t)++[(a::t).getLast omc+1]).getD i 0=(a::t).getLast omc+1:=by
     rw[aJ,fL (by rw[E9];omega),E9,ei];simp
    rw[e1];have:=Mb h omc ((a::t).getD j 0) (by rw[aJ,aZ hj];exact bN _);constructor
    .exact⟨fun _=>by omega,fun _=>by grind⟩
    .grind
def RZ(x:Rat): ∀{cuts:List Rat},cuts.Pairwise (· < ·)-> ∃i,i<=cuts.length/\ ∀j,j<cuts.length->(cuts.getD j 0<x↔j<i)
 |[],_=>⟨0,bV _,fun j hj=>by simp at hj⟩
 |a::t,h=>by
  rw[bM] at h;by_cases q:a<x
  .obtain⟨i,h1,h2⟩:=RZ x h.2
   refine⟨i+1,by simp;exact h1,fun j hj=>?_⟩
   cases j with
   |zero=>simp[q]
   |succ j=>rw[jJ,h2 j omQ];omega
  .refine⟨0,bS _,fun j hj=>⟨fun k=>?_,fun k=>by omega⟩⟩
   exfalso
   cases j with
   |zero=>simp at k;grind
   |succ j=>
    rw[jJ] at k;have hj':j<t.length:=by simpa using hj
    have:=h.1 (t.getD j 0) (by rw[aJ,aZ hj'];exact bN _);grind
def Mt{out:List Rat}{s:ai}{y:Rat}:y∈ml out s↔y∈out\/(s.nl=false/\y=s.lo)\/(s.nh=false/\y=s.hi):=by
 unfold ml
 cases e1:s.nl<;>cases e2:s.nh<;>simp[rP]<;>grind
def M6{v:ai}{x:Rat}:gy [v] x=true↔v.ins x:=by
 unfold gy p9 p9 ai.ins;have h1:=Fp x v.lo;have h2:=zy x v.hi;rw[decide_eq_true_eq]
 cases e1:v.nl<;>cases e2:v.nh<;>simp only[if_true,fT,if_false,false_or,true_or,h1,h2,and_true,true_and,show(0:Int)<1 from by decide,show(-1:Int)<0 from by decide]<;>grind
def SA{cuts:List Rat}{v:ai}(hl:v.nl=true\/v.lo∈cuts)(hh:v.nh=true\/v.hi∈cuts){x g:Rat}(ho: ∀u∈cuts,(u<x↔u<g)/\u≠x/\u≠g)(h:v.ins x):v.ins g:=by
 refine⟨?_,?_⟩
 .rcases hl with e|e
  .exact .inl e
  .rcases h.1 with k|k
   .exact .inl k
   .exact .inr ((ho _ e).1.1 k)
 .rcases hh with e|e
  .exact .inl e
  .rcases h.2 with k|k
   .exact .inl k
   .obtain⟨a,b,c⟩:=ho _ e
    right;by_cases q:v.hi<g
    .have:=a.2 q;grind
    .grind
def Od{v w:ai}{t:Rat}(hv:v.ins t)(hw:w.ins t): ∃z∈ke 2 [v] [w],z.ins t:=by
 have hmem: ∀y,y∈iI ([v]++[w])↔((v.nl=false/\y=v.lo)\/(v.nh=false/\y=v.hi))\/(w.nl=false/\y=w.lo)\/(w.nh=false/\y=w.hi):=fun y=>by
  show y∈ml (ml [] v) w↔_;rw[Mt,Mt];simp
 have hasc:=(Jr ([v]++[w])).1;have h0: ∀u∈iI ([v]++[w]),u≠t:=fun u hu e=>by
  subst e;rcases(hmem u).1 hu with(⟨a,b⟩|⟨a,b⟩)|⟨a,b⟩|⟨a,b⟩
  .have:=hv.1.resolve_left (by rw[a];decide);grind
  .have:=hv.2.resolve_left (by rw[a];decide);grind
  .have:=hw.1.resolve_left (by rw[a];decide);grind
  .have:=hw.2.resolve_left (by rw[a];decide);grind
 have l1:v.nl=true\/v.lo∈iI ([v]++[w]):=by
  cases e:v.nl with
  |true=>exact .inl J
  |false=>exact .inr ((hmem _).2 (.inl (.inl ⟨e,J⟩)))
 have l2:v.nh=true\/v.hi∈iI ([v]++[w]):=by
  cases e:v.nh with
  |true=>exact .inl J
  |false=>exact .inr ((hmem _).2 (.inl (.inr ⟨e,J⟩)))
 have l3:w.nl=true\/w.lo∈iI ([v]++[w]):=by
  cases e:w.nl with
  |true=>exact .inl J
  |false=>exact .inr ((hmem _).2 (.inr (.inl ⟨e,J⟩)))
 have l4:w.nh=true\/w.hi∈iI ([v]++[w]):=by
  cases e:w.nh with
  |true=>exact .inl J
  |false=>exact .inr ((hmem _).2 (.inr (.inr ⟨e,J⟩)))
 unfold ke wo;generalize iI ([v]++[w])=cuts at*;obtain⟨i,hi,ho⟩:=RZ t hasc;have hord: ∀u∈cuts,(u<t↔u<(gt cuts).getD i 0)/\u≠t/\u≠(gt cuts).getD i 0:=fun u hu=>by
  obtain⟨j,hj,e⟩:=mJ.1 hu;have e':cuts.getD j 0=u:=by rw[aJ,aZ hj];exact e
  obtain⟨g1,g2⟩:=U1 hasc hi hj;have:=ho j hj;rw[e'] at g1 g2 this;exact⟨this.trans g1.symm,h0 u hu,g2⟩
 have hlen:(gt cuts).length=cuts.length+1:=A';refine R7 hasc (i:=i) ?_ ?_ (by rw[aK,hlen];exact bV _) (by rw[aK,hlen];omega)
 .rw[aJ,cV,aZ we]
  show o9 2 (gy [v] _) (gy [w] _)=true;have e:(gt cuts)[i]' we=(gt cuts).getD i 0:=by rw[aJ,aZ we];rfl
  rw[e,M6.2 (SA l1 l2 hord hv),M6.2 (SA l3 l4 hord hw)];rfl
 .unfold eE ai.ins
  dsimp only;refine⟨?_,?_⟩
  .by_cases z:i=0
   .left;simp[z]
   .right;rw[if_neg z];exact(ho (i-1) we).2 we
  .by_cases z:i=cuts.length
   .left;simp[z]
   .right
    rw[if_pos we];have a:=ho i we;have b:=h0 (cuts.getD i 0) (by rw[aJ,aZ we];exact bN _);have c: ¬cuts.getD i 0<t:=fun k=>by have:=a.1 k;omega
    grind
def Kd{l m:ab}(h:crossI l m=0):l.cutK m=0:=by
 have e:l.cutK m= -(crossI l m:Rat):=by unfold ab.cutK ab.nor ab.dir aa.dot crossI;push_cast;grind
 rw[e,h];rfl
def Zv{k:Rat}{side:Int}(hs:side=1\/side= -1)(h:0<(side:Rat)*k):k.num.sign=side:=by
 rcases hs with rfl|rfl
 .exact(m8 k).2 omb
 .have:k.num.sign<0:=(oB k).2 omb
  have:=tQ k.num;omega
def auO{f:aI}{m:ab}{side:Int}(hs:side=1\/side= -1)(hl:f.l.Ne){t:Rat}(ht:f.v.ins t)(hm:0<(side:Rat)*m.value (f.l.at t)): ∃g∈fG f m side,g.l=f.l/\g.v.ins t:=by
 have hv:=jx f.l m t;have ho: ¬l7 f.l m=true:=fun e=>by
  unfold l7 at e;rw[decide_eq_true_eq,l5] at e;rw[Kd e.1,show f.l.cutC m=m.value f.l.base from J,e.2] at hv;rw[hv] at hm;grind
 unfold fG;rw[if_neg ho];have hh: ∃w,jk f.l m side=[w]/\w.ins t:=by
  unfold jk;by_cases hc:crossI f.l m=0
  .rw[if_pos hc]
   rw[Kd hc,show f.l.cutC m=m.value f.l.base from J] at hv;rw[if_pos (Zv hs (by rw[hv] at hm;grind))];exact⟨_,J,VI t⟩
  .rw[if_neg hc]
   have hp:=Bw hl hc;have hK:f.l.cutK m≠0:=fun e=>by
    have e2:f.l.cutK m= -(crossI f.l m:Rat):=by unfold ab.cutK ab.nor ab.dir aa.dot crossI;push_cast;grind
    rw[e2] at e;have:(crossI f.l m:Rat)=0:=by grind
    exact hc (eM.1 this)
   generalize hx:fI f.l (c9 f.l m)=x at*;have hv2: ∀u,m.value (f.l.at u)=f.l.cutK m*(u-x):=fun u=>by rw[jx,hp];grind
   rw[hv2] at hm;have e1:m.value (f.l.at (x+1))=f.l.cutK m:=by rw[hv2];grind
   rw[e1];generalize f.l.cutK m=K at*;by_cases q:K.num.sign=side
   .rw[if_pos q]
    refine⟨_,J, .inr ?_, .inl J⟩;show x<t;rcases hs with rfl|rfl
    .have:=(m8 K).1 q
     have:=(tF this).1 (show 0<K*(t-x) by grind);grind
    .have:=(oB K).1 we
     have:=(I0 this).1 (show K*(t-x)<0 by grind);grind
   .rw[if_neg q]
    refine⟨_,J, .inl J, .inr ?_⟩;show t<x;have h3:=cP K;rcases hs with rfl|rfl
    .have kn:K<0:=by
      rcases h3 with h|h|h
      .exact absurd h hK
      .exact absurd ((m8 K).2 h) q
      .exact h
     have:=(I0 kn (b:=x-t)).1 omb;grind
    .have kp:0<K:=by
      rcases h3 with h|h|h
      .exact absurd h hK
      .exact h
      .exact absurd (by have:=(oB K).2 h;have:=tQ K.num;omega) q
     have:=(tF kp (b:=x-t)).1 omb;grind
 obtain⟨w,e,hw⟩:=hh;rw[e];obtain⟨z,hz,hzt⟩:=Od ht hw;exact⟨⟨f.l,z⟩,eX hz,J,hzt⟩
def Fx(E:List aI)(c:List ab)(l:List aI):Prop:= ∀e∈E,∀t,e.v.ins t->du c (e.l.at t)-> ∃f∈l,f.l=e.l/\f.v.ins t
def Fx.split{E l:List aI}{c:List ab}(h:Fx E c l)(hE: ∀e∈E,e.l.Ne){m:ab}{side:Int}(hs:side=1\/side= -1){m':ab}(hm': ∀p,m'.value p=(side:Rat)*m.value p):Fx E (c++[m']) (l.flatMap fun g=>fG g m side):=fun e he t ht hin=>by
 obtain⟨h1,h2⟩:=qF.1 hin;obtain⟨f,hf,ef,hft⟩:=h e he t ht h1;rw[hm'] at h2;obtain⟨g,hg,eg,hgt⟩:=auO (f:=f) hs (by rw[ef];exact hE e he) hft (by rw[ef];exact h2);exact⟨g,dK.2 ⟨f,hf,hg⟩,by rw[eg,ef],hgt⟩
def Hj{acc:aa->Bool}{E:List aI}(hE: ∀e∈E,e.l.Ne)(ha: ∀(c:List ab) (q p:aa),(∀e∈E,∀t,e.v.ins t-> ¬du c (e.l.at t))->du c q->du c p->acc q=acc p): ∀{n:Nat} {l:List aI} {c:List ab} {p:aa},(∀f∈l,mP f)->sE n l->(∀m∈c,m.ok)->Fx E c l->du c p->fy (jA acc n l c).lns p->(jA acc n l c).val p=acc p
 |n,[],c,p,_,_,hc,hcov,hp,_=>by
  have e:jA acc n [] c= .leaf (acc (jo c c)):=by cases n<;>rfl
  rw[e,Tr.val];exact ha c _ _ (fun e he t ht hin=>by obtain⟨f,hf,_⟩:=hcov e he t ht hin;cases hf) (aym hc ((C7 hc).2 ⟨p,hp⟩)) hp
 |0,f::t,_,_,_,hf,_,_,_,_=>by
  obtain⟨K,hK,hs⟩:=hf;obtain⟨m,hm,_⟩:=hs f aQ;have:K=[]:=cW we;rw[this] at hm;cases hm
 |n+1,f::t,c,p,hok,hf,hc,hcov,hp,hoff=>by
  have fo:=hok f aQ;have hok': ∀side,∀g∈(f::t).flatMap fun g=>fG g f.l side,mP g:=fun side g hg=>by
   obtain⟨q,hq,hg⟩:=dK.1 hg;exact(Dd (hok q hq) fo.lb g hg).1
  rw[jA] at hoff⊢;by_cases q:0<f.l.value p
  .rw[Tr.val_pos q]
   exact Hj hE ha (hok' 1) (hf.split hok) (mI hc fo.ok) (hcov.split hE (.inl J) fun p=>by grind) (qF.2 ⟨hp,q⟩) hoff.x
  .rw[Tr.val_neg q]
   have:=hoff.l;exact Hj hE ha (hok' (-1)) (hf.split hok) (mI hc fo.ok.rev) (hcov.split hE (.inr J) fun p=>by rw[fg];grind) (qF.2 ⟨hp,by rw[fg];grind⟩) hoff.y
def B8{rs:List (List ZP)}{fill:Int}(hr: ∀r∈rs,bD r){p:aa}(ho:fy (lH rs fill).lns p):(d7 rs fill).val p=iH rs fill p:=by
 obtain⟨h1,h2⟩:=pi hr;have hok:(lH rs fill).all ab.ok:=w4 fun f hf=>(h2 f hf).ok;unfold d7;rw[Tr.val_restrict _ _ _ hok bw.nil (fun s hs=>by cases hs) ho];unfold lH at ho⊢;refine Hj (E:=gm rs) (fun e he=>(h2 e he).ok.ne) (fun c q p hno hq hp=>aA7 hr hno hq hp) h2 ?_ (fun m hm=>by cases hm) (fun e he t ht _=>⟨e,he,J,ht⟩) (fun m hm=>by cases hm) ho;exact⟨(gm rs).map (·.l),by rw[aK];exact bV _,fun f hf=>⟨f.l,eX hf, .inl J⟩⟩
end Go.Sx
end
