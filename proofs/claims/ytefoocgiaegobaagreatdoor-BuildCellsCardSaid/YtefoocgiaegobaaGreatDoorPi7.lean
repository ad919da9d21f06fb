import Derived.Test.YtefoocgiaegobaaGreatDoorPi6
set_option linter.all false
set_option maxRecDepth 100000
section
namespace Go.Sx
open Go Go.Proofs Tryz
section
variable {GB:Gh} {C:aD} {n:Nat} {Q0:Exit->Act->World->Prop} {fr fr':aA} {own own':aG} {cf cf':Cf} {vc:List Prop} {ops:Array Oper} {o:Oper} {K:List Kt} {r:List Oper}
def XP{lk:LK}{bk:BM}{fo:Operand}{args:Array Operand}{tys:Array TypeId}{f:FuncId}{nm d:Nat}{l:List (Option DV)}{ι:Type}{s:Nat}{ty2:TypeId}{rows:ι->List DV}{ty ty0:TypeId}{pos:String}{af:Array Edge}{gd:Option (Nat×Bool)}{cs:List FX}{csd:List DV}{cs':ι->List DV}{lo:Bool}(hne:Nat.beq nm d=false)
  (ha:yH lk fo args=some (f,nm,l))(hb:bk nm=some (.o ty0 cs lo))(hc:kv cs=some csd)(hF: ∀b,Cq GB prog f (gI l b) b ty0 csd s ty2 ι rows cs'):Hy GB C n lk bk ⟨some d, .call ⟨.value fo,args,tys⟩,ty,pos,af,gd⟩ ι (fun _=> .rw d) (fun x=>[(nm,some (.o ty0 ((cs' x).map .d) lo)),(d,some (.b ty2 s (rows x) true))]) [d]:=by
 intro hd tl tb K' s1 s2 hf hk;refine⟨fun ρ G ov a w r Q=>?_⟩;have r1:=r.mono s1 s2;unfold yH at ha;split at ha<;>try (cases ha;done)
 rename_i h1;split at ha<;>cases ha;rename_i h2;obtain⟨y,hy,hy'⟩:=r1.ev h1;rw[(aF (G:=G)).1 hy'] at hy;obtain⟨b,m,rest,h3,h4,h5,h6⟩:=r1.lend hb hc;obtain⟨vs,h7,h8⟩:=BS r1 (b:=b) h2 (fun nm e=>by cases e;exact h3);refine sA (M:=[⟨b,m,ty0,lo⟩]) (rest:=rest) hy h7 h5 (hF b G vs m lo r.gb h8 h4) hd (fun v own1 G' hG hK a' w' rl=>?_) a w Q ⟨r.h,r.sz,cC a,r.df⟩;obtain⟨x,z,m',B,rfl,rfl,hm',⟨vs',k1,k2,k3,k4⟩,hne'⟩:=hK;have e1:relo (e7 [⟨b,m,ty0,lo⟩]) ⟨b,m',ty0,false⟩=⟨b,m',ty0,lo⟩:=by
  have hb:Nat.beq b b=true:=lV b;simp[relo,e7]
 have e2: ∀o∈B.map (relo (e7 [(⟨b,m,ty0,lo⟩:ao)])),o.lo=true:=by
  intro o ho;obtain⟨o',ho',rfl⟩:=bJ.1 ho;have hb:Nat.beq b o'.b=false:=by
   cases h:Nat.beq b o'.b with
   |false=>rfl
   |true=>exact absurd (aU h) (hne' o' ho')
  have hb':(b==o'.b)=false:=by simpa using hne' o' ho'
  simp[relo,e7,hb,hb',hne' o' ho']
 have k1':=k1.relo (e7 [⟨b,m,ty0,lo⟩]);rw[bS,e1] at rl;generalize B.map (relo (e7 [(⟨b,m,ty0,lo⟩:ao)]))=B' at rl e2 k1';have rl':fP C n (Sx.put (co a) (some d) (.slice z.a z.n z.c)) (⟨b,m',ty0,lo⟩::(B'++rest)) G' a' w':=rl;have hnn:nm≠d:=fun e=>by subst e;rw[lV] at hne;cases hne
 have r2:=r.upB (G':=G') (ov':=⟨b,m',ty0,lo⟩::(B'++rest)) (w':=w') (B':= .o ty0 ((cs' x).map .d) lo) (os:=[⟨b,m',ty0,lo⟩]) hG.le rl'.h ⟨b,m',h3,J,ry hm'⟩ (fun o ho=>by rw[aW.1 ho];exact aQ)
  (fun o ho hne=>aZ _ (bM _ (h6 o ho fun e=>hne (by rw[h3,e])))) ⟨_,s2 _ _ hb⟩
 have hf2:jn [d] (some d) tl (Sx.upB tb [(nm,some (.o ty0 ((cs' x).map .d) lo))]):=fun q hq=>by
  obtain⟨f1,f2⟩:=hf q hq;refine⟨f1,fun k B e1 e=>?_⟩;simp only[Sx.upB] at e;split at e
  ·cases e
   rintro ⟨g,hg,hg'⟩;obtain⟨u,_,rfl⟩:=bJ.1 hg
   cases hg'
  ·exact f2 k B e1 e
 have hdis: ∀o∈B',∀o'∈(⟨b,m',ty0,lo⟩::rest:List ao),o.b≠o'.b:=by
  intro o ho o' ho';have hp:(⟨b,m',ty0,lo⟩::(B'++rest)).Perm (B'++(⟨b,m',ty0,lo⟩::rest)):=List.perm_middle.symm;have:=(fM.1 (rl'.h.perm hp).nd).2.2;exact this o ho o' ho'
 have r3:=r2.new' (x:=z) (B':= .b ty2 s (rows x) true) (os:=B') (ov':=⟨b,m',ty0,lo⟩::(B'++rest)) (f:= .rw d) (y:= .slice z.a z.n z.c) hf2 (bz.refl _) rl'.h ⟨vs',by simpa using k1',k2,k3,fun _=>e2⟩ (fun o ho=>aZ _ (bK _ ho))
  (fun q B0 hq e o ho hbq=>⟨ho,fun hc=>by
   have hx: ∃o1∈B',o1.b=o.b:=by
    rcases k1' with⟨_,h,_⟩|⟨b0,rest0,lo0,h,hB,_⟩
    ·rw[show z=_ from h] at hc;cases hc
    ·rw[show z=_ from h] at hc;cases hc;exact⟨⟨_,aB vs'++rest0,_,lo0⟩,by rw[hB];exact aQ,J⟩
   obtain⟨o1,ho1,he1⟩:=hx;by_cases hqn:q=nm
   ·subst hqn;rw[h3] at hbq;cases hbq;exact hdis o1 ho1 _ aQ he1
   ·simp only[Sx.upB,hqn,if_false] at e
    obtain⟨os,g1,g2⟩:=r.bx q B0 e;obtain⟨o2,ho2,he2⟩:=g1.mem_of hbq;have hne2:o2.b≠b:=fun e'=>r.dj nm q _ _ (s2 _ _ hb) e (Ne.symm hqn) b h3 (by rw[hbq,<-e',he2]);exact hdis o1 ho1 o2 (aZ _ (h6 o2 (g2 o2 ho2) hne2)) (by rw[he1,he2])⟩) (by simp[bP]) (i6 rl')
 exact(hk x).run _ G' _ a' w' r3
def Ou(fr:aA)(cf:Cf):Option Nat:=match cd fr cf with
 |some o=>o.dst
 |none=>none
def Sl[fu:Fu]{f:FuncId}{nm d:Nat}{l:List (Option DV)}{ty:TypeId}{cs:List DV}{ι:Type}{s:Nat}{ty2:TypeId}{rows cs':ι->List DV}{lo:Bool}{vc:ι->List Prop}{fr':ι->aA}{own':ι->aG}{cf':ι->Cf}(ha:A' fr own cf=some ⟨f,nm,l,ty,cs,lo⟩)(hd:Ou fr cf=some d)(hF: ∀b,Cq GB prog f (gI l b) b ty cs s ty2 ι rows cs')
  (hgo: ∀x,(tF (cs' x) fun csx=>Dt n fu.n fr own cf (.rw d) [(nm,some (.o ty csx lo)),(d,some (.b ty2 s (rows x) true))])=⟨vc x,fr' x,own' x,cf' x⟩)(k: ∀x,ak prog GB C n Q0 (fr' x) (own' x) (cf' x))(ho:BO n fr own cf [d]=true:=by rfl)(hne:Nat.beq nm d=false:=by rfl)
  (hv: ∀x,ah (vc x):=by intro;first|exact trivial|(simp only[ah];kernel_rfl)|(simp only[ah];omega)|(simp only[ah,aJ,aT,aV];omega)):ak prog GB C n Q0 fr own cf:=by
 unfold A' at ha;unfold Ou at hd;split at ha<;>try (cases ha;done)
 rename_i hh;rw[hh] at hd
 cases hd
 split at ha<;>try (cases ha;done)
 rename_i h1;split at ha<;>try (cases ha;done)
 rename_i h2;split at ha<;>cases ha;rename_i h3;simp only[yq] at hgo;exact OQ hh ho (XP hne h1 h2 h3 hF) hgo hv k
def Ib(C:aD)(b:Nat)(ty:TypeId)(s:Nat)(ty2:TypeId)(ι:Type)(rows cs':ι->List DV):Ending->World->Prop:=qq C (fun v own' G'=> ∃x w m' B,v= .slice w.a w.n w.c/\own'=⟨b,m',ty,false⟩::B/\IsLs G' (cs' x) m'/\de G' ⟨w,s,ty2,rows x,true⟩ B/\ ∀o∈B,b≠o.b)
def R9[fu:Fu]{b:Nat}{f:FuncId}{fb:Func}{c:Code}{k:Nat}{l:List (Option DV)}{cs:List DV}{ι:Type}{s:Nat}{ty2:TypeId}{rows cs':ι->List DV}{ty:TypeId}(hf:prog.funcs[f]? =some fb)(hb:fb.body=some c)(hn:(fb.name== "runtime.NumGoroutine")=false)(hm:fb.ntmps=k)(hlen:Nat.ble l.length k=true)
  (hgo:(tF cs fun csx=>go tt k fu.n [] (vk 0 l) [(NM,some (.o ty csx false))] (.code c []))=⟨vc,fr,own,cf⟩)(h: ∀C b,C.mb=[b]->ak prog GB C k (fp C prog fb (Ib C b ty s ty2 ι rows cs')) fr own cf)
  (hv:ah vc:=by first|exact trivial|(simp only[ah];kernel_rfl)|(simp only[ah];omega)|(simp only[ah,aJ,aT,aV];omega)):Cq GB prog f (gI l b) b ty cs s ty2 ι rows cs':=by
 intro G vs m lo hg hvs hm';refine iA.introR hf hb hn hm (by rw[hvs.len,DB];exact hlen) fun C _ hmb hrd hfx=>?_;intro a w rl;refine uY hrd ?_;rw[yq] at hgo;have h1:=fB (GB:=GB) (C:=C) (Q0:=fp C prog fb (Ib C b ty s ty2 ι rows cs')) hgo hv (h C b (by simpa using hmb));refine h1.run (fun _=>⟨some ⟨b,0,none⟩,0,0⟩) G [⟨b,m,ty,false⟩] a w ⟨hg,rl.h,rl.sz,rl.df,fun k f e=>?_,fun nm B e=>?_,fun nm nm' B B' e e' hne=>?_,fun nm p _ _ e=>by rw[hfx] at e;cases e⟩
 ·obtain⟨y,⟨j,hj,hy⟩,h2⟩:=DH (ρ:=fun _=>⟨some ⟨b,0,none⟩,0,0⟩) (b:=b) rfl 0 hvs k f e
  refine⟨y,rl.fr k y ?_,h2⟩;rw[hj];exact uU vs 0 j y hy
 ·rw[i7] at e
  split at e
  ·cases e;exact⟨[⟨b,m,ty,false⟩],⟨b,m,J,J,ry hm'⟩,fun o ho=>ho⟩
  ·cases e
 ·rw[i7] at e e'
  split at e<;>split at e'
  ·rename_i h2 h3;exact absurd (h2.trans h3.symm) hne
  ·cases e'
  ·cases e
  ·cases e
def Yp{fb:Func}{b t d s:Nat}{ty ty2:TypeId}{ι:Type}{rows cs':ι->List DV}{cs1 rws:List DV}(x:ι)(hmb:C.mb=[b])(hr:fb.results.toList=[.tmp t])(hl:bc fr t=some (.rw d))(hw:bh own d=some (.b ty2 s rws true))(ho:Dz own NM=some (ty,cs1))(er:rws=rows x)(ec:cs1=cs' x)(hne:Nat.beq NM d=false:=by rfl):
  ak prog GB C n (fp C prog fb (Ib C b ty s ty2 ι rows cs')) fr own (.ex .ret []):=by
 refine⟨fun ρ G ov a w r=>?_⟩;have hnn:NM≠d:=fun e=>by rw[<-e,lV] at hne;cases hne
 unfold Dz at ho;split at ho<;>try (cases ho;done)
 rename_i hb;split at ho<;>cases ho;rename_i hc;obtain⟨b',m',rest,h3,h4,h5,h6⟩:=r.lend hb hc;have hbb:b'=b:=by
  have:=(r.h.hown _ (h5.mem_iff.2 (bK _ aQ))).2.2.2 J;rw[hmb] at this;simpa using this
 subst hbb er ec;obtain⟨os,g1,g2⟩:=r.bx _ _ hw;have hdis: ∀o∈os,o.b≠b':=fun o ho e=>r.dj NM d _ _ hb hw hnn b' h3 (by rw[g1.blk ho,e]);obtain⟨y,hy,hy'⟩:=r.ev (x:= .tmp t) (f:= .rw d) hl
 cases (show y= .slice (ρ d).a (ρ d).n (ρ d).c from hy')
 refine Ph (C:=C) (n:=n) (fr:=co a) (own:=ov) (G:=G) (vs:=[.slice (ρ d).a (ρ d).n (ρ d).c]) (by rw[hr];exact .tmp hy .nil) (⟨b',m',ty,false⟩::rest) (⟨b',m',ty,false⟩::os) (by simpa using h5) (.cons_cons _ ?_) (fun _=>⟨x,ρ d,m',os,J,J,h4,g1,fun o ho=>(hdis o ho).symm⟩) a w ⟨r.h,r.sz,cC a,r.df⟩;obtain⟨vs,⟨_,_,h⟩|⟨b0,r0,lo0,_,h,_⟩,_⟩:=g1
 ·rw[h];exact jL _
 ·rw[h];exact List.singleton_sublist.2 (h6 _ (g2 _ (by rw[h];exact aQ)) (hdis _ (by rw[h];exact aQ)))
end
section
variable {GB:Gh} {C:aD} {n:Nat} {Q0:Exit->Act->World->Prop} {fr fr':aA} {own own':aG} {cf cf':Cf} {vc:List Prop} {ops:Array Oper} {o:Oper} {K:List Kt} {r:List Oper}
def GP(C:aD)(ty:TypeId)(ι:Type)(cs:ι->List DV):Ending->World->Prop:=qq C (fun v own' G'=> ∃x b m,v= .pointer (some ⟨b,0,none⟩)/\own'=[⟨b,m,ty,true⟩]/\IsLs G' (cs x) m)
def fnN[fu:Fu]{f:FuncId}{fb:Func}{c:Code}{m:Nat}{ds:List DV}{ty:TypeId}{ι:Type}{cs:ι->List DV}(hf:prog.funcs[f]? =some fb)(hb:fb.body=some c)(hn:(fb.name== "runtime.NumGoroutine")=false)(hm:fb.ntmps=m)(hlen:Nat.ble ds.length m=true)
  (hgo:go tt m fu.n [] (qv 0 ds) [] (.code c [])=⟨vc,fr,own,cf⟩)(k: ∀C:aD,C.mb=[]->ak prog GB C m (fp C prog fb (GP C ty ι cs)) fr own cf)
  (hv:ah vc:=by first|exact trivial|(simp only[ah];kernel_rfl)|(simp only[ah];omega)|(simp only[ah,aJ,aT,aV];omega)):PN GB prog f ds ty ι cs:=by
 intro G vs hg hvs;refine iA.introR hf hb hn hm (by rw[hvs.len];exact hlen) fun C _ hmb hrd hfx=>?_;intro a w rl;refine uY hrd ?_;have h:=fB (GB:=GB) (C:=C) (Q0:=fp C prog fb (GP C ty ι cs)) hgo hv (k C (by simpa using hmb));exact h.run (fun _=>⟨none,0,0⟩) G [] a w ⟨hg,rl.h,rl.sz,rl.df,(fun k f e=>wL hvs rl.fr k f e),(fun nm B e=>by cases e),(fun nm nm' B B' e=>by cases e),fun nm p _ _ e=>by rw[hfx] at e;cases e⟩
def UD{fb:Func}{t d:Nat}{ty:TypeId}{ι:Type}{cs:ι->List DV}{cs1:List FX}{l:List DV}(x:ι)(hr:fb.results.toList=[.tmp t])(hl:bc fr t=some (.ov d 0))(hw:bh own d=some (.o ty cs1 true))(hc:kv cs1=some l)(hd:l=cs x):
  ak prog GB C n (fp C prog fb (GP C ty ι cs)) fr own (.ex .ret []):=by
 refine⟨fun ρ G ov a w r=>?_⟩;subst hd;obtain⟨b,m,rest,h3,h4,h5,h6⟩:=r.lend hw hc;obtain⟨y,hy,b',hb',hy'⟩:=r.ev (x:= .tmp t) (f:= .ov d 0) hl;rw[h3] at hb';cases hb';subst hy';exact Ph (C:=C) (n:=n) (fr:=co a) (own:=ov) (G:=G) (vs:=[.pointer (some ⟨b,0,none⟩)]) (by rw[hr];exact .tmp hy .nil) (⟨b,m,ty,true⟩::rest) [⟨b,m,ty,true⟩] (by simpa using h5) (.cons_cons _ (jL _)) (fun _=>⟨x,b,m,J,J,h4⟩) a w ⟨r.h,r.sz,cC a,r.df⟩
def VC[fu:Fu]{d:Nat}{l:List DV}(h:OW fr cf=some (d,l))(hgo:cD tt n fu.n fr own cf (.d (.pt l)) [(d,none)] [d]=⟨vc,fr',own',cf'⟩)(k:ak prog GB C n Q0 fr' own' cf')
  (hv:ah vc:=by first|exact trivial|(simp only[ah];kernel_rfl)|(simp only[ah];omega)|(simp only[ah,aJ,aT,aV];omega)):ak prog GB C n Q0 fr own cf:=by
 unfold OW at h;split at h<;>try (cases h;done)
 rename_i hh;split at h<;>try (cases h;done)
 rename_i g hx;rw[cond_eq_ite] at h;split at h<;>try (cases h;done)
 rename_i hc;simp only[aL] at hc;split at h<;>cases h;rename_i hl;exact us hh (Vz hx hc.1 hc.2 hl) hgo hv k
end
section
variable {GB:Gh} {C:aD} {n:Nat} {Q0:Exit->Act->World->Prop} {fr fr':aA} {own own':aG} {cf cf':Cf} {vc:List Prop} {ops:Array Oper} {o:Oper} {K:List Kt} {r:List Oper}
def ey:List (Option DV)->SV->List DV
 |[],_=>[]
 |some d::t,w=>d::ey t w
 |none::t,w=> .v (.slice w.a w.n w.c)::ey t w
def DO(lk:LK):List Operand->Option (Option Nat×List (Option DV))
 |[]=>some (none,[])
 |x::t=>match aH lk x,DO lk t with
  |some (.rw nm),some (none,l)=>some (some nm,none::l)
  |some f,some (q,l)=>match jq f with
   |some d=>some (q,some d::l)
   |none=>none
  |_,_=>none
def u7(lk:LK)(fo:Operand)(args:Array Operand):Option (FuncId×Nat×List (Option DV)):=match aH lk fo with
 |some (.d (.v (.func (.func f) ⟨[]⟩ ⟨[]⟩)))=>match DO lk args.toList with
  |some (some nm,l)=>some (f,nm,l)
  |_=>none
 |_=>none
def AB{lk:LK}{bk:BM}{ρ:NE}{G:Gh}{ov:List ao}{a:Act}{w:World}(r:bF GB C n lk bk ρ G ov a w){z:SV}: ∀{x:List Operand} {q:Option Nat} {l:List (Option DV)},DO lk x=some (q,l)->(∀nm,q=some nm->ρ nm=z)->
  ∃y,fy (co a) x=some y/\IsLs G (ey l z) y
 |[],q,l,e,_=>by cases e;exact⟨[],J, .nil⟩
 |x::t,q,l,e,hb=>by
  simp only[DO] at e;split at e
  ·rename_i nm l' h1 h2
   cases e
   obtain⟨y,h3,h4⟩:=r.ev h1
   cases (show y=_ from h4)
   obtain⟨ys,h5,h6⟩:=AB r (z:=z) h2 (fun nm e=>by cases e);have hz:=hb nm J;subst hz;exact⟨Value.slice (ρ nm).a (ρ nm).n (ρ nm).c::ys,by simp only[fy,h3,h5], .cons ((aF (G:=G)).2 J) h6⟩
  ·rename_i f q' l' _ h1 h2
   cases hd:jq f with
   |none=>rw[hd] at e;cases e
   |some d=>
   rw[hd] at e;cases e;obtain⟨y,h3,h4⟩:=r.ev h1;obtain⟨ys,h5,h6⟩:=AB r (z:=z) h2 hb;exact⟨y::ys,by simp only[fy,h3,h5], .cons (me h4 hd) h6⟩
  ·cases e
def Vj{lk:LK}{bk:BM}{fo:Operand}{args:Array Operand}{tys:Array TypeId}{f:FuncId}{nm d:Nat}{l:List (Option DV)}{s:Nat}{ty ty0:TypeId}{pos:String}{af:Array Edge}{gd:Option (Nat×Bool)}{dsi dso pre post:List DV}{lo:Bool}(hne:Nat.beq nm d=false)
  (ha:u7 lk fo args=some (f,nm,l))(hb:bk nm=some (.b ty0 s dsi lo))(hF:PB GB prog f (ey l) s ty0 dsi (fun w=> .tp (pre++ .v (.slice w.a w.n w.c)::post)) dso):bH prog GB C n lk bk ⟨some d, .call ⟨.value fo,args,tys⟩,ty,pos,af,gd⟩ (.bx true pre d post) [(nm,none),(d,some (.b ty0 s dso lo))] [d]:=by
 intro hd tl tb K' s1 s2 hf hk;refine⟨fun ρ G ov a w r Q=>?_⟩;have r1:=r.mono s1 s2;unfold u7 at ha;split at ha<;>try (cases ha;done)
 rename_i h1;split at ha<;>cases ha;rename_i h2;obtain⟨y,hy,hy'⟩:=r1.ev h1;rw[(aF (G:=G)).1 hy'] at hy;obtain⟨B,g1,g2⟩:=r1.bx _ _ hb;have hB:de G ⟨ρ nm,s,ty0,dsi,lo⟩ B:=g1;obtain⟨vs,h7,h8⟩:=AB r1 (z:=ρ nm) h2 (fun nm e=>by cases e;rfl);have hp: ∃rest,ov.Perm (B++rest)/\ ∀o∈ov,(∀o'∈B,o.b≠o'.b)->o∈rest:=by
  rcases hB with⟨vs',⟨_,_,e⟩|⟨b0,r0,lo0,_,e,_⟩,_⟩
  ·rw[e];exact⟨ov,List.Perm.refl _,fun o ho _=>ho⟩
  ·rw[e] at g2⊢
   obtain⟨l1,l2,e2⟩:=kL (g2 _ aQ);rw[e2];refine⟨l1++l2,mN,fun o ho hno=>?_⟩;rcases bV.1 ho with ho|ho
   ·exact bK _ ho
   ·rcases aY.1 ho with rfl|ho
    ·exact absurd J (hno _ aQ)
    ·exact bM _ ho
 obtain⟨rest,h5,h6⟩:=hp;refine sA (M:=B) (rest:=rest) hy h7 h5 (hF G (ρ nm) vs B r.gb hB.weak h8) hd (fun v own1 G' hG hK a' w' rl=>?_) a w Q ⟨r.h,r.sz,cC a,r.df⟩;obtain⟨z,hr,vs',k1,k2,k3,k4⟩:=hK;have k1':=k1.relo (e7 B);have e2:lo=true-> ∀o∈own1.map (relo (e7 B)),o.lo=true:=fun hl o ho=>by
  obtain⟨o',_,rfl⟩:=bJ.1 ho;obtain⟨_,_,_,_,hlo⟩:=hB;exact yZ _ (hlo hl)
 generalize own1.map (relo (e7 B))=B' at rl e2 k1';have rl':fP C n (Sx.put (co a) (some d) v) (B'++rest) G' a' w':=rl;have hdis:=(fM.1 rl'.h.nd).2.2;have r2:=r.dropB nm;have hnn:nm≠d:=fun e=>by subst e;rw[lV] at hne;cases hne
 have hf2:jn [d] (some d) tl (Sx.upB tb [(nm,none)]):=fun q hq=>by
  obtain⟨f1,f2⟩:=hf q hq;refine⟨f1,fun k B e1 e=>?_⟩;simp only[Sx.upB] at e;split at e
  ·cases e
  ·exact f2 k B e1 e
 have hsep: ∀q B0,Sx.upB tb [(nm,none)] q=some B0-> ∀o∈ov,(ρ q).a=some ⟨o.b,0,none⟩->o∈rest:=fun q B0 e o ho hbq=>by
  simp only[Sx.upB] at e;split at e
  ·cases e
  ·rename_i hqn
   refine h6 o ho fun o' ho' he=>?_;exact r.dj nm q _ _ (s2 _ _ hb) e (Ne.symm hqn) o'.b (g1.blk ho') (by rw[hbq,he])
 obtain⟨m,rfl,hm⟩:=iF.1 hr;obtain⟨m1,m2',rfl,c1,c2⟩: ∃m1 m2',m=m1++m2'/\IsLs G' pre m1/\IsLs G' (.v (.slice z.a z.n z.c)::post) m2':=IsLs.unapp hm;obtain⟨u,m2,rfl,c3,c4⟩:=aP.1 c2;rw[aF.1 c3] at rl';have r3:=r2.new' (x:=z) (B':= .b ty0 s dso lo) (os:=B') (ov':=B'++rest) (f:= .bx true pre d post) (y:= .tuple ⟨m1++Value.slice z.a z.n z.c::m2⟩) hf2 hG.le rl'.h ⟨vs',by simpa using k1',k2,k3,e2⟩ (fun o ho=>bK _ ho)
  (fun q B0 hq e o ho hbq=>⟨bM _ (hsep q B0 e o ho hbq),fun hc=>by
   have hx: ∃o1∈B',o1.b=o.b:=by
    rcases k1' with⟨_,h,_⟩|⟨b0,rest0,lo0,h,hB,_⟩
    ·rw[show z=_ from h] at hc;cases hc
    ·rw[show z=_ from h] at hc;cases hc;exact⟨⟨_,aB vs'++rest0,_,lo0⟩,by rw[hB];exact aQ,J⟩
   obtain⟨o1,ho1,he1⟩:=hx;exact hdis o1 ho1 o (hsep q B0 e o ho hbq) he1⟩) ⟨m1,m2,by simp,c1,c4⟩ (i6 rl')
 exact hk.run _ G' _ a' w' r3
structure Xq where
 f:FuncId
 nm:Nat
 l:List (Option DV)
 ty:TypeId
 s:Nat
 ds:List DV
 lo:Bool
 d:Nat
def Bg(fr:aA)(own:aG)(cf:Cf):Option Xq:=match cd fr cf with
 |some ⟨some d, .call ⟨.value fo,args,_⟩,_,_,_,_⟩=>match u7 (bD fr cf) fo args with
  |some (f,nm,l)=>match gu fr own cf nm with
   |some (.b ty s ds lo)=>bif Nat.beq nm d then none else some ⟨f,nm,l,ty,s,ds,lo,d⟩
   |_=>none
  |none=>none
 |_=>none
def cb[fu:Fu]{f:FuncId}{nm d:Nat}{l:List (Option DV)}{ty:TypeId}{s:Nat}{dsi dso pre post:List DV}{lo:Bool}(dso':List DV)(ha:Bg fr own cf=some ⟨f,nm,l,ty,s,dsi,lo,d⟩)(hF:PB GB prog f (ey l) s ty dsi (fun w=> .tp (pre++ .v (.slice w.a w.n w.c)::post)) dso)(he:dso=dso')
  (hgo:cD tt n fu.n fr own cf (.bx true pre d post) [(nm,none),(d,some (.b ty s dso' lo))] [d]=⟨vc,fr',own',cf'⟩)(k:ak prog GB C n Q0 fr' own' cf')
  (hv:ah vc:=by first|exact trivial|(simp only[ah];kernel_rfl)|(simp only[ah];omega)|(simp only[ah,aJ,aT,aV];omega)):ak prog GB C n Q0 fr own cf:=by
 subst he;unfold Bg at ha;split at ha<;>try (cases ha;done)
 rename_i hh;split at ha<;>try (cases ha;done)
 rename_i h1;split at ha<;>try (cases ha;done)
 rename_i h2;rw[cond_eq_ite] at ha;split at ha<;>cases ha;rename_i h3;exact us hh (Vj (by cases hq:Nat.beq nm d with|false=>rfl|true=>exact absurd hq h3) h1 h2 hF) hgo hv k
def vY:Nat->List (Option DV)->aA
 |_,[]=>[]
 |i,some v::t=>(i, .d v)::vY (i+1) t
 |i,none::t=>(i, .rw NM)::vY (i+1) t
def Cz(w:SV): ∀l:List (Option DV),(ey l w).length=l.length
 |[]=>rfl
 |some d::t=>by simp[ey,Cz w t]
 |none::t=>by simp[ey,Cz w t]
def BF{w:SV}{ρ:NE}{G:Gh}(hρ:ρ NM=w): ∀{ds:List (Option DV)} {vs:List Value} (i:Nat),IsLs G (ey ds w) vs-> ∀k f,bc (vY i ds) k=some f-> ∃y,(∃j,k=i+j/\vs[j]? =some y)/\bP ρ G f y
 |[],vs,i,h,k,f,e=>by cases e
 |some d::t,vs,i,h,k,f,e=>by
  obtain⟨y,m,rfl,h1,h2⟩:=aP.1 h;simp only[vY] at e;rw[jE] at e;split at e
  ·cases e;rename_i hk;exact⟨y,⟨0,hk,rfl⟩,h1⟩
  ·obtain⟨u,⟨j,hj,hu⟩,h3⟩:=BF hρ (i+1) h2 k f e
   exact⟨u,⟨j+1,by omega,by simpa using hu⟩,h3⟩
 |none::t,vs,i,h,k,f,e=>by
  obtain⟨y,m,rfl,h1,h2⟩:=aP.1 h;simp only[vY] at e;rw[jE] at e;split at e
  ·cases e;rename_i hk;exact⟨y,⟨0,hk,rfl⟩,by show y=_;rw[hρ];exact aF.1 h1⟩
  ·obtain⟨u,⟨j,hj,hu⟩,h3⟩:=BF hρ (i+1) h2 k f e
   exact⟨u,⟨j+1,by omega,by simpa using hu⟩,h3⟩
def Id(C:aD)(s:Nat)(ty:TypeId)(pre post dso:List DV):Ending->World->Prop:=qq C (fun v own' G'=> ∃w',Is G' (.tp (pre++ .v (.slice w'.a w'.n w'.c)::post)) v/\de G' ⟨w',s,ty,dso,false⟩ own')
def E'[fu:Fu]{f:FuncId}{fb:Func}{c:Code}{k s:Nat}{l:List (Option DV)}{dsi dso pre post:List DV}{ty:TypeId}(hf:prog.funcs[f]? =some fb)(hb:fb.body=some c)(hn:(fb.name== "runtime.NumGoroutine")=false)(hm:fb.ntmps=k)(hlen:Nat.ble l.length k=true)
  (hgo:go tt k fu.n [] (vY 0 l) [(NM,some (.b ty s dsi false))] (.code c [])=⟨vc,fr,own,cf⟩)(h: ∀C,ak prog GB C k (fp C prog fb (Id C s ty pre post dso)) fr own cf)
  (hv:ah vc:=by first|exact trivial|(simp only[ah];kernel_rfl)|(simp only[ah];omega)|(simp only[ah,aJ,aT,aV];omega)):PB GB prog f (ey l) s ty dsi (fun w=> .tp (pre++ .v (.slice w.a w.n w.c)::post)) dso:=by
 intro G w vs B hg hB hvs;refine iA.introR hf hb hn hm (by rw[hvs.len,Cz];exact hlen) fun C _ hmb hrd hfx=>?_;intro a wd rl;refine uY hrd ?_;have h1:=fB (GB:=GB) (C:=C) (Q0:=fp C prog fb (Id C s ty pre post dso)) hgo hv (h C);refine h1.run (fun _=>w) G (Sx.asB B) a wd ⟨hg,rl.h,rl.sz,rl.df,fun k f e=>?_,fun nm B' e=>?_,fun nm nm' B' B2 e e' hne=>?_,fun nm p _ _ e=>by rw[hfx] at e;cases e⟩
 ·obtain⟨y,⟨j,hj,hy⟩,h2⟩:=BF (ρ:=fun _=>w) (w:=w) rfl 0 hvs k f e
  refine⟨y,rl.fr k y ?_,h2⟩;rw[hj];exact uU vs 0 j y hy
 ·rw[i7] at e
  split at e
  ·cases e;exact⟨Sx.asB B,hB.asB,fun o ho=>ho⟩
  ·cases e
 ·rw[i7] at e e'
  split at e<;>split at e'
  ·rename_i h2 h3;exact absurd (h2.trans h3.symm) hne
  ·cases e'
  ·cases e
  ·cases e
def Kb{B:List ao}{G:Gh}{w:SV}{s:Nat}{ty:TypeId}{ds:List DV}{lo:Bool}{ov:List ao}(h:de G ⟨w,s,ty,ds,lo⟩ B)(g: ∀o∈B,o∈ov): ∃rest,ov.Perm (B++rest):=by
 rcases h with⟨vs',⟨_,_,e⟩|⟨b0,r0,lo0,_,e,_⟩,_⟩
 ·rw[e];exact⟨ov,List.Perm.refl _⟩
 ·rw[e] at g⊢
  obtain⟨l1,l2,e2⟩:=kL (g _ aQ);rw[e2];exact⟨l1++l2,mN⟩
def Hd{fb:Func}{t u d s:Nat}{ty:TypeId}{ds dso:List DV}{f:FX}{v v':DV}(hr:fb.results.toList=[.tmp t, .tmp u])(hl:bc fr t=some (.rw d))(hu:bc fr u=some f)(hd:jq f=some v)(hw:bh own d=some (.b ty s ds false))(ed:ds=dso)(ev:v=v'):
  ak prog GB C n (fp C prog fb (Id C s ty [] [v'] dso)) fr own (.ex .ret []):=by
 subst ed ev;refine⟨fun ρ G ov a w r=>?_⟩;obtain⟨B,g1,g2⟩:=r.bx _ _ hw;have hB:de G ⟨ρ d,s,ty,ds,false⟩ B:=g1;obtain⟨rest,hp⟩:=Kb hB g2;obtain⟨y,hy,hy'⟩:=r.ev (x:= .tmp t) (f:= .rw d) hl
 cases (show y=_ from hy')
 obtain⟨z,hz,hz'⟩:=r.ev (x:= .tmp u) (f:=f) hu;exact yy (C:=C) (n:=n) (fr:=co a) (own:=ov) (G:=G) (vs:=[.slice (ρ d).a (ρ d).n (ρ d).c,z]) (by rw[hr];exact .tmp hy (.tmp hz .nil)) (B++rest) B hp (qY _ _)
  ⟨ρ d,iF.2 ⟨_,J, .cons (aF.2 J) (.cons (me hz' hd) .nil)⟩,hB⟩ a w ⟨r.h,r.sz,cC a,r.df⟩
def Dx(lk:LK):List Operand->Option (List (Option DV))
 |[]=>some []
 |x::t=>match aH lk x,Dx lk t with
  |some .nl,some l=>some (none::l)
  |some f,some l=>match jq f with
   |some d=>some (some d::l)
   |none=>none
  |_,_=>none
def Fw(lk:LK)(fo:Operand)(args:Array Operand):Option (FuncId×List (Option DV)):=match aH lk fo with
 |some (.d (.v (.func (.func f) ⟨[]⟩ ⟨[]⟩)))=>match Dx lk args.toList with
  |some l=>some (f,l)
  |_=>none
 |_=>none
def HA{lk:LK}{bk:BM}{ρ:NE}{G:Gh}{ov:List ao}{a:Act}{w:World}(r:bF GB C n lk bk ρ G ov a w): ∀{x:List Operand} {l:List (Option DV)},Dx lk x=some l-> ∃y,fy (co a) x=some y/\IsLs G (ey l ⟨none,0,0⟩) y
 |[],l,e=>by cases e;exact⟨[],J, .nil⟩
 |x::t,l,e=>by
  simp only[Dx] at e;split at e
  ·rename_i l' h1 h2
   cases e
   obtain⟨y,h3,h4⟩:=r.ev h1
   cases (show y=_ from h4)
   obtain⟨ys,h5,h6⟩:=HA r h2;exact⟨Value.slice none 0 0::ys,by simp only[fy,h3,h5], .cons ((aF (G:=G)).2 J) h6⟩
  ·rename_i f l' _ h1 h2
   cases hd:jq f with
   |none=>rw[hd] at e;cases e
   |some d=>
   rw[hd] at e;cases e;obtain⟨y,h3,h4⟩:=r.ev h1;obtain⟨ys,h5,h6⟩:=HA r h2;exact⟨y::ys,by simp only[fy,h3,h5], .cons (me h4 hd) h6⟩
  ·cases e
def Zm{lk:LK}{bk:BM}{fo:Operand}{args:Array Operand}{tys:Array TypeId}{f:FuncId}{d:Nat}{l:List (Option DV)}{s:Nat}{ty ty0:TypeId}{pos:String}{af:Array Edge}{gd:Option (Nat×Bool)}{dso pre post:List DV}
  (ha:Fw lk fo args=some (f,l))(hF:PB GB prog f (ey l) s ty0 [] (fun w=> .tp (pre++ .v (.slice w.a w.n w.c)::post)) dso):bH prog GB C n lk bk ⟨some d, .call ⟨.value fo,args,tys⟩,ty,pos,af,gd⟩ (.bx true pre d post) [(d,some (.b ty0 s dso true))] [d]:=by
 intro hd tl tb K' s1 s2 hf hk;refine⟨fun ρ G ov a w r Q=>?_⟩;have r1:=r.mono s1 s2;unfold Fw at ha;split at ha<;>try (cases ha;done)
 rename_i h1;split at ha<;>cases ha;rename_i h2;obtain⟨y,hy,hy'⟩:=r1.ev h1;rw[(aF (G:=G)).1 hy'] at hy;obtain⟨vs,h7,h8⟩:=HA r1 h2;refine sA (M:=[]) (rest:=ov) hy h7 (List.Perm.refl _) (hF G ⟨none,0,0⟩ vs [] r.gb ⟨[], .nil _ _, .nil,by simp,fun h=>by cases h⟩ h8) hd (fun v own1 G' hG hK a' w' rl=>?_) a w Q ⟨r.h,r.sz,cC a,r.df⟩;obtain⟨z,hr,vs',k1,k2,k3,k4⟩:=hK;have k1':=k1.relo (e7 []);have e2: ∀o∈own1.map (relo (e7 [])),o.lo=true:=fun o ho=>by
  obtain⟨o',_,rfl⟩:=bJ.1 ho;rfl
 generalize own1.map (relo (e7 []))=B' at rl e2 k1';have rl':fP C n (Sx.put (co a) (some d) v) (B'++ov) G' a' w':=rl;have hdis:=(fM.1 rl'.h.nd).2.2;obtain⟨m,rfl,hm⟩:=iF.1 hr;obtain⟨m1,m2',rfl,c1,c2⟩: ∃m1 m2',m=m1++m2'/\IsLs G' pre m1/\IsLs G' (.v (.slice z.a z.n z.c)::post) m2':=IsLs.unapp hm;obtain⟨u,m2,rfl,c3,c4⟩:=aP.1 c2;rw[aF.1 c3] at rl';have r3:=r.new (x:=z) (B':= .b ty0 s dso true) (os:=B') (ov':=B'++ov) (f:= .bx true pre d post) (y:= .tuple ⟨m1++Value.slice z.a z.n z.c::m2⟩) hf hG.le rl'.h ⟨vs',by simpa using k1',k2,k3,fun _=>e2⟩ (fun o ho=>bK _ ho) (fun o ho=>bM _ ho)
  (fun o ho hc=>by
   have hx: ∃o1∈B',o1.b=o.b:=by
    rcases k1' with⟨_,h,_⟩|⟨b0,rest0,lo0,h,hB,_⟩
    ·rw[show z=_ from h] at hc;cases hc
    ·rw[show z=_ from h] at hc;cases hc;exact⟨⟨_,aB vs'++rest0,_,lo0⟩,by rw[hB];exact aQ,J⟩
   obtain⟨o1,ho1,he1⟩:=hx;exact hdis o1 ho1 o ho he1) ⟨m1,m2,by simp,c1,c4⟩ (i6 rl')
 exact hk.run _ G' _ a' w' r3
def MU(fr:aA)(cf:Cf):Option (FuncId×List (Option DV)×Nat):=match cd fr cf with
 |some ⟨some d, .call ⟨.value fo,args,_⟩,_,_,_,_⟩=>match Fw (bD fr cf) fo args with
  |some (f,l)=>some (f,l,d)
  |none=>none
 |_=>none
def cbn[fu:Fu]{f:FuncId}{d:Nat}{l:List (Option DV)}{ty:TypeId}{s:Nat}{dso pre post:List DV}(dso':List DV)(ha:MU fr cf=some (f,l,d))(hF:PB GB prog f (ey l) s ty [] (fun w=> .tp (pre++ .v (.slice w.a w.n w.c)::post)) dso)(he:dso=dso')
  (hgo:cD tt n fu.n fr own cf (.bx true pre d post) [(d,some (.b ty s dso' true))] [d]=⟨vc,fr',own',cf'⟩)(k:ak prog GB C n Q0 fr' own' cf')
  (hv:ah vc:=by first|exact trivial|(simp only[ah];kernel_rfl)|(simp only[ah];omega)|(simp only[ah,aJ,aT,aV];omega)):ak prog GB C n Q0 fr own cf:=by
 subst he;unfold MU at ha;split at ha<;>try (cases ha;done)
 rename_i hh;split at ha<;>cases ha;rename_i h1;exact us hh (Zm h1 hF) hgo hv k
end
section
variable {P:Program} {C:aD} {n:Nat} {fr:Fr} {own own':List ao} {G:Gh} {Φ:Act->World->Prop}
variable {dst:Option Nat} {t t' ty':TypeId} {pos:String} {af:Array Edge} {gd:Option (Nat×Bool)} {x y:Operand} {e s by_:Nat}
def Ul[hT:cj P t e s by_]{z:Value}[hz:gj P e z]{k k':IntKind}{l:Int}(hx:aw fr x=some (.int k 0))(hy:aw fr y=some (.int k' l))(h0:0<=l)(hb:by_*l<=2^47)(hl:l<=2^60)(hs:(aE z).length=s)(hd:b9 n dst=true)
  (h: ∀b,St C n (put fr dst (.slice (some ⟨b,0,none⟩) 0 l.toNat)) (⟨b,cO z l.toNat,e,true⟩::own) G Φ):
  Ch P C n fr own G ⟨dst, .makeSlice t x y,ty',pos,af,gd⟩ Φ:=by
 intro a w Q rl;have h1:(Instr.makeSlice t (a.eval x) (a.eval y)).run P w= .ok (.slice (some ⟨w.heap.size,0,none⟩) 0 l.toNat) (w.alloc (.cells ⟨cO z l.toNat⟩ e)):=by
  obtain⟨i,hi,hib⟩:=L8 (P:=P) (t:=t) (e:=e) (s:=s) (by_:=by_) w;rw[bi rl.fr hx,bi rl.fr hy];unfold Instr.makeSlice;rw[ba (hT.u w)];simp only[asInt,asIntOf];rw[ba (a:=0) (w':=w) J,ba (a:=l) (w':=w) J,ba hi,hib];have hw:IntKind.i64.wrap l=l:=sF (by simp[IntKind.min,IntKind.max,IntKind.signed,IntKind.bits];omega);have hw0:IntKind.i64.wrap 0=0:=J;simp only[hw,hw0];have c1: ¬((by_:Int)*l>2^48):=by
   have:(2:Int)^47<=2^48:=by decide
   omega
  have c5:decide ((by_:Int)*l>2^48)=false:=decide_eq_false c1;have c2:decide (l<0)=false:=decide_eq_false (by omega);have c4:decide ((0:Int)>l)=false:=by simp;omega
  simp only[c2,c4,c5,Bool.false_or,Int.lt_irrefl,decide_false,sK,dZ,if_false];have hr: ¬(l.toNat*by_>roomBytes):=by
   unfold roomBytes;have:((l.toNat*by_:Nat):Int)=by_*l:=by rw[jW,qQ h0,Int.mul_comm]
   have h47:((2^47:Nat):Int)=2^47:=by decide
   omega
  unfold askRoom;simp only[hr,if_false];rw[ba (run_pure _ _ _),ba (hT.siz w)];have hn:l.toNat*s=l.toNat*(aE z).length:=by rw[hs]
  by_cases h00:l.toNat*s=0
  ·rw[if_pos h00,ba (run_pure _ _ _)]
   have e0:cO z l.toNat=[]:=bL (by rw[m9,hs];exact h00);rw[h00,e0,show(Array.range 0)= #[] from J,Array.map_empty];rfl
  ·rw[if_neg h00,ba (hz.zero w),nO]
   rw[ba (run_pure _ _ _),Ao hn];rfl
 refine kg (v:= .slice (some ⟨w.heap.size,0,none⟩) 0 l.toNat) (cP h1) (h w.heap.size _ _ ((rl.heap (rl.h.alloc _ _)).put _ hd))
def rE(G:Gh)(ov:List ao):Gh:=fun b=>match G b with
 |some cs=>some cs
 |none=>(ov.find? fun o=>Nat.beq o.b b).map (·.cs)
def Ez{ov:List ao}:bz G (rE G ov):=fun b cs h=>by unfold rE;rw[h]
def J5{o:ao}: ∀{ov:List ao},o∈ov->ov.Pairwise (fun x y=>x.b≠y.b)->ov.find? (fun u=>Nat.beq u.b o.b)=some o
 |u::t,ho,nd=>by
  rcases aY.1 ho with rfl|ho
  ·rw[List.find?_cons_of_pos (by simp)]
  ·have:=(bY.1 nd).1 o ho
   rw[List.find?_cons_of_neg (by simpa using this)];exact J5 ho (bY.1 nd).2
def Yv{ov:List ao}{o:ao}(ho:o∈ov)(hn:G o.b=none)(nd:ov.Pairwise (fun x y=>x.b≠y.b)):rE G ov o.b=some o.cs:=by
 unfold rE;rw[hn,J5 ho nd];rfl
def bp.lendSub{ov:List ao}{w:World}(h:bp C ov G w)(b:Nat)(cs:List Value)(hb:rE G ov b=some cs): ∃ty fz,w.heap[b]? =some (.cells ⟨cs⟩ ty fz):=by
 unfold rE at hb;split at hb
 ·rename_i hg;cases hb;exact h.sub _ _ hg
 ·cases hf:ov.find? (fun o=>Nat.beq o.b b) with
  |none=>rw[hf] at hb;cases hb
  |some o=>
   rw[hf] at hb;cases hb;have e:o.b=b:=aU (by simpa using List.find?_some hf);subst e;exact⟨_,_,(h.hown o (List.mem_of_find?_eq_some hf)).1⟩
def bp.lent{ov:List ao}{G':Gh}{w w':World}(h:bp C ov G w)(k:bp ⟨w,rE G ov,[],[],[],none,fun _=>none⟩ [] G' w'):bp C ov G w':=by
 have same: ∀b o,w.heap[b]? =some o->w'.heap[b]? =some o:=fun b o hb=>by rw[k.keep b (gE hb) (by simp)];exact hb
 have hsz:w.heap.size<=w'.heap.size:=k.size;refine⟨k.os.trans h.os,k.tape.trans h.tape,k.output.trans h.output,cM h.size hsz,fun b hb hm=>?_,fun b cs hb=>?_,h.gle,h.gold,fun o ho=>?_,h.nd,cM h.dr k.dr,fun p hp=>⟨(h.ext p hp).1,same _ _ (h.ext p hp).2⟩⟩
 ·have:=h.size;rw[k.keep b (by show b<w.heap.size;omega) (by simp)];exact h.keep b hb hm
 ·obtain⟨ty,fz,h1⟩:=h.sub b cs hb;exact⟨ty,fz,same _ _ h1⟩
 ·obtain⟨h1,h2⟩:=h.hown o ho;exact⟨same _ _ h1,h2⟩
def Yx{f:FuncId}{fo:Operand}{args:Array Operand}{tys:Array TypeId}{vs:List Value}{K:Value->Gh->Prop}(ho:aw fr fo=some (.func (.func f) #[] #[]))(hv:fy fr args.toList=some vs)
  (hF:Fn P f vs (rE G own) K)(hd:b9 n dst=true)(h: ∀v (G':Gh),K v G'->St C n (put fr dst v) own G Φ):Ch P C n fr own G ⟨dst, .call ⟨.value fo,args,tys⟩,ty',pos,af,gd⟩ Φ:=by
 intro a w Q rl;have h2:=CZ (c1:=[]) (c2:=[]) (P:=P) (dst:=dst) (ty':=ty') (pos:=pos) (af:=af) (gd:=gd) (tys:=tys) (w:=w) hF.able rl.fr ho hv;rw[cV,iK] at h2;simp only[Oper.wp,h2,Oper.upon];refine(hF.run w rl.h.lendSub).mono ?_;rintro e w' ⟨v,G',rfl,hh,hK⟩;exact h v G' hK _ _ ((rl.heap (rl.h.lent hh)).put _ hd)
end
def DV.np:DV->Bool
 | .v _=>true
 | .tp l=>l.all fun d=>match d with
  | .v _=>true
  |_=>false
 |_=>false
def Od{A G:Gh}: ∀{l:List DV} {m:List Value},(l.all fun d=>match d with| .v _=>true|_=>false)=true->IsLs A l m->IsLs G l m
 |[],m,_,k=>cG.2 (cG.1 k)
 |d::t,m,h,k=>by
  obtain⟨y,n,rfl,k1,k2⟩:=aP.1 k;simp only[List.all_cons,aL] at h;refine .cons ?_ (Od h.2 k2)
  cases d with
  |v x=>exact aF.2 (aF.1 k1)
  |_=>simp at h
def Is.np{A G:Gh}{d:DV}{y:Value}(h:d.np=true)(k:Is A d y):Is G d y:=by
 cases d with
 |v x=>exact aF.2 (aF.1 k)
 |tp l=>obtain⟨m,e,k⟩:=iF.1 k;exact iF.2 ⟨m,e,Od h k⟩
 |_=>cases h
section
variable {GB:Gh} {C:aD} {n:Nat} {Q0:Exit->Act->World->Prop} {fr fr':aA} {own own':aG} {cf cf':Cf} {vc:List Prop} {lk:LK} {bk:BM} {ρ:NE} {G:Gh} {ov:List ao} {a:Act} {w:World}
variable {dst:Option Nat} {t t' ty':TypeId} {pos:String} {af:Array Edge} {gd:Option (Nat×Bool)} {x y:Operand} {e s by_:Nat}
def KD:Option Bk->Option (List DV)
 |some (.b _ _ ds _)=>some ds
 |some (.c _ _ ds _)=>some ds
 |_=>none
def Ff(lk:LK)(bk:BM)(x:Operand):Option DV:=match aH lk x with
 |some (.rw nm)=>match KD (bk nm) with
  |some ds=>some (.sl ds)
  |none=>none
 |some f=>jq f
 |none=>none
def B6(lk:LK)(bk:BM):List Operand->Option (List DV)
 |[]=>some []
 |x::t=>match Ff lk bk x,B6 lk bk t with
  |some d,some l=>some (d::l)
  |_,_=>none
def VQ(r:bF GB C n lk bk ρ G ov a w){d:DV}(h:Ff lk bk x=some d): ∃y,aw (co a) x=some y/\Is (rE G ov) d y:=by
 unfold Ff at h;split at h
 ·rename_i nm h1
  obtain⟨y,h2,h3⟩:=r.ev h1
  cases (show y=_ from h3)
  refine⟨_,h2,?_⟩;split at h<;>cases h;rename_i ds hr;obtain⟨ty,s,vs,B,hB,hv,hs,hBo⟩: ∃ty s vs B,ir s ty (ρ nm) vs B/\IsLs G ds vs/\(∀v∈vs,(aE v).length=s)/\ ∀o∈B,o∈ov:=by
   unfold KD at hr;split at hr<;>cases hr
   ·rename_i hb;obtain⟨B,⟨vs,h4,h5,h6,_⟩,h7⟩:=r.bx _ _ hb;exact⟨_,_,vs,B,h4,h5,h6,h7⟩
   ·rename_i hb;obtain⟨B,⟨vs,h4,h5,h6,_⟩,h7⟩:=r.bx _ _ hb;exact⟨_,_,vs,B,h4,h5,h6,h7⟩
  rcases hB with⟨e1,e2,e3⟩|⟨b,rest,lo',e2,e3,h5,h6,h7⟩
  ·subst e1
   have ed:ds=[]:=bL (by rw[<-hv.len];rfl);subst ed;rw[e2];exact ij.2 ⟨0,⟨none,0,0⟩,[],J, .nil _ 0, .nil⟩
  ·subst e3
   have ho:=hBo _ aQ;have hg:=Yv ho (r.h.hown _ ho).2.1 r.h.nd;rw[e2];exact ij.2 ⟨s,⟨some ⟨b,0,none⟩,vs.length,_⟩,vs,J,eB.of_flat hs hg h7,hv.up Ez⟩
 ·rename_i h1
  obtain⟨y,h2,h3⟩:=r.ev h1;exact⟨y,h2,(me h3 h).up Ez⟩
 ·cases h
def Jw(r:bF GB C n lk bk ρ G ov a w): ∀{l:List Operand} {ds:List DV},B6 lk bk l=some ds-> ∃vs,fy (co a) l=some vs/\IsLs (rE G ov) ds vs
 |[],ds,e=>by cases e;exact⟨[],J, .nil⟩
 |x::t,ds,e=>by
  simp only[B6] at e;split at e<;>cases e;rename_i h1 h2;obtain⟨y,h3,h4⟩:=VQ r h1;obtain⟨vs,h5,h6⟩:=Jw r h2;exact⟨y::vs,by simp only[fy,h3,h5], .cons h4 h6⟩
def GJ(lk:LK)(bk:BM)(fo:Operand)(args:Array Operand):Option (FuncId×List DV):=match aH lk fo with
 |some (.d (.v (.func (.func f) ⟨[]⟩ ⟨[]⟩)))=>match B6 lk bk args.toList with
  |some ds=>some (f,ds)
  |none=>none
 |_=>none
def Sf{fo:Operand}{args:Array Operand}{tys:Array TypeId}{f:FuncId}{ds:List DV}{rv:DV}(ha:GJ lk bk fo args=some (f,ds))(hnp:rv.np=true)(hF:PF GB prog f ds rv):bH prog GB C n lk bk ⟨dst, .call ⟨.value fo,args,tys⟩,ty',pos,af,gd⟩ (.d rv) [] []:=by
 intro hd tl tb K' s1 s2 hf hk;refine⟨fun ρ G ov a w r Q=>?_⟩;have r1:=r.mono s1 s2;unfold GJ at ha;split at ha<;>try (cases ha;done)
 rename_i h1;split at ha<;>cases ha;rename_i h2;obtain⟨y,hy,hy'⟩:=r1.ev h1;rw[(aF (G:=G)).1 hy'] at hy;obtain⟨vs,h3,h4⟩:=Jw r1 h2;refine Yx hy h3 (hF _ vs (r.gb.trans Ez) h4) hd (fun v G' hK a' w' rl=>?_) a w Q ⟨r.h,r.sz,cC a,r.df⟩;exact hk.run ρ G ov a' w' ⟨r.gb,rl.h,rl.sz,rl.df,(i6 rl).fx (fun k g _ e=>r.fx k g e) (Is.np hnp hK),r.bx,r.dj,r.fxd⟩
def MT(fr:aA)(own:aG)(cf:Cf):Option (FuncId×List DV):=match cd fr cf with
 |some ⟨_, .call ⟨.value fo,args,_⟩,_,_,_,_⟩=>GJ (bD fr cf) (gu fr own cf) fo args
 |_=>none
def cL[fu:Fu]{f:FuncId}{ds:List DV}{rv:DV}(ha:MT fr own cf=some (f,ds))(hF:PF GB prog f ds rv)(hnp:rv.np=true)(hgo:cD tt n fu.n fr own cf (.d rv) [] []=⟨vc,fr',own',cf'⟩)(k:ak prog GB C n Q0 fr' own' cf')
  (hv:ah vc:=by first|exact trivial|(simp only[ah];kernel_rfl)|(simp only[ah];omega)):ak prog GB C n Q0 fr own cf:=by
 unfold MT at ha;split at ha<;>try (cases ha;done)
 rename_i hh;exact us hh (Sf ha hnp hF) hgo hv k
def aEX{d cap:Nat}{i:TI}{z:DV}{k k':IntKind}[hT:cj prog t e s by_](hi:fi prog e=some i)(hz:nk i=some z)(hs:Nat.beq z.cells.length s=true)(hx:aH lk x=some (.d (.v (.int k 0))))(hy:aH lk y=some (.d (.v (.int k' (cap:Nat)))))(hb:by_*cap<=140737488355328)(hl:cap<=1152921504606846976):
  bH prog GB C n lk bk ⟨some d, .makeSlice t x y,ty',pos,af,gd⟩ (.rw d) [(d,some (.c e s [] cap))] [d]:=by
 intro hd tl tb K s1 s2 hf hk;refine⟨fun ρ G ov a w r Q=>?_⟩;obtain⟨v,hz1,hz2,hz3⟩:=wq hi hz;obtain⟨q1,p1,p2⟩:=(r.mono s1 s2).ev hx;obtain⟨q2,p3,p4⟩:=(r.mono s1 s2).ev hy;rw[dm] at p2 p4;subst p2 p4;have c1:=((hz2 G).cells hz3).1.len;replace hs:=aU hs;refine Ul p1 p3 (by omega) (by have:((by_*cap:Nat):Int)=by_*cap:=jW ..;omega) (by omega) (by rw[c1,hs]) hd (fun b a' w' rl=>?_) a w Q ⟨r.h,r.sz,cC a,r.df⟩;rw[bQ] at rl;have hnd:=(bY.1 rl.h.nd).1;refine hk.run _ _ _ a' w' (r.new' (x:=⟨some ⟨b,0,none⟩,0,cap⟩) (B':= .c e s [] cap) (os:=[⟨b,cO v cap,e,true⟩]) (f:= .rw d) (y:= .slice (some ⟨b,0,none⟩) 0 cap) hf (bz.refl _) rl.h ⟨[], .inr ⟨b,cO v cap,true,by simp,J,by simp[aB],?_,by simp⟩, .nil,by simp,fun o ho=>by rw[aW.1 ho],by simp⟩
  (fun o ho=>by rw[aW.1 ho];exact aQ) (fun m B' _ _ o ho _=>⟨aZ _ ho,fun e'=>by cases e';exact hnd o ho J⟩) (by show _=_;simp) (i6 rl))
 rw[m9,c1,hs];simp[aB]
def WN{d nm cap:Nat}{ds ds2:List DV}[hT:cj prog t e s by_][hN:jO prog t'](hx:aH lk x=some (.rw nm))(hb:bk nm=some (.c e s ds cap))(hy:qc lk bk s y=some ds2)(hk2:ew s ds2)(hc:ds.length+ds2.length<=cap)(hp:0<ds2.length)(hnd:Nat.beq nm d=false):
  bH prog GB C n lk bk ⟨some d, .call ⟨.builtin .append, #[x,y], #[t,t']⟩,ty',pos,af,gd⟩ (.rw d) [(nm,none),(d,some (.c e s (ds++ds2) cap))] [d]:=by
 intro hd tl tb K s1 s2 hf hk;refine⟨fun ρ G ov a w r Q=>?_⟩;have r1:=r.mono s1 s2;have hne:nm≠d:=fun e=>by subst e;simp at hnd
 obtain⟨u,hx',hx2⟩:=r1.ev hx
 cases hx2
 obtain⟨B,⟨vs,hB,hv,hvs,hlo,hcap⟩,hBo⟩:=r1.bx _ _ hb;obtain⟨w2,us,hy',h2,h3,h4,h5,h6⟩:=y4 (P:=prog) (C:=C) r1 hy hk2;have hus:(aB us).length=us.length*s:=d7 us h4;have hl1:=hv.len;have hl2:=h3.len;have rd:=r.dropB nm;have hf':jn [d] (some d) tl (Sx.upB tb [(nm,none)]):=fun m hm=>by
  obtain⟨g1,g2⟩:=hf m hm;refine⟨g1,fun k B' hk e=>g2 k B' hk ?_⟩;simp only[Sx.upB] at e;split at e
  ·cases e
  ·exact e
 rcases hB with⟨e1,e2,e3⟩|⟨b,rest,lo',k3,k4,k5,k6,k7⟩
 ·rw[e2] at hcap;simp at hcap;omega
 subst k4;have hl':=hlo _ aQ;simp only at hl';subst hl';have ha:(ρ nm).a=some ⟨b,0,none⟩:=by rw[k3]
 have hn:(ρ nm).n=vs.length:=by rw[k3]
 rw[ha,hn] at hx';rw[h2] at hy' h6;have hin:=hBo _ aQ;obtain⟨l1,l2,e5⟩:=kL hin;have hperm:ov.Perm (⟨b,aB vs++rest,e,true⟩::(l1++l2)):=by rw[e5];exact mN
 have hall: ∀v∈vs++us,(aE v).length=s:=fun v hv=>by
  rcases bV.1 hv with hv|hv
  ·exact hvs v hv
  ·exact h4 v hv
 have hcs:(aB vs++rest).length=(ρ nm).c*s:=by rw[aS];exact k6
 have hroom:vs.length+us.length<=(ρ nm).c:=by omega
 have hmul:(vs.length+us.length)*s<=(ρ nm).c*s:=bT _ hroom;rw[cR] at hmul;have hrest:us.length*s<=rest.length:=by rw[k5] at k6;omega
 have hovw:cB (aB vs++rest) (vs.length*s) (aB us)=aB (vs++us)++rest.drop (us.length*s):=by
  rw[o5 _ _ _ (by rw[hus,aS];omega),mC,<-k5];simp[hus,mM,dK]
 refine KI (P:=prog) (own:=⟨b,aB vs++rest,e,true⟩::(l1++l2)) (m:=us.length) (ys:=aB us) hx' hy' (.hd ..) hcs (fun w hh=>h6 w (hh.perm hperm.symm)) hus h5 hroom hd (fun a' w' rl=>?_) a w Q ⟨r.h.perm hperm,r.sz,cC a,r.df⟩;rw[hovw] at rl;have hnd':=(bY.1 rl.h.nd).1;refine hk.run _ _ _ a' w' (rd.new' (x:=⟨some ⟨b,0,none⟩,vs.length+us.length,(ρ nm).c⟩) (B':= .c e s (ds++ds2) cap) (os:=[⟨b,aB (vs++us)++rest.drop (us.length*s),e,true⟩]) (f:= .rw d) (y:= .slice (some ⟨b,0,none⟩) (vs.length+us.length) (ρ nm).c) hf' (bz.refl _) rl.h
  ⟨vs++us, .inr ⟨b,rest.drop (us.length*s),true,by simp,J,d7 _ hall,?_,by simpa using hroom⟩,hv.app h3,hall,fun o ho=>by rw[aW.1 ho],by simpa using hcap⟩ (fun o ho=>by rw[aW.1 ho];exact aQ)
  (fun m B' hm e' o ho hmo=>?_) (by show _=_;simp) (i6 rl))
 ·rw[d7 _ hall,aS,gL,cR]
  simp only[if_true];rw[k5] at k6;omega
 ·have hmn:m≠nm/\tb m=some B':=by
   simp only[Sx.upB] at e';split at e'
   ·cases e'
   ·exact⟨by assumption,e'⟩
  have hob:o.b≠b:=fun e6=>r.dj m nm B' _ hmn.2 (s2 _ _ hb) hmn.1 b (by rw[hmo,e6]) ha;refine⟨?_,fun e6=>by cases e6;exact hob J⟩;rcases aY.1 (hperm.mem_iff.1 ho) with rfl|ho
  ·exact absurd J hob
  ·exact aZ _ ho
end
section
variable {GB:Gh} {C:aD} {n:Nat} {Q0:Exit->Act->World->Prop} {fr fr':aA} {own own':aG} {cf cf':Cf} {vc:List Prop}
def Su[fu:Fu]{d e s b:Nat}{z:DV}{k':IntKind}(cap:Nat)(h:DU fr cf=some ⟨d,e,s,b,z,0⟩)(hy:(match cd fr cf with|some ⟨_, .makeSlice _ _ y,_,_,_,_⟩=>aH (bD fr cf) y|_=>none)=some (.d (.v (.int k' (cap:Nat)))))
  (hgo:cD tt n fu.n fr own cf (.rw d) [(d,some (.c e s [] cap))] [d]=⟨vc,fr',own',cf'⟩)(k:ak prog GB C n Q0 fr' own' cf')(hb:b*cap<=140737488355328:=by omega)(hl:cap<=1152921504606846976:=by omega)
  (hv:ah vc:=by first|exact trivial|(simp only[ah];kernel_rfl)|(simp only[ah];omega)):ak prog GB C n Q0 fr own cf:=by
 unfold DU at h;split at h<;>try (cases h;done)
 rename_i hh;split at h<;>try (cases h;done)
 rename_i hx;split at h<;>try (cases h;done)
 rename_i hT;split at h<;>try (cases h;done)
 rename_i hi;split at h<;>try (cases h;done)
 rename_i hz;rw[cond_eq_ite] at h;split at h<;>cases h;rename_i hs;rw[hh] at hy;have:=jc (et _ _ hT) J;exact us hh (aEX (et _ _ hi) hz hs hx hy hb hl) hgo hv k
structure aJX where
 d:Nat
 nm:Nat
 e:Nat
 s:Nat
 ds:List DV
 ds2:List DV
 cap:Nat
def M2(fr:aA)(own:aG)(cf:Cf):Option aJX:=match cd fr cf with
 |some ⟨some d, .call ⟨.builtin .append,⟨[x,y]⟩,⟨[t,t']⟩⟩,_,_,_,_⟩=>match dt tt t,dt tt t' with
  |some ⟨.sl e s _,_,_,_⟩,some ⟨.sl _ _ _,_,_,_⟩=>match aH (bD fr cf) x with
   |some (.rw nm)=>match gu fr own cf nm,qc (bD fr cf) (gu fr own cf) s y with
    |some (.c e' s' ds cap),some ds2=>bif (Nat.beq e' e&&Nat.beq s' s)&&!Nat.beq nm d then some ⟨d,nm,e,s,ds,ds2,cap⟩ else none
    |_,_=>none
   |_=>none
  |_,_=>none
 |_=>none
def VV[fu:Fu]{d nm e s cap:Nat}{ds ds2:List DV}(ds':List DV)(h:M2 fr own cf=some ⟨d,nm,e,s,ds,ds2,cap⟩)(hds:ds++ds2=ds')(ho2:ew s ds2)(hc:ds.length+ds2.length<=cap)(hgo:cD tt n fu.n fr own cf (.rw d) [(nm,none),(d,some (.c e s ds' cap))] [d]=⟨vc,fr',own',cf'⟩)(k:ak prog GB C n Q0 fr' own' cf')
  (hp:0<ds2.length:=by simp)(hv:ah vc:=by first|exact trivial|(simp only[ah];kernel_rfl)|(simp only[ah];omega)):ak prog GB C n Q0 fr own cf:=by
 subst hds;unfold M2 at h;split at h<;>try (cases h;done)
 rename_i hh;split at h<;>try (cases h;done)
 rename_i hT hT';split at h<;>try (cases h;done)
 rename_i hx;split at h<;>try (cases h;done)
 rename_i hb hy;rw[cond_eq_ite] at h;split at h<;>cases h;rename_i h2;simp only[aL,iJ] at h2
 cases aU h2.1.1
 cases aU h2.1.2
 have:=jc (et _ _ hT) J;have hN:jO prog _:=⟨_,(jc (et _ _ hT') J).un⟩;exact us hh (WN hx hb hy ho2 hc hp h2.2) hgo hv k
def PI(GB:Gh)(P:Program)(f:FuncId)(i:Int)(s:Nat)(ty ty2:TypeId)(ds:List DV)(x:DV)(cap:Nat)(dso:List DV):Prop:=
 ∀G w w2 B B2,bz GB G->de G ⟨w,s,ty,ds,false⟩ B->cap<=w.c->de G ⟨w2,s,ty2,[x],false⟩ B2->iA P f [.slice w.a w.n w.c, .int .i64 i, .slice w2.a w2.n w2.c] (B++B2) G fun v own' G'=> ∃w',v= .slice w'.a w'.n w'.c/\de G' ⟨w',s,ty,dso,false⟩ own'
structure CiA where
 f:FuncId
 nm:Nat
 nm2:Nat
 i:Int
 ty:TypeId
 ty2:TypeId
 s:Nat
 ds:List DV
 x:DV
 cap:Nat
 d:Nat
def Jb(fr:aA)(own:aG)(cf:Cf):Option CiA:=match cd fr cf with
 |some ⟨some d, .call ⟨.value fo,⟨[x1,x2,x3]⟩,_⟩,_,_,_,_⟩=>match aH (bD fr cf) fo,aH (bD fr cf) x1 with
  |some (.d (.v (.func (.func f) ⟨[]⟩ ⟨[]⟩))),some (.rw nm)=>match aH (bD fr cf) x2,aH (bD fr cf) x3 with
   |some (.d (.v (.int .i64 i))),some (.rw nm2)=>match gu fr own cf nm,gu fr own cf nm2 with
    |some (.c ty s ds cap),some (.b ty2 s2 [x] true)=>bif (!Nat.beq nm d&&!Nat.beq nm2 d)&&(!Nat.beq nm nm2&&(Nat.beq s2 s&&Nat.blt 0 cap)) then some ⟨f,nm,nm2,i,ty,ty2,s,ds,x,cap,d⟩ else none
    |_,_=>none
   |_,_=>none
  |_,_=>none
 |_=>none
def axB{lk:LK}{bk:BM}{fo x1 x2 x3:Operand}{tys:Array TypeId}{f:FuncId}{nm nm2 d cap s:Nat}{i:Int}{ty0 ty2:TypeId}{ty:TypeId}{pos:String}{af:Array Edge}{gd:Option (Nat×Bool)}{ds dso:List DV}{x:DV}(hne:Nat.beq nm d=false)(hne2:Nat.beq nm2 d=false)(hn2:Nat.beq nm nm2=false)(hcp:0<cap)
  (h0:aH lk fo=some (.d (.v (.func (.func f) ⟨[]⟩ ⟨[]⟩))))(h1:aH lk x1=some (.rw nm))(h2:aH lk x2=some (.d (.v (.int .i64 i))))(h3:aH lk x3=some (.rw nm2))(hb:bk nm=some (.c ty0 s ds cap))(hb2:bk nm2=some (.b ty2 s [x] true))(hF:PI GB prog f i s ty0 ty2 ds x cap dso):
  bH prog GB C n lk bk ⟨some d, .call ⟨.value fo,⟨[x1,x2,x3]⟩,tys⟩,ty,pos,af,gd⟩ (.rw d) [(nm,none),(nm2,none),(d,some (.b ty0 s dso true))] [d]:=by
 intro hd tl tb K' s1 s2 hf hk;refine⟨fun ρ G ov a w r Q=>?_⟩;have r1:=r.mono s1 s2;obtain⟨y,hy,hy'⟩:=r1.ev h0;rw[(aF (G:=G)).1 hy'] at hy;obtain⟨y1,p1,p1'⟩:=r1.ev h1
 cases (show y1=_ from p1')
 obtain⟨y2,p2,p2'⟩:=r1.ev h2;rw[dm] at p2';subst p2';obtain⟨y3,p3,p3'⟩:=r1.ev h3
 cases (show y3=_ from p3')
 have hnn:nm≠d:=fun e=>by subst e;rw[lV] at hne;cases hne
 have hnn2:nm2≠d:=fun e=>by subst e;rw[lV] at hne2;cases hne2
 have hnm:nm≠nm2:=fun e=>by subst e;rw[lV] at hn2;cases hn2
 obtain⟨B,g1,g2⟩:=r1.bx _ _ hb;obtain⟨B2,k1,k2⟩:=r1.bx _ _ hb2;obtain⟨vs,q1,q2,q3,q4,q5⟩:=g1;have hB:de G ⟨ρ nm,s,ty0,ds,false⟩ B:=⟨vs,q1,q2,q3,fun h=>by cases h⟩;have hB2:de G ⟨ρ nm2,s,ty2,[x],false⟩ B2:=de.weak (lo:=true) k1;have e1: ∃o,B=[o]/\(ρ nm).a=some ⟨o.b,0,none⟩:=by
  rcases q1 with⟨_,e,_⟩|⟨b,rest,lo',e,rfl,_⟩
  ·rw[e] at q5;simp at q5;omega
  ·exact⟨_,J,by rw[e]⟩
 have e2: ∃o,B2=[o]/\(ρ nm2).a=some ⟨o.b,0,none⟩:=by
  obtain⟨vs2,c1,c2,_⟩:=k1;rcases c1 with⟨e,_,_⟩|⟨b,rest,lo',e,rfl,_⟩
  ·subst e;have:=c2.len;simp at this
  ·exact⟨_,J,by rw[e]⟩
 obtain⟨o1,rfl,a1⟩:=e1;obtain⟨o2,rfl,a2⟩:=e2;have hob:o1.b≠o2.b:=fun e=>r.dj nm nm2 _ _ (s2 _ _ hb) (s2 _ _ hb2) hnm _ a1 (by rw[a2,e]);have hp: ∃rest,ov.Perm ([o1]++[o2]++rest):=by
  obtain⟨l1,l2,e3⟩:=kL (g2 _ aQ);have hm:=k2 _ aQ;rw[e3] at hm⊢;have hm2:o2∈l1++l2:=by
   rcases bV.1 hm with h|h
   ·exact bK _ h
   ·rcases aY.1 h with h|h
    ·exact absurd (by rw[h]) hob
    ·exact bM _ h
  obtain⟨l3,l4,e4⟩:=kL hm2;refine⟨l3++l4,List.perm_middle.trans ?_⟩;rw[e4];exact(mN (l₁:=l3) (l₂:=l4) (a:=o2)).cons o1
 obtain⟨rest,h5⟩:=hp;have h6: ∀o∈ov,o.b≠o1.b->o.b≠o2.b->o∈rest:=fun o ho n1 n2=>by
  have:=h5.mem_iff.1 ho;simp only[cW,cV,aY] at this;rcases this with rfl|rfl|h
  ·exact absurd J n1
  ·exact absurd J n2
  ·exact h
 have hlo2: ∀o∈[o2],o.lo=true:=by obtain⟨_,_,_,_,h⟩:=k1;exact h rfl
 have hall: ∀o∈[o1]++[o2],o.lo=true:=fun o ho=>by
  rcases bV.1 ho with h|h
  ·exact q4 o h
  ·exact hlo2 o h
 refine sA (M:=[o1]++[o2]) (rest:=rest) (vs:=[.slice (ρ nm).a (ρ nm).n (ρ nm).c, .int .i64 i, .slice (ρ nm2).a (ρ nm2).n (ρ nm2).c]) hy (by simp only[fy,p1,p2,p3]) h5 (hF G (ρ nm) (ρ nm2) [o1] [o2] r.gb hB q5 hB2) hd (fun v own1 G' hG hK a' w' rl=>?_) a w Q ⟨r.h,r.sz,cC a,r.df⟩;obtain⟨z,rfl,vs',k1',k2',k3',k4'⟩:=hK;have hs1:=k1'.relo (e7 ([o1]++[o2]));have e3: ∀o∈own1.map (relo (e7 ([o1]++[o2]))),o.lo=true:=fun o ho=>by
  obtain⟨o',_,rfl⟩:=bJ.1 ho;exact yZ _ hall
 generalize own1.map (relo (e7 ([o1]++[o2])))=B' at rl e3 hs1;have rl':fP C n (Sx.put (co a) (some d) (.slice z.a z.n z.c)) (B'++rest) G' a' w':=rl;have hdis:=(fM.1 rl'.h.nd).2.2;have rd:=(r.dropB nm).dropB nm2;have hin: ∀q B0,Sx.upB (Sx.upB tb [(nm,none)]) [(nm2,none)] q=some B0->q≠nm/\q≠nm2/\tb q=some B0:=fun q B0 e=>by
  simp only[Sx.upB] at e;split at e
  ·cases e
  ·split at e
   ·cases e
   ·exact⟨by assumption,by assumption,e⟩
 have hf2:jn [d] (some d) tl (Sx.upB (Sx.upB tb [(nm,none)]) [(nm2,none)]):=fun q hq=>by
  obtain⟨f1,f2⟩:=hf q hq;exact⟨f1,fun k B e1 e=>f2 k B e1 (hin k B e).2.2⟩
 have hsep: ∀q B0,Sx.upB (Sx.upB tb [(nm,none)]) [(nm2,none)] q=some B0-> ∀o∈ov,(ρ q).a=some ⟨o.b,0,none⟩->o∈rest:=fun q B0 e o ho hbq=>by
  obtain⟨n1,n2,n3⟩:=hin q B0 e;exact h6 o ho (fun e'=>r.dj nm q _ _ (s2 _ _ hb) n3 (Ne.symm n1) _ a1 (by rw[hbq,e'])) (fun e'=>r.dj nm2 q _ _ (s2 _ _ hb2) n3 (Ne.symm n2) _ a2 (by rw[hbq,e']))
 have r3:=rd.new' (x:=z) (B':= .b ty0 s dso true) (os:=B') (ov':=B'++rest) (f:= .rw d) (y:= .slice z.a z.n z.c) hf2 hG.le rl'.h ⟨vs',by simpa using hs1,k2',k3',fun _=>e3⟩ (fun o ho=>bK _ ho)
  (fun q B0 hq e o ho hbq=>⟨bM _ (hsep q B0 e o ho hbq),fun hc=>by
   have hx: ∃o1∈B',o1.b=o.b:=by
    rcases hs1 with⟨_,h,_⟩|⟨b0,rest0,lo0,h,hB,_⟩
    ·rw[show z=_ from h] at hc;cases hc
    ·rw[show z=_ from h] at hc;cases hc;exact⟨⟨_,aB vs'++rest0,_,lo0⟩,by rw[hB];exact aQ,J⟩
   obtain⟨o3,ho3,he3⟩:=hx;exact hdis o3 ho3 o (hsep q B0 e o ho hbq) he3⟩) (by show _=_;simp) (i6 rl')
 exact hk.run _ G' _ a' w' r3
def ci[fu:Fu]{f:FuncId}{nm nm2 d cap s:Nat}{i:Int}{ty ty2:TypeId}{ds dso:List DV}{x:DV}(dso':List DV)(ha:Jb fr own cf=some ⟨f,nm,nm2,i,ty,ty2,s,ds,x,cap,d⟩)(hF:PI GB prog f i s ty ty2 ds x cap dso)(he:dso=dso')
  (hgo:cD tt n fu.n fr own cf (.rw d) [(nm,none),(nm2,none),(d,some (.b ty s dso' true))] [d]=⟨vc,fr',own',cf'⟩)(k:ak prog GB C n Q0 fr' own' cf')
  (hv:ah vc:=by first|exact trivial|(simp only[ah];kernel_rfl)|(simp only[ah];omega)):ak prog GB C n Q0 fr own cf:=by
 subst he;unfold Jb at ha;split at ha<;>try (cases ha;done)
 rename_i hh;split at ha<;>try (cases ha;done)
 rename_i h0 h1;split at ha<;>try (cases ha;done)
 rename_i h2 h3;split at ha<;>try (cases ha;done)
 rename_i hb hb2;rw[cond_eq_ite] at ha;split at ha<;>cases ha;rename_i hc;simp only[aL,iJ,mY] at hc;obtain⟨⟨c1,c2⟩,c3,c4,c5⟩:=hc
 cases aU c4
 exact us hh (axB c1 c2 c3 c5 h0 h1 h2 h3 hb hb2 hF) hgo hv k
def kP(d:Nat){ops:Array Oper}{r:List Oper}{K:List Kt}(hl:bc fr d=some (.d (.v (.bool true))))(k:ak prog GB C n Q0 ((d, .tt)::fr) own (.ops ops r K)):ak prog GB C n Q0 fr own (.ops ops r K):=pk (g:= .tt) hl (fun _ G _ e=>(aF (G:=G)).1 e) k
def oD(d:Nat){ops:Array Oper}{r:List Oper}{K:List Kt}(hl:bc fr d=some (.d (.v (.bool false))))(k:ak prog GB C n Q0 ((d, .ff)::fr) own (.ops ops r K)):ak prog GB C n Q0 fr own (.ops ops r K):=pk (g:= .ff) hl (fun _ G _ e=>(aF (G:=G)).1 e) k
end
section
variable {GB:Gh} {C:aD} {n:Nat} {Q0:Exit->Act->World->Prop} {fr fr':aA} {own own':aG} {cf cf':Cf} {vc:List Prop}
def PR(GB:Gh)(P:Program)(f:FuncId)(ds:List DV)(s:Nat)(ty:TypeId)(rows:List DV):Prop:=
 ∀G vs,bz GB G->IsLs G ds vs->iA P f vs [] G (fun v own' G'=> ∃w:SV,v= .slice w.a w.n w.c/\de G' ⟨w,s,ty,rows,true⟩ own')
def La: ∀(l:List ao),(∀o∈l,o.lo=true)->l.map (relo (e7 []))=l
 |[],_=>rfl
 |a::t,h=>by
  have h1:=h a aQ;rw[bS,La t fun o ho=>h o (aZ _ ho)];congr 1
  cases a
  simp[relo,e7] at*;exact h1
def UK{lk:LK}{bk:BM}{fo:Operand}{args:Array Operand}{tys:Array TypeId}{f:FuncId}{d s:Nat}{ds rows:List DV}{ty ty2:TypeId}{pos:String}{af:Array Edge}{gd:Option (Nat×Bool)}
  (ha:sI lk fo args=some (f,ds))(hF:PR GB prog f ds s ty2 rows):bH prog GB C n lk bk ⟨some d, .call ⟨.value fo,args,tys⟩,ty,pos,af,gd⟩ (.rw d) [(d,some (.b ty2 s rows true))] [d]:=by
 intro hd tl tb K' s1 s2 hf hk;refine⟨fun ρ G ov a w r Q=>?_⟩;have r1:=r.mono s1 s2;obtain⟨h1,h2⟩:=CA ha;obtain⟨y,hy,hy'⟩:=r1.ev h1;rw[(aF (G:=G)).1 hy'] at hy;obtain⟨vs,h3,h4⟩:=r1.evDs h2;refine sA (M:=[]) (rest:=ov) hy h3 (List.Perm.refl _) (hF G vs r.gb h4) hd (fun v own1 G' hG hK a' w' rl=>?_) a w Q ⟨r.h,r.sz,cC a,r.df⟩;obtain⟨z,rfl,vs',k1,k2,k3,k4⟩:=hK;rw[La _ (k4 J)] at rl;have rl':fP C n (Sx.put (co a) (some d) (.slice z.a z.n z.c)) (own1++ov) G' a' w':=rl;have hdis:=(fM.1 rl'.h.nd).2.2;have r3:=r.new' (x:=z) (B':= .b ty2 s rows true) (os:=own1) (ov':=own1++ov) (f:= .rw d) (y:= .slice z.a z.n z.c) hf hG.le rl'.h ⟨vs',by simpa using k1,k2,k3,k4⟩ (fun o ho=>bK _ ho)
  (fun q B0 hq e o ho hbq=>⟨bM _ ho,fun hc=>by
   have hx: ∃o1∈own1,o1.b=o.b:=by
    rcases k1 with⟨_,h,_⟩|⟨b0,rest0,lo0,h,hB,_⟩
    ·rw[show z=_ from h] at hc;cases hc
    ·rw[show z=_ from h] at hc;cases hc;exact⟨⟨_,aB vs'++rest0,_,lo0⟩,by rw[hB];exact aQ,J⟩
   obtain⟨o1,ho1,he1⟩:=hx;exact hdis o1 ho1 o ho he1⟩) (by simp[bP]) (i6 rl')
 exact hk.run _ G' _ a' w' r3
def QI(fr:aA)(cf:Cf):Option (FuncId×List DV×Nat):=match cd fr cf with
 |some ⟨some d, .call ⟨.value fo,args,_⟩,_,_,_,_⟩=>match sI (bD fr cf) fo args with
  |some (f,ds)=>some (f,ds,d)
  |none=>none
 |_=>none
def cr[fu:Fu]{f:FuncId}{d s:Nat}{ds rows:List DV}{ty:TypeId}(ha:QI fr cf=some (f,ds,d))(hF:PR GB prog f ds s ty rows)
  (hgo:cD tt n fu.n fr own cf (.rw d) [(d,some (.b ty s rows true))] [d]=⟨vc,fr',own',cf'⟩)(k:ak prog GB C n Q0 fr' own' cf')
  (hv:ah vc:=by first|exact trivial|(simp only[ah];kernel_rfl)|(simp only[ah];omega)|(simp only[ah,aJ,aT,aV];omega)):ak prog GB C n Q0 fr own cf:=by
 unfold QI at ha;split at ha<;>try (cases ha;done)
 rename_i hh;split at ha<;>cases ha;rename_i h1;exact us hh (UK h1 hF) hgo hv k
def aID(C:aD)(s:Nat)(ty:TypeId)(rows:List DV):Ending->World->Prop:=qq C (fun v own' G'=> ∃w:SV,v= .slice w.a w.n w.c/\de G' ⟨w,s,ty,rows,true⟩ own')
end
section
variable {GB:Gh} {C:aD} {n:Nat} {Q0:Exit->Act->World->Prop} {fr fr':aA} {own own':aG} {cf cf':Cf} {vc:List Prop}
def Xy{lk:LK}{bk:BM}{fo:Operand}{args:Array Operand}{tys:Array TypeId}{f:FuncId}{nm d:Nat}{l:List (Option DV)}{s:Nat}{ty ty0:TypeId}{pos:String}{af:Array Edge}{gd:Option (Nat×Bool)}{dsi dso:List DV}{lo:Bool}(hne:Nat.beq nm d=false)
  (ha:u7 lk fo args=some (f,nm,l))(hb:bk nm=some (.b ty0 s dsi lo))(hF:PB GB prog f (ey l) s ty0 dsi (fun w=> .v (.slice w.a w.n w.c)) dso):bH prog GB C n lk bk ⟨some d, .call ⟨.value fo,args,tys⟩,ty,pos,af,gd⟩ (.rw d) [(nm,none),(d,some (.b ty0 s dso lo))] [d]:=by
 intro hd tl tb K' s1 s2 hf hk;refine⟨fun ρ G ov a w r Q=>?_⟩;have r1:=r.mono s1 s2;unfold u7 at ha;split at ha<;>try (cases ha;done)
 rename_i h1;split at ha<;>cases ha;rename_i h2;obtain⟨y,hy,hy'⟩:=r1.ev h1;rw[(aF (G:=G)).1 hy'] at hy;obtain⟨B,g1,g2⟩:=r1.bx _ _ hb;have hB:de G ⟨ρ nm,s,ty0,dsi,lo⟩ B:=g1;obtain⟨vs,h7,h8⟩:=AB r1 (z:=ρ nm) h2 (fun nm e=>by cases e;rfl);have hp: ∃rest,ov.Perm (B++rest)/\ ∀o∈ov,(∀o'∈B,o.b≠o'.b)->o∈rest:=by
  rcases hB with⟨vs',⟨_,_,e⟩|⟨b0,r0,lo0,_,e,_⟩,_⟩
  ·rw[e];exact⟨ov,List.Perm.refl _,fun o ho _=>ho⟩
  ·rw[e] at g2⊢
   obtain⟨l1,l2,e2⟩:=kL (g2 _ aQ);rw[e2];refine⟨l1++l2,mN,fun o ho hno=>?_⟩;rcases bV.1 ho with ho|ho
   ·exact bK _ ho
   ·rcases aY.1 ho with rfl|ho
    ·exact absurd J (hno _ aQ)
    ·exact bM _ ho
 obtain⟨rest,h5,h6⟩:=hp;refine sA (M:=B) (rest:=rest) hy h7 h5 (hF G (ρ nm) vs B r.gb hB.weak h8) hd (fun v own1 G' hG hK a' w' rl=>?_) a w Q ⟨r.h,r.sz,cC a,r.df⟩;obtain⟨z,hr,vs',k1,k2,k3,k4⟩:=hK;have k1':=k1.relo (e7 B);have e2:lo=true-> ∀o∈own1.map (relo (e7 B)),o.lo=true:=fun hl o ho=>by
  obtain⟨o',_,rfl⟩:=bJ.1 ho;obtain⟨_,_,_,_,hlo⟩:=hB;exact yZ _ (hlo hl)
 generalize own1.map (relo (e7 B))=B' at rl e2 k1';have rl':fP C n (Sx.put (co a) (some d) v) (B'++rest) G' a' w':=rl;have hdis:=(fM.1 rl'.h.nd).2.2;have r2:=r.dropB nm;have hnn:nm≠d:=fun e=>by subst e;rw[lV] at hne;cases hne
 have hf2:jn [d] (some d) tl (Sx.upB tb [(nm,none)]):=fun q hq=>by
  obtain⟨f1,f2⟩:=hf q hq;refine⟨f1,fun k B e1 e=>?_⟩;simp only[Sx.upB] at e;split at e
  ·cases e
  ·exact f2 k B e1 e
 have hsep: ∀q B0,Sx.upB tb [(nm,none)] q=some B0-> ∀o∈ov,(ρ q).a=some ⟨o.b,0,none⟩->o∈rest:=fun q B0 e o ho hbq=>by
  simp only[Sx.upB] at e;split at e
  ·cases e
  ·rename_i hqn
   refine h6 o ho fun o' ho' he=>?_;exact r.dj nm q _ _ (s2 _ _ hb) e (Ne.symm hqn) o'.b (g1.blk ho') (by rw[hbq,he])
 rw[aF.1 hr] at rl';have r3:=r2.new' (x:=z) (B':= .b ty0 s dso lo) (os:=B') (ov':=B'++rest) (f:= .rw d) (y:= .slice z.a z.n z.c) hf2 hG.le rl'.h ⟨vs',by simpa using k1',k2,k3,e2⟩ (fun o ho=>bK _ ho)
  (fun q B0 hq e o ho hbq=>⟨bM _ (hsep q B0 e o ho hbq),fun hc=>by
   have hx: ∃o1∈B',o1.b=o.b:=by
    rcases k1' with⟨_,h,_⟩|⟨b0,rest0,lo0,h,hB,_⟩
    ·rw[show z=_ from h] at hc;cases hc
    ·rw[show z=_ from h] at hc;cases hc;exact⟨⟨_,aB vs'++rest0,_,lo0⟩,by rw[hB];exact aQ,J⟩
   obtain⟨o1,ho1,he1⟩:=hx;exact hdis o1 ho1 o (hsep q B0 e o ho hbq) he1⟩) (by simp[bP]) (i6 rl')
 exact hk.run _ G' _ a' w' r3
def cq[fu:Fu]{f:FuncId}{nm d:Nat}{l:List (Option DV)}{ty:TypeId}{s:Nat}{dsi dso:List DV}{lo:Bool}(dso':List DV)(ha:Bg fr own cf=some ⟨f,nm,l,ty,s,dsi,lo,d⟩)(hF:PB GB prog f (ey l) s ty dsi (fun w=> .v (.slice w.a w.n w.c)) dso)(he:dso=dso')
  (hgo:cD tt n fu.n fr own cf (.rw d) [(nm,none),(d,some (.b ty s dso' lo))] [d]=⟨vc,fr',own',cf'⟩)(k:ak prog GB C n Q0 fr' own' cf')
  (hv:ah vc:=by first|exact trivial|(simp only[ah];kernel_rfl)|(simp only[ah];omega)|(simp only[ah,aJ,aT,aV];omega)):ak prog GB C n Q0 fr own cf:=by
 subst he;unfold Bg at ha;split at ha<;>try (cases ha;done)
 rename_i hh;split at ha<;>try (cases ha;done)
 rename_i h1;split at ha<;>try (cases ha;done)
 rename_i h2;rw[cond_eq_ite] at ha;split at ha<;>cases ha;rename_i h3;exact us hh (Xy (by cases hq:Nat.beq nm d with|false=>rfl|true=>exact absurd hq h3) h1 h2 hF) hgo hv k
def FF(C:aD)(s:Nat)(ty:TypeId)(dso:List DV):Ending->World->Prop:=qq C (fun v own' G'=> ∃w',Is G' (.v (.slice w'.a w'.n w'.c)) v/\de G' ⟨w',s,ty,dso,false⟩ own')
def wu[fu:Fu]{f:FuncId}{fb:Func}{c:Code}{k s:Nat}{l:List (Option DV)}{dsi dso:List DV}{ty:TypeId}(hf:prog.funcs[f]? =some fb)(hb:fb.body=some c)(hn:(fb.name== "runtime.NumGoroutine")=false)(hm:fb.ntmps=k)(hlen:Nat.ble l.length k=true)
  (hgo:go tt k fu.n [] (vY 0 l) [(NM,some (.b ty s dsi false))] (.code c [])=⟨vc,fr,own,cf⟩)(h: ∀C,ak prog GB C k (fp C prog fb (FF C s ty dso)) fr own cf)
  (hv:ah vc:=by first|exact trivial|(simp only[ah];kernel_rfl)|(simp only[ah];omega)|(simp only[ah,aJ,aT,aV];omega)):PB GB prog f (ey l) s ty dsi (fun w=> .v (.slice w.a w.n w.c)) dso:=by
 intro G w vs B hg hB hvs;refine iA.introR hf hb hn hm (by rw[hvs.len,Cz];exact hlen) fun C _ hmb hrd hfx=>?_;intro a wd rl;refine uY hrd ?_;have h1:=fB (GB:=GB) (C:=C) (Q0:=fp C prog fb (FF C s ty dso)) hgo hv (h C);refine h1.run (fun _=>w) G (Sx.asB B) a wd ⟨hg,rl.h,rl.sz,rl.df,fun k f e=>?_,fun nm B' e=>?_,fun nm nm' B' B2 e e' hne=>?_,fun nm p _ _ e=>by rw[hfx] at e;cases e⟩
 ·obtain⟨y,⟨j,hj,hy⟩,h2⟩:=BF (ρ:=fun _=>w) (w:=w) rfl 0 hvs k f e
  refine⟨y,rl.fr k y ?_,h2⟩;rw[hj];exact uU vs 0 j y hy
 ·rw[i7] at e
  split at e
  ·cases e;exact⟨Sx.asB B,hB.asB,fun o ho=>ho⟩
  ·cases e
 ·rw[i7] at e e'
  split at e<;>split at e'
  ·rename_i h2 h3;exact absurd (h2.trans h3.symm) hne
  ·cases e'
  ·cases e
  ·cases e
def tn{fb:Func}{t d s:Nat}{ty:TypeId}{ds dso:List DV}(hr:fb.results.toList=[.tmp t])(hl:bc fr t=some (.rw d))(hw:bh own d=some (.b ty s ds false))(ed:ds=dso):
  ak prog GB C n (fp C prog fb (FF C s ty dso)) fr own (.ex .ret []):=by
 subst ed;refine⟨fun ρ G ov a w r=>?_⟩;obtain⟨B,g1,g2⟩:=r.bx _ _ hw;have hB:de G ⟨ρ d,s,ty,ds,false⟩ B:=g1;obtain⟨rest,hp⟩:=Kb hB g2;obtain⟨y,hy,hy'⟩:=r.ev (x:= .tmp t) (f:= .rw d) hl
 cases (show y=_ from hy')
 exact yy (C:=C) (n:=n) (fr:=co a) (own:=ov) (G:=G) (vs:=[.slice (ρ d).a (ρ d).n (ρ d).c]) (by rw[hr];exact .tmp hy .nil) (B++rest) B hp (qY _ _) ⟨ρ d,aF.2 J,hB⟩ a w ⟨r.h,r.sz,cC a,r.df⟩
def xz(lk:LK):List Operand->Option (List (Option DV))
 |[]=>none
 |[x]=>match aH lk x with
  |some .nl=>some [none]
  |_=>none
 |x::t=>match aH lk x,xz lk t with
  |some f,some l=>match jq f with
   |some d=>some (some d::l)
   |none=>none
  |_,_=>none
def Gw(lk:LK)(fo:Operand)(args:Array Operand):Option (FuncId×List (Option DV)):=match aH lk fo with
 |some (.d (.v (.func (.func f) ⟨[]⟩ ⟨[]⟩)))=>match xz lk args.toList with
  |some l=>some (f,l)
  |_=>none
 |_=>none
def J0{lk:LK}{bk:BM}{ρ:NE}{G:Gh}{ov:List ao}{a:Act}{w:World}(r:bF GB C n lk bk ρ G ov a w): ∀{x:List Operand} {l:List (Option DV)},xz lk x=some l-> ∃y,fy (co a) x=some y/\IsLs G (ey l ⟨none,0,0⟩) y
 |[],l,e=>by cases e
 |[x],l,e=>by
  simp only[xz] at e;split at e<;>cases e;rename_i h1;obtain⟨y,h3,h4⟩:=r.ev h1
  cases (show y=_ from h4)
  exact⟨[Value.slice none 0 0],by simp only[fy,h3], .cons ((aF (G:=G)).2 J) .nil⟩
 |x::x2::t,l,e=>by
  simp only[xz] at e;split at e
  ·rename_i f l' h1 h2
   cases hd:jq f with
   |none=>rw[hd] at e;cases e
   |some d=>
   rw[hd] at e;cases e;obtain⟨y,h3,h4⟩:=r.ev h1;obtain⟨ys,h5,h6⟩:=J0 r (x:=x2::t) (by simpa only[xz] using h2);exact⟨y::ys,by simp only[fy,h3] at h5⊢;rw[h5], .cons (me h4 hd) h6⟩
  ·cases e
def R6{lk:LK}{bk:BM}{fo:Operand}{args:Array Operand}{tys:Array TypeId}{f:FuncId}{d:Nat}{l:List (Option DV)}{s:Nat}{ty ty0:TypeId}{pos:String}{af:Array Edge}{gd:Option (Nat×Bool)}{dso:List DV}
  (ha:Gw lk fo args=some (f,l))(hF:PB GB prog f (ey l) s ty0 [] (fun w=> .v (.slice w.a w.n w.c)) dso):bH prog GB C n lk bk ⟨some d, .call ⟨.value fo,args,tys⟩,ty,pos,af,gd⟩ (.rw d) [(d,some (.b ty0 s dso true))] [d]:=by
 intro hd tl tb K' s1 s2 hf hk;refine⟨fun ρ G ov a w r Q=>?_⟩;have r1:=r.mono s1 s2;unfold Gw at ha;split at ha<;>try (cases ha;done)
 rename_i h1;split at ha<;>cases ha;rename_i h2;obtain⟨y,hy,hy'⟩:=r1.ev h1;rw[(aF (G:=G)).1 hy'] at hy;obtain⟨vs,h7,h8⟩:=J0 r1 h2;refine sA (M:=[]) (rest:=ov) hy h7 (List.Perm.refl _) (hF G ⟨none,0,0⟩ vs [] r.gb ⟨[], .nil _ _, .nil,by simp,fun h=>by cases h⟩ h8) hd (fun v own1 G' hG hK a' w' rl=>?_) a w Q ⟨r.h,r.sz,cC a,r.df⟩;obtain⟨z,hr,vs',k1,k2,k3,k4⟩:=hK;have k1':=k1.relo (e7 []);have e2: ∀o∈own1.map (relo (e7 [])),o.lo=true:=fun o ho=>by
  obtain⟨o',_,rfl⟩:=bJ.1 ho;rfl
 generalize own1.map (relo (e7 []))=B' at rl e2 k1';have rl':fP C n (Sx.put (co a) (some d) v) (B'++ov) G' a' w':=rl;have hdis:=(fM.1 rl'.h.nd).2.2;rw[aF.1 hr] at rl';have r3:=r.new (x:=z) (B':= .b ty0 s dso true) (os:=B') (ov':=B'++ov) (f:= .rw d) (y:= .slice z.a z.n z.c) hf hG.le rl'.h ⟨vs',by simpa using k1',k2,k3,fun _=>e2⟩ (fun o ho=>bK _ ho) (fun o ho=>bM _ ho)
  (fun o ho hc=>by
   have hx: ∃o1∈B',o1.b=o.b:=by
    rcases k1' with⟨_,h,_⟩|⟨b0,rest0,lo0,h,hB,_⟩
    ·rw[show z=_ from h] at hc;cases hc
    ·rw[show z=_ from h] at hc;cases hc;exact⟨⟨_,aB vs'++rest0,_,lo0⟩,by rw[hB];exact aQ,J⟩
   obtain⟨o1,ho1,he1⟩:=hx;exact hdis o1 ho1 o ho he1) (by simp[bP]) (i6 rl')
 exact hk.run _ G' _ a' w' r3
def M6(fr:aA)(cf:Cf):Option (FuncId×List (Option DV)×Nat):=match cd fr cf with
 |some ⟨some d, .call ⟨.value fo,args,_⟩,_,_,_,_⟩=>match Gw (bD fr cf) fo args with
  |some (f,l)=>some (f,l,d)
  |none=>none
 |_=>none
def cqn[fu:Fu]{f:FuncId}{d:Nat}{l:List (Option DV)}{ty:TypeId}{s:Nat}{dso:List DV}(dso':List DV)(ha:M6 fr cf=some (f,l,d))(hF:PB GB prog f (ey l) s ty [] (fun w=> .v (.slice w.a w.n w.c)) dso)(he:dso=dso')
  (hgo:cD tt n fu.n fr own cf (.rw d) [(d,some (.b ty s dso' true))] [d]=⟨vc,fr',own',cf'⟩)(k:ak prog GB C n Q0 fr' own' cf')
  (hv:ah vc:=by first|exact trivial|(simp only[ah];kernel_rfl)|(simp only[ah];omega)|(simp only[ah,aJ,aT,aV];omega)):ak prog GB C n Q0 fr own cf:=by
 subst he;unfold M6 at ha;split at ha<;>try (cases ha;done)
 rename_i hh;split at ha<;>cases ha;rename_i h1;exact us hh (R6 h1 hF) hgo hv k
end
section
variable {P:Program} {T:TT} {GB:Gh} {C:aD} {n:Nat} {lk:LK} {bk:BM} {ρ:NE} {G:Gh} {ov:List ao} {a:Act} {w:World}
variable {dst:Option Nat} {t t' ty':TypeId} {pos:String} {af:Array Edge} {gd:Option (Nat×Bool)} {x y:Operand} {e s by_:Nat}
def ZK{d nm:Nat}{i:TI}{z:DV}{ds ds2:List DV}[hT:cj P t e s by_][hN:jO P t'](hi:fi P e=some i)(hz:nk i=some z)(hs:Nat.beq z.cells.length s=true)(hx:aH lk x=some (.rw nm))(hb:bk nm=some (.b e s ds false))(hy:qc lk bk s y=some ds2)(hk2:ew s ds2)
  (hby:Nat.blt 0 by_=true)(hbd:(ds.length+ds2.length)*by_<=140737488355328)(hnd:Nat.beq nm d=false){ds':List DV}(hds:ds++ds2=ds'):
  bH P GB C n lk bk ⟨some d, .call ⟨.builtin .append, #[x,y], #[t,t']⟩,ty',pos,af,gd⟩ (.rw d) [(nm,none),(d,some (.b e s ds' false))] [d]:=by
 intro hd tl tb K s1 s2 hf hk;refine⟨fun ρ G ov a w r Q=>?_⟩;subst hds;have r1:=r.mono s1 s2;obtain⟨v,hz1,hz2,hz3⟩:=wq hi hz;have cz:=((hz2 G).cells hz3).1.len;replace hs:=aU hs;rw[mY] at hby
 have hne:nm≠d:=fun e=>by subst e;simp at hnd
 obtain⟨u,hx',hx2⟩:=r1.ev hx
 cases hx2
 obtain⟨B,hB0,hBo⟩:=r1.bx _ _ hb;have hB1:de G ⟨ρ nm,s,e,ds,false⟩ B:=hB0;clear hB0;obtain⟨vs,hB,hv,hvs,_⟩:=hB1;simp only[] at hB hv hvs;obtain⟨w2,us,hy',h2,h3,h4,h5,h6⟩:=y4 (P:=P) r1 hy hk2;have hus:(aB us).length=us.length*s:=d7 us h4;have hbd':(vs.length+us.length)*by_<=140737488355328:=by rw[hv.len,h3.len];exact hbd
 have hall: ∀v∈vs++us,(aE v).length=s:=fun v hv=>by
  rcases bV.1 hv with hv|hv
  ·exact hvs v hv
  ·exact h4 v hv
 have rd:=r.dropB nm;have hf':jn [d] (some d) tl (Sx.upB tb [(nm,none)]):=fun m hm=>by
  obtain⟨g1,g2⟩:=hf m hm;refine⟨g1,fun k B' hk e=>g2 k B' hk ?_⟩;simp only[Sx.upB] at e;split at e
  ·cases e
  ·exact e
 have hbk: ∀m B',(Sx.upB tb [(nm,none)]) m=some B'->m≠nm/\tb m=some B':=fun m B' e=>by
  simp only[Sx.upB] at e;split at e
  ·cases e
  ·exact⟨by assumption,e⟩
 have hnew: ∀{z:SV} {ov':List ao} {B1:List ao} {a':Act} {w':World} {dz:List DV},de G ⟨z,s,e,dz,false⟩ B1->(∀o∈B1,o∈ov')->(∀m B',m≠d->(Sx.upB tb [(nm,none)]) m=some B'-> ∀o∈ov,(ρ m).a=some ⟨o.b,0,none⟩->o∈ov'/\z.a≠some ⟨o.b,0,none⟩)->
   SX GB C n (ek tl (some d) (.rw d)) (Sx.upB (Sx.upB tb [(nm,none)]) [(d,some (.b e s dz false))]) K->fP C n (Sx.put (co a) (some d) (.slice z.a z.n z.c)) ov' G a' w'->K a' w':=fun hB1 hos hov hk1 rl=>
  hk1.run _ _ _ _ _ (rd.new' (f:= .rw d) (y:= .slice _ _ _) hf' (bz.refl _) rl.h (hB1.toBk (by simp)) hos hov (by show _=_;simp) (i6 rl))
 have hfin: ∀(b:Nat) (lo1:Bool) (cap':Nat) (rest':List Value) (ov1:List ao) a' w',vs.length+us.length<=cap'->rest'.length+(vs.length+us.length)*s=cap'*s->(∀o∈ov,(ρ nm).a≠some ⟨o.b,0,none⟩->o∈ov1)->
   fP C n (put (co a) (some d) (.slice (some ⟨b,0,none⟩) (vs.length+us.length) cap')) (⟨b,aB (vs++us)++rest',e,lo1⟩::ov1) G a' w'->K a' w':=by
  intro b lo1 cap' rest' ov1 a' w' hc hr ho1 rl;have hnd':=(bY.1 rl.h.nd).1;refine hnew (z:=⟨some ⟨b,0,none⟩,vs.length+us.length,cap'⟩) (B1:=[⟨b,aB (vs++us)++rest',e,lo1⟩]) ⟨vs++us, .inr ⟨b,rest',lo1,by simp,J,d7 _ hall,?_,by simpa using hc⟩,hv.app h3,hall,fun h=>by cases h⟩
   (fun o ho=>by rw[aW.1 ho];exact aQ) (fun m B' hm e o ho hmo=>?_) hk rl
  ·rw[d7 _ hall,aS]
   simp only[];omega
  ·obtain⟨h7,h8⟩:=hbk m B' e
   have ho2:=ho1 o ho fun hc=>r.dj m nm B' _ h8 (s2 _ _ hb) h7 _ hmo hc;exact⟨aZ _ ho2,fun e'=>by cases e';exact hnd' o ho2 J⟩
 rcases hB with⟨e1,e2,e3⟩|⟨b,rest,lo',k3,k4,k5,k6,k7⟩
 ·subst e1
  rw[e2] at hx';by_cases hne:us=[]
  ·subst hne
   have:ds2=[]:=bL (by rw[<-h3.len];rfl);subst this;rw[h2] at hy';refine Lt hx' hy' hd (fun a' w' rl=>?_) a w Q ⟨r.h,r.sz,cC a,r.df⟩;refine hnew (z:=⟨none,0,0⟩) (B1:=[]) ⟨[], .inl ⟨J,J,J⟩,by simpa using hv,by simp,fun h=>by cases h⟩ (fun o ho=>by cases ho) (fun m B' hm e o ho hmo=>⟨ho,fun e'=>by cases e'⟩) hk rl
  ·have hup:0<us.length:=qX.2 hne
   rw[h2] at hy' h6;refine zS (z:=v) (xs:=[]) (ys:=aB us) hx' hy' uR h6 (by show(0:Nat)<0+us.length;omega) hby (by simpa using hbd') hd (fun b cap' hc a' w' rl=>?_) a w Q ⟨r.h,r.sz,cC a,r.df⟩;exact hfin b true cap' (cO v (cap'-us.length)) ov a' w' (by simpa using hc) (by rw[m9,cz,hs,<-cR];simp at hc⊢;congr 1;omega) (fun o ho _=>ho) (by simpa using rl)
 ·subst k4
  have ha:(ρ nm).a=some ⟨b,0,none⟩:=by rw[k3]
  have hn:(ρ nm).n=vs.length:=by rw[k3]
  rw[ha,hn] at hx';rw[h2] at hy' h6;obtain⟨ov1,o1,o2⟩:=jw.of_mem (hBo _ aQ);refine Kx (z:=v) (xs:=aB vs) (ys:=aB us) (rest:=rest) (own1:=ov1) hx' hy' o1 k5 k6 k7 h6 hus h5 hby hbd' (by rw[cz,hs]) hd (fun b' lo2 cap' rest' hc hr a' w' rl=>?_) a w Q ⟨r.h,r.sz,cC a,r.df⟩;rw[<-mC] at rl;exact hfin b' lo2 cap' rest' ov1 a' w' hc hr (fun o ho hne=>o2 o ho fun e'=>hne (by rw[ha,e'])) rl
end
section
variable {GB:Gh} {C:aD} {n:Nat} {Q0:Exit->Act->World->Prop} {fr fr':aA} {own own':aG} {cf cf':Cf} {vc:List Prop}
def L0(fr:aA)(own:aG)(cf:Cf):Option (Nat×Nat×Nat×Nat×Nat×List DV×List DV):=match cd fr cf with
 |some ⟨some d, .call ⟨.builtin .append,⟨[x,y]⟩,⟨[t,t']⟩⟩,_,_,_,_⟩=>match dt tt t with
  |some ⟨.sl e s b,_,_,_⟩=>match dt tt t' with
   |some ⟨.sl _ _ _,_,_,_⟩=>match dt tt e with
    |some i=>match nk i with
     |some z=>bif Nat.beq z.cells.length s&&Nat.blt 0 b then(match qc (bD fr cf) (gu fr own cf) s y with
      |some ds2=>match aH (bD fr cf) x with
       |some (.rw nm)=>match gu fr own cf nm with
        |some (.b e' s' ds false)=>bif (Nat.beq e' e&&Nat.beq s' s)&&!Nat.beq nm d then some (d,nm,e,s,b,ds,ds2) else none
        |_=>none
       |_=>none
      |none=>none) else none
     |none=>none
    |none=>none
   |_=>none
  |_=>none
 |_=>none
def P6[fu:Fu]{d nm:Nat}{e s b:Nat}{ds ds2:List DV}(ds':List DV)(h:L0 fr own cf=some (d,nm,e,s,b,ds,ds2))(hds:ds++ds2=ds')(ho2:ew s ds2)(hgo:cD tt n fu.n fr own cf (.rw d) [(nm,none),(d,some (.b e s ds' false))] [d]=⟨vc,fr',own',cf'⟩)(k:ak prog GB C n Q0 fr' own' cf')
  (hbd:(ds.length+ds2.length)*b<=140737488355328:=by simp;omega)
  (hv:ah vc:=by first|exact trivial|(simp only[ah];kernel_rfl)|(simp only[ah];omega)|(simp only[ah,aJ,aT,aV];omega)):ak prog GB C n Q0 fr own cf:=by
 unfold L0 at h;split at h<;>try (cases h;done)
 rename_i hh;split at h<;>try (cases h;done)
 rename_i hT;split at h<;>try (cases h;done)
 rename_i hT';split at h<;>try (cases h;done)
 rename_i hi;split at h<;>try (cases h;done)
 rename_i hz;rw[cond_eq_ite] at h;split at h<;>try (cases h;done)
 rename_i hc;simp only[aL] at hc;split at h<;>try (cases h;done)
 rename_i hy;have:=jc (et _ _ hT) J;have hN:jO prog _:=⟨_,(jc (et _ _ hT') J).un⟩;split at h<;>try (cases h;done)
 rename_i hx;split at h<;>try (cases h;done)
 rename_i hb;rw[cond_eq_ite] at h;split at h<;>cases h;rename_i hq;simp only[aL,iJ] at hq
 cases aU hq.1.1
 cases aU hq.1.2
 exact us hh (ZK (et _ _ hi) hz hc.1 hx hb hy ho2 hc.2 hbd hq.2 hds) hgo hv k
end
end Go.Sx
end
