import Derived.Test.YtmdgdhokaffbkaaGreatDoorMz7
set_option linter.all false
set_option maxHeartbeats 2000000
set_option maxRecDepth 100000
section
namespace Go.Sx
open Go Go.Proofs Tryz
variable {GB:Gh}{C:aG}{n b:Nat}{Q0:Exit->Act->World->Prop}{fr fr':aD}{own':aI}{cf cf':Cf}{vc:List Prop}{dso:List DV}{ops:Array Oper}{r:List Oper}{K:List Kt}{p q:Int}
section
variable {own:aI}
def mkc[fu:Fu]{d e s:Nat}{z:DV}{k':IntKind}(cap:Nat)(h:Fl fr cf=some ⟨d,e,s,b,z,0⟩)(hy:(match de fr cf with|some ⟨_, .makeSlice _ _ y,_,_,_,_⟩=>aP (cj fr cf) y|_=>none)=some (.d (.v (.int k' (cap:Nat)))))
  (hgo:cF tt n fu.n fr own cf (.rw d) [(d,some (.c e s [] cap))] [d]=⟨vc,fr',own',cf'⟩)(k:av prog GB C n Q0 fr' own' cf')(hb:b*cap<=140737488355328:=by omega)(hl:cap<=1152921504606846976:=by omega)
  (hv:autoParam (ak vc) cL._auto_1):av prog GB C n Q0 fr own cf:=by
 unfold Fl at h;split at h<;>try (cases h;done)
 rename_i hh;split at h<;>try (cases h;done)
 rename_i hx;split at h<;>try (cases h;done)
 rename_i hT;split at h<;>try (cases h;done)
 rename_i hi;split at h<;>try (cases h;done)
 rename_i hz;rw[cond_eq_ite] at h;split at h<;>cases h;rename_i hs;rw[hh] at hy;have:=jG (fe _ _ hT) J;exact us hh (aJ2 (fe _ _ hi) hz hs hx hy hb hl) hgo hv k
structure aOd where
 d:Nat
 nm:Nat
 e:Nat
 s:Nat
 ds:List DV
 ds2:List DV
 cap:Nat
def OG(fr:aD)(own:aI)(cf:Cf):Option aOd:=match de fr cf with
 |some ⟨some d, .call ⟨.builtin .append,⟨[x,y]⟩,⟨[t,t']⟩⟩,_,_,_,_⟩=>match d9 tt t,d9 tt t' with
  |some ⟨.sl e s _,_,_,_⟩,some ⟨.sl _ _ _,_,_,_⟩=>match aP (cj fr cf) x with
   |some (.rw nm)=>match jd fr own cf nm,q8 (cj fr cf) (jd fr own cf) s y with
    |some (.c e' s' ds cap),some ds2=>bif (Nat.beq e' e&&Nat.beq s' s)&&!Nat.beq nm d then some ⟨d,nm,e,s,ds,ds2,cap⟩ else none
    |_,_=>none
   |_=>none
  |_,_=>none
 |_=>none
def W6[fu:Fu]{d nm e s cap:Nat}{ds ds2:List DV}(ds':List DV)(h:OG fr own cf=some ⟨d,nm,e,s,ds,ds2,cap⟩)(hds:ds++ds2=ds')(ho2:dm s ds2)(hc:ds.length+ds2.length<=cap)(hgo:cF tt n fu.n fr own cf (.rw d) [(nm,none),(d,some (.c e s ds' cap))] [d]=⟨vc,fr',own',cf'⟩)(k:av prog GB C n Q0 fr' own' cf')
  (hp:0<ds2.length:=by simp)(hv:autoParam (ak vc) cL._auto_1):av prog GB C n Q0 fr own cf:=by
 subst hds;unfold OG at h;split at h<;>try (cases h;done)
 rename_i hh;split at h<;>try (cases h;done)
 rename_i hT hT';split at h<;>try (cases h;done)
 rename_i hx;split at h<;>try (cases h;done)
 rename_i hb hy;rw[cond_eq_ite] at h;split at h<;>cases h;rename_i h2;simp only[bR,iK] at h2
 cases bQ h2.1.1
 cases bQ h2.1.2
 have:=jG (fe _ _ hT) J;have hN:kz prog _:=⟨_,(jG (fe _ _ hT') J).un⟩;exact us hh (aHK hx hb hy ho2 hc hp h2.2) hgo hv k
def PI(GB:Gh)(P:Program)(f:FuncId)(i:Int)(s:Nat)(ty ty2:TypeId)(ds:List DV)(x:DV)(cap:Nat)(dso:List DV):Prop:=
 ∀G w w2 B B2,b9 GB G->dO G ⟨w,s,ty,ds,false⟩ B->cap<=w.c->dO G ⟨w2,s,ty2,[x],false⟩ B2->iO P f [.slice w.a w.n w.c, .int .i64 i, .slice w2.a w2.n w2.c] (B++B2) G fun v own' G'=> ∃w',v= .slice w'.a w'.n w'.c/\dO G' ⟨w',s,ty,dso,false⟩ own'
structure VZ where
 f:FuncId
 nm:Nat
 nm2:Nat
 i:Int
 ty:TypeId
 ty2:TypeId
 s:Nat
 ds:List DV
 x:DV
 cap:Nat
 d:Nat
def Uy(fr:aD)(own:aI)(cf:Cf):Option VZ:=match de fr cf with
 |some ⟨some d, .call ⟨.value fo,⟨[x1,x2,x3]⟩,_⟩,_,_,_,_⟩=>match aP (cj fr cf) fo,aP (cj fr cf) x1 with
  |some (.d (.v (.func (.func f) ⟨[]⟩ ⟨[]⟩))),some (.rw nm)=>match aP (cj fr cf) x2,aP (cj fr cf) x3 with
   |some (.d (.v (.int .i64 i))),some (.rw nm2)=>match jd fr own cf nm,jd fr own cf nm2 with
    |some (.c ty s ds cap),some (.b ty2 s2 [x] true)=>bif (!Nat.beq nm d&&!Nat.beq nm2 d)&&(!Nat.beq nm nm2&&(Nat.beq s2 s&&Nat.blt 0 cap)) then some ⟨f,nm,nm2,i,ty,ty2,s,ds,x,cap,d⟩ else none
    |_,_=>none
   |_,_=>none
  |_,_=>none
 |_=>none
def Wh{lk:LK}{bk:BM}{fo x1 x2 x3:Operand}{tys:Array TypeId}{f:FuncId}{nm nm2 d cap s:Nat}{i:Int}{ty0 ty2:TypeId}{ty:TypeId}{pos:String}{af:Array Edge}{gd:Option (Nat×Bool)}{ds:List DV}{x:DV}(hne:Nat.beq nm d=false)(hne2:Nat.beq nm2 d=false)(hn2:Nat.beq nm nm2=false)(hcp:0<cap)
  (h0:aP lk fo=some (.d (.v (.func (.func f) ⟨[]⟩ ⟨[]⟩))))(h1:aP lk x1=some (.rw nm))(h2:aP lk x2=some (.d (.v (.int .i64 i))))(h3:aP lk x3=some (.rw nm2))(hb:bk nm=some (.c ty0 s ds cap))(hb2:bk nm2=some (.b ty2 s [x] true))(hF:PI GB prog f i s ty0 ty2 ds x cap dso):
  cg prog GB C n lk bk ⟨some d, .call ⟨.value fo,⟨[x1,x2,x3]⟩,tys⟩,ty,pos,af,gd⟩ (.rw d) [(nm,none),(nm2,none),(d,some (.b ty0 s dso true))] [d]:=by
 intro hd tl tb K' s1 s2 hf hk;refine⟨fun ρ G ov a w r Q=>?_⟩;have r1:=r.mono s1 s2;obtain⟨y,hy,hy'⟩:=r1.ev h0;rw[(aO (G:=G)).1 hy'] at hy;obtain⟨y1,p1,p1'⟩:=r1.ev h1
 cases (show y1=_ from p1')
 obtain⟨y2,p2,p2'⟩:=r1.ev h2;rw[dl] at p2';subst p2';obtain⟨y3,p3,p3'⟩:=r1.ev h3
 cases (show y3=_ from p3')
 have hnn:nm≠d:=fun e=>by subst e;rw[oL] at hne;cases hne
 have hnn2:nm2≠d:=fun e=>by subst e;rw[oL] at hne2;cases hne2
 have hnm:nm≠nm2:=fun e=>by subst e;rw[oL] at hn2;cases hn2
 obtain⟨B,g1,g2⟩:=r1.bx _ _ hb;obtain⟨B2,k1,k2⟩:=r1.bx _ _ hb2;obtain⟨vs,q1,q2,q3,q4,q5⟩:=g1;have hB:dO G ⟨ρ nm,s,ty0,ds,false⟩ B:=⟨vs,q1,q2,q3,fun h=>by cases h⟩;have hB2:dO G ⟨ρ nm2,s,ty2,[x],false⟩ B2:=dO.weak (lo:=true) k1;have e1: ∃o,B=[o]/\(ρ nm).a=some ⟨o.b,0,none⟩:=by
  rcases q1 with⟨_,e,_⟩|⟨b,rest,lo',e,rfl,_⟩
  .rw[e] at q5;simp at q5;omega
  .exact⟨_,J,by rw[e]⟩
 have e2: ∃o,B2=[o]/\(ρ nm2).a=some ⟨o.b,0,none⟩:=by
  obtain⟨vs2,c1,c2,_⟩:=k1;rcases c1 with⟨e,_,_⟩|⟨b,rest,lo',e,rfl,_⟩
  .subst e;have:=c2.len;simp at this
  .exact⟨_,J,by rw[e]⟩
 obtain⟨o1,rfl,a1⟩:=e1;obtain⟨o2,rfl,a2⟩:=e2;have hob:o1.b≠o2.b:=fun e=>r.dj nm nm2 _ _ (s2 _ _ hb) (s2 _ _ hb2) hnm _ a1 (by rw[a2,e]);have hp: ∃rest,ov.Perm ([o1]++[o2]++rest):=by
  obtain⟨l1,l2,e3⟩:=mZ (g2 _ aQ);have hm:=k2 _ aQ;rw[e3] at hm⊢;have hm2:o2∈l1++l2:=by
   rcases aL.1 hm with h|h
   .exact bJ _ h
   .rcases aV.1 h with h|h
    .exact absurd (by rw[h]) hob
    .exact aM _ h
  obtain⟨l3,l4,e4⟩:=mZ hm2;refine⟨l3++l4,List.perm_middle.trans ?_⟩;rw[e4];exact(oQ (l₁:=l3) (l₂:=l4) (a:=o2)).cons o1
 obtain⟨rest,h5⟩:=hp;have h6: ∀o∈ov,o.b≠o1.b->o.b≠o2.b->o∈rest:=fun o ho n1 n2=>by
  have:=h5.mem_iff.1 ho;simp only[iV,kQ,aV] at this;rcases this with rfl|rfl|h
  .exact absurd J n1
  .exact absurd J n2
  .exact h
 have hlo2: ∀o∈[o2],o.lo=true:=by obtain⟨_,_,_,_,h⟩:=k1;exact h rfl
 have hall: ∀o∈[o1]++[o2],o.lo=true:=fun o ho=>by
  rcases aL.1 ho with h|h
  .exact q4 o h
  .exact hlo2 o h
 refine vR (M:=[o1]++[o2]) (rest:=rest) (vs:=[.slice (ρ nm).a (ρ nm).n (ρ nm).c, .int .i64 i, .slice (ρ nm2).a (ρ nm2).n (ρ nm2).c]) hy (by simp only[gk,p1,p2,p3]) h5 (hF G (ρ nm) (ρ nm2) [o1] [o2] r.gb hB q5 hB2) hd (fun v own1 G' hG hK a' w' rl=>?_) a w Q ⟨r.h,r.sz,dh a,r.df⟩;obtain⟨z,rfl,vs',k1',k2',k3',k4'⟩:=hK;have hs1:=k1'.relo (ig ([o1]++[o2]));have e3: ∀o∈own1.map (relo (ig ([o1]++[o2]))),o.lo=true:=fun o ho=>by
  obtain⟨o',_,rfl⟩:=aT.1 ho;exact A4 _ hall
 generalize own1.map (relo (ig ([o1]++[o2])))=B' at rl e3 hs1;have rl':iw C n (Sx.put (cI a) (some d) (.slice z.a z.n z.c)) (B'++rest) G' a' w':=rl;have hdis:=(gR.1 rl'.h.nd).2.2;have rd:=(r.dropB nm).dropB nm2;have hin: ∀q B0,Sx.upB (Sx.upB tb [(nm,none)]) [(nm2,none)] q=some B0->q≠nm/\q≠nm2/\tb q=some B0:=fun q B0 e=>by
  simp only[Sx.upB] at e;split at e
  .cases e
  .split at e
   .cases e
   .exact⟨v7,v7,e⟩
 have hf2:kH [d] (some d) tl (Sx.upB (Sx.upB tb [(nm,none)]) [(nm2,none)]):=fun q hq=>by
  obtain⟨f1,f2⟩:=hf q hq;exact⟨f1,fun k B e1 e=>f2 k B e1 (hin k B e).2.2⟩
 have hsep: ∀q B0,Sx.upB (Sx.upB tb [(nm,none)]) [(nm2,none)] q=some B0-> ∀o∈ov,(ρ q).a=some ⟨o.b,0,none⟩->o∈rest:=fun q B0 e o ho hbq=>by
  obtain⟨n1,n2,n3⟩:=hin q B0 e;exact h6 o ho (fun e'=>r.dj nm q _ _ (s2 _ _ hb) n3 (Ne.symm n1) _ a1 (by rw[hbq,e'])) (fun e'=>r.dj nm2 q _ _ (s2 _ _ hb2) n3 (Ne.symm n2) _ a2 (by rw[hbq,e']))
 have r3:=rd.new' (x:=z) (B':= .b ty0 s dso true) (os:=B') (ov':=B'++rest) (f:= .rw d) (y:= .slice z.a z.n z.c) hf2 hG.le rl'.h ⟨vs',by simpa using hs1,k2',k3',fun _=>e3⟩ (fun o ho=>bJ _ ho)
  (fun q B0 hq e o ho hbq=>⟨aM _ (hsep q B0 e o ho hbq),fun hc=>by
   have hx: ∃o1∈B',o1.b=o.b:=by
    rcases hs1 with⟨_,h,_⟩|⟨b0,rest0,lo0,h,hB,_⟩
    .rw[show z=_ from h] at hc;cases hc
    .rw[show z=_ from h] at hc;cases hc;exact⟨⟨_,aF vs'++rest0,_,lo0⟩,by rw[hB];exact aQ,J⟩
   obtain⟨o3,ho3,he3⟩:=hx;exact hdis o3 ho3 o (hsep q B0 e o ho hbq) he3⟩) okK (kd rl')
 exact hk.run _ G' _ a' w' r3
def ci[fu:Fu]{f:FuncId}{nm nm2 d cap s:Nat}{i:Int}{ty ty2:TypeId}{ds:List DV}{x:DV}(dso':List DV)(ha:Uy fr own cf=some ⟨f,nm,nm2,i,ty,ty2,s,ds,x,cap,d⟩)(hF:PI GB prog f i s ty ty2 ds x cap dso)(he:dso=dso')
  (hgo:cF tt n fu.n fr own cf (.rw d) [(nm,none),(nm2,none),(d,some (.b ty s dso' true))] [d]=⟨vc,fr',own',cf'⟩)(k:av prog GB C n Q0 fr' own' cf')
  (hv:autoParam (ak vc) cL._auto_1):av prog GB C n Q0 fr own cf:=by
 subst he;unfold Uy at ha;split at ha<;>try (cases ha;done)
 rename_i hh;split at ha<;>try (cases ha;done)
 rename_i h0 h1;split at ha<;>try (cases ha;done)
 rename_i h2 h3;split at ha<;>try (cases ha;done)
 rename_i hb hb2;rw[cond_eq_ite] at ha;split at ha<;>cases ha;rename_i hc;simp only[bR,iK,lY] at hc;obtain⟨⟨c1,c2⟩,c3,c4,c5⟩:=hc
 cases bQ c4
 exact us hh (Wh c1 c2 c3 c5 h0 h1 h2 h3 hb hb2 hF) hgo hv k
def mo(d:Nat)(hl:bi fr d=some (.d (.v (.bool true))))(k:av prog GB C n Q0 ((d, .tt)::fr) own (.ops ops r K)):av prog GB C n Q0 fr own (.ops ops r K):=qD (g:= .tt) hl (fun _ G _ e=>(aO (G:=G)).1 e) k
def p6(d:Nat)(hl:bi fr d=some (.d (.v (.bool false))))(k:av prog GB C n Q0 ((d, .ff)::fr) own (.ops ops r K)):av prog GB C n Q0 fr own (.ops ops r K):=qD (g:= .ff) hl (fun _ G _ e=>(aO (G:=G)).1 e) k
end
section
variable {own:aI}
def Ol(fr:aD)(cf:Cf):Option (Int×Int):=match de fr cf with
 |some ⟨_, .binOp .xor _ x y _,_,_,_,_⟩=>match aP (cj fr cf) x,aP (cj fr cf) y with
  |some (.d (.v (.int .u32 p))),some (.d (.v (.int .u32 q)))=>some (p,q)
  |_,_=>none
 |_=>none
def xr[fu:Fu](u:Int)(h:Ol fr cf=some (p,q))(e:(((BitVec.ofInt 32 p^^^BitVec.ofInt 32 q).toNat:Nat):Int)=u)(hgo:cF tt n fu.n fr own cf (.d (.v (.int .u32 u))) [] []=⟨vc,fr',own',cf'⟩)(k:av prog GB C n Q0 fr' own' cf')
  (hv:autoParam (ak vc) cL._auto_1):av prog GB C n Q0 fr own cf:=by
 unfold Ol at h;split at h<;>try (cases h;done)
 rename_i hh;split at h<;>cases h;rename_i h1 h2;subst e;exact us hh (.yd fun ρ G ov a w r=>by
  obtain⟨y1,h3,h4⟩:=r.ev h1;obtain⟨y2,h5,h6⟩:=r.ev h2;rw[dl] at h4 h6;subst h4 h6;exact⟨_,dl.2 J,l7 h3 h5 fun w=>by
   show(pure (Value.int .u32 (IntKind.u32.wrap ((BitVec.ofInt 32 p^^^BitVec.ofInt 32 q).toNat:Int))):Sem Value).run prog w=_;rw[Dz];rfl⟩) hgo hv k
def Pq(fr:aD)(cf:Cf):Option (Int×Int):=match de fr cf with
 |some ⟨_, .binOp .sub _ x y _,_,_,_,_⟩=>match aP (cj fr cf) x,aP (cj fr cf) y with
  |some (.d (.v (.int .u32 p))),some (.d (.v (.int .u32 q)))=>some (p,q)
  |_,_=>none
 |_=>none
def sw[fu:Fu](u:Int)(h:Pq fr cf=some (p,q))(e:(p-q)%4294967296=u)(hgo:cF tt n fu.n fr own cf (.d (.v (.int .u32 u))) [] []=⟨vc,fr',own',cf'⟩)(k:av prog GB C n Q0 fr' own' cf')
  (hv:autoParam (ak vc) cL._auto_1):av prog GB C n Q0 fr own cf:=by
 unfold Pq at h;split at h<;>try (cases h;done)
 rename_i hh;split at h<;>cases h;rename_i h1 h2;subst e;exact us hh (.yd fun ρ G ov a w r=>by
  obtain⟨y1,h3,h4⟩:=r.ev h1;obtain⟨y2,h5,h6⟩:=r.ev h2;rw[dl] at h4 h6;subst h4 h6;exact⟨_,dl.2 J,by rw[<-u'];exact aFe h3 h5⟩) hgo hv k
def Vc(fr:aD)(cf:Cf):Option Int:=match de fr cf with
 |some ⟨_, .unOp .xor _ x,_,_,_,_⟩=>match aP (cj fr cf) x with
  |some (.d (.v (.int .u32 p)))=>some p
  |_=>none
 |_=>none
def nt[fu:Fu](u:Int)(h:Vc fr cf=some p)(e:(((BitVec.ofInt 32 IntKind.u32.max^^^BitVec.ofInt 32 p).toNat:Nat):Int)=u)(hgo:cF tt n fu.n fr own cf (.d (.v (.int .u32 u))) [] []=⟨vc,fr',own',cf'⟩)(k:av prog GB C n Q0 fr' own' cf')
  (hv:autoParam (ak vc) cL._auto_1):av prog GB C n Q0 fr own cf:=by
 unfold Vc at h;split at h<;>try (cases h;done)
 rename_i hh;split at h<;>cases h;rename_i hx;subst e;refine us hh (.x1 hx fun ρ G ov a w y _ r h1 h2=>?_) hgo hv k;rw[dl] at h2;subst h2;refine⟨_,dl.2 J,fun a w hf hh=>?_⟩;simp only[execOp,bC hf h1];refine dq (w':=w) ?_;show(pure (Value.int .u32 (IntKind.u32.wrap ((BitVec.ofInt 32 IntKind.u32.max^^^BitVec.ofInt 32 p).toNat:Int))):Sem Value).run prog w=_;rw[Dz];rfl
end

end Go.Sx
end
section
namespace Go.Sx
open Go
variable {ds:List Nat}{i n k k' a b j d:Nat}{G:Gh}{v:Value}
def dU(d:Nat):DV:= .v (.int .u32 (d:Int))
def et(ds:List Nat):DV:= .sl (ds.map dU)
def dN(n:Nat):DV:= .sl ((dg n).map dU)
def dD(n:Nat):DV:= .sl (if n=1 then [] else(dg n).map dU)
def eI(m:Int):DV:= .ag [.v (.bool (decide (m<0))),dN m.natAbs]
def eQ(q:Rat):DV:= .ag [.v (.bool (decide (q.num<0))),dN q.num.natAbs,dD q.den]
def eP(p:aa):DV:= .ag [.v (.bool (decide (p.x.num<0))),dN p.x.num.natAbs,dD p.x.den, .v (.bool (decide (p.y.num<0))),dN p.y.num.natAbs,dD p.y.den]
def eL(l:ah):DV:= .ag [.v (.bool (decide (l.a<0))),dN l.a.natAbs, .v (.bool (decide (l.b<0))),dN l.b.natAbs, .v (.bool (decide (l.c<0))),dN l.c.natAbs]
def eR(q:Rat):DV:= .ag [.v (.bool (decide (q.num<0))),dN q.num.natAbs,dN q.den]
def oc(p:aa):DV:= .ag [.v (.bool (decide (p.x.num<0))),dN p.x.num.natAbs,dN p.x.den, .v (.bool (decide (p.y.num<0))),dN p.y.num.natAbs,dN p.y.den]
def vI(n:Int):DV:= .v (.int .i64 n)
def vB(b:Bool):DV:= .v (.bool b)
def Lk(n:Nat):dN n=et (dg n):=rfl
def YS(h:bF ds):et (trimD ds)=dN (dv ds):=by unfold et dN;rw[CE h]
def Za(h:i<ds.length):(ds.map dU)[i]? =some (dU (ds.getD i 0)):=by
 rw[cZ,aZ h,aK,aZ h];rfl
def gc(h:i<ds.length:=by omega):(ds.map dU)[(i:Int).toNat]? =some (dU (ds.getD i 0)):=by rw[cX];exact Za h
def kD(ds:List Nat)(i d:Nat):(ds.map dU).set i (.v (.int .u32 (d:Int)))=(ds.set i d).map dU:=by rw[jM];rfl
def oE(n:Nat):List.replicate n (DV.v (.int .u32 0))=(List.replicate n 0).map dU:=by rw[List.map_replicate];rfl
def sO(ds:List Nat):dm 1 (ds.map dU):=fun d hd=>by
 obtain⟨n,_,rfl⟩:=aT.1 hd;exact⟨rfl,rfl⟩
def fi(n:Nat)(i:Nat):(dg n).getD i 0<4294967296:=(gE n).2.1.get i
def wm:dg 0=[]:=by rw[dg,dif_pos J]
def B5:dg 1=[1]:=by rw[dg,dif_neg pb];simp[wm]
def wh{n:Nat}:(dg n).length=0↔n=0:=by
 constructor
 .intro h
  have:=(gE n).1;rw[cJ h] at this;exact this.symm
 .rintro rfl;rw[wm];rfl
def pe:dN 0= .sl []:=by unfold dN;rw[wm];rfl
def Dg{G:Gh}: ∀{ds:List Nat} {es:List Value},IsLs G (ds.map dU) es↔es=ds.map dI
 |[],es=>fj
 |d::t,es=>by
  rw[bY,bj];constructor
  .rintro ⟨y,n,rfl,h1,h2⟩
   rw[aO.1 h1,Dg.1 h2];rfl
  .rintro rfl
   exact⟨_,_,J,aO.2 J,Dg.2 J⟩
def Hm:Is G (et ds) v↔ ∃x:SV,v= .slice x.a x.n x.c/\gH G 1 x (ds.map dI):=by
 unfold et;rw[il];constructor
 .rintro ⟨s,x,es,rfl,h1,h2⟩
  have:=Dg.1 h2;subst this;refine⟨x,J,?_⟩;rcases A' (s:=1) h1 h2 (sO ds) with h|h
  .rw[h] at h1⊢
   exact⟨h1.len,h1.cap, .inl J⟩
  .subst h;exact h1
 .rintro ⟨x,rfl,h⟩
  exact⟨1,x,_,J,h,Dg.2 J⟩
def O4(hk:n<2^k):Is G (dN n) v↔ ∃x:SV,v= .slice x.a x.n x.c/\Bv k G x n:=by
 rw[Lk,Hm];constructor
 .rintro ⟨x,rfl,h⟩
  exact⟨x,J,⟨(gE n).2.1,h⟩,hk⟩
 .rintro ⟨x,rfl,h⟩
  exact⟨x,J,h.d.sl⟩
def di{i:Int}(hi:i=k:=by omega)(h:k<ds.length:=by omega):(ds.map dU)[i.toNat]? =some (dU (ds.getD k 0)):=by subst hi;exact gc h
class BN (n:Nat) (k:outParam Nat):Prop where h:n<2^k
class BI (m:Int) (k:outParam Nat):Prop where h:m.natAbs<2^k
class BQ (q:Rat) (k:outParam Nat):Prop where
 hn:q.num.natAbs<2^k
 hd:q.den<2^k
theorem BN.mono(h:BN n k)(hk:k<=k'):BN n k':=⟨cN h.h (bT pb hk)⟩
def mv(h:a<2^i)(k:b<2^j):a*b<2^(i+j):=by rw[fU];exact pT h k
def RB(h:a<2^i)(k:b<2^j):a+b<2^(i+j+1):=by
 have h1:2^i<=2^(i+j):=bT pb m5;have h2:2^j<=2^(i+j):=bT pb m5;rw[iZ];omega
instance BN.mul (a b i j:Nat) [h:BN a i] [k:BN b j]:BN (a*b) (i+j):=⟨mv h.h k.h⟩
instance BN.div (a b i:Nat) [h:BN a i]:BN (a/b) i:=⟨fQ (nY _ _) h.h⟩
instance BN.abs (m:Int) (i:Nat) [h:BI m i]:BN m.natAbs i:=⟨h.h⟩
instance BN.den (q:Rat) (i:Nat) [h:BQ q i]:BN q.den i:=⟨h.hd⟩
def NT(h:a<2^i)(k:b<2^j):Nat.gcd a b<2^(i+j):=by
 have h1:2^i<=2^(i+j):=bT pb m5;have h2:2^j<=2^(i+j):=bT pb m5;rcases fW a with h0|h0
 .subst h0;rw[Nat.gcd_zero_left];omega
 .have:=Nat.gcd_le_left b h0;omega
instance BN.gcd (a b i j:Nat) [h:BN a i] [k:BN b j]:BN (Nat.gcd a b) (i+j):=⟨NT h.h k.h⟩
instance BN.one:BN 1 1:=⟨pb⟩
instance BI.mul (a b:Int) (i j:Nat) [h:BI a i] [k:BI b j]:BI (a*b) (i+j):=⟨by rw[fL];exact mv h.h k.h⟩
instance BI.add (a b:Int) (i j:Nat) [h:BI a i] [k:BI b j]:BI (a+b) (i+j+1):=⟨fQ (Int.natAbs_add_le a b) (RB h.h k.h)⟩
instance BI.sub (a b:Int) (i j:Nat) [h:BI a i] [k:BI b j]:BI (a-b) (i+j+1):=⟨fQ (Int.natAbs_sub_le a b) (RB h.h k.h)⟩
instance BI.neg (a:Int) (i:Nat) [h:BI a i]:BI (-a) i:=⟨by rw[jX];exact h.h⟩
instance BI.num (q:Rat) (i:Nat) [h:BQ q i]:BI q.num i:=⟨h.hn⟩
instance BI.nat (n:Nat) (i:Nat) [h:BN n i]:BI (n:Int) i:=⟨by rw[fK];exact h.h⟩
def nE(q:Rat):0<q.den:=iR q.den_nz
theorem uT{m:Int}(hd:0<d)(h:m.natAbs<2^i)(k:d<2^i:=by decide):BQ (mkRat m d) i:=by
 refine⟨?_,?_⟩
 .rw[Rat.num_mkRat,if_neg m5]
  have:=oU m (d.gcd m.natAbs:Nat);omega
 .rw[Rat.den_mkRat,if_neg m5]
  have:=nY d (d.gcd m.natAbs);omega
theorem BQ.mono{q:Rat}(h:BQ q k)(hk:k<=k':=by decide):BQ q k':=⟨cN h.hn (bT pb hk),cN h.hd (bT pb hk)⟩
def Bx(p q:Rat):p*q=mkRat (p.num*q.num) (p.den*q.den):=by rw[Rat.mul_def,Rat.normalize_eq_mkRat]
def Cr(p q:Rat):p+q=mkRat (p.num*q.den+q.num*p.den) (p.den*q.den):=by rw[Rat.add_def,Rat.normalize_eq_mkRat]
instance BQ.mul (p q:Rat) (i j:Nat) [h:BQ p i] [k:BQ q j]:BQ (p*q) (i+j):=by
 rw[Bx];exact uT (iM (nE p) (nE q)) (BI.mul p.num q.num i j).h (mv h.hd k.hd)
instance BQ.add (p q:Rat) (i j:Nat) [h:BQ p i] [k:BQ q j]:BQ (p+q) (i+j+1):=by
 rw[Cr];refine uT (iM (nE p) (nE q)) ?_ ?_
 .have h1:=mv h.hn k.hd
  have h2:=mv k.hn h.hd;have h3:(p.num*q.den+q.num*p.den).natAbs<=(p.num*q.den).natAbs+(q.num*p.den).natAbs:=Int.natAbs_add_le ..;rw[fL,fL,fK,fK] at h3;rw[lK j i] at h2;rw[iZ];omega
 .have h1:=mv h.hd k.hd
  rw[iZ];omega
instance BQ.neg (p:Rat) (i:Nat) [h:BQ p i]:BQ (-p) i:=⟨by rw[nQ,jX];exact h.hn,by rw[qU];exact h.hd⟩
instance BQ.sub (p q:Rat) (i j:Nat) [h:BQ p i] [k:BQ q j]:BQ (p-q) (i+j+1):=by
 rw[Rat.sub_eq_add_neg];exact BQ.add p (-q) i j
instance BQ.ofInt (m:Int) (i:Nat) [h:BI m i]:BQ (m:Rat) (i+1):=by
 refine⟨?_,?_⟩
 .rw[lL];have:=h.h;rw[iZ];omega
 .rw[lM];have:0<2^i:=gW pb;rw[iZ];omega
end Go.Sx
end
section
namespace Go.Sx
open Go Go.Proofs Tryz
variable {GB:Gh}{ds A B W:List Nat}{n x y c a k i b u ia ib d c2 j m s w h q t:Nat}{f:FuncId}{rows rws:List DV}{ty ty2:TypeId}{fb:Func}
def E6(p q:Int):Nat:=(BitVec.ofInt 32 p &&& BitVec.ofInt 32 q).toNat
def GC(p q:Int):Nat:=(BitVec.ofInt 32 p ||| BitVec.ofInt 32 q).toNat
def A3(p q:Int):Nat:=(BitVec.ofInt 32 p^^^BitVec.ofInt 32 q).toNat
def Sc(h:0<n/\n<=ds.length)(hz:ds.getD (n-1) 0=0):trimD (ds.take n)=trimD (ds.take (n-1)):=by
 obtain⟨m,rfl⟩: ∃m,n=m+1:=⟨n-1,m5⟩;rw[jY m5,mL];rw[mL,aK,aZ m5] at hz;simp only[lJ] at hz;rw[hz,arg]
def Oe(h:n<=ds.length)(hz:0<n->ds.getD (n-1) 0≠0):trimD (ds.take n)=ds.take n:=by
 rcases fW n with h0|h0
 .subst h0;simp[trimD]
 .obtain⟨m,rfl⟩: ∃m,n=m+1:=⟨n-1,m5⟩
  have hz:=hz h0;rw[jY m5];rw[mL,aK,aZ m5] at hz;exact Qc (by simpa using hz)
def YW(hx:x<4294967296)(hy:y<4294967296)(hc:c<=1):PF GB prog 203 [.v (.int .u32 (x:Int)), .v (.int .u32 (y:Int)), .v (.int .u32 (c:Int))] (.tp [.v (.int .u32 (((x+y+c)%4294967296:Nat):Int)), .v (.int .u32 (((x+y+c)/4294967296:Nat):Int))]):=by
 refine fn (hv:=by simp only[ak];exact⟨⟨⟨⟨⟨m5,m5⟩,m5⟩,m5⟩,m5⟩,pb⟩) func203 J J ntmps203 J J (fun C=>?_);exact rz J (by
  have e1:((x:Int)+y+c)%4294967296=(((x+y+c)%4294967296:Nat):Int):=by omega
  have e2:((x:Int)+y+c).fdiv (2^min (32:Int).toNat IntKind.u64.bits)%4294967296=(((x+y+c)/4294967296:Nat):Int):=by
   rw[show(2:Int)^min (32:Int).toNat IntKind.u64.bits=((4294967296:Nat):Int) from J,lQ _ pb];omega
  show DV.tp [.v (.int _ _), .v (.int _ _)]=_;rw[e1,e2])
def KC(n:Nat)(h:n<4294967296):(BitVec.ofInt 32 (n:Int)).msb=decide (2147483648<=n):=by
 rw[show BitVec.ofInt 32 (n:Int)=BitVec.ofNat 32 n from BitVec.ofInt_natCast ..];rw[BitVec.msb_eq_decide,BitVec.toNat_ofNat,iN omv]
def ayU(b:BitVec 32):b.toNat/2147483648=if b.msb then 1 else 0:=by
 have:=b.isLt;rw[BitVec.msb_eq_decide];simp only[decide_eq_true_eq,Nat.reduceSub,Nat.reducePow] at*;split<;>omega
def VI(b:BitVec 32):BitVec.ofInt 32 (b.toNat:Int)=b:=by rw[BitVec.ofInt_natCast,BitVec.ofNat_toNat,BitVec.setWidth_eq]
def auG(hx:x<4294967296)(hy:y<4294967296)(hc:c<=1):
  ((GC (E6 (A3 IntKind.u32.max x:Nat) y:Nat) (E6 (A3 IntKind.u32.max (A3 x y:Nat):Nat) (IntKind.u32.wrap (IntKind.u32.wrap ((x:Int)-y)-c)):Nat):Nat):Int).fdiv (2^min (31:Int).toNat IntKind.u32.bits)=(((if x<y+c then 1 else 0):Nat):Int):=by
 rw[show((2:Int)^min (31:Int).toNat IntKind.u32.bits)=((2147483648:Nat):Int) from J,lQ _ pb,<-sN];congr 1;have hd: ∃d:Nat,d<4294967296/\IntKind.u32.wrap (IntKind.u32.wrap ((x:Int)-y)-c)=(d:Int)/\((x>=y+c/\d=x-(y+c))\/(x<y+c/\d=x+4294967296-(y+c))):=by
  rw[u',u'];refine⟨((((x:Int)-y)%4294967296-c)%4294967296).toNat,m5,m5,m5⟩
 obtain⟨d,hd1,hd2,hd3⟩:=hd;rw[hd2];unfold GC E6 A3;simp only[VI];rw[ayU];simp only[BitVec.msb_or,BitVec.msb_and,BitVec.msb_xor,KC x hx,KC y hy,KC d hd1];have h1:(BitVec.ofInt 32 IntKind.u32.max).msb=true:=by decide
 rw[h1];rcases jR x 2147483648 with a|a<;>rcases jR y 2147483648 with b|b<;>rcases jR d 2147483648 with e|e<;>
  simp[Nat.not_le.2, *]<;>(first|omega|(split<;>omega))
def ZX(hx:x<4294967296)(hy:y<4294967296)(hc:c<=1):IntKind.u32.wrap (IntKind.u32.wrap ((x:Int)-y)-c)=(((if x<y+c then x+4294967296-(y+c) else x-(y+c)):Nat):Int):=by
 rw[u',u'];split<;>omega
def aEw(hx:x<4294967296)(hy:y<4294967296)(hc:c<=1):PF GB prog 205 [.v (.int .u32 (x:Int)), .v (.int .u32 (y:Int)), .v (.int .u32 (c:Int))] (.tp [.v (.int .u32 (((if x<y+c then x+4294967296-(y+c) else x-(y+c)):Nat):Int)), .v (.int .u32 (((if x<y+c then 1 else 0):Nat):Int))]):=by
 refine fn (fu:=⟨10⟩) func205 J J ntmps205 J J (fun C=>?_);refine sw (fu:=⟨1⟩) _ J (u' _).symm J<|sw (fu:=⟨6⟩) _ J (u' _).symm J<|nt (fu:=⟨4⟩) _ J J J<|xr (fu:=⟨0⟩) _ J J J<|nt _ J J J<|rz J (by have h1:=auG hx hy hc;unfold GC E6 A3 at h1;show DV.tp [.v (.int _ _), .v (.int _ _)]=_;rw[h1,ZX hx hy hc])
def ub(hl:ds.length<=1125899906842624:=by omega):PF GB prog 128 [et ds] (et (trimD ds)):=by
 refine fn func128 J J ntmps128 J J (fun C=>?_);refine lp (X:=Nat) (fun n=>[(0, .d (et ds)),(3, .d (vI (n:Nat)))]) (fun n=>[]) (fun n=>n<=ds.length/\trimD ds=trimD (ds.take n)) (fun n=>n) ds.length J ⟨bW _,by rw[dX]⟩ (fun _=>J) (fun n hk=>?_);obtain⟨h1,h2⟩:=hk;refine cs 8 J J J (fun hg8=>?_) (fun hg8=>?_)
 .
  refine ix _ J (di (k:=n-1)) J<|br J J J (fun hc15=>?_) (fun hc15=>?_)
  .
   have hz:ds.getD (n-1) 0=0:=by omega
   exact at_ (n-1) ⟨⟨m5,by rw[h2,Sc m5 hz]⟩,m5⟩
  .
   refine kt 0 n _ J J J J (sO _) m5 omg J<|rz J (by have:=Oe h1 (fun _ h=>hc15 m5);rw[<-h2] at this;show DV.sl _=_;simp[et,this])
 .
  refine kt 0 n _ J J J J (sO _) m5 omg rfl<|rz rfl (by obtain rfl:n=0:=m5;show DV.sl _=_;simp[et,h2,trimD])
def wL(h:a<2^k)(hk:k<=1000000000):(dg a).length<=100000000:=by have:=lx h;omega
def dG(a:Nat):dv (dg a)=a:=(gE a).1
def ik(a:Nat):bF (dg a):=(gE a).2.1
def ck(ds:List Nat):(ds.map dU).length=ds.length:=aX ..
def ly(h:ds.length<=n:=by omega):ds.take n=ds:=bM h
def r8(h:ds.length<=i:=by omega):ds.getD i 0=0:=by
 rw[aK,dR h];rfl
def ma(h:bF ds)(e:dv ds=n):et (trimD ds)=dN n:=by rw[YS h,e]
def B7(h:a<b):jy a b= -1:=by unfold jy;rw[if_pos h]
def Cn(h:b<a):jy a b=1:=by unfold jy;rw[if_neg m5,if_neg m5]
def HQ(h:a=b):jy a b=0:=by unfold jy;rw[if_neg m5,if_pos h]
def ayE(m n:Nat):Int.sign ((m:Int)-n)=jy m n:=by
 unfold jy;split
 .exact dY m5
 .split
  .rw[show(m:Int)-n=0 by omega];rfl
  .exact eJ m5
def Ix(h:(dg a).length≠(dg b).length:=by omega):jy (dg a).length (dg b).length=jy a b:=by
 rcases Nat.lt_or_gt_of_ne h with h|h
 .have:=zg (ik a) (gE b).2.2 h
  rw[dG,dG] at this;rw[B7 h,B7 this]
 .have:=zg (ik b) (gE a).2.2 h
  rw[dG,dG] at this;rw[Cn h,Cn this]
def zj(hl:(dg a).length=(dg b).length)(hi:i<(dg a).length)(hs:(dg a).drop (i+1)=(dg b).drop (i+1)):
  ((dg a).getD i 0<(dg b).getD i 0->a<b)/\((dg b).getD i 0<(dg a).getD i 0->b<a)/\((dg a).getD i 0=(dg b).getD i 0->(dg a).drop i=(dg b).drop i):=by
 refine⟨fun h=>?_,fun h=>?_,fun h=>?_⟩
 .have:=Pt (ik a) (ik b) i hi m5 hl hs h
  rwa [dG,dG] at this
 .have:=Pt (ik b) (ik a) i m5 hi hl.symm hs.symm h
  rwa [dG,dG] at this
 .rw[bV hi,bV (by omega:i<(dg b).length),hs]
  rw[aK,aK,aZ hi,aZ (by omega:i<(dg b).length)] at h;simp only[lJ] at h;rw[h]
theorem okC{p:Prop}(h:p:=by show DV.v (.int _ 0)=DV.v (.int _ _);rw[show z=0 by omega];rfl):p:=h
theorem ozc{p:Prop}(h:p:=by show DV.v (.int _ (-1))=DV.v (.int _ _);rw[dY m5]):p:=h
theorem oze{p:Prop}(h:p:=by show DV.v (.int _ 1)=DV.v (.int _ _);rw[eJ m5]):p:=h
def aJk{z:Int}:PF GB prog 204 [vI z] (vI z.sign):=by
 refine fn func204 J J ntmps204 J J (fun C=>?_);refine br J J J (fun hc4=>?_) (fun hc4=>?_)
 .
  exact rz J oze
 .
  refine br J J J (fun hc6=>?_) (fun hc6=>?_)
  .
   exact rz J ozc
  .
   exact rz J okC
def RI(u:Nat):dv [u%4294967296,u/4294967296]=u:=by simp only[dv];omega
def Mx(h:u<18446744073709551616):bF [u%4294967296,u/4294967296]:= .cons m5 (.cons m5 .nil)
def qh(u:Nat):(u:Int).fdiv (2^min (32:Int).toNat IntKind.u64.bits)=((u/4294967296:Nat):Int):=by
 rw[show(2:Int)^min (32:Int).toNat IntKind.u64.bits=((4294967296:Nat):Int) from J,lQ _ pb];rfl
theorem omU{p:Prop}(h:p:=by show FX.d (.sl [.v (.int _ _), .v (.int _ _)])= .d (.sl [.v (.int _ _), .v (.int _ _)]);congr 6;omega):p:=h
theorem okh{p:Prop}(h:p:=by rw[qh]):p:=h
def ux(hu:u<18446744073709551616:=by omega):PF GB prog 127 [.v (.int .u64 (u:Int))] (dN u):=by
 refine fn (fu:=⟨11⟩) (hv:=by simp only[ak];exact pb) func127 J J ntmps127 J J (fun C=>?_);refine aj 6 (.d (.v (.int .u64 (u/4294967296:Nat)))) J okh<|gx J<|rf (fu:=⟨0⟩) J J<|aj 8 (.d (et [u%4294967296,u/4294967296])) J omU<|gx J<|cl J (ub (ds:=[u%4294967296,u/4294967296]) vb) J<|rz J (ma (Mx hu) (RI u))
theorem okx{p:Prop}(h:p:=by unfold dN;rw[B5];rfl):p:=h
def Dk:PF GB prog 125 [] (dN 1):=by
 refine fn func125 J J ntmps125 J J (fun C=>?_);refine rf J J<|rz J okx
def yD(ha:(dg a).length<=100000000:=by omega)(hb:(dg b).length<=100000000:=by omega):PF GB prog 122 [dN a,dN b] (vI (jy a b)):=by
 have hla:=ck (dg a);have hlb:=ck (dg b);refine fn func122 J J ntmps122 J J (fun C=>?_);refine br J J J (fun hc10=>?_) (fun hc10=>?_)
 .
  refine cl J aJk J<|rz J (by show DV.v (.int _ _)=DV.v (.int _ _);rw[hla,hlb,ayE,Ix])
 .
  have hl:(dg a).length=(dg b).length:=by omega
  refine lp (X:=Nat) (fun k=>[(0, .d (dN a)),(1, .d (dN b)),(5, .d (vI ((k:Nat)-1)))]) (fun k=>[]) (fun k=>k<=(dg a).length/\(dg a).drop k=(dg b).drop k) (fun k=>k) (dg a).length J ⟨bW _,by rw[fR,hl,fR]⟩ (fun _=>J) (fun k hk=>?_);obtain⟨h1,h2⟩:=hk;refine br J J J (fun hc21=>?_) (fun hc21=>?_)
  .
   obtain⟨k,rfl⟩: ∃m,k=m+1:=⟨k-1,m5⟩;refine ix _ J (di (k:=k)) J<|ix _ J (di (k:=k)) J<|br J J J (fun hc32=>?_) (fun hc32=>?_)
   .
    exact rz J (by show DV.v (.int _ 1)=DV.v (.int _ _);rw[Cn ((zj hl m5 h2).2.1 m5)])
   .
    refine ix _ J (di (k:=k)) J<|ix _ J (di (k:=k)) J<|br J J J (fun hc41=>?_) (fun hc41=>?_)
    .
     exact rz J (by show DV.v (.int _ (-1))=DV.v (.int _ _);rw[B7 ((zj hl m5 h2).1 m5)])
    .
     exact at_ k ⟨⟨m5,(zj (i:=k) hl m5 h2).2.2 m5⟩,m5⟩
  .
   exact rz rfl (by show DV.v (.int _ 0)=DV.v (.int _ _);rw[HQ];obtain rfl:k=0:=m5;rw[iW,iW] at h2;rw[<-dG a,h2,dG])
def RR(hi:i<W.length)(h:dv (W.take i)+4294967296^i*c=dv (A.take i)+dv (B.take i)):
  dv ((W.set i ((A.getD i 0+B.getD i 0+c)%4294967296)).take (i+1))+4294967296^(i+1)*((A.getD i 0+B.getD i 0+c)/4294967296)=dv (A.take (i+1))+dv (B.take (i+1)):=by
 rw[xI hi,pE A,pE B,iZ,show A.getD i 0+B.getD i 0+c=c+A.getD i 0+B.getD i 0 by omega];exact Y5 h
theorem okS{p:Prop}(h:p:=by rw[bZ];omega):p:=h
def S7(hn:n=max (dg a).length (dg b).length)(hl:W.length=n+1)(h:dv (W.take n)+4294967296^n*c=dv ((dg a).take n)+dv ((dg b).take n)):dv (W.set n c)=a+b:=by
 have e:=xI (ws:=W) (k:=n) (d:=c);rw[ly okS] at e;rw[e,h,ly,ly,dG,dG]
theorem omy{p:Prop}(h:p:=by rw[<-oE];rfl):p:=h
theorem omX{p:Prop}(h:p:=by rw[<-kD];rfl):p:=h
def aMS[ha:BN a ia][hb:BN b ib](hi:ia<=1000000000:=by decide)(hj:ib<=1000000000:=by decide):PF GB prog 121 [dN a,dN b] (dN (a+b)):=by
 have hla:=ck (dg a);have hlb:=ck (dg b);have hba:=wL ha.h hi;have hbb:=wL hb.h hj;refine fn (fu:=⟨12⟩) func121 J J ntmps121 J J (fun C=>?_);obtain⟨n,hn⟩: ∃n,n=max (dg a).length (dg b).length:=⟨_,rfl⟩;refine aj 15 (.d (vI (n:Nat))) J (by show FX.d (.v (.int _ _))= .d (.v (.int _ _));congr 3;split<;>omega)<|gx J<|mk ((List.replicate (n+1) 0).map dU) J J omy J<|lp (X:=List Nat×Nat×Nat) (fun⟨W,c,i⟩=>[(0, .d (dN a)),(1, .d (dN b)),(5, .d (vI (n:Nat))),(6, .rw 18),(7, .d (.v (.int .u32 (c:Nat)))),(8, .d (vI (i:Nat)))]) (fun⟨W,c,i⟩=>[(18,some (.b 225 1 (W.map dU) true))]) (fun⟨W,c,i⟩=>W.length=n+1/\bF W/\c<=1/\i<=n/\dv (W.take i)+4294967296^i*c=dv ((dg a).take i)+dv ((dg b).take i)) (fun⟨W,c,i⟩=>n-i) ⟨List.replicate (n+1) 0,0,0⟩ J ⟨vb, .replicate _,m5,m5,by simp[dv]⟩ (fun _=>J) (fun⟨W,c,i⟩ hk=>?_);dsimp only at hk⊢;obtain⟨h1,h2,h3,h4,h5⟩:=hk;have hlw:=ck W;have hda:=fi a i;have hdb:=fi b i;refine br (fu1:=⟨11⟩) J J J (fun hc21=>?_) (fun hc21=>?_)
 .
  refine mg (fu:=⟨1⟩) (X:=Unit) (fun _=>[(0, .d (dN a)),(1, .d (dN b)),(5, .d (vI (n:Nat))),(6, .rw 18),(7, .d (.v (.int .u32 (c:Nat)))),(8, .d (vI (i:Nat))),(9, .d (dU ((dg a).getD i 0))),(10, .d (.v (.int .u32 0)))]) (fun _=>[(18,some (.b 225 1 (W.map dU) true))]) (fun _=>True) [0,1,5,6,7,8,9,10] [18] rfl ?_ (fun _=>J) (fun _ hm=>?_)
  .
   refine gx J<|br J J J (fun hc27=>?_) (fun hc27=>?_)
   .
    refine ix _ J (gc) J<|at_ () trivial
   .
    refine aj 9 (.d (dU ((dg a).getD i 0))) J (by rw[r8];rfl)<|at_ () trivial
  .
   refine mg (X:=Unit) (fun _=>[(0, .d (dN a)),(1, .d (dN b)),(5, .d (vI (n:Nat))),(6, .rw 18),(7, .d (.v (.int .u32 (c:Nat)))),(8, .d (vI (i:Nat))),(9, .d (dU ((dg a).getD i 0))),(10, .d (dU ((dg b).getD i 0)))]) (fun _=>[(18,some (.b 225 1 (W.map dU) true))]) (fun _=>True) [0,1,5,6,7,8,9,10] [18] rfl ?_ (fun _=>J) (fun _ hm=>?_)
   .
    refine gx J<|br J J J (fun hc35=>?_) (fun hc35=>?_)
    .
     refine ix _ J (gc) J<|at_ () trivial
    .
     refine aj 10 (.d (dU ((dg b).getD i 0))) J (by rw[r8];rfl)<|at_ () trivial
   .
    refine cl J (YW m5 m5 m5) J<|sb _ ((W.set i (((dg a).getD i 0+(dg b).getD i 0+c)%4294967296)).map dU) J (gc) J omX J<|at_ ⟨W.set i (((dg a).getD i 0+(dg b).getD i 0+c)%4294967296),((dg a).getD i 0+(dg b).getD i 0+c)/4294967296,i+1⟩ (by dsimp only;exact⟨⟨by simpa using h1,h2.set _ m5,m5,m5,RR m5 h5⟩,m5⟩)
 .
  obtain rfl:i=n:=by omega
  refine sb _ ((W.set i c).map dU) J (gc) J omX J<|fz 18 J J<|cl J (ub (ds:=W.set i c) omg) J<|rz J (ma (h2.set _ m5) (S7 hn h1 h5))
def OF(hA:bF A)(hB:bF B)(hi:i<W.length)(hc:c<=1)(h:dv (W.take i)+dv (B.take i)=dv (A.take i)+4294967296^i*c)
  (hd:d=if A.getD i 0<B.getD i 0+c then A.getD i 0+4294967296-(B.getD i 0+c) else A.getD i 0-(B.getD i 0+c))(hc2:c2=if A.getD i 0<B.getD i 0+c then 1 else 0):
  dv ((W.set i d).take (i+1))+dv (B.take (i+1))=dv (A.take (i+1))+4294967296^(i+1)*c2:=by
 have h1:=hA.get i;have h2:=hB.get i;rw[xI hi,pE A,pE B,iZ];split at hd
 .rename_i q
  rw[if_pos q] at hc2;subst hc2 hd;rw[lK (B.getD i 0) c];exact Xt h m5 m5
 .rename_i q
  rw[if_neg q] at hc2;subst hc2 hd;rw[lK (B.getD i 0) c];exact aKT h m5
def U3(hw:bF W)(hl:W.length=(dg a).length)(hb:b<=a)(h:dv (W.take (dg a).length)+dv ((dg b).take (dg a).length)=dv ((dg a).take (dg a).length)+4294967296^(dg a).length*c):dv W=a-b:=by
 have hlb:(dg b).length<=(dg a).length:=by
  rcases jR (dg a).length (dg b).length with q|q
  .have:=zg (ik a) (gE b).2.2 q
   rw[dG,dG] at this;omega
  .exact q
 rw[ly,ly hlb,ly (bW _),dG,dG] at h;have h2:=nq hw;rw[hl] at h2;rcases fW c with q|q
 .subst q;omega
 .have:4294967296^(dg a).length*1<=4294967296^(dg a).length*c:=gX _ q
  omega
theorem omP{p:Prop}(h:p:=by rw[hla];rfl):p:=h
def IW[ha:BN a ia](hb:b<=a)(hi:ia<=1000000000:=by decide):PF GB prog 123 [dN a,dN b] (dN (a-b)):=by
 have hla:=ck (dg a);have hlb:=ck (dg b);have hba:=wL ha.h hi;refine fn (fu:=⟨9⟩) func123 J J ntmps123 J J (fun C=>?_);refine aj 10 (.d (vI ((dg a).length:Nat))) J omP<|gx J<|mk (fu:=⟨13⟩) ((List.replicate (dg a).length 0).map dU) J J omy J<|aj 13 (.d (vI ((dg a).length:Nat))) J omP<|gx J<|lp (X:=List Nat×Nat×Nat) (fun⟨W,c,i⟩=>[(0, .d (dN a)),(1, .d (dN b)),(5, .rw 11),(6, .d (.v (.int .u32 (c:Nat)))),(13, .d (vI ((dg a).length:Nat))),(14, .d (vI (i:Nat)))]) (fun⟨W,c,i⟩=>[(11,some (.b 225 1 (W.map dU) true))]) (fun⟨W,c,i⟩=>W.length=(dg a).length/\bF W/\c<=1/\i<=(dg a).length/\dv (W.take i)+dv ((dg b).take i)=dv ((dg a).take i)+4294967296^i*c) (fun⟨W,c,i⟩=>(dg a).length-i) ⟨List.replicate (dg a).length 0,0,0⟩ J ⟨vb, .replicate _,m5,m5,by simp[dv]⟩ (fun _=>J) (fun⟨W,c,i⟩ hk=>?_);dsimp only at hk⊢;obtain⟨h1,h2,h3,h4,h5⟩:=hk;have hlw:=ck W;have hda:=fi a i;have hdb:=fi b i;refine br (fu1:=⟨16⟩) J J J (fun hc15=>?_) (fun hc15=>?_)
 .
  refine mg (X:=Unit) (fun _=>[(0, .d (dN a)),(1, .d (dN b)),(5, .rw 11),(6, .d (.v (.int .u32 (c:Nat)))),(13, .d (vI ((dg a).length:Nat))),(14, .d (vI (i:Nat))),(7, .d (vI (i:Nat))),(8, .d (dU ((dg b).getD i 0)))]) (fun _=>[(11,some (.b 225 1 (W.map dU) true))]) (fun _=>True) [0,1,5,6,13,14,7,8] [11] rfl ?_ (fun _=>J) (fun _ hm=>?_)
  .
   refine gx J<|br J J J (fun hc20=>?_) (fun hc20=>?_)
   .
    refine ix _ J (gc) J<|at_ () trivial
   .
    refine aj 8 (.d (dU ((dg b).getD i 0))) J (by rw[r8];rfl)<|at_ () trivial
  .
   refine ix _ J (gc) J<|cl J (aEw m5 m5 m5) J<|sb _ ((W.set i (if(dg a).getD i 0<(dg b).getD i 0+c then(dg a).getD i 0+4294967296-((dg b).getD i 0+c) else(dg a).getD i 0-((dg b).getD i 0+c))).map dU) J (gc) J omX J<|at_ ⟨W.set i (if(dg a).getD i 0<(dg b).getD i 0+c then(dg a).getD i 0+4294967296-((dg b).getD i 0+c) else(dg a).getD i 0-((dg b).getD i 0+c)),(if(dg a).getD i 0<(dg b).getD i 0+c then 1 else 0),i+1⟩ (by dsimp only;exact⟨⟨by simpa using h1,h2.set _ (by split<;>omega),by split<;>omega,m5,OF (ik a) (ik b) m5 h3 h5 J J⟩,m5⟩)
 .
  obtain rfl:i=(dg a).length:=by omega
  refine fz 11 J J<|cl J (ub (ds:=W)) J<|rz J (ma h2 (U3 h2 h1 hb h5))
def r6(n:Nat)(a b k:Nat)(ha:a<2^k)(h:a+b*2^k<2^n):(BitVec.ofInt n (a:Int) ||| BitVec.ofInt n ((b*2^k:Nat):Int)).toNat=a+b*2^k:=by
 rw[BitVec.toNat_or,BitVec.ofInt_natCast,BitVec.ofInt_natCast,BitVec.toNat_ofNat,BitVec.toNat_ofNat,iN m5,iN m5];rw[<-Nat.shiftLeft_eq,Nat.or_comm,<-Nat.shiftLeft_add_eq_or_of_lt ha,Nat.shiftLeft_eq];omega
def Ds(hx:x<4294967296)(hy:y<4294967296):x*y<=18446744065119617025:=by
 have:=iS (by omega:x<=4294967295) (by omega:y<=4294967295);exact this
def By(x y:Nat):(0:Int)<=(x:Int)*(y:Int):=by rw[<-jQ];omega
def AW(hx:x<4294967296)(hy:y<4294967296):(x:Int)*(y:Int)<=18446744073709551615:=by
 have:=Ds hx hy;rw[<-jQ];omega
def Xd(h:ds.length=1):dv ds=ds.getD 0 0:=by
 match ds,h with
 |[d],_=>simp[dv]
def xw(h:(dg a).length=1:=by omega):(dg a).getD 0 0=a:=by rw[<-Xd h,dG]
def awH(h:j<m):(ds.take m).getD j 0=ds.getD j 0:=by
 rw[aK,aK,pS,if_pos h]
def TJ(hj:j<m)(hm:m<=W.length):dv ((W.set j d).take m)+4294967296^j*W.getD j 0=dv (W.take m)+4294967296^j*d:=by
 rw[List.take_set,<-awH (ds:=W) hj];exact xA _ _ _ (by rw[bL];omega)
def Rs{W:List Nat}{P X Y m i k c y t S:Nat}(hk:i+k<m)(hm:m<=W.length)(h:dv (W.take m)+4294967296^(i+k)*c=P+X*(4294967296^i*S))(ht:t=Y+W.getD (i+k) 0+c)(hY:Y=X*y):
  dv ((W.set (i+k) (t%4294967296)).take m)+4294967296^(i+(k+1))*(t/4294967296)=P+X*(4294967296^i*(S+4294967296^k*y)):=by
 have h1:=TJ (W:=W) (d:=t%4294967296) hk hm;rw[ht,show Y+W.getD (i+k) 0+c=c+Y+W.getD (i+k) 0 by omega] at h1⊢;have h2:=aA2 h1 h;rw[<-lR,iZ,h2,hY,fU];simp only[fY,cM,nV,cW,lR]
def O5{a b:Nat}{W:List Nat}{i c lb:Nat}(hlb:lb=(dg b).length)(hl:i+lb<W.length)(h:dv (W.take (i+lb))+4294967296^(i+lb)*c=dv ((dg a).take i)*b+(dg a).getD i 0*(4294967296^i*dv ((dg b).take lb))):
  dv ((W.set (i+lb) c).take (i+1+lb))=dv ((dg a).take (i+1))*b:=by
 rw[show i+1+lb=i+lb+1 by omega,xI hl,h,pE,ly (ds:=dg b),dG b,dV];simp only[cM,nV,cW]
def FT(n j:Nat):(List.replicate n 0).getD j 0=0:=by
 rw[aK,List.getElem?_replicate];split<;>rfl
def Az(h:k<=1000000000):IntKind.i64.wrap ((k:Int).tdiv 32)=((k/32:Nat):Int):=by
 rw[show(k:Int).tdiv 32=((k/32:Nat):Int) from J,Gw];omega
def Pj(k:Nat):(k:Int).tmod 32=((k%32:Nat):Int):=rfl
theorem omc{p:Prop}(h:p:=by show FX.d (.v (.int _ _))= .d (.v (.int _ _));congr 3):p:=h
theorem omF{p:Prop}(h:p:=by congr 3;omega):p:=h
theorem oka{p:Prop}(h:p:=by dsimp only;exact⟨⟨by simpa using g1,g2.set _ m5,m5,m5,by rw[pE];exact Rs m5 m5 g5 ht hp⟩,m5⟩):p:=h
theorem oki{p:Prop}(h:p:=by have:=h4;rw[ly,ly,dG] at this;exact this):p:=h
theorem oku{p:Prop}(h:p:=by dsimp only;exact⟨⟨by simpa using g1,g2.set _ g3,m5,O5 J m5 g5⟩,m5⟩):p:=h
def sA[ha:BN a ia][hb:BN b ib](hi:ia<=1000000000:=by decide)(hj:ib<=1000000000:=by decide):PF GB prog 58 [dN a,dN b] (dN (a*b)):=by
 have hla:=ck (dg a);have hlb:=ck (dg b);have hba:=wL ha.h hi;have hbb:=wL hb.h hj;refine fn (fu:=⟨6⟩) func58 J J ntmps58 J J (fun C=>?_);refine mg (fu:=⟨4⟩) (X:=Unit) (fun _=>[(0, .d (dN a)),(1, .d (dN b))]) (fun _=>[]) (fun _=>True) [0,1] [] rfl ?_ (fun _=>J) (fun _ hm=>?_)
 .
  refine gx J<|cs 15 J J J (fun hg15=>?_) (fun hg15=>?_)
  .
   refine br J J J (fun hc19=>?_) (fun hc19=>?_)
   .
    have hd0:=fi a 0;have hd1:=fi b 0;refine ix _ J (di (k:=0) J m5) J<|ix (hv:=by simp only[ak];exact⟨m5,⟨(By _ _),(AW (fi _ _) (fi _ _))⟩⟩) _ J (di (k:=0) J m5) J<|cl J (ux (u:=(dg a).getD 0 0*(dg b).getD 0 0) (by have:=Ds (fi a 0) (fi b 0);omega)) J<|rz J (by rw[xw,xw];rfl)
   .
    exact at_ () trivial
  .
   exact at_ () trivial
 .
  refine aj 31 (.d (vI ((dg a).length:Nat))) J omP<|gx (fu:=⟨2⟩) J<|aj 33 (.d (vI ((dg b).length:Nat))) J (by rw[hlb];rfl)<|gx J<|mk (fu:=⟨8⟩) ((List.replicate ((dg a).length+(dg b).length) 0).map dU) J J omy J<|aj 37 (.d (vI ((dg a).length:Nat))) J omP<|gx J<|lp (X:=List Nat×Nat) (fun⟨W,i⟩=>[(0, .d (dN a)),(1, .d (dN b)),(5, .rw 35),(36, .d (dN a)),(37, .d (vI ((dg a).length:Nat))),(38, .d (vI (i:Nat)))]) (fun⟨W,i⟩=>[(35,some (.b 225 1 (W.map dU) true))]) (fun⟨W,i⟩=>W.length=(dg a).length+(dg b).length/\bF W/\i<=(dg a).length/\dv (W.take (i+(dg b).length))=dv ((dg a).take i)*b) (fun⟨W,i⟩=>(dg a).length-i) ⟨List.replicate ((dg a).length+(dg b).length) 0,0⟩ J ⟨vb, .replicate _,m5,by rw[rJ,zc];simp[dv]⟩ (fun _=>J) (fun⟨W,i⟩ hk=>?_);dsimp only at hk⊢;obtain⟨h1,h2,h3,h4⟩:=hk;refine br J J J (fun hc39=>?_) (fun hc39=>?_)
  .
   refine ix (fu:=⟨15⟩) _ J (gc) J<|aj 44 (.d (vI ((dg b).length:Nat))) J (by rw[hlb];rfl)<|gx J<|lp (X:=List Nat×Nat×Nat) (fun⟨W2,c,k⟩=>[(0, .d (dN a)),(1, .d (dN b)),(5, .rw 35),(6, .d (vI (i:Nat))),(7, .d (dU ((dg a).getD i 0))),(8, .d (.v (.int .u64 (c:Nat)))),(36, .d (dN a)),(37, .d (vI ((dg a).length:Nat))),(38, .d (vI (i:Nat))),(43, .d (dN b)),(44, .d (vI ((dg b).length:Nat))),(45, .d (vI (k:Nat)))]) (fun⟨W2,c,k⟩=>[(35,some (.b 225 1 (W2.map dU) true))]) (fun⟨W2,c,k⟩=>W2.length=(dg a).length+(dg b).length/\bF W2/\c<4294967296/\k<=(dg b).length/\dv (W2.take (i+(dg b).length))+4294967296^(i+k)*c=dv ((dg a).take i)*b+(dg a).getD i 0*(4294967296^i*dv ((dg b).take k))) (fun⟨W2,c,k⟩=>(dg b).length-k) ⟨W,0,0⟩ J ⟨h1,h2,m5,m5,by rw[h4];simp[dv]⟩ (fun _=>J) (fun⟨W2,c,k⟩ hk=>?_);dsimp only at hk⊢;obtain⟨g1,g2,g3,g4,g5⟩:=hk;have hlw:=ck W2;have hw:=g2.get (i+k);have hda:=fi a i;have hdb:=fi b k;refine br (fu2:=⟨10⟩) J J J (fun hc46=>?_) (fun hc46=>?_)
   .
    refine ix (fu:=⟨12⟩) (hv:=by simp only[ak];exact⟨⟨m5,m5⟩,⟨(By _ _),(AW (fi _ _) (fi _ _))⟩⟩) _ J (gc) J<|?_;obtain⟨p,hp⟩: ∃p,p=(dg a).getD i 0*(dg b).getD k 0:=⟨_,rfl⟩;have hp1:p<=18446744065119617025:=hp▸Ds hda hdb;refine aj 54 (.d (.v (.int .u64 (p:Nat)))) J (by rw[hp,jQ])<|gx J<|lb (fu:=⟨4⟩) _ J (di (k:=i+k)) J<|?_;obtain⟨t,ht⟩: ∃t,t=p+W2.getD (i+k) 0+c:=⟨_,rfl⟩;refine aj 64 (.d (.v (.int .u64 (t:Nat)))) J omF<|gx (fu:=⟨11⟩) J<|aj 70 (.d (dU (t%4294967296))) J omc<|gx J<|sb (fu:=⟨5⟩) (hv:=by simp only[ak];exact pb) _ ((W2.set (i+k) (t%4294967296)).map dU) J (di (k:=i+k)) J (by(rw[show((i:Int)+k).toNat=i+k by omega,<-kD])<;>rfl) J<|aj 73 (.d (.v (.int .u64 (t/4294967296:Nat)))) J okh<|gx J<|at_ ⟨W2.set (i+k) (t%4294967296),t/4294967296,k+1⟩ oka
   .
    obtain rfl:k=(dg b).length:=by omega
    refine aj 78 (.d (vI ((dg b).length:Nat))) J (by rw[hlb];rfl)<|gx (fu:=⟨3⟩) J<|aj 81 (.d (dU c)) J (omb m5)<|gx J<|sb _ ((W2.set (i+(dg b).length) c).map dU) J (di (k:=i+(dg b).length)) J (by(rw[show((i:Int)+((dg b).length:Nat)).toNat=i+(dg b).length by omega,<-kD])<;>rfl) J<|at_ ⟨W2.set (i+(dg b).length) c,i+1⟩ oku
  .
   obtain rfl:i=(dg a).length:=by omega
   refine fz 35 J J<|cl J (ub (ds:=W)) J<|rz J (ma h2 oki)
def Hh(x s:Nat):x*2^s=x*2^s%4294967296+4294967296*(x*2^s/4294967296):=by omega
def MD(hx:x<4294967296)(hs:s<32):x*2^s/4294967296<2^s:=by
 rw[kS pb,cW (2^s)];exact oX hx (bW _) (gW pb)
def Kl(hs:s<32):2^s*2^(32-s)=4294967296:=by rw[<-fU,show s+(32-s)=32 by omega]
def aEv(x s:Nat)(hs:s<32):x*2^s%4294967296=x%2^(32-s)*2^s:=by
 rw[<-Kl hs,cW (2^s),Nat.mul_mod_mul_right]
def PX(hx:x<4294967296)(hs:s<32):x*2^s<18446744073709551616:=by
 have h1:2^s<=2^31:=bT pb m5;have:=oX hx h1 pb;omega
def NI(hw:w<2^s)(hs:s<32):(BitVec.ofInt 32 (w:Int) ||| BitVec.ofInt 32 ((x*2^s%4294967296:Nat):Int)).toNat=w+x*2^s%4294967296:=by
 rw[aEv x s hs];refine r6 32 _ _ _ hw ?_;have h1:x%2^(32-s)+1<=2^(32-s):=dJ _ (gW pb);have h2:=bS (2^s) h1;rw[cW (2^(32-s)),Kl hs,dV,nM] at h2;show _<4294967296;omega
def awZ(hh:h<4294967296):(BitVec.ofInt 32 ((0:Nat):Int) ||| BitVec.ofInt 32 (h:Int)).toNat=h:=by
 have:=r6 32 0 h 0 pb (by simpa using hh);simpa using this
def KG(k:Nat):2^k=4294967296^(k/32)*2^(k%32):=by
 rw[show(4294967296:Nat)=2^32 from J,<-uX,<-fU,rS]
def getD_set_ne(h:i≠j:=by omega):(W.set i d).getD j 0=W.getD j 0:=by
 rw[aK,aK,List.getElem?_set_ne h]
def Bl(h:i<W.length):(W.set i d).getD i 0=d:=by
 rw[aK,pM h];rfl
def Qw{A W:List Nat}{k q s i x:Nat}(hq:q=k/32)(hs:s=k%32)(hl:q+i+1<W.length)(hx:x=A.getD i 0)
  (h:dv (W.take (q+i+1))=dv (A.take i)*2^k):
  dv (((W.set (q+i) (W.getD (q+i) 0+x*2^s%4294967296)).set (q+i+1) (x*2^s/4294967296)).take (q+(i+1)+1))=dv (A.take (i+1))*2^k:=by
 have e1:=TJ (W:=W) (j:=q+i) (m:=q+i+1) (d:=W.getD (q+i) 0+x*2^s%4294967296) m5 m5;rw[show q+(i+1)+1=q+i+1+1 by omega,xI okS,pE A,<-hx];have e2:dv ((W.set (q+i) (W.getD (q+i) 0+x*2^s%4294967296)).take (q+i+1))=dv (A.take i)*2^k+4294967296^(q+i)*(x*2^s%4294967296):=by
  rw[fY,h] at e1;omega
 rw[e2,iZ,cM,lR,<-fY,<-Hh,dV,KG k,<-hq,<-hs,fU];simp only[cM,nV,cW]
theorem omt{p:Prop}(h:p:=by show FX.d (.v (.int _ _))= .d (.v (.int _ _));rw[Az hk]):p:=h
theorem okW{p:Prop}(h:p:=by show FX.d (.v (.int _ _))= .d (.v (.int _ _));rw[Pj]):p:=h
def Cx[ha:BN a ia](hk:k<=1000000000)(hi:ia<=1000000000:=by decide):PF GB prog 262 [dN a,vI (k:Nat)] (dN (a*2^k)):=by
 have hla:=ck (dg a);have hba:=wL ha.h hi;refine fn (fu:=⟨9⟩) func262 J J ntmps262 J J (fun C=>?_);refine aj 11 (.d (vI (k/32:Nat))) J omt<|gx (fu:=⟨2⟩) J<|aj 13 (.d (vI ((dg a).length:Nat))) J omP<|gx (fu:=⟨2⟩) J<|aj 15 (.d (vI (k/32+(dg a).length+1:Nat))) J omc<|gx J<|mk (fu:=⟨7⟩) (hv:=by simp only[ak];exact pb) ((List.replicate (k/32+(dg a).length+1) 0).map dU) J J omy J<|aj 18 (.d (vI (k%32:Nat))) J okW<|gx (fu:=⟨9⟩) J<|aj 21 (.d (vI ((dg a).length:Nat))) J omP<|gx J<|lp (X:=List Nat×Nat) (fun⟨W,i⟩=>[(0, .d (dN a)),(1, .d (vI (k:Nat))),(5, .rw 16),(6, .d (.v (.int .u64 (k%32:Nat)))),(20, .d (dN a)),(21, .d (vI ((dg a).length:Nat))),(22, .d (vI (i:Nat)))]) (fun⟨W,i⟩=>[(16,some (.b 225 1 (W.map dU) true))]) (fun⟨W,i⟩=>W.length=k/32+(dg a).length+1/\bF W/\i<=(dg a).length/\dv (W.take (k/32+i+1))=dv ((dg a).take i)*2^k/\W.getD (k/32+i) 0<2^(k%32)/\ ∀j,k/32+i<j->W.getD j 0=0) (fun⟨W,i⟩=>(dg a).length-i) ⟨List.replicate (k/32+(dg a).length+1) 0,0⟩ J ⟨vb, .replicate _,m5,by rw[rJ,zc];simp[dv],by rw[FT];exact gW pb,fun j _=>FT _ _⟩ (fun _=>J) (fun⟨W,i⟩ hk=>?_);dsimp only at hk⊢;obtain⟨h1,h2,h3,h4,h5,h6⟩:=hk;have hlw:=ck W;have hda:=fi a i;have hsk:k%32<32:=dJ _ pb;have hpp:2^(k%32)<=2^31:=bT pb m5;refine br J J J (fun hc23=>?_) (fun hc23=>?_)
 .
  refine ix (fu:=⟨11⟩) (hv:=by simp only[ak];exact⟨m5,m5⟩) _ J (gc) J<|?_;have hhi:=MD hda hsk;have hfit0:=PX hda hsk;have hor:=NI (x:=(dg a).getD i 0) h5 hsk;have hfit:W.getD (k/32+i) 0+(dg a).getD i 0*2^(k%32)%4294967296<4294967296:=by rw[<-hor];exact BitVec.isLt _
  have hlp:=Hh ((dg a).getD i 0) (k%32);refine aj 30 (.d (.v (.int .u64 ((dg a).getD i 0*2^(k%32):Nat)))) J (by show FX.d (.v (.int _ _))= .d (.v (.int _ _));rw[rj _ (k%32) m5 hfit0]) ?_;obtain⟨t,ht⟩: ∃t,t=(dg a).getD i 0*2^(k%32):=⟨_,rfl⟩;simp only[<-ht] at hhi hfit0 hor hfit hlp;rw[<-ht];refine gx (fu:=⟨8⟩) J<|aj 33 (.d (vI (k/32:Nat))) J omt<|gx J<|lb (fu:=⟨2⟩) _ J (di (k:=k/32+i)) J<|aj 39 (.d (dU (t%4294967296))) J omc<|gx (fu:=⟨1⟩) J<|aj 40 _ J (congrArg (fun z:Nat=>FX.d (.v (.int .u32 (z:Int)))) hor)<|gx J<|sb (fu:=⟨6⟩) _ ((W.set (k/32+i) (W.getD (k/32+i) 0+t%4294967296)).map dU) J (di (k:=k/32+i)) J (by(rw[show(((k/32:Nat):Int)+i).toNat=k/32+i by omega];simp only[jM];rfl)<;>rfl) J<|aj 44 (.d (vI (k/32:Nat))) J omt<|gx J<|lb (fu:=⟨0⟩) _ J (di (k:=k/32+i+1) m5 okS) J<|aj 49 (.d (dU 0)) J (by rw[getD_set_ne,h6 _ m5])<|gx (fu:=⟨2⟩) (hv:=by simp only[ak];exact pb) J<|aj 51 (.d (.v (.int .u64 (t/4294967296:Nat)))) J okh<|gx (fu:=⟨1⟩) J<|aj 52 (.d (dU (t/4294967296))) J (omb m5)<|gx (fu:=⟨1⟩) J<|aj 53 _ J (congrArg (fun z:Nat=>FX.d (.v (.int .u32 (z:Int)))) (awZ m5))<|gx J<|sb _ (((W.set (k/32+i) (W.getD (k/32+i) 0+t%4294967296)).set (k/32+i+1) (t/4294967296)).map dU) J (di (k:=k/32+i+1) m5 okS) J (by(rw[show(((k/32:Nat):Int)+i+1).toNat=k/32+i+1 by omega];simp only[jM];rfl)<;>rfl) J<|at_ ⟨(W.set (k/32+i) (W.getD (k/32+i) 0+t%4294967296)).set (k/32+i+1) (t/4294967296),i+1⟩ (by dsimp only;exact⟨⟨by simpa using h1,(h2.set _ hfit).set _ m5,m5,by have q:=Qw (x:=(dg a).getD i 0) J J m5 J h4;rw[<-ht] at q;exact q,by rw[show k/32+(i+1)=k/32+i+1 by omega,Bl omg];exact hhi,fun j hj=>by rw[getD_set_ne,getD_set_ne];exact h6 j m5⟩,m5⟩)
 .
  obtain rfl:i=(dg a).length:=by omega
  refine fz 16 J J<|cl J (ub (ds:=W)) J<|rz J (ma h2 oki)
def auI(h:(dg a).length<=k/32):a/2^k=0:=by
 refine mK ?_;have h1:=nq (ik a);rw[dG] at h1;have h2:4294967296^(dg a).length<=4294967296^(k/32):=bT pb h;have h3:4294967296^(k/32)*1<=4294967296^(k/32)*2^(k%32):=gX _ (gW pb);rw[KG k];omega
def Gp(h:bF ds)(q:Nat):dv (ds.drop q)=dv ds/4294967296^q:=by
 rcases jR ds.length q with hq|hq
 .rw[jW m5]
  have h1:=nq h;have h2:4294967296^ds.length<=4294967296^q:=bT pb m5;rw[mK m5];rfl
 .have e:=Ck ds q hq
  have h1:=nq (h.take q);rw[bL,jZ hq] at h1;rw[e,qT _ _ (gW pb),mK h1,eM]
def Et(h:bF ds)(i:Nat):dv ds/4294967296^i=ds.getD i 0+4294967296*ds.getD (i+1) 0+18446744073709551616*(dv ds/4294967296^(i+2)):=by
 have e0:=Gp h i;have e2:=Gp h (i+2);rw[<-e0,<-e2];have g0:ds.getD i 0=(ds.drop i).getD 0 0:=by rw[aK,aK,mQ];rfl
 have g1:ds.getD (i+1) 0=(ds.drop i).getD 1 0:=by rw[aK,aK,mQ]
 have g2:ds.drop (i+2)=(ds.drop i).drop 2:=by rw[uZ]
 rw[g0,g1,g2]
 match ds.drop i with
 |[]=>rfl
 |[u]=>simp[dv]
 |u::v::t=>simp only[dv,nT,jS,tT,iW];omega
def PQ{D v Z:Nat}(hs:s<32)(hZ:D/4294967296^i=u+4294967296*v+18446744073709551616*Z)(hw:w=(u+v*4294967296)/2^s%4294967296):(D/2^s)%4294967296^(i+1)=(D/2^s)%4294967296^i+4294967296^i*w:=by
 rw[iZ,Nat.mod_mul];congr 2;rw[sT,cW (2^s),<-sT,hZ,hw];have h1:18446744073709551616=2^s*(2^(32-s)*4294967296):=by rw[<-cM,Kl hs]
 rw[h1,cM (2^s),qT _ _ (gW pb),cW v];rw[cW (2^(32-s)),cM,rQ]
def ayM(hq:q=k/32)(hs:s=k%32)(hl:W.length=(dg a).length-q)(h:dv (W.take ((dg a).length-q))=(dv ((dg a).drop q)/2^s)%4294967296^((dg a).length-q)):dv W=a/2^k:=by
 rw[ly] at h;have h1:=nq ((ik a).drop q);rw[gT] at h1;have h2:=nY (dv ((dg a).drop q)) (2^s);rw[h,iN m5,Gp (ik a),dG,KG k,<-hq,<-hs,sT]
theorem omk{p:Prop}(h:p:=by show FX.d (.v (.int _ _))= .d (.v (.int _ _));rw[rj _ 32 pb (by show _*4294967296<_;omega) J]):p:=h
theorem omn{p:Prop}(h:p:=by show _+_*4294967296<18446744073709551616;omega):p:=h
def Yg[ha:BN a ia](hk:k<=1000000000)(hi:ia<=1000000000:=by decide):PF GB prog 263 [dN a,vI (k:Nat)] (dN (a/2^k)):=by
 have hla:=ck (dg a);have hba:=wL ha.h hi;refine fn (fu:=⟨10⟩) func263 J J ntmps263 J J (fun C=>?_);refine aj 12 (.d (vI (k/32:Nat))) J omt<|gx (fu:=⟨2⟩) J<|aj 14 (.d (vI ((dg a).length:Nat))) J omP<|gx J<|br (fu2:=⟨6⟩) (v2:=fun _=>by simp only[ak];exact pb) J J J (fun hc15=>?_) (fun hc15=>?_)
 .
  exact rz J (by rw[auI m5,pe];rfl)
 .
  refine aj 17 (.d (vI (k%32:Nat))) J okW<|gx (fu:=⟨9⟩) J<|aj 21 (.d (vI (k/32:Nat))) J omt<|gx J<|kt (fu:=⟨0⟩) (k/32) (dg a).length _ J J (by rw[hla]) J (sO _) m5 m5 J<|?_;obtain⟨I,hI⟩: ∃I,I=(dg a).drop (k/32):=⟨_,rfl⟩;have hIl:I.length=(dg a).length-k/32:=by rw[hI,gT]
  have hIm:=ck I;have hIo:bF I:=hI▸(ik a).drop _;refine aj 22 (.d (et I)) J (by show FX.d (.sl _)= .d (.sl _);rw[hI,<-hla,dX,iT])<|gx (fu:=⟨7⟩) J<|aj 24 (.d (vI (I.length:Nat))) J (by rw[hIm];rfl)<|gx J<|mk (fu:=⟨8⟩) ((List.replicate I.length 0).map dU) J J omy J<|aj 27 (.d (vI (I.length:Nat))) J (by rw[hIm];rfl)<|gx J<|lp (X:=List Nat×Nat) (fun⟨W,i⟩=>[(0, .d (dN a)),(5, .d (.v (.int .u64 (k%32:Nat)))),(6, .d (et I)),(7, .rw 25),(26, .d (et I)),(27, .d (vI (I.length:Nat))),(28, .d (vI (i:Nat)))]) (fun⟨W,i⟩=>[(25,some (.b 225 1 (W.map dU) true))]) (fun⟨W,i⟩=>W.length=I.length/\bF W/\i<=I.length/\dv (W.take i)=(dv I/2^(k%32))%4294967296^i) (fun⟨W,i⟩=>I.length-i) ⟨List.replicate I.length 0,0⟩ J ⟨vb, .replicate _,m5,by simp[dv,Nat.mod_one]⟩ (fun _=>J) (fun⟨W,i⟩ hk=>?_);dsimp only at hk⊢;obtain⟨h1,h2,h3,h4⟩:=hk;have hlw:=ck W;have hda:=hIo.get i;have hdb:=hIo.get (i+1);have hsk:k%32<32:=dJ _ pb;refine br J J J (fun hc29=>?_) (fun hc29=>?_)
  .
   refine ix (fu:=⟨13⟩) _ J (gc) J<|mg (fu:=⟨6⟩) (hv:=fun _ _=>by simp only[ak];exact m5) (X:=Unit) (fun _=>[(0, .d (dN a)),(5, .d (.v (.int .u64 (k%32:Nat)))),(6, .d (et I)),(7, .rw 25),(26, .d (et I)),(27, .d (vI (I.length:Nat))),(28, .d (vI (i:Nat))),(8, .d (vI (i:Nat))),(10, .d (.v (.int .u64 (I.getD i 0+I.getD (i+1) 0*4294967296:Nat))))]) (fun _=>[(25,some (.b 225 1 (W.map dU) true))]) (fun _=>True) [0,5,6,7,26,27,28,8,10] [25] rfl ?_ (fun _=>J) (fun _ hm=>?_)
   .
    refine gx (fu:=⟨6⟩) J<|aj 38 (.d (vI (I.length:Nat))) J (by rw[hIm];rfl)<|gx J<|br J J J (fun hc39=>?_) (fun hc39=>?_)
    .
     refine ix (fu:=⟨3⟩) (hv:=by simp only[ak];exact⟨m5,pb⟩) _ J (di (k:=i+1)) J<|aj 47 (.d (.v (.int .u64 (I.getD (i+1) 0*4294967296:Nat)))) J omk<|gx (fu:=⟨1⟩) J<|aj 48 _ J (congrArg (fun z:Nat=>FX.d (.v (.int .u64 (z:Int)))) (r6 64 (I.getD i 0) (I.getD (i+1) 0) 32 hda omn))<|gx J<|at_ () trivial
    .
     refine aj 10 (.d (.v (.int .u64 (I.getD i 0+I.getD (i+1) 0*4294967296:Nat)))) J (by rw[r8 (by omega:I.length<=i+1),kM,gQ])<|at_ () trivial
   .
    refine aj 53 (.d (.v (.int .u64 ((I.getD i 0+I.getD (i+1) 0*4294967296)/2^(k%32):Nat)))) J (by show FX.d (.v (.int _ _))= .d (.v (.int _ _));rw[Vb _ (k%32)])<|gx (fu:=⟨1⟩) J<|?_;obtain⟨w,hw⟩: ∃w,w=(I.getD i 0+I.getD (i+1) 0*4294967296)/2^(k%32)%4294967296:=⟨_,rfl⟩;have hw1:w<4294967296:=hw▸dJ _ pb;refine aj 54 (.d (dU w)) J (by show FX.d (.v (.int _ _))= .d (.v (.int _ _));rw[hw];congr 3)<|gx J<|sb _ ((W.set i w).map dU) J (gc) J (by(rw[<-kD];rfl)<;>rfl) J<|at_ ⟨W.set i w,i+1⟩ (by dsimp only;exact⟨⟨by simpa using h1,h2.set _ m5,m5,by rw[xI,h4];exact(PQ hsk (Et hIo i) hw).symm⟩,m5⟩)
  .
   refine fz 25 rfl rfl<|cl rfl (ub (ds:=W)) rfl<|rz rfl (ma h2 (by obtain rfl:i=I.length:=m5;rw[hIl] at h1 h4;rw[hI] at h4;exact ayM rfl rfl h1 h4))
def BO(h:a<4294967296^k):(dg a).length<=k:=by
 rcases jR k (dg a).length with q|q
 .have h1:=xK (gE a).2.2 (by intro e;rw[e] at q;simp at q)
  rw[dG] at h1;have h2:4294967296^k<=4294967296^((dg a).length-1):=bT pb m5;omega
 .exact q
def aAB(h:(dg a).length=2):(dg a).getD 0 0+(dg a).getD 1 0*4294967296=a:=by
 have e:=dG a;revert e
 match dg a,h with
 |[x,y],_=>intro e;simp[dv] at e⊢;omega
def AP(a:Nat):DV:= .tp [.v (.int .u64 ((if a<18446744073709551616 then a else 0:Nat):Int)),vB (decide (a<18446744073709551616))]
def Pz(h:a<18446744073709551616:=by omega):AP a= .tp [.v (.int .u64 (a:Int)),vB true]:=by unfold AP;rw[if_pos h,decide_eq_true h]
def aBH(h: ¬a<18446744073709551616):AP a= .tp [.v (.int .u64 0),vB false]:=by unfold AP;rw[if_neg h,decide_eq_false h];rfl
def so(a:Nat):a<4294967296^(dg a).length:=by have:=nq (ik a);rwa [dG] at this
theorem omx{p:Prop}(h:p:=by show _*4294967296<_;omega):p:=h
def FM{a ia:Nat}[ha:BN a ia](hi:ia<=1000000000:=by decide):PF GB prog 206 [dN a] (AP a):=by
 have hla:=ck (dg a);have hba:=wL ha.h hi;have hlt:=so a;have hd00:=fi a 0;refine fn (fu:=⟨11⟩) func206 J J ntmps206 J J (fun C=>?_);refine aj 5 (.d (vI ((dg a).length:Nat))) J omP<|gx J<|br J J J (fun hc6=>?_) (fun hc6=>?_)
 .
  exact rz rfl (by rw[show(dg a).length=0 by omega] at hlt;obtain rfl:a=0:=m5;rfl)
 .
  refine br J J J (fun hc8=>?_) (fun hc8=>?_)
  .
   refine ix (fu:=⟨2⟩) _ J (di (k:=0) J m5) J<|aj 13 (.d (.v (.int .u64 (a:Nat)))) J (by rw[xw])<|gx J<|rz J (by rw[show(dg a).length=1 by omega] at hlt;rw[Pz,<-xw (a:=a),xw (a:=a)];rfl)
  .
   refine br J J J (fun hc14=>?_) (fun hc14=>?_)
   .
    have hd0:=fi a 0;have hd1:=fi a 1;refine ix (hv:=by simp only[ak];exact⟨m5,pb⟩) _ J (di (k:=1) J m5) J<|ix (fu:=⟨3⟩) _ J (di (k:=0) J m5) J<|aj 25 (.d (.v (.int .u64 (a:Nat)))) J (congrArg (fun z:Nat=>FX.d (.v (.int .u64 (z:Int)))) (by rw[rj _ 32 pb omx J,BitVec.or_comm];exact(r6 64 ((dg a).getD 0 0) ((dg a).getD 1 0) 32 hd0 omn).trans (aAB m5)))<|gx J<|rz J (by rw[show(dg a).length=2 by omega] at hlt;rw[Pz];rfl)
   .
    exact rz rfl (by rw[aBH];rfl;intro h;have:=BO (a:=a) (k:=2) m5;omega)
section
variable {C:aG}{Q0:Exit->Act->World->Prop}{fr fr':aD}{own own':aI}{cf cf':Cf}{vc:List Prop}
def PR(GB:Gh)(P:Program)(f:FuncId)(ds:List DV)(s:Nat)(ty:TypeId)(rows:List DV):Prop:=
 ∀G vs,b9 GB G->IsLs G ds vs->iO P f vs [] G (fun v own' G'=> ∃w:SV,v= .slice w.a w.n w.c/\dO G' ⟨w,s,ty,rows,true⟩ own')
def NH: ∀(l:List aA),(∀o∈l,o.lo=true)->l.map (relo (ig []))=l
 |[],_=>rfl
 |a::t,h=>by
  have h1:=h a aQ;rw[bY,NH t fun o ho=>h o (aJ _ ho)];congr 1
  cases a
  simp[relo,ig] at*;exact h1
def aCA{lk:LK}{bk:BM}{fo:Operand}{args:Array Operand}{tys:Array TypeId}{ds:List DV}{pos:String}{af:Array Edge}{gd:Option (Nat×Bool)}
  (ha:vP lk fo args=some (f,ds))(hF:PR GB prog f ds s ty2 rows):cg prog GB C n lk bk ⟨some d, .call ⟨.value fo,args,tys⟩,ty,pos,af,gd⟩ (.rw d) [(d,some (.b ty2 s rows true))] [d]:=by
 intro hd tl tb K' s1 s2 hf hk;refine⟨fun ρ G ov a w r Q=>?_⟩;have r1:=r.mono s1 s2;obtain⟨h1,h2⟩:=DE ha;obtain⟨y,hy,hy'⟩:=r1.ev h1;rw[(aO (G:=G)).1 hy'] at hy;obtain⟨vs,h3,h4⟩:=r1.evDs h2;refine vR (M:=[]) (rest:=ov) hy h3 (List.Perm.refl _) (hF G vs r.gb h4) hd (fun v own1 G' hG hK a' w' rl=>?_) a w Q ⟨r.h,r.sz,dh a,r.df⟩;obtain⟨z,rfl,vs',k1,k2,k3,k4⟩:=hK;rw[NH _ (k4 J)] at rl;have rl':iw C n (Sx.put (cI a) (some d) (.slice z.a z.n z.c)) (own1++ov) G' a' w':=rl;have hdis:=(gR.1 rl'.h.nd).2.2;have r3:=r.new' (x:=z) (B':= .b ty2 s rows true) (os:=own1) (ov':=own1++ov) (f:= .rw d) (y:= .slice z.a z.n z.c) hf hG.le rl'.h ⟨vs',by simpa using k1,k2,k3,k4⟩ (fun o ho=>bJ _ ho)
  (fun q B0 hq e o ho hbq=>⟨aM _ ho,fun hc=>by
   have hx: ∃o1∈own1,o1.b=o.b:=by
    rcases k1 with⟨_,h,_⟩|⟨b0,rest0,lo0,h,hB,_⟩
    .rw[show z=_ from h] at hc;cases hc
    .rw[show z=_ from h] at hc;cases hc;exact⟨⟨_,aF vs'++rest0,_,lo0⟩,by rw[hB];exact aQ,J⟩
   obtain⟨o1,ho1,he1⟩:=hx;exact hdis o1 ho1 o ho he1⟩) (by simp[cp]) (kd rl')
 exact hk.run _ G' _ a' w' r3
def LF(fr:aD)(cf:Cf):Option (FuncId×List DV×Nat):=match de fr cf with
 |some ⟨some d, .call ⟨.value fo,args,_⟩,_,_,_,_⟩=>match vP (cj fr cf) fo args with
  |some (f,ds)=>some (f,ds,d)
  |none=>none
 |_=>none
def cr[fu:Fu]{ds:List DV}(ha:LF fr cf=some (f,ds,d))(hF:PR GB prog f ds s ty rows)
  (hgo:cF tt n fu.n fr own cf (.rw d) [(d,some (.b ty s rows true))] [d]=⟨vc,fr',own',cf'⟩)(k:av prog GB C n Q0 fr' own' cf')
  (hv:autoParam (ak vc) fn._auto_1):av prog GB C n Q0 fr own cf:=by
 unfold LF at ha;split at ha<;>try (cases ha;done)
 rename_i hh;split at ha<;>cases ha;rename_i h1;exact us hh (aCA h1 hF) hgo hv k
def ET(C:aG)(s:Nat)(ty:TypeId)(rows:List DV):Ending->World->Prop:=t8 C (fun v own' G'=> ∃w:SV,v= .slice w.a w.n w.c/\dO G' ⟨w,s,ty,rows,true⟩ own')
def Dl[fu:Fu]{c:Code}{ds:List DV}(hf:prog.funcs[f]? =some fb)(hb:fb.body=some c)(hn:(fb.name== "runtime.NumGoroutine")=false)(hm:fb.ntmps=m)(hlen:Nat.ble ds.length m=true)
  (hgo:go tt m fu.n [] (tn 0 ds) [] (.code c [])=⟨vc,fr,own,cf⟩)(k: ∀C:aG,C.mb=[]->av prog GB C m (ge C prog fb (ET C s ty rows)) fr own cf)
  (hv:autoParam (ak vc) fn._auto_1):PR GB prog f ds s ty rows:=by
 intro G vs hg hvs;refine iO.introR hf hb hn hm okt fun C _ hmb hrd hfx=>?_;intro a w rl;refine xb hrd ?_;have h:=gF (GB:=GB) (C:=C) (Q0:=ge C prog fb (ET C s ty rows)) hgo hv (k C (by simpa using hmb));exact h.run (fun _=>⟨none,0,0⟩) G [] a w ⟨hg,rl.h,rl.sz,rl.df,(fun k f e=>yY hvs rl.fr k f e),(fun nm B e=>by cases e),(fun nm nm' B B' e=>by cases e),fun nm p _ _ e=>by rw[hfx] at e;cases e⟩
def Io(hr:fb.results.toList=[.tmp t])(hl:bi fr t=some (.rw d))(hw:bA own d=some (.b ty s rws true))(er:rws=rows):
  av prog GB C n (ge C prog fb (ET C s ty rows)) fr own (.ex .ret []):=by
 subst er;refine⟨fun ρ G ov a w r=>?_⟩;obtain⟨B,g1,g2⟩:=r.bx _ _ hw;have hB:dO G ⟨ρ d,s,ty,rws,true⟩ B:=g1;obtain⟨rest,hp⟩:=Ii hB g2;obtain⟨y,hy,hy'⟩:=r.ev (x:= .tmp t) (f:= .rw d) hl
 cases (show y=_ from hy')
 exact yb (C:=C) (n:=n) (fr:=cI a) (own:=ov) (G:=G) (vs:=[.slice (ρ d).a (ρ d).n (ρ d).c]) omS (B++rest) B hp (pQ _ _) ⟨ρ d,J,hB⟩ a w ⟨r.h,r.sz,dh a,r.df⟩
def aN9(hr:fb.results.toList=[.tmp t])(hl:bi fr t=some .nl)(er:rows=[]):
  av prog GB C n (ge C prog fb (ET C s ty rows)) fr own (.ex .ret []):=by
 subst er;refine⟨fun ρ G ov a w r=>?_⟩;obtain⟨y,hy,hy'⟩:=r.ev (x:= .tmp t) (f:= .nl) hl
 cases (show y=_ from hy')
 exact yb (C:=C) (n:=n) (fr:=cI a) (own:=ov) (G:=G) (vs:=[.slice none 0 0]) omS ([]++ov) [] (List.Perm.refl _) (kX _) ⟨⟨none,0,0⟩,J,[], .inl ⟨J,J,J⟩,fj.2 J,fun v h=>okH,fun _ o h=>okH⟩ a w ⟨r.h,r.sz,dh a,r.df⟩
end
end Go.Sx
end
