import Derived.Test.YtliglnbeohlnnaaGreatDoorMq7
set_option linter.all false
set_option maxHeartbeats 2000000
set_option maxRecDepth 100000
section
namespace Go.Sx
open Go Go.Proofs Tryz
variable {GB:Gh}{C:aF}{n b:Nat}{Q0:Exit->Act->World->Prop}{fr fr':aC}{own':aO}{cf cf':Cf}{vc:List Prop}{dso:List DV}{ops:Array Oper}{r:List Oper}{K:List Kt}{p q:Int}
section
variable {own:aO}
def mkc[fu:Fu]{d e s:Nat}{z:DV}{k':IntKind}(cap:Nat)(h:E1 fr cf=some ⟨d,e,s,b,z,0⟩)(hy:(match c6 fr cf with|some ⟨_, .makeSlice _ _ y,_,_,_,_⟩=>bj (cd fr cf) y|_=>none)=some (.d (.v (.int k' (cap:Nat)))))
  (hgo:cB tt n fu.n fr own cf (.rw d) [(d,some (.c e s [] cap))] [d]=⟨vc,fr',own',cf'⟩)(k:aA prog GB C n Q0 fr' own' cf')(hb:b*cap<=140737488355328:=by omega)(hl:cap<=1152921504606846976:=by omega)
  (hv:autoParam (ak vc) cL._auto_1):aA prog GB C n Q0 fr own cf:=by
 unfold E1 at h;split at h<;>try (cases h;done)
 rename_i hh;split at h<;>try (cases h;done)
 rename_i hx;split at h<;>try (cases h;done)
 rename_i hT;split at h<;>try (cases h;done)
 rename_i hi;split at h<;>try (cases h;done)
 rename_i hz;rw[cond_eq_ite] at h;split at h<;>cases h;rename_i hs;rw[hh] at hy;have:=lf (fi _ _ hT) J;exact us hh (aJ1 (fi _ _ hi) hz hs hx hy hb hl) hgo hv k
structure XW where
 d:Nat
 nm:Nat
 e:Nat
 s:Nat
 ds:List DV
 ds2:List DV
 cap:Nat
def NV(fr:aC)(own:aO)(cf:Cf):Option XW:=match c6 fr cf with
 |some ⟨some d, .call ⟨.builtin .append,⟨[x,y]⟩,⟨[t,t']⟩⟩,_,_,_,_⟩=>match eo tt t,eo tt t' with
  |some ⟨.sl e s _,_,_,_⟩,some ⟨.sl _ _ _,_,_,_⟩=>match bj (cd fr cf) x with
   |some (.rw nm)=>match jk fr own cf nm,rB (cd fr cf) (jk fr own cf) s y with
    |some (.c e' s' ds cap),some ds2=>bif (Nat.beq e' e&&Nat.beq s' s)&&!Nat.beq nm d then some ⟨d,nm,e,s,ds,ds2,cap⟩ else none
    |_,_=>none
   |_=>none
  |_,_=>none
 |_=>none
def apc[fu:Fu]{d nm e s cap:Nat}{ds ds2:List DV}(ds':List DV)(h:NV fr own cf=some ⟨d,nm,e,s,ds,ds2,cap⟩)(hds:ds++ds2=ds')(ho2:cI s ds2)(hc:ds.length+ds2.length<=cap)(hgo:cB tt n fu.n fr own cf (.rw d) [(nm,none),(d,some (.c e s ds' cap))] [d]=⟨vc,fr',own',cf'⟩)(k:aA prog GB C n Q0 fr' own' cf')
  (hp:0<ds2.length:=by simp)(hv:autoParam (ak vc) cL._auto_1):aA prog GB C n Q0 fr own cf:=by
 subst hds;unfold NV at h;split at h<;>try (cases h;done)
 rename_i hh;split at h<;>try (cases h;done)
 rename_i hT hT';split at h<;>try (cases h;done)
 rename_i hx;split at h<;>try (cases h;done)
 rename_i hb hy;rw[cond_eq_ite] at h;split at h<;>cases h;rename_i h2;simp only[bW,iT] at h2
 cases aN h2.1.1
 cases aN h2.1.2
 have:=lf (fi _ _ hT) J;have hN:j0 prog _:=⟨_,(lf (fi _ _ hT') J).un⟩;exact us hh (aKo hx hb hy ho2 hc hp h2.2) hgo hv k
def PI(GB:Gh)(P:Program)(f:FuncId)(i:Int)(s:Nat)(ty ty2:TypeId)(ds:List DV)(x:DV)(cap:Nat)(dso:List DV):Prop:=
 ∀G w w2 B B2,bI GB G->d9 G ⟨w,s,ty,ds,false⟩ B->cap<=w.c->d9 G ⟨w2,s,ty2,[x],false⟩ B2->iu P f [.slice w.a w.n w.c, .int .i64 i, .slice w2.a w2.n w2.c] (B++B2) G fun v own' G'=> ∃w',v= .slice w'.a w'.n w'.c/\d9 G' ⟨w',s,ty,dso,false⟩ own'
structure CiA where
 f:FuncId
 nm:Nat
 nm2:Nat
 i:Int
 ty:TypeId
 ty2:TypeId
 s:Nat
 ds:List DV
 x:DV
 cap:Nat
 d:Nat
def R1(fr:aC)(own:aO)(cf:Cf):Option CiA:=match c6 fr cf with
 |some ⟨some d, .call ⟨.value fo,⟨[x1,x2,x3]⟩,_⟩,_,_,_,_⟩=>match bj (cd fr cf) fo,bj (cd fr cf) x1 with
  |some (.d (.v (.func (.func f) ⟨[]⟩ ⟨[]⟩))),some (.rw nm)=>match bj (cd fr cf) x2,bj (cd fr cf) x3 with
   |some (.d (.v (.int .i64 i))),some (.rw nm2)=>match jk fr own cf nm,jk fr own cf nm2 with
    |some (.c ty s ds cap),some (.b ty2 s2 [x] true)=>bif (!Nat.beq nm d&&!Nat.beq nm2 d)&&(!Nat.beq nm nm2&&(Nat.beq s2 s&&Nat.blt 0 cap)) then some ⟨f,nm,nm2,i,ty,ty2,s,ds,x,cap,d⟩ else none
    |_,_=>none
   |_,_=>none
  |_,_=>none
 |_=>none
def WD{lk:LK}{bk:BM}{fo x1 x2 x3:Operand}{tys:Array TypeId}{f:FuncId}{nm nm2 d cap s:Nat}{i:Int}{ty0 ty2:TypeId}{ty:TypeId}{pos:String}{af:Array Edge}{gd:Option (Nat×Bool)}{ds:List DV}{x:DV}(hne:Nat.beq nm d=false)(hne2:Nat.beq nm2 d=false)(hn2:Nat.beq nm nm2=false)(hcp:0<cap)
  (h0:bj lk fo=some (.d (.v (.func (.func f) ⟨[]⟩ ⟨[]⟩))))(h1:bj lk x1=some (.rw nm))(h2:bj lk x2=some (.d (.v (.int .i64 i))))(h3:bj lk x3=some (.rw nm2))(hb:bk nm=some (.c ty0 s ds cap))(hb2:bk nm2=some (.b ty2 s [x] true))(hF:PI GB prog f i s ty0 ty2 ds x cap dso):
  b8 prog GB C n lk bk ⟨some d, .call ⟨.value fo,⟨[x1,x2,x3]⟩,tys⟩,ty,pos,af,gd⟩ (.rw d) [(nm,none),(nm2,none),(d,some (.b ty0 s dso true))] [d]:=by
 intro hd tl tb K' s1 s2 hf hk;refine⟨fun ρ G ov a w r Q=>?_⟩;have r1:=r.mono s1 s2;obtain⟨y,hy,hy'⟩:=r1.ev h0;rw[(aI (G:=G)).1 hy'] at hy;obtain⟨y1,p1,p1'⟩:=r1.ev h1
 cases (show y1=_ from p1')
 obtain⟨y2,p2,p2'⟩:=r1.ev h2;rw[dk] at p2';subst p2';obtain⟨y3,p3,p3'⟩:=r1.ev h3
 cases (show y3=_ from p3')
 have hnn:nm≠d:=fun e=>by subst e;rw[oJ] at hne;cases hne
 have hnn2:nm2≠d:=fun e=>by subst e;rw[oJ] at hne2;cases hne2
 have hnm:nm≠nm2:=fun e=>by subst e;rw[oJ] at hn2;cases hn2
 obtain⟨B,g1,g2⟩:=r1.bx _ _ hb;obtain⟨B2,k1,k2⟩:=r1.bx _ _ hb2;obtain⟨vs,q1,q2,q3,q4,q5⟩:=g1;have hB:d9 G ⟨ρ nm,s,ty0,ds,false⟩ B:=⟨vs,q1,q2,q3,fun h=>by cases h⟩;have hB2:d9 G ⟨ρ nm2,s,ty2,[x],false⟩ B2:=d9.weak (lo:=true) k1;have e1: ∃o,B=[o]/\(ρ nm).a=some ⟨o.b,0,none⟩:=by
  rcases q1 with⟨_,e,_⟩|⟨b,rest,lo',e,rfl,_⟩
  .rw[e] at q5;simp at q5;omega
  .exact⟨_,J,by rw[e]⟩
 have e2: ∃o,B2=[o]/\(ρ nm2).a=some ⟨o.b,0,none⟩:=by
  obtain⟨vs2,c1,c2,_⟩:=k1;rcases c1 with⟨e,_,_⟩|⟨b,rest,lo',e,rfl,_⟩
  .subst e;have:=c2.len;simp at this
  .exact⟨_,J,by rw[e]⟩
 obtain⟨o1,rfl,a1⟩:=e1;obtain⟨o2,rfl,a2⟩:=e2;have hob:o1.b≠o2.b:=fun e=>r.dj nm nm2 _ _ (s2 _ _ hb) (s2 _ _ hb2) hnm _ a1 (by rw[a2,e]);have hp: ∃rest,ov.Perm ([o1]++[o2]++rest):=by
  obtain⟨l1,l2,e3⟩:=mN (g2 _ aZ);have hm:=k2 _ aZ;rw[e3] at hm⊢;have hm2:o2∈l1++l2:=by
   rcases bX.1 hm with h|h
   .exact bM _ h
   .rcases aW.1 h with h|h
    .exact absurd (by rw[h]) hob
    .exact bU _ h
  obtain⟨l3,l4,e4⟩:=mN hm2;refine⟨l3++l4,List.perm_middle.trans ?_⟩;rw[e4];exact(pQ (l₁:=l3) (l₂:=l4) (a:=o2)).cons o1
 obtain⟨rest,h5⟩:=hp;have h6: ∀o∈ov,o.b≠o1.b->o.b≠o2.b->o∈rest:=fun o ho n1 n2=>by
  have:=h5.mem_iff.1 ho;simp only[iJ,kV,aW] at this;rcases this with rfl|rfl|h
  .exact absurd J n1
  .exact absurd J n2
  .exact h
 have hlo2: ∀o∈[o2],o.lo=true:=by obtain⟨_,_,_,_,h⟩:=k1;exact h rfl
 have hall: ∀o∈[o1]++[o2],o.lo=true:=fun o ho=>by
  rcases bX.1 ho with h|h
  .exact q4 o h
  .exact hlo2 o h
 refine xU (M:=[o1]++[o2]) (rest:=rest) (vs:=[.slice (ρ nm).a (ρ nm).n (ρ nm).c, .int .i64 i, .slice (ρ nm2).a (ρ nm2).n (ρ nm2).c]) hy (by simp only[fG,p1,p2,p3]) h5 (hF G (ρ nm) (ρ nm2) [o1] [o2] r.gb hB q5 hB2) hd (fun v own1 G' hG hK a' w' rl=>?_) a w Q ⟨r.h,r.sz,cC a,r.df⟩;obtain⟨z,rfl,vs',k1',k2',k3',k4'⟩:=hK;have hs1:=k1'.relo (gI ([o1]++[o2]));have e3: ∀o∈own1.map (relo (gI ([o1]++[o2]))),o.lo=true:=fun o ho=>by
  obtain⟨o',_,rfl⟩:=aU.1 ho;exact Dy _ hall
 generalize own1.map (relo (gI ([o1]++[o2])))=B' at rl e3 hs1;have rl':gA C n (Sx.put (cp a) (some d) (.slice z.a z.n z.c)) (B'++rest) G' a' w':=rl;have hdis:=(gR.1 rl'.h.nd).2.2;have rd:=(r.dropB nm).dropB nm2;have hin: ∀q B0,Sx.upB (Sx.upB tb [(nm,none)]) [(nm2,none)] q=some B0->q≠nm/\q≠nm2/\tb q=some B0:=fun q B0 e=>by
  simp only[Sx.upB] at e;split at e
  .cases e
  .split at e
   .cases e
   .exact⟨ome,ome,e⟩
 have hf2:kE [d] (some d) tl (Sx.upB (Sx.upB tb [(nm,none)]) [(nm2,none)]):=fun q hq=>by
  obtain⟨f1,f2⟩:=hf q hq;exact⟨f1,fun k B e1 e=>f2 k B e1 (hin k B e).2.2⟩
 have hsep: ∀q B0,Sx.upB (Sx.upB tb [(nm,none)]) [(nm2,none)] q=some B0-> ∀o∈ov,(ρ q).a=some ⟨o.b,0,none⟩->o∈rest:=fun q B0 e o ho hbq=>by
  obtain⟨n1,n2,n3⟩:=hin q B0 e;exact h6 o ho (fun e'=>r.dj nm q _ _ (s2 _ _ hb) n3 (Ne.symm n1) _ a1 (by rw[hbq,e'])) (fun e'=>r.dj nm2 q _ _ (s2 _ _ hb2) n3 (Ne.symm n2) _ a2 (by rw[hbq,e']))
 have r3:=rd.new' (x:=z) (B':= .b ty0 s dso true) (os:=B') (ov':=B'++rest) (f:= .rw d) (y:= .slice z.a z.n z.c) hf2 hG.le rl'.h ⟨vs',by simpa using hs1,k2',k3',fun _=>e3⟩ (fun o ho=>bM _ ho)
  (fun q B0 hq e o ho hbq=>⟨bU _ (hsep q B0 e o ho hbq),fun hc=>by
   have hx: ∃o1∈B',o1.b=o.b:=by
    rcases hs1 with⟨_,h,_⟩|⟨b0,rest0,lo0,h,hB,_⟩
    .rw[show z=_ from h] at hc;cases hc
    .rw[show z=_ from h] at hc;cases hc;exact⟨⟨_,aH vs'++rest0,_,lo0⟩,by rw[hB];exact aZ,J⟩
   obtain⟨o3,ho3,he3⟩:=hx;exact hdis o3 ho3 o (hsep q B0 e o ho hbq) he3⟩) ozd (jp rl')
 exact hk.run _ G' _ a' w' r3
def ci[fu:Fu]{f:FuncId}{nm nm2 d cap s:Nat}{i:Int}{ty ty2:TypeId}{ds:List DV}{x:DV}(dso':List DV)(ha:R1 fr own cf=some ⟨f,nm,nm2,i,ty,ty2,s,ds,x,cap,d⟩)(hF:PI GB prog f i s ty ty2 ds x cap dso)(he:dso=dso')
  (hgo:cB tt n fu.n fr own cf (.rw d) [(nm,none),(nm2,none),(d,some (.b ty s dso' true))] [d]=⟨vc,fr',own',cf'⟩)(k:aA prog GB C n Q0 fr' own' cf')
  (hv:autoParam (ak vc) cL._auto_1):aA prog GB C n Q0 fr own cf:=by
 subst he;unfold R1 at ha;split at ha<;>try (cases ha;done)
 rename_i hh;split at ha<;>try (cases ha;done)
 rename_i h0 h1;split at ha<;>try (cases ha;done)
 rename_i h2 h3;split at ha<;>try (cases ha;done)
 rename_i hb hb2;rw[cond_eq_ite] at ha;split at ha<;>cases ha;rename_i hc;simp only[bW,iT,lU] at hc;obtain⟨⟨c1,c2⟩,c3,c4,c5⟩:=hc
 cases aN c4
 exact us hh (WD c1 c2 c3 c5 h0 h1 h2 h3 hb hb2 hF) hgo hv k
def fD(d:Nat)(hl:bi fr d=some (.d (.v (.bool true))))(k:aA prog GB C n Q0 ((d, .tt)::fr) own (.ops ops r K)):aA prog GB C n Q0 fr own (.ops ops r K):=ql (g:= .tt) hl (fun _ G _ e=>(aI (G:=G)).1 e) k
def iG(d:Nat)(hl:bi fr d=some (.d (.v (.bool false))))(k:aA prog GB C n Q0 ((d, .ff)::fr) own (.ops ops r K)):aA prog GB C n Q0 fr own (.ops ops r K):=ql (g:= .ff) hl (fun _ G _ e=>(aI (G:=G)).1 e) k
end
section
variable {own:aO}
def Md(fr:aC)(cf:Cf):Option (Int×Int):=match c6 fr cf with
 |some ⟨_, .binOp .xor _ x y _,_,_,_,_⟩=>match bj (cd fr cf) x,bj (cd fr cf) y with
  |some (.d (.v (.int .u32 p))),some (.d (.v (.int .u32 q)))=>some (p,q)
  |_,_=>none
 |_=>none
def xr[fu:Fu](u:Int)(h:Md fr cf=some (p,q))(e:(((BitVec.ofInt 32 p^^^BitVec.ofInt 32 q).toNat:Nat):Int)=u)(hgo:cB tt n fu.n fr own cf (.d (.v (.int .u32 u))) [] []=⟨vc,fr',own',cf'⟩)(k:aA prog GB C n Q0 fr' own' cf')
  (hv:autoParam (ak vc) cL._auto_1):aA prog GB C n Q0 fr own cf:=by
 unfold Md at h;split at h<;>try (cases h;done)
 rename_i hh;split at h<;>cases h;rename_i h1 h2;subst e;exact us hh (.yd fun ρ G ov a w r=>by
  obtain⟨y1,h3,h4⟩:=r.ev h1;obtain⟨y2,h5,h6⟩:=r.ev h2;rw[dk] at h4 h6;subst h4 h6;exact⟨_,dk.2 J,ly h3 h5 fun w=>by
   show(pure (Value.int .u32 (IntKind.u32.wrap ((BitVec.ofInt 32 p^^^BitVec.ofInt 32 q).toNat:Int))):Sem Value).run prog w=_;rw[Dx];rfl⟩) hgo hv k
def NS(fr:aC)(cf:Cf):Option (Int×Int):=match c6 fr cf with
 |some ⟨_, .binOp .sub _ x y _,_,_,_,_⟩=>match bj (cd fr cf) x,bj (cd fr cf) y with
  |some (.d (.v (.int .u32 p))),some (.d (.v (.int .u32 q)))=>some (p,q)
  |_,_=>none
 |_=>none
def sw[fu:Fu](u:Int)(h:NS fr cf=some (p,q))(e:(p-q)%4294967296=u)(hgo:cB tt n fu.n fr own cf (.d (.v (.int .u32 u))) [] []=⟨vc,fr',own',cf'⟩)(k:aA prog GB C n Q0 fr' own' cf')
  (hv:autoParam (ak vc) cL._auto_1):aA prog GB C n Q0 fr own cf:=by
 unfold NS at h;split at h<;>try (cases h;done)
 rename_i hh;split at h<;>cases h;rename_i h1 h2;subst e;exact us hh (.yd fun ρ G ov a w r=>by
  obtain⟨y1,h3,h4⟩:=r.ev h1;obtain⟨y2,h5,h6⟩:=r.ev h2;rw[dk] at h4 h6;subst h4 h6;exact⟨_,dk.2 J,by rw[<-vf];exact Y4 h3 h5⟩) hgo hv k
def S9(fr:aC)(cf:Cf):Option Int:=match c6 fr cf with
 |some ⟨_, .unOp .xor _ x,_,_,_,_⟩=>match bj (cd fr cf) x with
  |some (.d (.v (.int .u32 p)))=>some p
  |_=>none
 |_=>none
def nt[fu:Fu](u:Int)(h:S9 fr cf=some p)(e:(((BitVec.ofInt 32 IntKind.u32.max^^^BitVec.ofInt 32 p).toNat:Nat):Int)=u)(hgo:cB tt n fu.n fr own cf (.d (.v (.int .u32 u))) [] []=⟨vc,fr',own',cf'⟩)(k:aA prog GB C n Q0 fr' own' cf')
  (hv:autoParam (ak vc) cL._auto_1):aA prog GB C n Q0 fr own cf:=by
 unfold S9 at h;split at h<;>try (cases h;done)
 rename_i hh;split at h<;>cases h;rename_i hx;subst e;refine us hh (.x1 hx fun ρ G ov a w y _ r h1 h2=>?_) hgo hv k;rw[dk] at h2;subst h2;refine⟨_,dk.2 J,fun a w hf hh=>?_⟩;simp only[execOp,bC hf h1];refine c7 (w':=w) ?_;show(pure (Value.int .u32 (IntKind.u32.wrap ((BitVec.ofInt 32 IntKind.u32.max^^^BitVec.ofInt 32 p).toNat:Int))):Sem Value).run prog w=_;rw[Dx];rfl
end

end Go.Sx
end
section
namespace Go.Sx
open Go
variable {ds:List Nat}{i n k j a k' b d:Nat}{G:Gh}{v:Value}{m:Int}
def dU(d:Nat):DV:= .v (.int .u32 (d:Int))
def bD(ds:List Nat):DV:= .sl (ds.map dU)
def dN(n:Nat):DV:= .sl ((dg n).map dU)
def dD(n:Nat):DV:= .sl (if n=1 then [] else(dg n).map dU)
def eI(m:Int):DV:= .ag [.v (.bool (decide (m<0))),dN m.natAbs]
def eQ(q:Rat):DV:= .ag [.v (.bool (decide (q.num<0))),dN q.num.natAbs,dD q.den]
def eP(p:ah):DV:= .ag [.v (.bool (decide (p.x.num<0))),dN p.x.num.natAbs,dD p.x.den, .v (.bool (decide (p.y.num<0))),dN p.y.num.natAbs,dD p.y.den]
def eL(l:aa):DV:= .ag [.v (.bool (decide (l.a<0))),dN l.a.natAbs, .v (.bool (decide (l.b<0))),dN l.b.natAbs, .v (.bool (decide (l.c<0))),dN l.c.natAbs]
def eR(q:Rat):DV:= .ag [.v (.bool (decide (q.num<0))),dN q.num.natAbs,dN q.den]
def iz(p:ah):DV:= .ag [.v (.bool (decide (p.x.num<0))),dN p.x.num.natAbs,dN p.x.den, .v (.bool (decide (p.y.num<0))),dN p.y.num.natAbs,dN p.y.den]
def vI(n:Int):DV:= .v (.int .i64 n)
def vB(b:Bool):DV:= .v (.bool b)
def HH(n:Nat):dN n=bD (dg n):=rfl
def aLh(h:bt ds):bD (trimD ds)=dN (dv ds):=by unfold bD dN;rw[DM h]
def aAi(h:i<ds.length):(ds.map dU)[i]? =some (dU (ds.getD i 0)):=by
 rw[bL,aQ h,aV,aQ h];rfl
def fe(h:i<ds.length:=by omega):(ds.map dU)[(i:Int).toNat]? =some (dU (ds.getD i 0)):=by rw[cK];exact aAi h
def jI(ds:List Nat)(i d:Nat):(ds.map dU).set i (.v (.int .u32 (d:Int)))=(ds.set i d).map dU:=by rw[kK];rfl
def om(n:Nat):List.replicate n (DV.v (.int .u32 0))=(List.replicate n 0).map dU:=by rw[List.map_replicate];rfl
def r5(ds:List Nat):cI 1 (ds.map dU):=fun d hd=>by
 obtain⟨n,_,rfl⟩:=aU.1 hd;exact⟨rfl,rfl⟩
def ef(n:Nat)(i:Nat):(dg n).getD i 0<4294967296:=(eE n).2.1.get i
def sj:dg 0=[]:=by rw[dg,dif_pos J]
def Aq:dg 1=[1]:=by rw[dg,dif_neg oma];simp[sj]
def qn{n:Nat}:(dg n).length=0↔n=0:=by
 constructor
 .intro h
  have:=(eE n).1;rw[cJ h] at this;exact this.symm
 .rintro rfl;rw[sj];rfl
def nD:dN 0= .sl []:=by unfold dN;rw[sj];rfl
def ET{G:Gh}: ∀{ds:List Nat} {es:List Value},IsLs G (ds.map dU) es↔es=ds.map dI
 |[],es=>dm
 |d::t,es=>by
  rw[bV,bh];constructor
  .rintro ⟨y,n,rfl,h1,h2⟩
   rw[aI.1 h1,ET.1 h2];rfl
  .rintro rfl
   exact⟨_,_,J,aI.2 J,ET.2 J⟩
def JB:Is G (bD ds) v↔ ∃x:SV,v= .slice x.a x.n x.c/\gp G 1 x (ds.map dI):=by
 unfold bD;rw[gr];constructor
 .rintro ⟨s,x,es,rfl,h1,h2⟩
  have:=ET.1 h2;subst this;refine⟨x,J,?_⟩;rcases Bx (s:=1) h1 h2 (r5 ds) with h|h
  .rw[h] at h1⊢
   exact⟨h1.len,h1.cap, .inl J⟩
  .subst h;exact h1
 .rintro ⟨x,rfl,h⟩
  exact⟨1,x,_,J,h,ET.2 J⟩
def Qs(hk:n<2^k):Is G (dN n) v↔ ∃x:SV,v= .slice x.a x.n x.c/\AI k G x n:=by
 rw[HH,JB];constructor
 .rintro ⟨x,rfl,h⟩
  exact⟨x,J,⟨(eE n).2.1,h⟩,hk⟩
 .rintro ⟨x,rfl,h⟩
  exact⟨x,J,h.d.sl⟩
def cP{i:Int}(hi:i=k:=by omega)(h:k<ds.length:=by omega):(ds.map dU)[i.toNat]? =some (dU (ds.getD k 0)):=by subst hi;exact fe h
class BN (n:Nat) (k:outParam Nat):Prop where h:n<2^(7*k)
class BI (m:Int) (k:outParam Nat):Prop where h:m.natAbs<2^(7*k)
class BQ (q:Rat) (k:outParam Nat):Prop where
 hn:q.num.natAbs<2^(7*k)
 hd:q.den<2^(7*k)
def rk(h:n<2^k):n<2^(7*k):=cM h (cZ oma we)
def vz(h:j<=k:=by omega):2^(7*j)<=2^(7*k):=cZ oma we
def CN{m:Nat}(h:a<2^m)(hk:m<=k:=by decide):a<2^k:=cM h (cZ oma hk)
def AN{m:Nat}(h:m<=k):2^m<=2^k:=cZ oma h
def Zo(n:Nat):4294967296^n=2^(32*n):=by rw[tJ]
theorem BN.up(h:n<2^k):BN n k:=⟨rk h⟩
theorem BI.of(h:m.natAbs<2^j)(e:j=7*k):BI m k:=⟨e▸h⟩
theorem BN.mono(h:BN n k)(hk:k<=k'):BN n k':=⟨cM h.h (vz hk)⟩
def auk(h:a<2^i)(k:b<2^j):a*b<2^(i+j):=by rw[fT];exact sS h k
def Yx(h:a<2^i)(k:b<2^j):a+b<2^(i+j+1):=by
 have h1:2^i<=2^(i+j):=cZ oma we;have h2:2^j<=2^(i+j):=cZ oma we;rw[iL];omega
def kg(h:a<2^(7*i))(k:b<2^(7*j)):a*b<2^(7*(i+j)):=by rw[eX];exact auk h k
def To(h:a<2^(7*i))(k:b<2^(7*j)):a+b<2^(7*(i+j+1)):=cM (Yx h k) (cZ oma we)
def F7(k:Nat):2^(7*(k+1))=128*2^(7*k):=by rw[eX,fT];omega
instance BN.mul (a b i j:Nat) [h:BN a i] [k:BN b j]:BN (a*b) (i+j):=⟨kg h.h k.h⟩
instance BN.div (a b i:Nat) [h:BN a i]:BN (a/b) i:=⟨dZ (mT _ _) h.h⟩
instance BN.abs (m:Int) (i:Nat) [h:BI m i]:BN m.natAbs i:=⟨h.h⟩
instance BN.den (q:Rat) (i:Nat) [h:BQ q i]:BN q.den i:=⟨h.hd⟩
def Tj(h:a<2^i)(k:b<2^j):Nat.gcd a b<2^(i+j):=by
 have h1:2^i<=2^(i+j):=cZ oma we;have h2:2^j<=2^(i+j):=cZ oma we;rcases fL a with h0|h0
 .subst h0;rw[Nat.gcd_zero_left];omega
 .have:=Nat.gcd_le_left b h0;omega
instance BN.gcd (a b i j:Nat) [h:BN a i] [k:BN b j]:BN (Nat.gcd a b) (i+j):=⟨by rw[eX];exact Tj h.h k.h⟩
instance BN.one:BN 1 1:=⟨oma⟩
instance BI.mul (a b:Int) (i j:Nat) [h:BI a i] [k:BI b j]:BI (a*b) (i+j):=⟨by rw[eY];exact kg h.h k.h⟩
instance BI.add (a b:Int) (i j:Nat) [h:BI a i] [k:BI b j]:BI (a+b) (i+j+1):=⟨dZ (Int.natAbs_add_le a b) (To h.h k.h)⟩
instance BI.sub (a b:Int) (i j:Nat) [h:BI a i] [k:BI b j]:BI (a-b) (i+j+1):=⟨dZ (Int.natAbs_sub_le a b) (To h.h k.h)⟩
instance BI.neg (a:Int) (i:Nat) [h:BI a i]:BI (-a) i:=⟨by rw[jX];exact h.h⟩
instance BI.num (q:Rat) (i:Nat) [h:BQ q i]:BI q.num i:=⟨h.hn⟩
instance BI.nat (n:Nat) (i:Nat) [h:BN n i]:BI (n:Int) i:=⟨by rw[dS];exact h.h⟩
def nB(q:Rat):0<q.den:=fZ q.den_nz
theorem zO(hd:0<d)(h:m.natAbs<2^(7*i))(k:d<2^(7*i)):BQ (mkRat m d) i:=by
 refine⟨?_,?_⟩
 .rw[sM,if_neg we]
  have:=mS m (d.gcd m.natAbs:Nat);omega
 .rw[sN,if_neg we]
  have:=mT d (d.gcd m.natAbs);omega
theorem BQ.mono{q:Rat}(h:BQ q k)(hk:k<=k':=by decide):BQ q k':=⟨cM h.hn (vz hk),cM h.hd (vz hk)⟩
def By(p q:Rat):p*q=mkRat (p.num*q.num) (p.den*q.den):=by rw[Rat.mul_def,Rat.normalize_eq_mkRat]
def A'(p q:Rat):p+q=mkRat (p.num*q.den+q.num*p.den) (p.den*q.den):=by rw[Rat.add_def,Rat.normalize_eq_mkRat]
instance BQ.mul (p q:Rat) (i j:Nat) [h:BQ p i] [k:BQ q j]:BQ (p*q) (i+j):=by
 rw[By];exact zO (iY (nB p) (nB q)) (BI.mul p.num q.num i j).h (kg h.hd k.hd)
instance BQ.add (p q:Rat) (i j:Nat) [h:BQ p i] [k:BQ q j]:BQ (p+q) (i+j+1):=by
 rw[A'];refine zO (iY (nB p) (nB q)) ?_ ?_
 .have h1:=kg h.hn k.hd
  have h2:=kg k.hn h.hd;have h3:(p.num*q.den+q.num*p.den).natAbs<=(p.num*q.den).natAbs+(q.num*p.den).natAbs:=Int.natAbs_add_le ..;rw[eY,eY,dS,dS] at h3;rw[lV j i] at h2;rw[F7];omega
 .have h1:=kg h.hd k.hd
  rw[F7];omega
instance BQ.neg (p:Rat) (i:Nat) [h:BQ p i]:BQ (-p) i:=⟨by rw[oX,jX];exact h.hn,by rw[tK];exact h.hd⟩
instance BQ.sub (p q:Rat) (i j:Nat) [h:BQ p i] [k:BQ q j]:BQ (p-q) (i+j+1):=by
 rw[Rat.sub_eq_add_neg];exact BQ.add p (-q) i j
instance BQ.ofInt (m:Int) (i:Nat) [h:BI m i]:BQ (m:Rat) (i+1):=by
 refine⟨?_,?_⟩
 .rw[jN];have:=h.h;rw[F7];omega
 .rw[kY];have:0<2^(7*i):=iX oma;rw[F7];omega
end Go.Sx
end
section
namespace Go.Sx
open Go Go.Proofs Tryz
variable {GB:Gh}{ds A B W:List Nat}{n x y c a k i b u ia ib d c2 j m s w h q t:Nat}{f:FuncId}{rows rws:List DV}{ty ty2:TypeId}{fb:Func}
def DH(p q:Int):Nat:=(BitVec.ofInt 32 p &&& BitVec.ofInt 32 q).toNat
def Ho(p q:Int):Nat:=(BitVec.ofInt 32 p ||| BitVec.ofInt 32 q).toNat
def Br(p q:Int):Nat:=(BitVec.ofInt 32 p^^^BitVec.ofInt 32 q).toNat
def LY(h:0<n/\n<=ds.length)(hz:ds.getD (n-1) 0=0):trimD (ds.take n)=trimD (ds.take (n-1)):=by
 obtain⟨m,rfl⟩: ∃m,n=m+1:=⟨n-1,we⟩;rw[jY we,mM];rw[mM,aV,aQ we] at hz;simp only[lK] at hz;rw[hz,aqB]
def Ug(h:n<=ds.length)(hz:0<n->ds.getD (n-1) 0≠0):trimD (ds.take n)=ds.take n:=by
 rcases fL n with h0|h0
 .subst h0;simp[trimD]
 .obtain⟨m,rfl⟩: ∃m,n=m+1:=⟨n-1,we⟩
  have hz:=hz h0;rw[jY we];rw[mM,aV,aQ we] at hz;exact LW (by simpa using hz)
def ZC(hx:x<4294967296)(hy:y<4294967296)(hc:c<=1):PF GB prog 259 [.v (.int .u32 (x:Int)), .v (.int .u32 (y:Int)), .v (.int .u32 (c:Int))] (.tp [.v (.int .u32 (((x+y+c)%4294967296:Nat):Int)), .v (.int .u32 (((x+y+c)/4294967296:Nat):Int))]):=by
 refine fn (hv:=by simp only[ak];exact⟨⟨⟨⟨⟨we,we⟩,we⟩,we⟩,we⟩,oma⟩) func259 J J ntmps259 J J (fun C=>?_);exact rz J (by
  have e1:((x:Int)+y+c)%4294967296=(((x+y+c)%4294967296:Nat):Int):=by omega
  have e2:((x:Int)+y+c).fdiv (2^min (32:Int).toNat IntKind.u64.bits)%4294967296=(((x+y+c)/4294967296:Nat):Int):=by
   rw[show(2:Int)^min (32:Int).toNat IntKind.u64.bits=((4294967296:Nat):Int) from J,lX _ oma];omega
  show DV.tp [.v (.int _ _), .v (.int _ _)]=_;rw[e1,e2])
def Id(n:Nat)(h:n<4294967296):(BitVec.ofInt 32 (n:Int)).msb=decide (2147483648<=n):=by
 rw[show BitVec.ofInt 32 (n:Int)=BitVec.ofNat 32 n from BitVec.ofInt_natCast ..];rw[BitVec.msb_eq_decide,BitVec.toNat_ofNat,kQ omE]
def avM(b:BitVec 32):b.toNat/2147483648=if b.msb then 1 else 0:=by
 have:=b.isLt;rw[BitVec.msb_eq_decide];simp only[decide_eq_true_eq,Nat.reduceSub,Nat.reducePow] at*;split<;>omega
def alc(b:BitVec 32):BitVec.ofInt 32 (b.toNat:Int)=b:=by rw[BitVec.ofInt_natCast,BitVec.ofNat_toNat,BitVec.setWidth_eq]
def Wp(hx:x<4294967296)(hy:y<4294967296)(hc:c<=1):
  ((Ho (DH (Br IntKind.u32.max x:Nat) y:Nat) (DH (Br IntKind.u32.max (Br x y:Nat):Nat) (IntKind.u32.wrap (IntKind.u32.wrap ((x:Int)-y)-c)):Nat):Nat):Int).fdiv (2^min (31:Int).toNat IntKind.u32.bits)=(((if x<y+c then 1 else 0):Nat):Int):=by
 rw[show((2:Int)^min (31:Int).toNat IntKind.u32.bits)=((2147483648:Nat):Int) from J,lX _ oma,<-sT];congr 1;have hd: ∃d:Nat,d<4294967296/\IntKind.u32.wrap (IntKind.u32.wrap ((x:Int)-y)-c)=(d:Int)/\((x>=y+c/\d=x-(y+c))\/(x<y+c/\d=x+4294967296-(y+c))):=by
  rw[vf,vf];refine⟨((((x:Int)-y)%4294967296-c)%4294967296).toNat,we,we,we⟩
 obtain⟨d,hd1,hd2,hd3⟩:=hd;rw[hd2];unfold Ho DH Br;simp only[alc];rw[avM];simp only[BitVec.msb_or,BitVec.msb_and,BitVec.msb_xor,Id x hx,Id y hy,Id d hd1];have h1:(BitVec.ofInt 32 IntKind.u32.max).msb=true:=by decide
 rw[h1];rcases gN x 2147483648 with a|a<;>rcases gN y 2147483648 with b|b<;>rcases gN d 2147483648 with e|e<;>
  simp[Nat.not_le.2, *]<;>(first|omega|(split<;>omega))
def Wc(hx:x<4294967296)(hy:y<4294967296)(hc:c<=1):IntKind.u32.wrap (IntKind.u32.wrap ((x:Int)-y)-c)=(((if x<y+c then x+4294967296-(y+c) else x-(y+c)):Nat):Int):=by
 rw[vf,vf];split<;>omega
def aGV(hx:x<4294967296)(hy:y<4294967296)(hc:c<=1):PF GB prog 260 [.v (.int .u32 (x:Int)), .v (.int .u32 (y:Int)), .v (.int .u32 (c:Int))] (.tp [.v (.int .u32 (((if x<y+c then x+4294967296-(y+c) else x-(y+c)):Nat):Int)), .v (.int .u32 (((if x<y+c then 1 else 0):Nat):Int))]):=by
 refine fn (fu:=⟨10⟩) func260 J J ntmps260 J J (fun C=>?_);refine sw (fu:=⟨1⟩) _ J (vf _).symm J<|sw (fu:=⟨6⟩) _ J (vf _).symm J<|nt (fu:=⟨4⟩) _ J J J<|xr (fu:=⟨0⟩) _ J J J<|nt _ J J J<|rz J (by have h1:=Wp hx hy hc;unfold Ho DH Br at h1;show DV.tp [.v (.int _ _), .v (.int _ _)]=_;rw[h1,Wc hx hy hc])
def tB(hl:ds.length<=1125899906842624:=by omega):PF GB prog 199 [bD ds] (bD (trimD ds)):=by
 refine fn func199 J J ntmps199 J J (fun C=>?_);refine lp (X:=Nat) (fun n=>[(0, .d (bD ds)),(3, .d (vI (n:Nat)))]) (fun n=>[]) (fun n=>n<=ds.length/\trimD ds=trimD (ds.take n)) (fun n=>n) ds.length J ⟨bJ _,by rw[dQ]⟩ (fun _=>J) (fun n hk=>?_);obtain⟨h1,h2⟩:=hk;refine cs 8 J J J (fun hg8=>?_) (fun hg8=>?_)
 .
  refine ix _ J (cP (k:=n-1)) J<|br J J J (fun hc15=>?_) (fun hc15=>?_)
  .
   have hz:ds.getD (n-1) 0=0:=by omega
   exact at_ (n-1) ⟨⟨we,by rw[h2,LY we hz]⟩,we⟩
  .
   refine je 0 n _ J J J J (r5 _) we omp J<|rz J (by have:=Ug h1 (fun _ h=>hc15 we);rw[<-h2] at this;show DV.sl _=_;simp[bD,this])
 .
  refine je 0 n _ J J J J (r5 _) we omp rfl<|rz rfl (by obtain rfl:n=0:=we;show DV.sl _=_;simp[bD,h2,trimD])
def vX(h:a<2^k)(hk:k<=7000000000:=by omega):(dg a).length<=220000000:=by have:=ji h;omega
def c8(a:Nat):dv (dg a)=a:=(eE a).1
def gt(a:Nat):bt (dg a):=(eE a).2.1
def b7(ds:List Nat):(ds.map dU).length=ds.length:=aX ..
def lg(h:ds.length<=n:=by omega):ds.take n=ds:=bS h
def qP(h:ds.length<=i:=by omega):ds.getD i 0=0:=by
 rw[aV,dT h];rfl
def lP(h:bt ds)(e:dv ds=n):bD (trimD ds)=dN n:=by rw[aLh h,e]
def AD(h:a<b):i0 a b= -1:=by unfold i0;rw[if_pos h]
def Ay(h:b<a):i0 a b=1:=by unfold i0;rw[if_neg we,if_neg we]
def Lj(h:a=b):i0 a b=0:=by unfold i0;rw[if_neg we,if_pos h]
def ayy(m n:Nat):Int.sign ((m:Int)-n)=i0 m n:=by
 unfold i0;split
 .exact eK we
 .split
  .rw[show(m:Int)-n=0 by omega];rfl
  .exact fS we
def Iv(h:(dg a).length≠(dg b).length:=by omega):i0 (dg a).length (dg b).length=i0 a b:=by
 rcases Nat.lt_or_gt_of_ne h with h|h
 .have:=y8 (gt a) (eE b).2.2 h
  rw[c8,c8] at this;rw[AD h,AD this]
 .have:=y8 (gt b) (eE a).2.2 h
  rw[c8,c8] at this;rw[Ay h,Ay this]
def ym(hl:(dg a).length=(dg b).length)(hi:i<(dg a).length)(hs:(dg a).drop (i+1)=(dg b).drop (i+1)):
  ((dg a).getD i 0<(dg b).getD i 0->a<b)/\((dg b).getD i 0<(dg a).getD i 0->b<a)/\((dg a).getD i 0=(dg b).getD i 0->(dg a).drop i=(dg b).drop i):=by
 refine⟨fun h=>?_,fun h=>?_,fun h=>?_⟩
 .have:=Pc (gt a) (gt b) i hi we hl hs h
  rwa [c8,c8] at this
 .have:=Pc (gt b) (gt a) i we hi hl.symm hs.symm h
  rwa [c8,c8] at this
 .rw[bK hi,bK (by omega:i<(dg b).length),hs]
  rw[aV,aV,aQ hi,aQ (by omega:i<(dg b).length)] at h;simp only[lK] at h;rw[h]
theorem okV{p:Prop}(h:p:=by show DV.v (.int _ 0)=DV.v (.int _ _);rw[show z=0 by omega];rfl):p:=h
theorem ozu{p:Prop}(h:p:=by show DV.v (.int _ (-1))=DV.v (.int _ _);rw[eK we]):p:=h
theorem ozA{p:Prop}(h:p:=by show DV.v (.int _ 1)=DV.v (.int _ _);rw[fS we]):p:=h
def WM{z:Int}:PF GB prog 187 [vI z] (vI z.sign):=by
 refine fn func187 J J ntmps187 J J (fun C=>?_);refine br J J J (fun hc4=>?_) (fun hc4=>?_)
 .
  exact rz J ozA
 .
  refine br J J J (fun hc6=>?_) (fun hc6=>?_)
  .
   exact rz J ozu
  .
   exact rz J okV
def MD(u:Nat):dv [u%4294967296,u/4294967296]=u:=by simp only[dv];omega
def Ov(h:u<18446744073709551616):bt [u%4294967296,u/4294967296]:= .cons we (.cons we .nil)
def qm(u:Nat):(u:Int).fdiv (2^min (32:Int).toNat IntKind.u64.bits)=((u/4294967296:Nat):Int):=by
 rw[show(2:Int)^min (32:Int).toNat IntKind.u64.bits=((4294967296:Nat):Int) from J,lX _ oma];rfl
theorem okj{p:Prop}(h:p:=by show FX.d (.sl [.v (.int _ _), .v (.int _ _)])= .d (.sl [.v (.int _ _), .v (.int _ _)]);congr 6;omega):p:=h
theorem okz{p:Prop}(h:p:=by rw[qm]):p:=h
def vq(hu:u<18446744073709551616:=by omega):PF GB prog 131 [.v (.int .u64 (u:Int))] (dN u):=by
 refine fn (fu:=⟨11⟩) (hv:=by simp only[ak];exact oma) func131 J J ntmps131 J J (fun C=>?_);refine aj 6 (.d (.v (.int .u64 (u/4294967296:Nat)))) J okz<|gx J<|rf (fu:=⟨0⟩) J J<|aj 8 (.d (bD [u%4294967296,u/4294967296])) J okj<|gx J<|cl J (tB (ds:=[u%4294967296,u/4294967296]) omc) J<|rz J (lP (Ov hu) (MD u))
theorem okR{p:Prop}(h:p:=by unfold dN;rw[Aq];rfl):p:=h
def EZ:PF GB prog 107 [] (dN 1):=by
 refine fn func107 J J ntmps107 J J (fun C=>?_);refine rf J J<|rz J okR
def yj(ha:(dg a).length<=220000000:=by omega)(hb:(dg b).length<=220000000:=by omega):PF GB prog 106 [dN a,dN b] (vI (i0 a b)):=by
 have hla:=b7 (dg a);have hlb:=b7 (dg b);refine fn func106 J J ntmps106 J J (fun C=>?_);refine br J J J (fun hc10=>?_) (fun hc10=>?_)
 .
  refine cl J WM J<|rz J (by show DV.v (.int _ _)=DV.v (.int _ _);rw[hla,hlb,ayy,Iv])
 .
  have hl:(dg a).length=(dg b).length:=by omega
  refine lp (X:=Nat) (fun k=>[(0, .d (dN a)),(1, .d (dN b)),(5, .d (vI ((k:Nat)-1)))]) (fun k=>[]) (fun k=>k<=(dg a).length/\(dg a).drop k=(dg b).drop k) (fun k=>k) (dg a).length J ⟨bJ _,by rw[gT,hl,gT]⟩ (fun _=>J) (fun k hk=>?_);obtain⟨h1,h2⟩:=hk;refine br J J J (fun hc21=>?_) (fun hc21=>?_)
  .
   obtain⟨k,rfl⟩: ∃m,k=m+1:=⟨k-1,we⟩;refine ix _ J (cP (k:=k)) J<|ix _ J (cP (k:=k)) J<|br J J J (fun hc32=>?_) (fun hc32=>?_)
   .
    exact rz J (by show DV.v (.int _ 1)=DV.v (.int _ _);rw[Ay ((ym hl we h2).2.1 we)])
   .
    refine ix _ J (cP (k:=k)) J<|ix _ J (cP (k:=k)) J<|br J J J (fun hc41=>?_) (fun hc41=>?_)
    .
     exact rz J (by show DV.v (.int _ (-1))=DV.v (.int _ _);rw[AD ((ym hl we h2).1 we)])
    .
     exact at_ k ⟨⟨we,(ym (i:=k) hl we h2).2.2 we⟩,we⟩
  .
   exact rz rfl (by show DV.v (.int _ 0)=DV.v (.int _ _);rw[Lj];obtain rfl:k=0:=we;rw[iZ,iZ] at h2;rw[<-c8 a,h2,c8])
def Pn(hi:i<W.length)(h:dv (W.take i)+4294967296^i*c=dv (A.take i)+dv (B.take i)):
  dv ((W.set i ((A.getD i 0+B.getD i 0+c)%4294967296)).take (i+1))+4294967296^(i+1)*((A.getD i 0+B.getD i 0+c)/4294967296)=dv (A.take (i+1))+dv (B.take (i+1)):=by
 rw[xN hi,ph A,ph B,iL,show A.getD i 0+B.getD i 0+c=c+A.getD i 0+B.getD i 0 by omega];exact Wi h
theorem ozk{p:Prop}(h:p:=by rw[bQ];omega):p:=h
def Mp(hn:n=max (dg a).length (dg b).length)(hl:W.length=n+1)(h:dv (W.take n)+4294967296^n*c=dv ((dg a).take n)+dv ((dg b).take n)):dv (W.set n c)=a+b:=by
 have e:=xN (ws:=W) (k:=n) (d:=c);rw[lg ozk] at e;rw[e,h,lg,lg,c8,c8]
theorem omI{p:Prop}(h:p:=by rw[<-om];rfl):p:=h
theorem okn{p:Prop}(h:p:=by rw[<-jI];rfl):p:=h
def aL5[ha:BN a ia][hb:BN b ib](hi:ia<=1000000000:=by decide)(hj:ib<=1000000000:=by decide):PF GB prog 200 [dN a,dN b] (dN (a+b)):=by
 have hla:=b7 (dg a);have hlb:=b7 (dg b);have hba:=vX ha.h;have hbb:=vX hb.h;refine fn (fu:=⟨12⟩) func200 J J ntmps200 J J (fun C=>?_);obtain⟨n,hn⟩: ∃n,n=max (dg a).length (dg b).length:=⟨_,rfl⟩;refine aj 15 (.d (vI (n:Nat))) J (by show FX.d (.v (.int _ _))= .d (.v (.int _ _));congr 3;split<;>omega)<|gx J<|mk ((List.replicate (n+1) 0).map dU) J J omI J<|lp (X:=List Nat×Nat×Nat) (fun⟨W,c,i⟩=>[(0, .d (dN a)),(1, .d (dN b)),(5, .d (vI (n:Nat))),(6, .rw 18),(7, .d (.v (.int .u32 (c:Nat)))),(8, .d (vI (i:Nat)))]) (fun⟨W,c,i⟩=>[(18,some (.b 301 1 (W.map dU) true))]) (fun⟨W,c,i⟩=>W.length=n+1/\bt W/\c<=1/\i<=n/\dv (W.take i)+4294967296^i*c=dv ((dg a).take i)+dv ((dg b).take i)) (fun⟨W,c,i⟩=>n-i) ⟨List.replicate (n+1) 0,0,0⟩ J ⟨omc, .replicate _,we,we,by simp[dv]⟩ (fun _=>J) (fun⟨W,c,i⟩ hk=>?_);dsimp only at hk⊢;obtain⟨h1,h2,h3,h4,h5⟩:=hk;have hlw:=b7 W;have hda:=ef a i;have hdb:=ef b i;refine br (fu1:=⟨11⟩) J J J (fun hc21=>?_) (fun hc21=>?_)
 .
  refine mg (fu:=⟨1⟩) (X:=Unit) (fun _=>[(0, .d (dN a)),(1, .d (dN b)),(5, .d (vI (n:Nat))),(6, .rw 18),(7, .d (.v (.int .u32 (c:Nat)))),(8, .d (vI (i:Nat))),(9, .d (dU ((dg a).getD i 0))),(10, .d (.v (.int .u32 0)))]) (fun _=>[(18,some (.b 301 1 (W.map dU) true))]) (fun _=>True) [0,1,5,6,7,8,9,10] [18] rfl ?_ (fun _=>J) (fun _ hm=>?_)
  .
   refine gx J<|br J J J (fun hc27=>?_) (fun hc27=>?_)
   .
    refine ix _ J (fe) J<|at_ () trivial
   .
    refine aj 9 (.d (dU ((dg a).getD i 0))) J (by rw[qP];rfl)<|at_ () trivial
  .
   refine mg (X:=Unit) (fun _=>[(0, .d (dN a)),(1, .d (dN b)),(5, .d (vI (n:Nat))),(6, .rw 18),(7, .d (.v (.int .u32 (c:Nat)))),(8, .d (vI (i:Nat))),(9, .d (dU ((dg a).getD i 0))),(10, .d (dU ((dg b).getD i 0)))]) (fun _=>[(18,some (.b 301 1 (W.map dU) true))]) (fun _=>True) [0,1,5,6,7,8,9,10] [18] rfl ?_ (fun _=>J) (fun _ hm=>?_)
   .
    refine gx J<|br J J J (fun hc35=>?_) (fun hc35=>?_)
    .
     refine ix _ J (fe) J<|at_ () trivial
    .
     refine aj 10 (.d (dU ((dg b).getD i 0))) J (by rw[qP];rfl)<|at_ () trivial
   .
    refine cl J (ZC we we we) J<|sb _ ((W.set i (((dg a).getD i 0+(dg b).getD i 0+c)%4294967296)).map dU) J (fe) J okn J<|at_ ⟨W.set i (((dg a).getD i 0+(dg b).getD i 0+c)%4294967296),((dg a).getD i 0+(dg b).getD i 0+c)/4294967296,i+1⟩ (by dsimp only;exact⟨⟨by simpa using h1,h2.set _ we,we,we,Pn we h5⟩,we⟩)
 .
  obtain rfl:i=n:=by omega
  refine sb _ ((W.set i c).map dU) J (fe) J okn J<|fz 18 J J<|cl J (tB (ds:=W.set i c) omp) J<|rz J (lP (h2.set _ we) (Mp hn h1 h5))
def QQ(hA:bt A)(hB:bt B)(hi:i<W.length)(hc:c<=1)(h:dv (W.take i)+dv (B.take i)=dv (A.take i)+4294967296^i*c)
  (hd:d=if A.getD i 0<B.getD i 0+c then A.getD i 0+4294967296-(B.getD i 0+c) else A.getD i 0-(B.getD i 0+c))(hc2:c2=if A.getD i 0<B.getD i 0+c then 1 else 0):
  dv ((W.set i d).take (i+1))+dv (B.take (i+1))=dv (A.take (i+1))+4294967296^(i+1)*c2:=by
 have h1:=hA.get i;have h2:=hB.get i;rw[xN hi,ph A,ph B,iL];split at hd
 .rename_i q
  rw[if_pos q] at hc2;subst hc2 hd;rw[lV (B.getD i 0) c];exact aGy h we we
 .rename_i q
  rw[if_neg q] at hc2;subst hc2 hd;rw[lV (B.getD i 0) c];exact aIg h we
def SO(hw:bt W)(hl:W.length=(dg a).length)(hb:b<=a)(h:dv (W.take (dg a).length)+dv ((dg b).take (dg a).length)=dv ((dg a).take (dg a).length)+4294967296^(dg a).length*c):dv W=a-b:=by
 have hlb:(dg b).length<=(dg a).length:=by
  rcases gN (dg a).length (dg b).length with q|q
  .have:=y8 (gt a) (eE b).2.2 q
   rw[c8,c8] at this;omega
  .exact q
 rw[lg,lg hlb,lg (bJ _),c8,c8] at h;have h2:=k8 hw;rw[hl] at h2;rcases fL c with q|q
 .subst q;omega
 .have:4294967296^(dg a).length*1<=4294967296^(dg a).length*c:=gU _ q
  omega
theorem omU{p:Prop}(h:p:=by rw[hla];rfl):p:=h
def H2[ha:BN a ia](hb:b<=a)(hi:ia<=1000000000:=by decide):PF GB prog 201 [dN a,dN b] (dN (a-b)):=by
 have hla:=b7 (dg a);have hlb:=b7 (dg b);have hba:=vX ha.h;refine fn (fu:=⟨9⟩) func201 J J ntmps201 J J (fun C=>?_);refine aj 10 (.d (vI ((dg a).length:Nat))) J omU<|gx J<|mk (fu:=⟨13⟩) ((List.replicate (dg a).length 0).map dU) J J omI J<|aj 13 (.d (vI ((dg a).length:Nat))) J omU<|gx J<|lp (X:=List Nat×Nat×Nat) (fun⟨W,c,i⟩=>[(0, .d (dN a)),(1, .d (dN b)),(5, .rw 11),(6, .d (.v (.int .u32 (c:Nat)))),(13, .d (vI ((dg a).length:Nat))),(14, .d (vI (i:Nat)))]) (fun⟨W,c,i⟩=>[(11,some (.b 301 1 (W.map dU) true))]) (fun⟨W,c,i⟩=>W.length=(dg a).length/\bt W/\c<=1/\i<=(dg a).length/\dv (W.take i)+dv ((dg b).take i)=dv ((dg a).take i)+4294967296^i*c) (fun⟨W,c,i⟩=>(dg a).length-i) ⟨List.replicate (dg a).length 0,0,0⟩ J ⟨omc, .replicate _,we,we,by simp[dv]⟩ (fun _=>J) (fun⟨W,c,i⟩ hk=>?_);dsimp only at hk⊢;obtain⟨h1,h2,h3,h4,h5⟩:=hk;have hlw:=b7 W;have hda:=ef a i;have hdb:=ef b i;refine br (fu1:=⟨16⟩) J J J (fun hc15=>?_) (fun hc15=>?_)
 .
  refine mg (X:=Unit) (fun _=>[(0, .d (dN a)),(1, .d (dN b)),(5, .rw 11),(6, .d (.v (.int .u32 (c:Nat)))),(13, .d (vI ((dg a).length:Nat))),(14, .d (vI (i:Nat))),(7, .d (vI (i:Nat))),(8, .d (dU ((dg b).getD i 0)))]) (fun _=>[(11,some (.b 301 1 (W.map dU) true))]) (fun _=>True) [0,1,5,6,13,14,7,8] [11] rfl ?_ (fun _=>J) (fun _ hm=>?_)
  .
   refine gx J<|br J J J (fun hc20=>?_) (fun hc20=>?_)
   .
    refine ix _ J (fe) J<|at_ () trivial
   .
    refine aj 8 (.d (dU ((dg b).getD i 0))) J (by rw[qP];rfl)<|at_ () trivial
  .
   refine ix _ J (fe) J<|cl J (aGV we we we) J<|sb _ ((W.set i (if(dg a).getD i 0<(dg b).getD i 0+c then(dg a).getD i 0+4294967296-((dg b).getD i 0+c) else(dg a).getD i 0-((dg b).getD i 0+c))).map dU) J (fe) J okn J<|at_ ⟨W.set i (if(dg a).getD i 0<(dg b).getD i 0+c then(dg a).getD i 0+4294967296-((dg b).getD i 0+c) else(dg a).getD i 0-((dg b).getD i 0+c)),(if(dg a).getD i 0<(dg b).getD i 0+c then 1 else 0),i+1⟩ (by dsimp only;exact⟨⟨by simpa using h1,h2.set _ (by split<;>omega),by split<;>omega,we,QQ (gt a) (gt b) we h3 h5 J J⟩,we⟩)
 .
  obtain rfl:i=(dg a).length:=by omega
  refine fz 11 J J<|cl J (tB (ds:=W)) J<|rz J (lP h2 (SO h2 h1 hb h5))
def rD(n:Nat)(a b k:Nat)(ha:a<2^k)(h:a+b*2^k<2^n):(BitVec.ofInt n (a:Int) ||| BitVec.ofInt n ((b*2^k:Nat):Int)).toNat=a+b*2^k:=by
 rw[BitVec.toNat_or,BitVec.ofInt_natCast,BitVec.ofInt_natCast,BitVec.toNat_ofNat,BitVec.toNat_ofNat,kQ we,kQ we];rw[<-Nat.shiftLeft_eq,Nat.or_comm,<-Nat.shiftLeft_add_eq_or_of_lt ha,Nat.shiftLeft_eq];omega
def F8(hx:x<4294967296)(hy:y<4294967296):x*y<=18446744065119617025:=by
 have:=fU (by omega:x<=4294967295) (by omega:y<=4294967295);exact this
def B8(x y:Nat):(0:Int)<=(x:Int)*(y:Int):=by rw[<-jQ];omega
def Aw(hx:x<4294967296)(hy:y<4294967296):(x:Int)*(y:Int)<=18446744073709551615:=by
 have:=F8 hx hy;rw[<-jQ];omega
def aIL(h:ds.length=1):dv ds=ds.getD 0 0:=by
 match ds,h with
 |[d],_=>simp[dv]
def w8(h:(dg a).length=1:=by omega):(dg a).getD 0 0=a:=by rw[<-aIL h,c8]
def au4(h:j<m):(ds.take m).getD j 0=ds.getD j 0:=by
 rw[aV,aV,pJ,if_pos h]
def S0(hj:j<m)(hm:m<=W.length):dv ((W.set j d).take m)+4294967296^j*W.getD j 0=dv (W.take m)+4294967296^j*d:=by
 rw[List.take_set,<-au4 (ds:=W) hj];exact xj _ _ _ (by rw[bT];omega)
def Ql{W:List Nat}{P X Y m i k c y t S:Nat}(hk:i+k<m)(hm:m<=W.length)(h:dv (W.take m)+4294967296^(i+k)*c=P+X*(4294967296^i*S))(ht:t=Y+W.getD (i+k) 0+c)(hY:Y=X*y):
  dv ((W.set (i+k) (t%4294967296)).take m)+4294967296^(i+(k+1))*(t/4294967296)=P+X*(4294967296^i*(S+4294967296^k*y)):=by
 have h1:=S0 (W:=W) (d:=t%4294967296) hk hm;rw[ht,show Y+W.getD (i+k) 0+c=c+Y+W.getD (i+k) 0 by omega] at h1⊢;have h2:=aAN h1 h;rw[<-lL,iL,h2,hY,fT];simp only[eX,cY,nZ,cW,lL]
def Pm{a b:Nat}{W:List Nat}{i c lb:Nat}(hlb:lb=(dg b).length)(hl:i+lb<W.length)(h:dv (W.take (i+lb))+4294967296^(i+lb)*c=dv ((dg a).take i)*b+(dg a).getD i 0*(4294967296^i*dv ((dg b).take lb))):
  dv ((W.set (i+lb) c).take (i+1+lb))=dv ((dg a).take (i+1))*b:=by
 rw[show i+1+lb=i+lb+1 by omega,xN hl,h,ph,lg (ds:=dg b),c8 b,dY];simp only[cY,nZ,cW]
def Gc(n j:Nat):(List.replicate n 0).getD j 0=0:=by
 rw[aV,List.getElem?_replicate];split<;>rfl
def BK(h:k<=10000000000):IntKind.i64.wrap ((k:Int).tdiv 32)=((k/32:Nat):Int):=by
 rw[show(k:Int).tdiv 32=((k/32:Nat):Int) from J,Jd];omega
def Ri(k:Nat):(k:Int).tmod 32=((k%32:Nat):Int):=rfl
theorem omj{p:Prop}(h:p:=by show FX.d (.v (.int _ _))= .d (.v (.int _ _));congr 3):p:=h
theorem omQ{p:Prop}(h:p:=by congr 3;omega):p:=h
theorem okr{p:Prop}(h:p:=by dsimp only;exact⟨⟨by simpa using g1,g2.set _ we,we,we,by rw[ph];exact Ql we we g5 ht hp⟩,we⟩):p:=h
theorem okA{p:Prop}(h:p:=by have:=h4;rw[lg,lg,c8] at this;exact this):p:=h
theorem okN{p:Prop}(h:p:=by dsimp only;exact⟨⟨by simpa using g1,g2.set _ g3,we,Pm J we g5⟩,we⟩):p:=h
def qp[ha:BN a ia][hb:BN b ib](hi:ia<=1000000000:=by decide)(hj:ib<=1000000000:=by decide):PF GB prog 128 [dN a,dN b] (dN (a*b)):=by
 have hla:=b7 (dg a);have hlb:=b7 (dg b);have hba:=vX ha.h;have hbb:=vX hb.h;refine fn (fu:=⟨6⟩) func128 J J ntmps128 J J (fun C=>?_);refine mg (fu:=⟨4⟩) (X:=Unit) (fun _=>[(0, .d (dN a)),(1, .d (dN b))]) (fun _=>[]) (fun _=>True) [0,1] [] rfl ?_ (fun _=>J) (fun _ hm=>?_)
 .
  refine gx J<|cs 15 J J J (fun hg15=>?_) (fun hg15=>?_)
  .
   refine br J J J (fun hc19=>?_) (fun hc19=>?_)
   .
    have hd0:=ef a 0;have hd1:=ef b 0;refine ix _ J (cP (k:=0) J we) J<|ix (hv:=by simp only[ak];exact⟨we,⟨(B8 _ _),(Aw (ef _ _) (ef _ _))⟩⟩) _ J (cP (k:=0) J we) J<|cl J (vq (u:=(dg a).getD 0 0*(dg b).getD 0 0) (by have:=F8 (ef a 0) (ef b 0);omega)) J<|rz J (by rw[w8,w8];rfl)
   .
    exact at_ () trivial
  .
   exact at_ () trivial
 .
  refine aj 31 (.d (vI ((dg a).length:Nat))) J omU<|gx (fu:=⟨2⟩) J<|aj 33 (.d (vI ((dg b).length:Nat))) J (by rw[hlb];rfl)<|gx J<|mk (fu:=⟨8⟩) ((List.replicate ((dg a).length+(dg b).length) 0).map dU) J J omI J<|aj 37 (.d (vI ((dg a).length:Nat))) J omU<|gx J<|lp (X:=List Nat×Nat) (fun⟨W,i⟩=>[(0, .d (dN a)),(1, .d (dN b)),(5, .rw 35),(36, .d (dN a)),(37, .d (vI ((dg a).length:Nat))),(38, .d (vI (i:Nat)))]) (fun⟨W,i⟩=>[(35,some (.b 301 1 (W.map dU) true))]) (fun⟨W,i⟩=>W.length=(dg a).length+(dg b).length/\bt W/\i<=(dg a).length/\dv (W.take (i+(dg b).length))=dv ((dg a).take i)*b) (fun⟨W,i⟩=>(dg a).length-i) ⟨List.replicate ((dg a).length+(dg b).length) 0,0⟩ J ⟨omc, .replicate _,we,by rw[qR,zp];simp[dv]⟩ (fun _=>J) (fun⟨W,i⟩ hk=>?_);dsimp only at hk⊢;obtain⟨h1,h2,h3,h4⟩:=hk;refine br J J J (fun hc39=>?_) (fun hc39=>?_)
  .
   refine ix (fu:=⟨15⟩) _ J (fe) J<|aj 44 (.d (vI ((dg b).length:Nat))) J (by rw[hlb];rfl)<|gx J<|lp (X:=List Nat×Nat×Nat) (fun⟨W2,c,k⟩=>[(0, .d (dN a)),(1, .d (dN b)),(5, .rw 35),(6, .d (vI (i:Nat))),(7, .d (dU ((dg a).getD i 0))),(8, .d (.v (.int .u64 (c:Nat)))),(36, .d (dN a)),(37, .d (vI ((dg a).length:Nat))),(38, .d (vI (i:Nat))),(43, .d (dN b)),(44, .d (vI ((dg b).length:Nat))),(45, .d (vI (k:Nat)))]) (fun⟨W2,c,k⟩=>[(35,some (.b 301 1 (W2.map dU) true))]) (fun⟨W2,c,k⟩=>W2.length=(dg a).length+(dg b).length/\bt W2/\c<4294967296/\k<=(dg b).length/\dv (W2.take (i+(dg b).length))+4294967296^(i+k)*c=dv ((dg a).take i)*b+(dg a).getD i 0*(4294967296^i*dv ((dg b).take k))) (fun⟨W2,c,k⟩=>(dg b).length-k) ⟨W,0,0⟩ J ⟨h1,h2,we,we,by rw[h4];simp[dv]⟩ (fun _=>J) (fun⟨W2,c,k⟩ hk=>?_);dsimp only at hk⊢;obtain⟨g1,g2,g3,g4,g5⟩:=hk;have hlw:=b7 W2;have hw:=g2.get (i+k);have hda:=ef a i;have hdb:=ef b k;refine br (fu2:=⟨10⟩) J J J (fun hc46=>?_) (fun hc46=>?_)
   .
    refine ix (fu:=⟨12⟩) (hv:=by simp only[ak];exact⟨⟨we,we⟩,⟨(B8 _ _),(Aw (ef _ _) (ef _ _))⟩⟩) _ J (fe) J<|?_;obtain⟨p,hp⟩: ∃p,p=(dg a).getD i 0*(dg b).getD k 0:=⟨_,rfl⟩;have hp1:p<=18446744065119617025:=hp▸F8 hda hdb;refine aj 54 (.d (.v (.int .u64 (p:Nat)))) J (by rw[hp,jQ])<|gx J<|lb (fu:=⟨4⟩) _ J (cP (k:=i+k)) J<|?_;obtain⟨t,ht⟩: ∃t,t=p+W2.getD (i+k) 0+c:=⟨_,rfl⟩;refine aj 64 (.d (.v (.int .u64 (t:Nat)))) J omQ<|gx (fu:=⟨11⟩) J<|aj 70 (.d (dU (t%4294967296))) J omj<|gx J<|sb (fu:=⟨5⟩) (hv:=by simp only[ak];exact oma) _ ((W2.set (i+k) (t%4294967296)).map dU) J (cP (k:=i+k)) J (by(rw[show((i:Int)+k).toNat=i+k by omega,<-jI])<;>rfl) J<|aj 73 (.d (.v (.int .u64 (t/4294967296:Nat)))) J okz<|gx J<|at_ ⟨W2.set (i+k) (t%4294967296),t/4294967296,k+1⟩ okr
   .
    obtain rfl:k=(dg b).length:=by omega
    refine aj 78 (.d (vI ((dg b).length:Nat))) J (by rw[hlb];rfl)<|gx (fu:=⟨3⟩) J<|aj 81 (.d (dU c)) J (omi we)<|gx J<|sb _ ((W2.set (i+(dg b).length) c).map dU) J (cP (k:=i+(dg b).length)) J (by(rw[show((i:Int)+((dg b).length:Nat)).toNat=i+(dg b).length by omega,<-jI])<;>rfl) J<|at_ ⟨W2.set (i+(dg b).length) c,i+1⟩ okN
  .
   obtain rfl:i=(dg a).length:=by omega
   refine fz 35 J J<|cl J (tB (ds:=W)) J<|rz J (lP h2 okA)
def Je(x s:Nat):x*2^s=x*2^s%4294967296+4294967296*(x*2^s/4294967296):=by omega
def Sv(hx:x<4294967296)(hs:s<32):x*2^s/4294967296<2^s:=by
 rw[kR oma,cW (2^s)];exact nS hx (bJ _) (iX oma)
def Kb(hs:s<32):2^s*2^(32-s)=4294967296:=by rw[<-fT,show s+(32-s)=32 by omega]
def aD9(x s:Nat)(hs:s<32):x*2^s%4294967296=x%2^(32-s)*2^s:=by
 rw[<-Kb hs,cW (2^s),Nat.mul_mod_mul_right]
def S3(hx:x<4294967296)(hs:s<32):x*2^s<18446744073709551616:=by
 have h1:2^s<=2^31:=cZ oma we;have:=nS hx h1 oma;omega
def Tp(hw:w<2^s)(hs:s<32):(BitVec.ofInt 32 (w:Int) ||| BitVec.ofInt 32 ((x*2^s%4294967296:Nat):Int)).toNat=w+x*2^s%4294967296:=by
 rw[aD9 x s hs];refine rD 32 _ _ _ hw ?_;have h1:x%2^(32-s)+1<=2^(32-s):=dK _ (iX oma);have h2:=bR (2^s) h1;rw[cW (2^(32-s)),Kb hs,dY,nU] at h2;show _<4294967296;omega
def WT(hh:h<4294967296):(BitVec.ofInt 32 ((0:Nat):Int) ||| BitVec.ofInt 32 (h:Int)).toNat=h:=by
 have:=rD 32 0 h 0 oma (by simpa using hh);simpa using this
def IX(k:Nat):2^k=4294967296^(k/32)*2^(k%32):=by
 rw[show(4294967296:Nat)=2^32 from J,<-tJ,<-fT,rJ]
def getD_set_ne(h:i≠j:=by omega):(W.set i d).getD j 0=W.getD j 0:=by
 rw[aV,aV,List.getElem?_set_ne h]
def AY(h:i<W.length):(W.set i d).getD i 0=d:=by
 rw[aV,sZ h];rfl
def RM{A W:List Nat}{k q s i x:Nat}(hq:q=k/32)(hs:s=k%32)(hl:q+i+1<W.length)(hx:x=A.getD i 0)
  (h:dv (W.take (q+i+1))=dv (A.take i)*2^k):
  dv (((W.set (q+i) (W.getD (q+i) 0+x*2^s%4294967296)).set (q+i+1) (x*2^s/4294967296)).take (q+(i+1)+1))=dv (A.take (i+1))*2^k:=by
 have e1:=S0 (W:=W) (j:=q+i) (m:=q+i+1) (d:=W.getD (q+i) 0+x*2^s%4294967296) we we;rw[show q+(i+1)+1=q+i+1+1 by omega,xN ozk,ph A,<-hx];have e2:dv ((W.set (q+i) (W.getD (q+i) 0+x*2^s%4294967296)).take (q+i+1))=dv (A.take i)*2^k+4294967296^(q+i)*(x*2^s%4294967296):=by
  rw[eX,h] at e1;omega
 rw[e2,iL,cY,lL,<-eX,<-Je,dY,IX k,<-hq,<-hs,fT];simp only[cY,nZ,cW]
theorem omC{p:Prop}(h:p:=by show FX.d (.v (.int _ _))= .d (.v (.int _ _));rw[BK hk]):p:=h
theorem ozn{p:Prop}(h:p:=by show FX.d (.v (.int _ _))= .d (.v (.int _ _));rw[Ri]):p:=h
def En[ha:BN a ia](hk:k<=10000000000)(hi:ia<=1000000000:=by decide):PF GB prog 277 [dN a,vI (k:Nat)] (dN (a*2^k)):=by
 have hla:=b7 (dg a);have hba:=vX ha.h;refine fn (fu:=⟨9⟩) func277 J J ntmps277 J J (fun C=>?_);refine aj 11 (.d (vI (k/32:Nat))) J omC<|gx (fu:=⟨2⟩) J<|aj 13 (.d (vI ((dg a).length:Nat))) J omU<|gx (fu:=⟨2⟩) J<|aj 15 (.d (vI (k/32+(dg a).length+1:Nat))) J omj<|gx J<|mk (fu:=⟨7⟩) (hv:=by simp only[ak];exact oma) ((List.replicate (k/32+(dg a).length+1) 0).map dU) J J omI J<|aj 18 (.d (vI (k%32:Nat))) J ozn<|gx (fu:=⟨9⟩) J<|aj 21 (.d (vI ((dg a).length:Nat))) J omU<|gx J<|lp (X:=List Nat×Nat) (fun⟨W,i⟩=>[(0, .d (dN a)),(1, .d (vI (k:Nat))),(5, .rw 16),(6, .d (.v (.int .u64 (k%32:Nat)))),(20, .d (dN a)),(21, .d (vI ((dg a).length:Nat))),(22, .d (vI (i:Nat)))]) (fun⟨W,i⟩=>[(16,some (.b 301 1 (W.map dU) true))]) (fun⟨W,i⟩=>W.length=k/32+(dg a).length+1/\bt W/\i<=(dg a).length/\dv (W.take (k/32+i+1))=dv ((dg a).take i)*2^k/\W.getD (k/32+i) 0<2^(k%32)/\ ∀j,k/32+i<j->W.getD j 0=0) (fun⟨W,i⟩=>(dg a).length-i) ⟨List.replicate (k/32+(dg a).length+1) 0,0⟩ J ⟨omc, .replicate _,we,by rw[qR,zp];simp[dv],by rw[Gc];exact iX oma,fun j _=>Gc _ _⟩ (fun _=>J) (fun⟨W,i⟩ hk=>?_);dsimp only at hk⊢;obtain⟨h1,h2,h3,h4,h5,h6⟩:=hk;have hlw:=b7 W;have hda:=ef a i;have hsk:k%32<32:=dK _ oma;have hpp:2^(k%32)<=2^31:=cZ oma we;refine br J J J (fun hc23=>?_) (fun hc23=>?_)
 .
  refine ix (fu:=⟨11⟩) (hv:=by simp only[ak];exact⟨we,we⟩) _ J (fe) J<|?_;have hhi:=Sv hda hsk;have hfit0:=S3 hda hsk;have hor:=Tp (x:=(dg a).getD i 0) h5 hsk;have hfit:W.getD (k/32+i) 0+(dg a).getD i 0*2^(k%32)%4294967296<4294967296:=by rw[<-hor];exact BitVec.isLt _
  have hlp:=Je ((dg a).getD i 0) (k%32);refine aj 30 (.d (.v (.int .u64 ((dg a).getD i 0*2^(k%32):Nat)))) J (by show FX.d (.v (.int _ _))= .d (.v (.int _ _));rw[rp _ (k%32) we hfit0]) ?_;obtain⟨t,ht⟩: ∃t,t=(dg a).getD i 0*2^(k%32):=⟨_,rfl⟩;simp only[<-ht] at hhi hfit0 hor hfit hlp;rw[<-ht];refine gx (fu:=⟨8⟩) J<|aj 33 (.d (vI (k/32:Nat))) J omC<|gx J<|lb (fu:=⟨2⟩) _ J (cP (k:=k/32+i)) J<|aj 39 (.d (dU (t%4294967296))) J omj<|gx (fu:=⟨1⟩) J<|aj 40 _ J (congrArg (fun z:Nat=>FX.d (.v (.int .u32 (z:Int)))) hor)<|gx J<|sb (fu:=⟨6⟩) _ ((W.set (k/32+i) (W.getD (k/32+i) 0+t%4294967296)).map dU) J (cP (k:=k/32+i)) J (by(rw[show(((k/32:Nat):Int)+i).toNat=k/32+i by omega];simp only[kK];rfl)<;>rfl) J<|aj 44 (.d (vI (k/32:Nat))) J omC<|gx J<|lb (fu:=⟨0⟩) _ J (cP (k:=k/32+i+1) we ozk) J<|aj 49 (.d (dU 0)) J (by rw[getD_set_ne,h6 _ we])<|gx (fu:=⟨2⟩) (hv:=by simp only[ak];exact oma) J<|aj 51 (.d (.v (.int .u64 (t/4294967296:Nat)))) J okz<|gx (fu:=⟨1⟩) J<|aj 52 (.d (dU (t/4294967296))) J (omi we)<|gx (fu:=⟨1⟩) J<|aj 53 _ J (congrArg (fun z:Nat=>FX.d (.v (.int .u32 (z:Int)))) (WT we))<|gx J<|sb _ (((W.set (k/32+i) (W.getD (k/32+i) 0+t%4294967296)).set (k/32+i+1) (t/4294967296)).map dU) J (cP (k:=k/32+i+1) we ozk) J (by(rw[show(((k/32:Nat):Int)+i+1).toNat=k/32+i+1 by omega];simp only[kK];rfl)<;>rfl) J<|at_ ⟨(W.set (k/32+i) (W.getD (k/32+i) 0+t%4294967296)).set (k/32+i+1) (t/4294967296),i+1⟩ (by dsimp only;exact⟨⟨by simpa using h1,(h2.set _ hfit).set _ we,we,by have q:=RM (x:=(dg a).getD i 0) J J we J h4;rw[<-ht] at q;exact q,by rw[show k/32+(i+1)=k/32+i+1 by omega,AY omp];exact hhi,fun j hj=>by rw[getD_set_ne,getD_set_ne];exact h6 j we⟩,we⟩)
 .
  obtain rfl:i=(dg a).length:=by omega
  refine fz 16 J J<|cl J (tB (ds:=W)) J<|rz J (lP h2 okA)
def atM(h:(dg a).length<=k/32):a/2^k=0:=by
 refine nQ ?_;have h1:=k8 (gt a);rw[c8] at h1;have h2:4294967296^(dg a).length<=4294967296^(k/32):=cZ oma h;have h3:4294967296^(k/32)*1<=4294967296^(k/32)*2^(k%32):=gU _ (iX oma);rw[IX k];omega
def I2(h:bt ds)(q:Nat):dv (ds.drop q)=dv ds/4294967296^q:=by
 rcases gN ds.length q with hq|hq
 .rw[jW we]
  have h1:=k8 h;have h2:4294967296^ds.length<=4294967296^q:=cZ oma we;rw[nQ we];rfl
 .have e:=Ci ds q hq
  have h1:=k8 (h.take q);rw[bT,kW hq] at h1;rw[e,qZ _ _ (iX oma),nQ h1,eM]
def Gb(h:bt ds)(i:Nat):dv ds/4294967296^i=ds.getD i 0+4294967296*ds.getD (i+1) 0+18446744073709551616*(dv ds/4294967296^(i+2)):=by
 have e0:=I2 h i;have e2:=I2 h (i+2);rw[<-e0,<-e2];have g0:ds.getD i 0=(ds.drop i).getD 0 0:=by rw[aV,aV,mQ];rfl
 have g1:ds.getD (i+1) 0=(ds.drop i).getD 1 0:=by rw[aV,aV,mQ]
 have g2:ds.drop (i+2)=(ds.drop i).drop 2:=by rw[uR]
 rw[g0,g1,g2]
 match ds.drop i with
 |[]=>rfl
 |[u]=>simp[dv]
 |u::v::t=>simp only[dv,qS,oT,uQ,iZ];omega
def Oe{D v Z:Nat}(hs:s<32)(hZ:D/4294967296^i=u+4294967296*v+18446744073709551616*Z)(hw:w=(u+v*4294967296)/2^s%4294967296):(D/2^s)%4294967296^(i+1)=(D/2^s)%4294967296^i+4294967296^i*w:=by
 rw[iL,Nat.mod_mul];congr 2;rw[sX,cW (2^s),<-sX,hZ,hw];have h1:18446744073709551616=2^s*(2^(32-s)*4294967296):=by rw[<-cY,Kb hs]
 rw[h1,cY (2^s),qZ _ _ (iX oma),cW v];rw[cW (2^(32-s)),cY,qW]
def av3(hq:q=k/32)(hs:s=k%32)(hl:W.length=(dg a).length-q)(h:dv (W.take ((dg a).length-q))=(dv ((dg a).drop q)/2^s)%4294967296^((dg a).length-q)):dv W=a/2^k:=by
 rw[lg] at h;have h1:=k8 ((gt a).drop q);rw[gW] at h1;have h2:=mT (dv ((dg a).drop q)) (2^s);rw[h,kQ we,I2 (gt a),c8,IX k,<-hq,<-hs,sX]
theorem oms{p:Prop}(h:p:=by show FX.d (.v (.int _ _))= .d (.v (.int _ _));rw[rp _ 32 oma (by show _*4294967296<_;omega) J]):p:=h
theorem omu{p:Prop}(h:p:=by show _+_*4294967296<18446744073709551616;omega):p:=h
def Zd[ha:BN a ia](hk:k<=10000000000)(hi:ia<=1000000000:=by decide):PF GB prog 278 [dN a,vI (k:Nat)] (dN (a/2^k)):=by
 have hla:=b7 (dg a);have hba:=vX ha.h;refine fn (fu:=⟨10⟩) func278 J J ntmps278 J J (fun C=>?_);refine aj 12 (.d (vI (k/32:Nat))) J omC<|gx (fu:=⟨2⟩) J<|aj 14 (.d (vI ((dg a).length:Nat))) J omU<|gx J<|br (fu2:=⟨6⟩) (v2:=fun _=>by simp only[ak];exact oma) J J J (fun hc15=>?_) (fun hc15=>?_)
 .
  exact rz J (by rw[atM we,nD];rfl)
 .
  refine aj 17 (.d (vI (k%32:Nat))) J ozn<|gx (fu:=⟨9⟩) J<|aj 21 (.d (vI (k/32:Nat))) J omC<|gx J<|je (fu:=⟨0⟩) (k/32) (dg a).length _ J J (by rw[hla]) J (r5 _) we we J<|?_;obtain⟨I,hI⟩: ∃I,I=(dg a).drop (k/32):=⟨_,rfl⟩;have hIl:I.length=(dg a).length-k/32:=by rw[hI,gW]
  have hIm:=b7 I;have hIo:bt I:=hI▸(gt a).drop _;refine aj 22 (.d (bD I)) J (by show FX.d (.sl _)= .d (.sl _);rw[hI,<-hla,dQ,gL])<|gx (fu:=⟨7⟩) J<|aj 24 (.d (vI (I.length:Nat))) J (by rw[hIm];rfl)<|gx J<|mk (fu:=⟨8⟩) ((List.replicate I.length 0).map dU) J J omI J<|aj 27 (.d (vI (I.length:Nat))) J (by rw[hIm];rfl)<|gx J<|lp (X:=List Nat×Nat) (fun⟨W,i⟩=>[(0, .d (dN a)),(5, .d (.v (.int .u64 (k%32:Nat)))),(6, .d (bD I)),(7, .rw 25),(26, .d (bD I)),(27, .d (vI (I.length:Nat))),(28, .d (vI (i:Nat)))]) (fun⟨W,i⟩=>[(25,some (.b 301 1 (W.map dU) true))]) (fun⟨W,i⟩=>W.length=I.length/\bt W/\i<=I.length/\dv (W.take i)=(dv I/2^(k%32))%4294967296^i) (fun⟨W,i⟩=>I.length-i) ⟨List.replicate I.length 0,0⟩ J ⟨omc, .replicate _,we,by simp[dv,Nat.mod_one]⟩ (fun _=>J) (fun⟨W,i⟩ hk=>?_);dsimp only at hk⊢;obtain⟨h1,h2,h3,h4⟩:=hk;have hlw:=b7 W;have hda:=hIo.get i;have hdb:=hIo.get (i+1);have hsk:k%32<32:=dK _ oma;refine br J J J (fun hc29=>?_) (fun hc29=>?_)
  .
   refine ix (fu:=⟨13⟩) _ J (fe) J<|mg (fu:=⟨6⟩) (hv:=fun _ _=>by simp only[ak];exact we) (X:=Unit) (fun _=>[(0, .d (dN a)),(5, .d (.v (.int .u64 (k%32:Nat)))),(6, .d (bD I)),(7, .rw 25),(26, .d (bD I)),(27, .d (vI (I.length:Nat))),(28, .d (vI (i:Nat))),(8, .d (vI (i:Nat))),(10, .d (.v (.int .u64 (I.getD i 0+I.getD (i+1) 0*4294967296:Nat))))]) (fun _=>[(25,some (.b 301 1 (W.map dU) true))]) (fun _=>True) [0,5,6,7,26,27,28,8,10] [25] rfl ?_ (fun _=>J) (fun _ hm=>?_)
   .
    refine gx (fu:=⟨6⟩) J<|aj 38 (.d (vI (I.length:Nat))) J (by rw[hIm];rfl)<|gx J<|br J J J (fun hc39=>?_) (fun hc39=>?_)
    .
     refine ix (fu:=⟨3⟩) (hv:=by simp only[ak];exact⟨we,oma⟩) _ J (cP (k:=i+1)) J<|aj 47 (.d (.v (.int .u64 (I.getD (i+1) 0*4294967296:Nat)))) J oms<|gx (fu:=⟨1⟩) J<|aj 48 _ J (congrArg (fun z:Nat=>FX.d (.v (.int .u64 (z:Int)))) (rD 64 (I.getD i 0) (I.getD (i+1) 0) 32 hda omu))<|gx J<|at_ () trivial
    .
     refine aj 10 (.d (.v (.int .u64 (I.getD i 0+I.getD (i+1) 0*4294967296:Nat)))) J (by rw[qP (by omega:I.length<=i+1),kS,gK])<|at_ () trivial
   .
    refine aj 53 (.d (.v (.int .u64 ((I.getD i 0+I.getD (i+1) 0*4294967296)/2^(k%32):Nat)))) J (by show FX.d (.v (.int _ _))= .d (.v (.int _ _));rw[N9 _ (k%32)])<|gx (fu:=⟨1⟩) J<|?_;obtain⟨w,hw⟩: ∃w,w=(I.getD i 0+I.getD (i+1) 0*4294967296)/2^(k%32)%4294967296:=⟨_,rfl⟩;have hw1:w<4294967296:=hw▸dK _ oma;refine aj 54 (.d (dU w)) J (by show FX.d (.v (.int _ _))= .d (.v (.int _ _));rw[hw];congr 3)<|gx J<|sb _ ((W.set i w).map dU) J (fe) J (by(rw[<-jI];rfl)<;>rfl) J<|at_ ⟨W.set i w,i+1⟩ (by dsimp only;exact⟨⟨by simpa using h1,h2.set _ we,we,by rw[xN,h4];exact(Oe hsk (Gb hIo i) hw).symm⟩,we⟩)
  .
   refine fz 25 rfl rfl<|cl rfl (tB (ds:=W)) rfl<|rz rfl (lP h2 (by obtain rfl:i=I.length:=we;rw[hIl] at h1 h4;rw[hI] at h4;exact av3 rfl rfl h1 h4))
def Af(h:a<4294967296^k):(dg a).length<=k:=by
 rcases gN k (dg a).length with q|q
 .have h1:=wT (eE a).2.2 (by intro e;rw[e] at q;simp at q)
  rw[c8] at h1;have h2:4294967296^k<=4294967296^((dg a).length-1):=cZ oma we;omega
 .exact q
def Ym(h:(dg a).length=2):(dg a).getD 0 0+(dg a).getD 1 0*4294967296=a:=by
 have e:=c8 a;revert e
 match dg a,h with
 |[x,y],_=>intro e;simp[dv] at e⊢;omega
def BA(a:Nat):DV:= .tp [.v (.int .u64 ((if a<18446744073709551616 then a else 0:Nat):Int)),vB (decide (a<18446744073709551616))]
def RU(h:a<18446744073709551616:=by omega):BA a= .tp [.v (.int .u64 (a:Int)),vB true]:=by unfold BA;rw[if_pos h,decide_eq_true h]
def V5(h: ¬a<18446744073709551616):BA a= .tp [.v (.int .u64 0),vB false]:=by unfold BA;rw[if_neg h,decide_eq_false h];rfl
def sG(a:Nat):a<4294967296^(dg a).length:=by have:=k8 (gt a);rwa [c8] at this
theorem omG{p:Prop}(h:p:=by show _*4294967296<_;omega):p:=h
def C7{a ia:Nat}[ha:BN a ia](hi:ia<=1000000000:=by decide):PF GB prog 185 [dN a] (BA a):=by
 have hla:=b7 (dg a);have hba:=vX ha.h;have hlt:=sG a;have hd00:=ef a 0;refine fn (fu:=⟨11⟩) func185 J J ntmps185 J J (fun C=>?_);refine aj 5 (.d (vI ((dg a).length:Nat))) J omU<|gx J<|br J J J (fun hc6=>?_) (fun hc6=>?_)
 .
  exact rz rfl (by rw[show(dg a).length=0 by omega] at hlt;obtain rfl:a=0:=we;rfl)
 .
  refine br J J J (fun hc8=>?_) (fun hc8=>?_)
  .
   refine ix (fu:=⟨2⟩) _ J (cP (k:=0) J we) J<|aj 13 (.d (.v (.int .u64 (a:Nat)))) J (by rw[w8])<|gx J<|rz J (by rw[show(dg a).length=1 by omega] at hlt;rw[RU,<-w8 (a:=a),w8 (a:=a)];rfl)
  .
   refine br J J J (fun hc14=>?_) (fun hc14=>?_)
   .
    have hd0:=ef a 0;have hd1:=ef a 1;refine ix (hv:=by simp only[ak];exact⟨we,oma⟩) _ J (cP (k:=1) J we) J<|ix (fu:=⟨3⟩) _ J (cP (k:=0) J we) J<|aj 25 (.d (.v (.int .u64 (a:Nat)))) J (congrArg (fun z:Nat=>FX.d (.v (.int .u64 (z:Int)))) (by rw[rp _ 32 oma omG J,BitVec.or_comm];exact(rD 64 ((dg a).getD 0 0) ((dg a).getD 1 0) 32 hd0 omu).trans (Ym we)))<|gx J<|rz J (by rw[show(dg a).length=2 by omega] at hlt;rw[RU];rfl)
   .
    exact rz rfl (by rw[V5];rfl;intro h;have:=Af (a:=a) (k:=2) we;omega)
section
variable {C:aF}{Q0:Exit->Act->World->Prop}{fr fr':aC}{own own':aO}{cf cf':Cf}{vc:List Prop}
def PR(GB:Gh)(P:Program)(f:FuncId)(ds:List DV)(s:Nat)(ty:TypeId)(rows:List DV):Prop:=
 ∀G vs,bI GB G->IsLs G ds vs->iu P f vs [] G (fun v own' G'=> ∃w:SV,v= .slice w.a w.n w.c/\d9 G' ⟨w,s,ty,rows,true⟩ own')
def PT: ∀(l:List aB),(∀o∈l,o.lo=true)->l.map (relo (gI []))=l
 |[],_=>rfl
 |a::t,h=>by
  have h1:=h a aZ;rw[bV,PT t fun o ho=>h o (aJ _ ho)];congr 1
  cases a
  simp[relo,gI] at*;exact h1
def WL{lk:LK}{bk:BM}{fo:Operand}{args:Array Operand}{tys:Array TypeId}{ds:List DV}{pos:String}{af:Array Edge}{gd:Option (Nat×Bool)}
  (ha:te lk fo args=some (f,ds))(hF:PR GB prog f ds s ty2 rows):b8 prog GB C n lk bk ⟨some d, .call ⟨.value fo,args,tys⟩,ty,pos,af,gd⟩ (.rw d) [(d,some (.b ty2 s rows true))] [d]:=by
 intro hd tl tb K' s1 s2 hf hk;refine⟨fun ρ G ov a w r Q=>?_⟩;have r1:=r.mono s1 s2;obtain⟨h1,h2⟩:=A1 ha;obtain⟨y,hy,hy'⟩:=r1.ev h1;rw[(aI (G:=G)).1 hy'] at hy;obtain⟨vs,h3,h4⟩:=r1.evDs h2;refine xU (M:=[]) (rest:=ov) hy h3 (List.Perm.refl _) (hF G vs r.gb h4) hd (fun v own1 G' hG hK a' w' rl=>?_) a w Q ⟨r.h,r.sz,cC a,r.df⟩;obtain⟨z,rfl,vs',k1,k2,k3,k4⟩:=hK;rw[PT _ (k4 J)] at rl;have rl':gA C n (Sx.put (cp a) (some d) (.slice z.a z.n z.c)) (own1++ov) G' a' w':=rl;have hdis:=(gR.1 rl'.h.nd).2.2;have r3:=r.new' (x:=z) (B':= .b ty2 s rows true) (os:=own1) (ov':=own1++ov) (f:= .rw d) (y:= .slice z.a z.n z.c) hf hG.le rl'.h ⟨vs',by simpa using k1,k2,k3,k4⟩ (fun o ho=>bM _ ho)
  (fun q B0 hq e o ho hbq=>⟨bU _ ho,fun hc=>by
   have hx: ∃o1∈own1,o1.b=o.b:=by
    rcases k1 with⟨_,h,_⟩|⟨b0,rest0,lo0,h,hB,_⟩
    .rw[show z=_ from h] at hc;cases hc
    .rw[show z=_ from h] at hc;cases hc;exact⟨⟨_,aH vs'++rest0,_,lo0⟩,by rw[hB];exact aZ,J⟩
   obtain⟨o1,ho1,he1⟩:=hx;exact hdis o1 ho1 o ho he1⟩) (by simp[b9]) (jp rl')
 exact hk.run _ G' _ a' w' r3
def OJ(fr:aC)(cf:Cf):Option (FuncId×List DV×Nat):=match c6 fr cf with
 |some ⟨some d, .call ⟨.value fo,args,_⟩,_,_,_,_⟩=>match te (cd fr cf) fo args with
  |some (f,ds)=>some (f,ds,d)
  |none=>none
 |_=>none
def cr[fu:Fu]{ds:List DV}(ha:OJ fr cf=some (f,ds,d))(hF:PR GB prog f ds s ty rows)
  (hgo:cB tt n fu.n fr own cf (.rw d) [(d,some (.b ty s rows true))] [d]=⟨vc,fr',own',cf'⟩)(k:aA prog GB C n Q0 fr' own' cf')
  (hv:autoParam (ak vc) fn._auto_1):aA prog GB C n Q0 fr own cf:=by
 unfold OJ at ha;split at ha<;>try (cases ha;done)
 rename_i hh;split at ha<;>cases ha;rename_i h1;exact us hh (WL h1 hF) hgo hv k
def Fw(C:aF)(s:Nat)(ty:TypeId)(rows:List DV):Ending->World->Prop:=s7 C (fun v own' G'=> ∃w:SV,v= .slice w.a w.n w.c/\d9 G' ⟨w,s,ty,rows,true⟩ own')
def E7[fu:Fu]{c:Code}{ds:List DV}(hf:prog.funcs[f]? =some fb)(hb:fb.body=some c)(hn:(fb.name== "runtime.NumGoroutine")=false)(hm:fb.ntmps=m)(hlen:Nat.ble ds.length m=true)
  (hgo:go tt m fu.n [] (pD 0 ds) [] (.code c [])=⟨vc,fr,own,cf⟩)(k: ∀C:aF,C.mb=[]->aA prog GB C m (eH C prog fb (Fw C s ty rows)) fr own cf)
  (hv:autoParam (ak vc) fn._auto_1):PR GB prog f ds s ty rows:=by
 intro G vs hg hvs;refine iu.introR hf hb hn hm okp fun C _ hmb hrd hfx=>?_;intro a w rl;refine uO hrd ?_;have h:=fB (GB:=GB) (C:=C) (Q0:=eH C prog fb (Fw C s ty rows)) hgo hv (k C (by simpa using hmb));exact h.run (fun _=>⟨none,0,0⟩) G [] a w ⟨hg,rl.h,rl.sz,rl.df,(fun k f e=>vm hvs rl.fr k f e),(fun nm B e=>by cases e),(fun nm nm' B B' e=>by cases e),fun nm p _ _ e=>by rw[hfx] at e;cases e⟩
def JZ(hr:fb.results.toList=[.tmp t])(hl:bi fr t=some (.rw d))(hw:bu own d=some (.b ty s rws true))(er:rws=rows):
  aA prog GB C n (eH C prog fb (Fw C s ty rows)) fr own (.ex .ret []):=by
 subst er;refine⟨fun ρ G ov a w r=>?_⟩;obtain⟨B,g1,g2⟩:=r.bx _ _ hw;have hB:d9 G ⟨ρ d,s,ty,rws,true⟩ B:=g1;obtain⟨rest,hp⟩:=JD hB g2;obtain⟨y,hy,hy'⟩:=r.ev (x:= .tmp t) (f:= .rw d) hl
 cases (show y=_ from hy')
 exact xQ (C:=C) (n:=n) (fr:=cp a) (own:=ov) (G:=G) (vs:=[.slice (ρ d).a (ρ d).n (ρ d).c]) okh (B++rest) B hp (oW _ _) ⟨ρ d,J,hB⟩ a w ⟨r.h,r.sz,cC a,r.df⟩
def X4(hr:fb.results.toList=[.tmp t])(hl:bi fr t=some .nl)(er:rows=[]):
  aA prog GB C n (eH C prog fb (Fw C s ty rows)) fr own (.ex .ret []):=by
 subst er;refine⟨fun ρ G ov a w r=>?_⟩;obtain⟨y,hy,hy'⟩:=r.ev (x:= .tmp t) (f:= .nl) hl
 cases (show y=_ from hy')
 exact xQ (C:=C) (n:=n) (fr:=cp a) (own:=ov) (G:=G) (vs:=[.slice none 0 0]) okh ([]++ov) [] (List.Perm.refl _) (jV _) ⟨⟨none,0,0⟩,J,[], .inl ⟨J,J,J⟩,dm.2 J,fun v h=>okZ,fun _ o h=>okZ⟩ a w ⟨r.h,r.sz,cC a,r.df⟩
end
end Go.Sx
end
