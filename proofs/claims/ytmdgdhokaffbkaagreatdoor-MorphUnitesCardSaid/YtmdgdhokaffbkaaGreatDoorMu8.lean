import Derived.Test.YtmdgdhokaffbkaaGreatDoorMu7
set_option linter.all false
set_option maxHeartbeats 2000000
set_option maxRecDepth 100000
section
namespace Go.Sx
open Go Go.Proofs Tryz
variable {GB:Gh}{C:aE}{n b:Nat}{Q0:Exit->Act->World->Prop}{fr fr':aC}{own':aG}{cf cf':Cf}{vc:List Prop}{dso:List DV}{ops:Array Oper}{r:List Oper}{K:List Kt}{p q:Int}
section
variable {own:aG}
def SU[fu:Fu]{d e s:Nat}{z:DV}{k':IntKind}(cap:Nat)(h:Dt fr cf=some ⟨d,e,s,b,z,0⟩)(hy:(match cE fr cf with|some ⟨_, .makeSlice _ _ y,_,_,_,_⟩=>bh (b7 fr cf) y|_=>none)=some (.d (.v (.int k' (cap:Nat)))))
  (hgo:cx tt n fu.n fr own cf (.rw d) [(d,some (.c e s [] cap))] [d]=⟨vc,fr',own',cf'⟩)(k:aA prog GB C n Q0 fr' own' cf')(hb:b*cap<=140737488355328:=by omega)(hl:cap<=1152921504606846976:=by omega)
  (hv:autoParam (ak vc) cL._auto_1):aA prog GB C n Q0 fr own cf:=by
 unfold Dt at h;split at h<;>try (cases h;done)
 rename_i hh;split at h<;>try (cases h;done)
 rename_i hx;split at h<;>try (cases h;done)
 rename_i hT;split at h<;>try (cases h;done)
 rename_i hi;split at h<;>try (cases h;done)
 rename_i hz;rw[cond_eq_ite] at h;split at h<;>cases h;rename_i hs;rw[hh] at hy;have:=ke (eh _ _ hT) J;exact us hh (YN (eh _ _ hi) hz hs hx hy hb hl) hgo hv k
structure UP where
 d:Nat
 nm:Nat
 e:Nat
 s:Nat
 ds:List DV
 ds2:List DV
 cap:Nat
def Qz(fr:aC)(own:aG)(cf:Cf):Option UP:=match cE fr cf with
 |some ⟨some d, .call ⟨.builtin .append,⟨[x,y]⟩,⟨[t,t']⟩⟩,_,_,_,_⟩=>match dE tt t,dE tt t' with
  |some ⟨.sl e s _,_,_,_⟩,some ⟨.sl _ _ _,_,_,_⟩=>match bh (b7 fr cf) x with
   |some (.rw nm)=>match iH fr own cf nm,pg (b7 fr cf) (iH fr own cf) s y with
    |some (.c e' s' ds cap),some ds2=>bif (Nat.beq e' e&&Nat.beq s' s)&&!Nat.beq nm d then some ⟨d,nm,e,s,ds,ds2,cap⟩ else none
    |_,_=>none
   |_=>none
  |_,_=>none
 |_=>none
def Uc[fu:Fu]{d nm e s cap:Nat}{ds ds2:List DV}(ds':List DV)(h:Qz fr own cf=some ⟨d,nm,e,s,ds,ds2,cap⟩)(hds:ds++ds2=ds')(ho2:cA s ds2)(hc:ds.length+ds2.length<=cap)(hgo:cx tt n fu.n fr own cf (.rw d) [(nm,none),(d,some (.c e s ds' cap))] [d]=⟨vc,fr',own',cf'⟩)(k:aA prog GB C n Q0 fr' own' cf')
  (hp:0<ds2.length:=by simp)(hv:autoParam (ak vc) cL._auto_1):aA prog GB C n Q0 fr own cf:=by
 subst hds;unfold Qz at h;split at h<;>try (cases h;done)
 rename_i hh;split at h<;>try (cases h;done)
 rename_i hT hT';split at h<;>try (cases h;done)
 rename_i hx;split at h<;>try (cases h;done)
 rename_i hb hy;rw[cond_eq_ite] at h;split at h<;>cases h;rename_i h2;simp only[bU,iZ] at h2
 cases aL h2.1.1
 cases aL h2.1.2
 have:=ke (eh _ _ hT) J;have hN:ji prog _:=⟨_,(ke (eh _ _ hT') J).un⟩;exact us hh (aFd hx hb hy ho2 hc hp h2.2) hgo hv k
def PI(GB:Gh)(P:Program)(f:FuncId)(i:Int)(s:Nat)(ty ty2:TypeId)(ds:List DV)(x:DV)(cap:Nat)(dso:List DV):Prop:=
 ∀G w w2 B B2,bH GB G->du G ⟨w,s,ty,ds,false⟩ B->cap<=w.c->du G ⟨w2,s,ty2,[x],false⟩ B2->gG P f [.slice w.a w.n w.c, .int .i64 i, .slice w2.a w2.n w2.c] (B++B2) G fun v own' G'=> ∃w',v= .slice w'.a w'.n w'.c/\du G' ⟨w',s,ty,dso,false⟩ own'
structure Wo where
 f:FuncId
 nm:Nat
 nm2:Nat
 i:Int
 ty:TypeId
 ty2:TypeId
 s:Nat
 ds:List DV
 x:DV
 cap:Nat
 d:Nat
def PO(fr:aC)(own:aG)(cf:Cf):Option Wo:=match cE fr cf with
 |some ⟨some d, .call ⟨.value fo,⟨[x1,x2,x3]⟩,_⟩,_,_,_,_⟩=>match bh (b7 fr cf) fo,bh (b7 fr cf) x1 with
  |some (.d (.v (.func (.func f) ⟨[]⟩ ⟨[]⟩))),some (.rw nm)=>match bh (b7 fr cf) x2,bh (b7 fr cf) x3 with
   |some (.d (.v (.int .i64 i))),some (.rw nm2)=>match iH fr own cf nm,iH fr own cf nm2 with
    |some (.c ty s ds cap),some (.b ty2 s2 [x] true)=>bif (!Nat.beq nm d&&!Nat.beq nm2 d)&&(!Nat.beq nm nm2&&(Nat.beq s2 s&&Nat.blt 0 cap)) then some ⟨f,nm,nm2,i,ty,ty2,s,ds,x,cap,d⟩ else none
    |_,_=>none
   |_,_=>none
  |_,_=>none
 |_=>none
def ZD{lk:LK}{bk:BM}{fo x1 x2 x3:Operand}{tys:Array TypeId}{f:FuncId}{nm nm2 d cap s:Nat}{i:Int}{ty0 ty2:TypeId}{ty:TypeId}{pos:String}{af:Array Edge}{gd:Option (Nat×Bool)}{ds:List DV}{x:DV}(hne:Nat.beq nm d=false)(hne2:Nat.beq nm2 d=false)(hn2:Nat.beq nm nm2=false)(hcp:0<cap)
  (h0:bh lk fo=some (.d (.v (.func (.func f) ⟨[]⟩ ⟨[]⟩))))(h1:bh lk x1=some (.rw nm))(h2:bh lk x2=some (.d (.v (.int .i64 i))))(h3:bh lk x3=some (.rw nm2))(hb:bk nm=some (.c ty0 s ds cap))(hb2:bk nm2=some (.b ty2 s [x] true))(hF:PI GB prog f i s ty0 ty2 ds x cap dso):
  bP prog GB C n lk bk ⟨some d, .call ⟨.value fo,⟨[x1,x2,x3]⟩,tys⟩,ty,pos,af,gd⟩ (.rw d) [(nm,none),(nm2,none),(d,some (.b ty0 s dso true))] [d]:=by
 intro hd tl tb K' s1 s2 hf hk;refine⟨fun ρ G ov a w r Q=>?_⟩;have r1:=r.mono s1 s2;obtain⟨y,hy,hy'⟩:=r1.ev h0;rw[(aH (G:=G)).1 hy'] at hy;obtain⟨y1,p1,p1'⟩:=r1.ev h1
 cases (show y1=_ from p1')
 obtain⟨y2,p2,p2'⟩:=r1.ev h2;rw[cH] at p2';subst p2';obtain⟨y3,p3,p3'⟩:=r1.ev h3
 cases (show y3=_ from p3')
 have hnn:nm≠d:=fun e=>by subst e;rw[nS] at hne;cases hne
 have hnn2:nm2≠d:=fun e=>by subst e;rw[nS] at hne2;cases hne2
 have hnm:nm≠nm2:=fun e=>by subst e;rw[nS] at hn2;cases hn2
 obtain⟨B,g1,g2⟩:=r1.bx _ _ hb;obtain⟨B2,k1,k2⟩:=r1.bx _ _ hb2;obtain⟨vs,q1,q2,q3,q4,q5⟩:=g1;have hB:du G ⟨ρ nm,s,ty0,ds,false⟩ B:=⟨vs,q1,q2,q3,fun h=>by cases h⟩;have hB2:du G ⟨ρ nm2,s,ty2,[x],false⟩ B2:=du.weak (lo:=true) k1;have e1: ∃o,B=[o]/\(ρ nm).a=some ⟨o.b,0,none⟩:=by
  rcases q1 with⟨_,e,_⟩|⟨b,rest,lo',e,rfl,_⟩
  .rw[e] at q5;simp at q5;omega
  .exact⟨_,J,by rw[e]⟩
 have e2: ∃o,B2=[o]/\(ρ nm2).a=some ⟨o.b,0,none⟩:=by
  obtain⟨vs2,c1,c2,_⟩:=k1;rcases c1 with⟨e,_,_⟩|⟨b,rest,lo',e,rfl,_⟩
  .subst e;have:=c2.len;simp at this
  .exact⟨_,J,by rw[e]⟩
 obtain⟨o1,rfl,a1⟩:=e1;obtain⟨o2,rfl,a2⟩:=e2;have hob:o1.b≠o2.b:=fun e=>r.dj nm nm2 _ _ (s2 _ _ hb) (s2 _ _ hb2) hnm _ a1 (by rw[a2,e]);have hp: ∃rest,ov.Perm ([o1]++[o2]++rest):=by
  obtain⟨l1,l2,e3⟩:=mQ (g2 _ aQ);have hm:=k2 _ aQ;rw[e3] at hm⊢;have hm2:o2∈l1++l2:=by
   rcases aM.1 hm with h|h
   .exact bV _ h
   .rcases aK.1 h with h|h
    .exact absurd (by rw[h]) hob
    .exact bZ _ h
  obtain⟨l3,l4,e4⟩:=mQ hm2;refine⟨l3++l4,List.perm_middle.trans ?_⟩;rw[e4];exact(oW (l₁:=l3) (l₂:=l4) (a:=o2)).cons o1
 obtain⟨rest,h5⟩:=hp;have h6: ∀o∈ov,o.b≠o1.b->o.b≠o2.b->o∈rest:=fun o ho n1 n2=>by
  have:=h5.mem_iff.1 ho;simp only[gL,jL,aK] at this;rcases this with rfl|rfl|h
  .exact absurd J n1
  .exact absurd J n2
  .exact h
 have hlo2: ∀o∈[o2],o.lo=true:=by obtain⟨_,_,_,_,h⟩:=k1;exact h rfl
 have hall: ∀o∈[o1]++[o2],o.lo=true:=fun o ho=>by
  rcases aM.1 ho with h|h
  .exact q4 o h
  .exact hlo2 o h
 refine vj (M:=[o1]++[o2]) (rest:=rest) (vs:=[.slice (ρ nm).a (ρ nm).n (ρ nm).c, .int .i64 i, .slice (ρ nm2).a (ρ nm2).n (ρ nm2).c]) hy (by simp only[fg,p1,p2,p3]) h5 (hF G (ρ nm) (ρ nm2) [o1] [o2] r.gb hB q5 hB2) hd (fun v own1 G' hG hK a' w' rl=>?_) a w Q ⟨r.h,r.sz,cw a,r.df⟩;obtain⟨z,rfl,vs',k1',k2',k3',k4'⟩:=hK;have hs1:=k1'.relo (gr ([o1]++[o2]));have e3: ∀o∈own1.map (relo (gr ([o1]++[o2]))),o.lo=true:=fun o ho=>by
  obtain⟨o',_,rfl⟩:=aR.1 ho;exact BT _ hall
 generalize own1.map (relo (gr ([o1]++[o2])))=B' at rl e3 hs1;have rl':gm C n (Sx.put (ck a) (some d) (.slice z.a z.n z.c)) (B'++rest) G' a' w':=rl;have hdis:=(gW.1 rl'.h.nd).2.2;have rd:=(r.dropB nm).dropB nm2;have hin: ∀q B0,Sx.upB (Sx.upB tb [(nm,none)]) [(nm2,none)] q=some B0->q≠nm/\q≠nm2/\tb q=some B0:=fun q B0 e=>by
  simp only[Sx.upB] at e;split at e
  .cases e
  .split at e
   .cases e
   .exact⟨by assumption,by assumption,e⟩
 have hf2:jw [d] (some d) tl (Sx.upB (Sx.upB tb [(nm,none)]) [(nm2,none)]):=fun q hq=>by
  obtain⟨f1,f2⟩:=hf q hq;exact⟨f1,fun k B e1 e=>f2 k B e1 (hin k B e).2.2⟩
 have hsep: ∀q B0,Sx.upB (Sx.upB tb [(nm,none)]) [(nm2,none)] q=some B0-> ∀o∈ov,(ρ q).a=some ⟨o.b,0,none⟩->o∈rest:=fun q B0 e o ho hbq=>by
  obtain⟨n1,n2,n3⟩:=hin q B0 e;exact h6 o ho (fun e'=>r.dj nm q _ _ (s2 _ _ hb) n3 (Ne.symm n1) _ a1 (by rw[hbq,e'])) (fun e'=>r.dj nm2 q _ _ (s2 _ _ hb2) n3 (Ne.symm n2) _ a2 (by rw[hbq,e']))
 have r3:=rd.new' (x:=z) (B':= .b ty0 s dso true) (os:=B') (ov':=B'++rest) (f:= .rw d) (y:= .slice z.a z.n z.c) hf2 hG.le rl'.h ⟨vs',by simpa using hs1,k2',k3',fun _=>e3⟩ (fun o ho=>bV _ ho)
  (fun q B0 hq e o ho hbq=>⟨bZ _ (hsep q B0 e o ho hbq),fun hc=>by
   have hx: ∃o1∈B',o1.b=o.b:=by
    rcases hs1 with⟨_,h,_⟩|⟨b0,rest0,lo0,h,hB,_⟩
    .rw[show z=_ from h] at hc;cases hc
    .rw[show z=_ from h] at hc;cases hc;exact⟨⟨_,aD vs'++rest0,_,lo0⟩,by rw[hB];exact aQ,J⟩
   obtain⟨o3,ho3,he3⟩:=hx;exact hdis o3 ho3 o (hsep q B0 e o ho hbq) he3⟩) (by show _=_;simp) (jk rl')
 exact hk.run _ G' _ a' w' r3
def ci[fu:Fu]{f:FuncId}{nm nm2 d cap s:Nat}{i:Int}{ty ty2:TypeId}{ds:List DV}{x:DV}(dso':List DV)(ha:PO fr own cf=some ⟨f,nm,nm2,i,ty,ty2,s,ds,x,cap,d⟩)(hF:PI GB prog f i s ty ty2 ds x cap dso)(he:dso=dso')
  (hgo:cx tt n fu.n fr own cf (.rw d) [(nm,none),(nm2,none),(d,some (.b ty s dso' true))] [d]=⟨vc,fr',own',cf'⟩)(k:aA prog GB C n Q0 fr' own' cf')
  (hv:autoParam (ak vc) cL._auto_1):aA prog GB C n Q0 fr own cf:=by
 subst he;unfold PO at ha;split at ha<;>try (cases ha;done)
 rename_i hh;split at ha<;>try (cases ha;done)
 rename_i h0 h1;split at ha<;>try (cases ha;done)
 rename_i h2 h3;split at ha<;>try (cases ha;done)
 rename_i hb hb2;rw[cond_eq_ite] at ha;split at ha<;>cases ha;rename_i hc;simp only[bU,iZ,kS] at hc;obtain⟨⟨c1,c2⟩,c3,c4,c5⟩:=hc
 cases aL c4
 exact us hh (ZD c1 c2 c3 c5 h0 h1 h2 h3 hb hb2 hF) hgo hv k
def jp(d:Nat)(hl:aP fr d=some (.d (.v (.bool true))))(k:aA prog GB C n Q0 ((d, .tt)::fr) own (.ops ops r K)):aA prog GB C n Q0 fr own (.ops ops r K):=oG (g:= .tt) hl (fun _ G _ e=>(aH (G:=G)).1 e) k
def rA(d:Nat)(hl:aP fr d=some (.d (.v (.bool false))))(k:aA prog GB C n Q0 ((d, .ff)::fr) own (.ops ops r K)):aA prog GB C n Q0 fr own (.ops ops r K):=oG (g:= .ff) hl (fun _ G _ e=>(aH (G:=G)).1 e) k
end
section
variable {own:aG}
def Oe(fr:aC)(cf:Cf):Option (Int×Int):=match cE fr cf with
 |some ⟨_, .binOp .xor _ x y _,_,_,_,_⟩=>match bh (b7 fr cf) x,bh (b7 fr cf) y with
  |some (.d (.v (.int .u32 p))),some (.d (.v (.int .u32 q)))=>some (p,q)
  |_,_=>none
 |_=>none
def xr[fu:Fu](u:Int)(h:Oe fr cf=some (p,q))(e:(((BitVec.ofInt 32 p^^^BitVec.ofInt 32 q).toNat:Nat):Int)=u)(hgo:cx tt n fu.n fr own cf (.d (.v (.int .u32 u))) [] []=⟨vc,fr',own',cf'⟩)(k:aA prog GB C n Q0 fr' own' cf')
  (hv:autoParam (ak vc) cL._auto_1):aA prog GB C n Q0 fr own cf:=by
 unfold Oe at h;split at h<;>try (cases h;done)
 rename_i hh;split at h<;>cases h;rename_i h1 h2;subst e;exact us hh (.yd fun ρ G ov a w r=>by
  obtain⟨y1,h3,h4⟩:=r.ev h1;obtain⟨y2,h5,h6⟩:=r.ev h2;rw[cH] at h4 h6;subst h4 h6;exact⟨_,cH.2 J,lc h3 h5 fun w=>by
   show(pure (Value.int .u32 (IntKind.u32.wrap ((BitVec.ofInt 32 p^^^BitVec.ofInt 32 q).toNat:Int))):Sem Value).run prog w=_;rw[Ez];rfl⟩) hgo hv k
def Nh(fr:aC)(cf:Cf):Option (Int×Int):=match cE fr cf with
 |some ⟨_, .binOp .sub _ x y _,_,_,_,_⟩=>match bh (b7 fr cf) x,bh (b7 fr cf) y with
  |some (.d (.v (.int .u32 p))),some (.d (.v (.int .u32 q)))=>some (p,q)
  |_,_=>none
 |_=>none
def sw[fu:Fu](u:Int)(h:Nh fr cf=some (p,q))(e:(p-q)%4294967296=u)(hgo:cx tt n fu.n fr own cf (.d (.v (.int .u32 u))) [] []=⟨vc,fr',own',cf'⟩)(k:aA prog GB C n Q0 fr' own' cf')
  (hv:autoParam (ak vc) cL._auto_1):aA prog GB C n Q0 fr own cf:=by
 unfold Nh at h;split at h<;>try (cases h;done)
 rename_i hh;split at h<;>cases h;rename_i h1 h2;subst e;exact us hh (.yd fun ρ G ov a w r=>by
  obtain⟨y1,h3,h4⟩:=r.ev h1;obtain⟨y2,h5,h6⟩:=r.ev h2;rw[cH] at h4 h6;subst h4 h6;exact⟨_,cH.2 J,by rw[<-s6];exact Se h3 h5⟩) hgo hv k
def KN(fr:aC)(cf:Cf):Option Int:=match cE fr cf with
 |some ⟨_, .unOp .xor _ x,_,_,_,_⟩=>match bh (b7 fr cf) x with
  |some (.d (.v (.int .u32 p)))=>some p
  |_=>none
 |_=>none
def nt[fu:Fu](u:Int)(h:KN fr cf=some p)(e:(((BitVec.ofInt 32 IntKind.u32.max^^^BitVec.ofInt 32 p).toNat:Nat):Int)=u)(hgo:cx tt n fu.n fr own cf (.d (.v (.int .u32 u))) [] []=⟨vc,fr',own',cf'⟩)(k:aA prog GB C n Q0 fr' own' cf')
  (hv:autoParam (ak vc) cL._auto_1):aA prog GB C n Q0 fr own cf:=by
 unfold KN at h;split at h<;>try (cases h;done)
 rename_i hh;split at h<;>cases h;rename_i hx;subst e;refine us hh (.x1 hx fun ρ G ov a w y _ r h1 h2=>?_) hgo hv k;rw[cH] at h2;subst h2;refine⟨_,cH.2 J,fun a w hf hh=>?_⟩;simp only[execOp,bw hf h1];refine cD (w':=w) ?_;show(pure (Value.int .u32 (IntKind.u32.wrap ((BitVec.ofInt 32 IntKind.u32.max^^^BitVec.ofInt 32 p).toNat:Int))):Sem Value).run prog w=_;rw[Ez];rfl
end

end Go.Sx
end
section
namespace Go.Sx
open Go
variable {ds:List Nat}{i n k k' a b j d:Nat}{G:Gh}{v:Value}
def dU(d:Nat):DV:= .v (.int .u32 (d:Int))
def dk(ds:List Nat):DV:= .sl (ds.map dU)
def dN(n:Nat):DV:= .sl ((dg n).map dU)
def dD(n:Nat):DV:= .sl (if n=1 then [] else(dg n).map dU)
def eI(m:Int):DV:= .ag [.v (.bool (decide (m<0))),dN m.natAbs]
def eQ(q:Rat):DV:= .ag [.v (.bool (decide (q.num<0))),dN q.num.natAbs,dD q.den]
def eP(p:ah):DV:= .ag [.v (.bool (decide (p.x.num<0))),dN p.x.num.natAbs,dD p.x.den, .v (.bool (decide (p.y.num<0))),dN p.y.num.natAbs,dD p.y.den]
def eL(l:aa):DV:= .ag [.v (.bool (decide (l.a<0))),dN l.a.natAbs, .v (.bool (decide (l.b<0))),dN l.b.natAbs, .v (.bool (decide (l.c<0))),dN l.c.natAbs]
def eR(q:Rat):DV:= .ag [.v (.bool (decide (q.num<0))),dN q.num.natAbs,dN q.den]
def n7(p:ah):DV:= .ag [.v (.bool (decide (p.x.num<0))),dN p.x.num.natAbs,dN p.x.den, .v (.bool (decide (p.y.num<0))),dN p.y.num.natAbs,dN p.y.den]
def vI(n:Int):DV:= .v (.int .i64 n)
def vB(b:Bool):DV:= .v (.bool b)
def FE(n:Nat):dN n=dk (dg n):=rfl
def UZ(h:bB ds):dk (trimD ds)=dN (dv ds):=by unfold dk dN;rw[C9 h]
def awI(h:i<ds.length):(ds.map dU)[i]? =some (dU (ds.getD i 0)):=by
 rw[cY,aZ h,aW,aZ h];rfl
def eo(h:i<ds.length:=by omega):(ds.map dU)[(i:Int).toNat]? =some (dU (ds.getD i 0)):=by rw[cK];exact awI h
def je(ds:List Nat)(i d:Nat):(ds.map dU).set i (.v (.int .u32 (d:Int)))=(ds.set i d).map dU:=by rw[jR];rfl
def mH(n:Nat):List.replicate n (DV.v (.int .u32 0))=(List.replicate n 0).map dU:=by rw[List.map_replicate];rfl
def ra(ds:List Nat):cA 1 (ds.map dU):=fun d hd=>by
 obtain⟨n,_,rfl⟩:=aR.1 hd;exact⟨rfl,rfl⟩
def dt(n:Nat)(i:Nat):(dg n).getD i 0<4294967296:=(fE n).2.1.get i
def tU:dg 0=[]:=by rw[dg,dif_pos J]
def At:dg 1=[1]:=by rw[dg,dif_neg (by decide)];simp[tU]
def uc{n:Nat}:(dg n).length=0↔n=0:=by
 constructor
 .intro h
  have:=(fE n).1;rw[cR h] at this;exact this.symm
 .rintro rfl;rw[tU];rfl
def lO:dN 0= .sl []:=by unfold dN;rw[tU];rfl
def Ci{G:Gh}: ∀{ds:List Nat} {es:List Value},IsLs G (ds.map dU) es↔es=ds.map dI
 |[],es=>d8
 |d::t,es=>by
  rw[bY,bi];constructor
  .rintro ⟨y,n,rfl,h1,h2⟩
   rw[aH.1 h1,Ci.1 h2];rfl
  .rintro rfl
   exact⟨_,_,J,aH.2 J,Ci.2 J⟩
def Gq:Is G (dk ds) v↔ ∃x:SV,v= .slice x.a x.n x.c/\f7 G 1 x (ds.map dI):=by
 unfold dk;rw[gp];constructor
 .rintro ⟨s,x,es,rfl,h1,h2⟩
  have:=Ci.1 h2;subst this;refine⟨x,J,?_⟩;rcases BC (s:=1) h1 h2 (ra ds) with h|h
  .rw[h] at h1⊢
   exact⟨h1.len,h1.cap, .inl J⟩
  .subst h;exact h1
 .rintro ⟨x,rfl,h⟩
  exact⟨1,x,_,J,h,Ci.2 J⟩
def PS(hk:n<2^k):Is G (dN n) v↔ ∃x:SV,v= .slice x.a x.n x.c/\AL k G x n:=by
 rw[FE,Gq];constructor
 .rintro ⟨x,rfl,h⟩
  exact⟨x,J,⟨(fE n).2.1,h⟩,hk⟩
 .rintro ⟨x,rfl,h⟩
  exact⟨x,J,h.d.sl⟩
def cv{i:Int}(hi:i=k:=by omega)(h:k<ds.length:=by omega):(ds.map dU)[i.toNat]? =some (dU (ds.getD k 0)):=by subst hi;exact eo h
class BN (n:Nat) (k:outParam Nat):Prop where h:n<2^k
class BI (m:Int) (k:outParam Nat):Prop where h:m.natAbs<2^k
class BQ (q:Rat) (k:outParam Nat):Prop where
 hn:q.num.natAbs<2^k
 hd:q.den<2^k
theorem BN.mono(h:BN n k)(hk:k<=k'):BN n k':=⟨dZ h.h (bR (by decide) hk)⟩
def po(h:a<2^i)(k:b<2^j):a*b<2^(i+j):=by rw[fX];exact oY h k
def N1(h:a<2^i)(k:b<2^j):a+b<2^(i+j+1):=by
 have h1:2^i<=2^(i+j):=bR (by decide) (by omega);have h2:2^j<=2^(i+j):=bR (by decide) (by omega);rw[gR];omega
instance BN.mul (a b i j:Nat) [h:BN a i] [k:BN b j]:BN (a*b) (i+j):=⟨po h.h k.h⟩
instance BN.div (a b i:Nat) [h:BN a i]:BN (a/b) i:=⟨fK (mY _ _) h.h⟩
instance BN.abs (m:Int) (i:Nat) [h:BI m i]:BN m.natAbs i:=⟨h.h⟩
instance BN.den (q:Rat) (i:Nat) [h:BQ q i]:BN q.den i:=⟨h.hd⟩
def Kw(h:a<2^i)(k:b<2^j):Nat.gcd a b<2^(i+j):=by
 have h1:2^i<=2^(i+j):=bR (by decide) (by omega);have h2:2^j<=2^(i+j):=bR (by decide) (by omega);rcases fU a with h0|h0
 .subst h0;rw[Nat.gcd_zero_left];omega
 .have:=Nat.gcd_le_left b h0;omega
instance BN.gcd (a b i j:Nat) [h:BN a i] [k:BN b j]:BN (Nat.gcd a b) (i+j):=⟨Kw h.h k.h⟩
instance BN.one:BN 1 1:=⟨by decide⟩
instance BI.mul (a b:Int) (i j:Nat) [h:BI a i] [k:BI b j]:BI (a*b) (i+j):=⟨by rw[fW];exact po h.h k.h⟩
instance BI.add (a b:Int) (i j:Nat) [h:BI a i] [k:BI b j]:BI (a+b) (i+j+1):=⟨fK (Int.natAbs_add_le a b) (N1 h.h k.h)⟩
instance BI.sub (a b:Int) (i j:Nat) [h:BI a i] [k:BI b j]:BI (a-b) (i+j+1):=⟨fK (Int.natAbs_sub_le a b) (N1 h.h k.h)⟩
instance BI.neg (a:Int) (i:Nat) [h:BI a i]:BI (-a) i:=⟨by rw[jW];exact h.h⟩
instance BI.num (q:Rat) (i:Nat) [h:BQ q i]:BI q.num i:=⟨h.hn⟩
instance BI.nat (n:Nat) (i:Nat) [h:BN n i]:BI (n:Int) i:=⟨by rw[fT];exact h.h⟩
def lI(q:Rat):0<q.den:=iK q.den_nz
theorem AN{m:Int}(hd:0<d)(h:m.natAbs<2^i)(k:d<2^i):BQ (mkRat m d) i:=by
 refine⟨?_,?_⟩
 .rw[Rat.num_mkRat,if_neg (by omega)]
  have:=nW m (d.gcd m.natAbs:Nat);omega
 .rw[Rat.den_mkRat,if_neg (by omega)]
  have:=mY d (d.gcd m.natAbs);omega
theorem BQ.mono{q:Rat}(h:BQ q k)(hk:k<=k':=by decide):BQ q k':=⟨dZ h.hn (bR (by decide) hk),dZ h.hd (bR (by decide) hk)⟩
def Bw(p q:Rat):p*q=mkRat (p.num*q.num) (p.den*q.den):=by rw[Rat.mul_def,Rat.normalize_eq_mkRat]
def AC(p q:Rat):p+q=mkRat (p.num*q.den+q.num*p.den) (p.den*q.den):=by rw[Rat.add_def,Rat.normalize_eq_mkRat]
instance BQ.mul (p q:Rat) (i j:Nat) [h:BQ p i] [k:BQ q j]:BQ (p*q) (i+j):=by
 rw[Bw];exact AN (jQ (lI p) (lI q)) (BI.mul p.num q.num i j).h (po h.hd k.hd)
instance BQ.add (p q:Rat) (i j:Nat) [h:BQ p i] [k:BQ q j]:BQ (p+q) (i+j+1):=by
 rw[AC];refine AN (jQ (lI p) (lI q)) ?_ ?_
 .have h1:=po h.hn k.hd
  have h2:=po k.hn h.hd;have h3:(p.num*q.den+q.num*p.den).natAbs<=(p.num*q.den).natAbs+(q.num*p.den).natAbs:=Int.natAbs_add_le ..;rw[fW,fW,fT,fT] at h3;rw[kU j i] at h2;rw[gR];omega
 .have h1:=po h.hd k.hd
  rw[gR];omega
instance BQ.neg (p:Rat) (i:Nat) [h:BQ p i]:BQ (-p) i:=⟨by rw[nR,jW];exact h.hn,by rw[sW];exact h.hd⟩
instance BQ.sub (p q:Rat) (i j:Nat) [h:BQ p i] [k:BQ q j]:BQ (p-q) (i+j+1):=by
 rw[Rat.sub_eq_add_neg];exact BQ.add p (-q) i j
instance BQ.ofInt (m:Int) (i:Nat) [h:BI m i]:BQ (m:Rat) (i+1):=by
 refine⟨?_,?_⟩
 .rw[nY];have:=h.h;rw[gR];omega
 .rw[nU];have:0<2^i:=fN (by decide);rw[gR];omega
end Go.Sx
end
section
namespace Go.Sx
open Go Go.Proofs Tryz
variable {GB:Gh}{ds A B W:List Nat}{n x y c a k i b u ia ib d c2 j m s w h q t:Nat}{f:FuncId}{rows rws:List DV}{ty ty2:TypeId}{fb:Func}
def CZ(p q:Int):Nat:=(BitVec.ofInt 32 p &&& BitVec.ofInt 32 q).toNat
def FR(p q:Int):Nat:=(BitVec.ofInt 32 p ||| BitVec.ofInt 32 q).toNat
def Bj(p q:Int):Nat:=(BitVec.ofInt 32 p^^^BitVec.ofInt 32 q).toNat
def MH(h:0<n/\n<=ds.length)(hz:ds.getD (n-1) 0=0):trimD (ds.take n)=trimD (ds.take (n-1)):=by
 obtain⟨m,rfl⟩: ∃m,n=m+1:=⟨n-1,by omega⟩;rw[iL (by omega),mN];rw[mN,aW,aZ (by omega)] at hz;simp only[lJ] at hz;rw[hz,SQ]
def MF(h:n<=ds.length)(hz:0<n->ds.getD (n-1) 0≠0):trimD (ds.take n)=ds.take n:=by
 rcases fU n with h0|h0
 .subst h0;simp[trimD]
 .obtain⟨m,rfl⟩: ∃m,n=m+1:=⟨n-1,by omega⟩
  have hz:=hz h0;rw[iL (by omega)];rw[mN,aW,aZ (by omega)] at hz;exact RH (by simpa using hz)
def aBi(hx:x<4294967296)(hy:y<4294967296)(hc:c<=1):PF GB prog 203 [.v (.int .u32 (x:Int)), .v (.int .u32 (y:Int)), .v (.int .u32 (c:Int))] (.tp [.v (.int .u32 (((x+y+c)%4294967296:Nat):Int)), .v (.int .u32 (((x+y+c)/4294967296:Nat):Int))]):=by
 refine fn (hv:=by simp only[ak];exact⟨⟨⟨⟨⟨by omega,by omega⟩,by omega⟩,by omega⟩,by omega⟩,(by decide)⟩) func203 J J ntmps203 J J (fun C=>?_);exact rz J (by
  have e1:((x:Int)+y+c)%4294967296=(((x+y+c)%4294967296:Nat):Int):=by omega
  have e2:((x:Int)+y+c).fdiv (2^min (32:Int).toNat IntKind.u64.bits)%4294967296=(((x+y+c)/4294967296:Nat):Int):=by
   rw[show(2:Int)^min (32:Int).toNat IntKind.u64.bits=((4294967296:Nat):Int) from J,kK _ (by decide)];omega
  show DV.tp [.v (.int _ _), .v (.int _ _)]=_;rw[e1,e2])
def Io(n:Nat)(h:n<4294967296):(BitVec.ofInt 32 (n:Int)).msb=decide (2147483648<=n):=by
 rw[show BitVec.ofInt 32 (n:Int)=BitVec.ofNat 32 n from BitVec.ofInt_natCast ..];rw[BitVec.msb_eq_decide,BitVec.toNat_ofNat,jN (by simpa using h)]
def UV(b:BitVec 32):b.toNat/2147483648=if b.msb then 1 else 0:=by
 have:=b.isLt;rw[BitVec.msb_eq_decide];simp only[decide_eq_true_eq,Nat.reduceSub,Nat.reducePow] at*;split<;>omega
def Xv(b:BitVec 32):BitVec.ofInt 32 (b.toNat:Int)=b:=by rw[BitVec.ofInt_natCast,BitVec.ofNat_toNat,BitVec.setWidth_eq]
def VN(hx:x<4294967296)(hy:y<4294967296)(hc:c<=1):
  ((FR (CZ (Bj IntKind.u32.max x:Nat) y:Nat) (CZ (Bj IntKind.u32.max (Bj x y:Nat):Nat) (IntKind.u32.wrap (IntKind.u32.wrap ((x:Int)-y)-c)):Nat):Nat):Int).fdiv (2^min (31:Int).toNat IntKind.u32.bits)=(((if x<y+c then 1 else 0):Nat):Int):=by
 rw[show((2:Int)^min (31:Int).toNat IntKind.u32.bits)=((2147483648:Nat):Int) from J,kK _ (by decide),<-sQ];congr 1;have hd: ∃d:Nat,d<4294967296/\IntKind.u32.wrap (IntKind.u32.wrap ((x:Int)-y)-c)=(d:Int)/\((x>=y+c/\d=x-(y+c))\/(x<y+c/\d=x+4294967296-(y+c))):=by
  rw[s6,s6];refine⟨((((x:Int)-y)%4294967296-c)%4294967296).toNat,by omega,by omega,by omega⟩
 obtain⟨d,hd1,hd2,hd3⟩:=hd;rw[hd2];unfold FR CZ Bj;simp only[Xv];rw[UV];simp only[BitVec.msb_or,BitVec.msb_and,BitVec.msb_xor,Io x hx,Io y hy,Io d hd1];have h1:(BitVec.ofInt 32 IntKind.u32.max).msb=true:=by decide
 rw[h1];rcases jZ x 2147483648 with a|a<;>rcases jZ y 2147483648 with b|b<;>rcases jZ d 2147483648 with e|e<;>
  simp[Nat.not_le.2, *]<;>(first|omega|(split<;>omega))
def XA(hx:x<4294967296)(hy:y<4294967296)(hc:c<=1):IntKind.u32.wrap (IntKind.u32.wrap ((x:Int)-y)-c)=(((if x<y+c then x+4294967296-(y+c) else x-(y+c)):Nat):Int):=by
 rw[s6,s6];split<;>omega
def Vn(hx:x<4294967296)(hy:y<4294967296)(hc:c<=1):PF GB prog 205 [.v (.int .u32 (x:Int)), .v (.int .u32 (y:Int)), .v (.int .u32 (c:Int))] (.tp [.v (.int .u32 (((if x<y+c then x+4294967296-(y+c) else x-(y+c)):Nat):Int)), .v (.int .u32 (((if x<y+c then 1 else 0):Nat):Int))]):=by
 refine fn (fu:=⟨10⟩) func205 J J ntmps205 J J (fun C=>?_);refine sw (fu:=⟨1⟩) _ J (s6 _).symm J<|sw (fu:=⟨6⟩) _ J (s6 _).symm J<|nt (fu:=⟨4⟩) _ J J J<|xr (fu:=⟨0⟩) _ J J J<|nt _ J J J<|rz J (by have h1:=VN hx hy hc;unfold FR CZ Bj at h1;show DV.tp [.v (.int _ _), .v (.int _ _)]=_;rw[h1,XA hx hy hc])
def qe(hl:ds.length<=1125899906842624:=by omega):PF GB prog 128 [dk ds] (dk (trimD ds)):=by
 refine fn func128 J J ntmps128 J J (fun C=>?_);refine lp (X:=Nat) (fun n=>[(0, .d (dk ds)),(3, .d (vI (n:Nat)))]) (fun n=>[]) (fun n=>n<=ds.length/\trimD ds=trimD (ds.take n)) (fun n=>n) ds.length J ⟨bW _,by rw[dQ]⟩ (fun _=>J) (fun n hk=>?_);obtain⟨h1,h2⟩:=hk;refine cs 8 J J J (fun hg8=>?_) (fun hg8=>?_)
 .
  refine ix _ J (cv (k:=n-1)) J<|br J J J (fun hc15=>?_) (fun hc15=>?_)
  .
   have hz:ds.getD (n-1) 0=0:=by omega
   exact at_ (n-1) ⟨⟨by omega,by rw[h2,MH (by omega) hz]⟩,(by omega)⟩
  .
   refine km 0 n _ J J J J (ra _) (by omega) (by simp;omega) J<|rz J (by have:=MF h1 (fun _ h=>hc15 (by omega));rw[<-h2] at this;show DV.sl _=_;simp[dk,this])
 .
  refine km 0 n _ J J J J (ra _) (by omega) (by simp;omega) rfl<|rz rfl (by obtain rfl:n=0:=(by omega);show DV.sl _=_;simp[dk,h2,trimD])
def ud(h:a<2^k)(hk:k<=1000000000):(dg a).length<=100000000:=by have:=kt h;omega
def c8(a:Nat):dv (dg a)=a:=(fE a).1
def f9(a:Nat):bB (dg a):=(fE a).2.1
def bI(ds:List Nat):(ds.map dU).length=ds.length:=aX ..
def kp(h:ds.length<=n:=by omega):ds.take n=ds:=cZ h
def pG(h:ds.length<=i:=by omega):ds.getD i 0=0:=by
 rw[aW,eJ h];rfl
def k8(h:bB ds)(e:dv ds=n):dk (trimD ds)=dN n:=by rw[UZ h,e]
def Au(h:a<b):iB a b= -1:=by unfold iB;rw[if_pos h]
def Ab(h:b<a):iB a b=1:=by unfold iB;rw[if_neg (by omega),if_neg (by omega)]
def Fb(h:a=b):iB a b=0:=by unfold iB;rw[if_neg (by omega),if_pos h]
def Yz(m n:Nat):Int.sign ((m:Int)-n)=iB m n:=by
 unfold iB;split
 .exact dS (by omega)
 .split
  .rw[show(m:Int)-n=0 by omega];rfl
  .exact fY (by omega)
def Js(h:(dg a).length≠(dg b).length:=by omega):iB (dg a).length (dg b).length=iB a b:=by
 rcases Nat.lt_or_gt_of_ne h with h|h
 .have:=xv (f9 a) (fE b).2.2 h
  rw[c8,c8] at this;rw[Au h,Au this]
 .have:=xv (f9 b) (fE a).2.2 h
  rw[c8,c8] at this;rw[Ab h,Ab this]
def zc(hl:(dg a).length=(dg b).length)(hi:i<(dg a).length)(hs:(dg a).drop (i+1)=(dg b).drop (i+1)):
  ((dg a).getD i 0<(dg b).getD i 0->a<b)/\((dg b).getD i 0<(dg a).getD i 0->b<a)/\((dg a).getD i 0=(dg b).getD i 0->(dg a).drop i=(dg b).drop i):=by
 refine⟨fun h=>?_,fun h=>?_,fun h=>?_⟩
 .have:=Ka (f9 a) (f9 b) i hi (by omega) hl hs h
  rwa [c8,c8] at this
 .have:=Ka (f9 b) (f9 a) i (by omega) hi hl.symm hs.symm h
  rwa [c8,c8] at this
 .rw[bK hi,bK (by omega:i<(dg b).length),hs]
  rw[aW,aW,aZ hi,aZ (by omega:i<(dg b).length)] at h;simp only[lJ] at h;rw[h]
def Uf{z:Int}:PF GB prog 204 [vI z] (vI z.sign):=by
 refine fn func204 J J ntmps204 J J (fun C=>?_);refine br J J J (fun hc4=>?_) (fun hc4=>?_)
 .
  exact rz J (by show DV.v (.int _ 1)=DV.v (.int _ _);rw[fY (by omega)])
 .
  refine br J J J (fun hc6=>?_) (fun hc6=>?_)
  .
   exact rz J (by show DV.v (.int _ (-1))=DV.v (.int _ _);rw[dS (by omega)])
  .
   exact rz J (by show DV.v (.int _ 0)=DV.v (.int _ _);rw[show z=0 by omega];rfl)
def Rk(u:Nat):dv [u%4294967296,u/4294967296]=u:=by simp only[dv];omega
def Kx(h:u<18446744073709551616):bB [u%4294967296,u/4294967296]:= .cons (by omega) (.cons (by omega) .nil)
def oy(u:Nat):(u:Int).fdiv (2^min (32:Int).toNat IntKind.u64.bits)=((u/4294967296:Nat):Int):=by
 rw[show(2:Int)^min (32:Int).toNat IntKind.u64.bits=((4294967296:Nat):Int) from J,kK _ (by decide)];rfl
def uG(hu:u<18446744073709551616:=by omega):PF GB prog 127 [.v (.int .u64 (u:Int))] (dN u):=by
 refine fn (fu:=⟨11⟩) (hv:=by simp only[ak];exact(by decide)) func127 J J ntmps127 J J (fun C=>?_);refine aj 6 (.d (.v (.int .u64 (u/4294967296:Nat)))) J (by rw[oy])<|gx J<|rf (fu:=⟨0⟩) J J<|aj 8 (.d (dk [u%4294967296,u/4294967296])) J (by show FX.d (.sl [.v (.int _ _), .v (.int _ _)])= .d (.sl [.v (.int _ _), .v (.int _ _)]);congr 6;omega)<|gx J<|cl J (qe (ds:=[u%4294967296,u/4294967296]) (by simp)) J<|rz J (k8 (Kx hu) (Rk u))
def Ce:PF GB prog 125 [] (dN 1):=by
 refine fn func125 J J ntmps125 J J (fun C=>?_);refine rf J J<|rz J (by unfold dN;rw[At];rfl)
def x7(ha:(dg a).length<=100000000:=by omega)(hb:(dg b).length<=100000000:=by omega):PF GB prog 122 [dN a,dN b] (vI (iB a b)):=by
 have hla:=bI (dg a);have hlb:=bI (dg b);refine fn func122 J J ntmps122 J J (fun C=>?_);refine br J J J (fun hc10=>?_) (fun hc10=>?_)
 .
  refine cl J Uf J<|rz J (by show DV.v (.int _ _)=DV.v (.int _ _);rw[hla,hlb,Yz,Js])
 .
  have hl:(dg a).length=(dg b).length:=by omega
  refine lp (X:=Nat) (fun k=>[(0, .d (dN a)),(1, .d (dN b)),(5, .d (vI ((k:Nat)-1)))]) (fun k=>[]) (fun k=>k<=(dg a).length/\(dg a).drop k=(dg b).drop k) (fun k=>k) (dg a).length J ⟨bW _,by rw[gV,hl,gV]⟩ (fun _=>J) (fun k hk=>?_);obtain⟨h1,h2⟩:=hk;refine br J J J (fun hc21=>?_) (fun hc21=>?_)
  .
   obtain⟨k,rfl⟩: ∃m,k=m+1:=⟨k-1,by omega⟩;refine ix _ J (cv (k:=k)) J<|ix _ J (cv (k:=k)) J<|br J J J (fun hc32=>?_) (fun hc32=>?_)
   .
    exact rz J (by show DV.v (.int _ 1)=DV.v (.int _ _);rw[Ab ((zc hl (by omega) h2).2.1 (by omega))])
   .
    refine ix _ J (cv (k:=k)) J<|ix _ J (cv (k:=k)) J<|br J J J (fun hc41=>?_) (fun hc41=>?_)
    .
     exact rz J (by show DV.v (.int _ (-1))=DV.v (.int _ _);rw[Au ((zc hl (by omega) h2).1 (by omega))])
    .
     exact at_ k ⟨⟨by omega,(zc (i:=k) hl (by omega) h2).2.2 (by omega)⟩,(by omega)⟩
  .
   exact rz rfl (by show DV.v (.int _ 0)=DV.v (.int _ _);rw[Fb];obtain rfl:k=0:=(by omega);rw[iQ,iQ] at h2;rw[<-c8 a,h2,c8])
def Q8(hi:i<W.length)(h:dv (W.take i)+4294967296^i*c=dv (A.take i)+dv (B.take i)):
  dv ((W.set i ((A.getD i 0+B.getD i 0+c)%4294967296)).take (i+1))+4294967296^(i+1)*((A.getD i 0+B.getD i 0+c)/4294967296)=dv (A.take (i+1))+dv (B.take (i+1)):=by
 rw[u6 hi,nH A,nH B,gR,show A.getD i 0+B.getD i 0+c=c+A.getD i 0+B.getD i 0 by omega];exact WH h
def QG(hn:n=max (dg a).length (dg b).length)(hl:W.length=n+1)(h:dv (W.take n)+4294967296^n*c=dv ((dg a).take n)+dv ((dg b).take n)):dv (W.set n c)=a+b:=by
 have e:=u6 (ws:=W) (k:=n) (d:=c);rw[kp (by rw[aN];omega)] at e;rw[e,h,kp,kp,c8,c8]
def UC[ha:BN a ia][hb:BN b ib](hi:ia<=1000000000:=by decide)(hj:ib<=1000000000:=by decide):PF GB prog 121 [dN a,dN b] (dN (a+b)):=by
 have hla:=bI (dg a);have hlb:=bI (dg b);have hba:=ud ha.h hi;have hbb:=ud hb.h hj;refine fn (fu:=⟨12⟩) func121 J J ntmps121 J J (fun C=>?_);obtain⟨n,hn⟩: ∃n,n=max (dg a).length (dg b).length:=⟨_,rfl⟩;refine aj 15 (.d (vI (n:Nat))) J (by show FX.d (.v (.int _ _))= .d (.v (.int _ _));congr 3;split<;>omega)<|gx J<|mk ((List.replicate (n+1) 0).map dU) J J (by rw[<-mH];rfl) J<|lp (X:=List Nat×Nat×Nat) (fun⟨W,c,i⟩=>[(0, .d (dN a)),(1, .d (dN b)),(5, .d (vI (n:Nat))),(6, .rw 18),(7, .d (.v (.int .u32 (c:Nat)))),(8, .d (vI (i:Nat)))]) (fun⟨W,c,i⟩=>[(18,some (.b 225 1 (W.map dU) true))]) (fun⟨W,c,i⟩=>W.length=n+1/\bB W/\c<=1/\i<=n/\dv (W.take i)+4294967296^i*c=dv ((dg a).take i)+dv ((dg b).take i)) (fun⟨W,c,i⟩=>n-i) ⟨List.replicate (n+1) 0,0,0⟩ J ⟨by simp, .replicate _,by omega,by omega,by simp[dv]⟩ (fun _=>J) (fun⟨W,c,i⟩ hk=>?_);dsimp only at hk⊢;obtain⟨h1,h2,h3,h4,h5⟩:=hk;have hlw:=bI W;have hda:=dt a i;have hdb:=dt b i;refine br (fu1:=⟨11⟩) J J J (fun hc21=>?_) (fun hc21=>?_)
 .
  refine mg (fu:=⟨1⟩) (X:=Unit) (fun _=>[(0, .d (dN a)),(1, .d (dN b)),(5, .d (vI (n:Nat))),(6, .rw 18),(7, .d (.v (.int .u32 (c:Nat)))),(8, .d (vI (i:Nat))),(9, .d (dU ((dg a).getD i 0))),(10, .d (.v (.int .u32 0)))]) (fun _=>[(18,some (.b 225 1 (W.map dU) true))]) (fun _=>True) [0,1,5,6,7,8,9,10] [18] rfl ?_ (fun _=>J) (fun _ hm=>?_)
  .
   refine gx J<|br J J J (fun hc27=>?_) (fun hc27=>?_)
   .
    refine ix _ J (eo) J<|at_ () trivial
   .
    refine aj 9 (.d (dU ((dg a).getD i 0))) J (by rw[pG];rfl)<|at_ () trivial
  .
   refine mg (X:=Unit) (fun _=>[(0, .d (dN a)),(1, .d (dN b)),(5, .d (vI (n:Nat))),(6, .rw 18),(7, .d (.v (.int .u32 (c:Nat)))),(8, .d (vI (i:Nat))),(9, .d (dU ((dg a).getD i 0))),(10, .d (dU ((dg b).getD i 0)))]) (fun _=>[(18,some (.b 225 1 (W.map dU) true))]) (fun _=>True) [0,1,5,6,7,8,9,10] [18] rfl ?_ (fun _=>J) (fun _ hm=>?_)
   .
    refine gx J<|br J J J (fun hc35=>?_) (fun hc35=>?_)
    .
     refine ix _ J (eo) J<|at_ () trivial
    .
     refine aj 10 (.d (dU ((dg b).getD i 0))) J (by rw[pG];rfl)<|at_ () trivial
   .
    refine cl J (aBi (by omega) (by omega) (by omega)) J<|sb _ ((W.set i (((dg a).getD i 0+(dg b).getD i 0+c)%4294967296)).map dU) J (eo) J (by rw[<-je];rfl) J<|at_ ⟨W.set i (((dg a).getD i 0+(dg b).getD i 0+c)%4294967296),((dg a).getD i 0+(dg b).getD i 0+c)/4294967296,i+1⟩ (by dsimp only;exact⟨⟨by simpa using h1,h2.set _ (by omega),by omega,by omega,Q8 (by omega) h5⟩,(by omega)⟩)
 .
  obtain rfl:i=n:=by omega
  refine sb _ ((W.set i c).map dU) J (eo) J (by rw[<-je];rfl) J<|fz 18 J J<|cl J (qe (ds:=W.set i c) (by simp;omega)) J<|rz J (k8 (h2.set _ (by omega)) (QG hn h1 h5))
def MS(hA:bB A)(hB:bB B)(hi:i<W.length)(hc:c<=1)(h:dv (W.take i)+dv (B.take i)=dv (A.take i)+4294967296^i*c)
  (hd:d=if A.getD i 0<B.getD i 0+c then A.getD i 0+4294967296-(B.getD i 0+c) else A.getD i 0-(B.getD i 0+c))(hc2:c2=if A.getD i 0<B.getD i 0+c then 1 else 0):
  dv ((W.set i d).take (i+1))+dv (B.take (i+1))=dv (A.take (i+1))+4294967296^(i+1)*c2:=by
 have h1:=hA.get i;have h2:=hB.get i;rw[u6 hi,nH A,nH B,gR];split at hd
 .rename_i q
  rw[if_pos q] at hc2;subst hc2 hd;rw[kU (B.getD i 0) c];exact aAo h (by omega) (by omega)
 .rename_i q
  rw[if_neg q] at hc2;subst hc2 hd;rw[kU (B.getD i 0) c];exact Wu h (by omega)
def P3(hw:bB W)(hl:W.length=(dg a).length)(hb:b<=a)(h:dv (W.take (dg a).length)+dv ((dg b).take (dg a).length)=dv ((dg a).take (dg a).length)+4294967296^(dg a).length*c):dv W=a-b:=by
 have hlb:(dg b).length<=(dg a).length:=by
  rcases jZ (dg a).length (dg b).length with q|q
  .have:=xv (f9 a) (fE b).2.2 q
   rw[c8,c8] at this;omega
  .exact q
 rw[kp,kp hlb,kp (bW _),c8,c8] at h;have h2:=l8 hw;rw[hl] at h2;rcases fU c with q|q
 .subst q;omega
 .have:4294967296^(dg a).length*1<=4294967296^(dg a).length*c:=fR _ q
  omega
def In[ha:BN a ia](hb:b<=a)(hi:ia<=1000000000:=by decide):PF GB prog 123 [dN a,dN b] (dN (a-b)):=by
 have hla:=bI (dg a);have hlb:=bI (dg b);have hba:=ud ha.h hi;refine fn (fu:=⟨9⟩) func123 J J ntmps123 J J (fun C=>?_);refine aj 10 (.d (vI ((dg a).length:Nat))) J (by rw[hla];rfl)<|gx J<|mk (fu:=⟨13⟩) ((List.replicate (dg a).length 0).map dU) J J (by rw[<-mH];rfl) J<|aj 13 (.d (vI ((dg a).length:Nat))) J (by rw[hla];rfl)<|gx J<|lp (X:=List Nat×Nat×Nat) (fun⟨W,c,i⟩=>[(0, .d (dN a)),(1, .d (dN b)),(5, .rw 11),(6, .d (.v (.int .u32 (c:Nat)))),(13, .d (vI ((dg a).length:Nat))),(14, .d (vI (i:Nat)))]) (fun⟨W,c,i⟩=>[(11,some (.b 225 1 (W.map dU) true))]) (fun⟨W,c,i⟩=>W.length=(dg a).length/\bB W/\c<=1/\i<=(dg a).length/\dv (W.take i)+dv ((dg b).take i)=dv ((dg a).take i)+4294967296^i*c) (fun⟨W,c,i⟩=>(dg a).length-i) ⟨List.replicate (dg a).length 0,0,0⟩ J ⟨by simp, .replicate _,by omega,by omega,by simp[dv]⟩ (fun _=>J) (fun⟨W,c,i⟩ hk=>?_);dsimp only at hk⊢;obtain⟨h1,h2,h3,h4,h5⟩:=hk;have hlw:=bI W;have hda:=dt a i;have hdb:=dt b i;refine br (fu1:=⟨16⟩) J J J (fun hc15=>?_) (fun hc15=>?_)
 .
  refine mg (X:=Unit) (fun _=>[(0, .d (dN a)),(1, .d (dN b)),(5, .rw 11),(6, .d (.v (.int .u32 (c:Nat)))),(13, .d (vI ((dg a).length:Nat))),(14, .d (vI (i:Nat))),(7, .d (vI (i:Nat))),(8, .d (dU ((dg b).getD i 0)))]) (fun _=>[(11,some (.b 225 1 (W.map dU) true))]) (fun _=>True) [0,1,5,6,13,14,7,8] [11] rfl ?_ (fun _=>J) (fun _ hm=>?_)
  .
   refine gx J<|br J J J (fun hc20=>?_) (fun hc20=>?_)
   .
    refine ix _ J (eo) J<|at_ () trivial
   .
    refine aj 8 (.d (dU ((dg b).getD i 0))) J (by rw[pG];rfl)<|at_ () trivial
  .
   refine ix _ J (eo) J<|cl J (Vn (by omega) (by omega) (by omega)) J<|sb _ ((W.set i (if(dg a).getD i 0<(dg b).getD i 0+c then(dg a).getD i 0+4294967296-((dg b).getD i 0+c) else(dg a).getD i 0-((dg b).getD i 0+c))).map dU) J (eo) J (by rw[<-je];rfl) J<|at_ ⟨W.set i (if(dg a).getD i 0<(dg b).getD i 0+c then(dg a).getD i 0+4294967296-((dg b).getD i 0+c) else(dg a).getD i 0-((dg b).getD i 0+c)),(if(dg a).getD i 0<(dg b).getD i 0+c then 1 else 0),i+1⟩ (by dsimp only;exact⟨⟨by simpa using h1,h2.set _ (by split<;>omega),by split<;>omega,by omega,MS (f9 a) (f9 b) (by omega) h3 h5 J J⟩,(by omega)⟩)
 .
  obtain rfl:i=(dg a).length:=by omega
  refine fz 11 J J<|cl J (qe (ds:=W)) J<|rz J (k8 h2 (P3 h2 h1 hb h5))
def pB(n:Nat)(a b k:Nat)(ha:a<2^k)(h:a+b*2^k<2^n):(BitVec.ofInt n (a:Int) ||| BitVec.ofInt n ((b*2^k:Nat):Int)).toNat=a+b*2^k:=by
 rw[BitVec.toNat_or,BitVec.ofInt_natCast,BitVec.ofInt_natCast,BitVec.toNat_ofNat,BitVec.toNat_ofNat,jN (by omega),jN (by omega)];rw[<-Nat.shiftLeft_eq,Nat.or_comm,<-Nat.shiftLeft_add_eq_or_of_lt ha,Nat.shiftLeft_eq];omega
def CE(hx:x<4294967296)(hy:y<4294967296):x*y<=18446744065119617025:=by
 have:=fJ (by omega:x<=4294967295) (by omega:y<=4294967295);exact this
def AB(x y:Nat):(0:Int)<=(x:Int)*(y:Int):=by rw[<-iU];omega
def zy(hx:x<4294967296)(hy:y<4294967296):(x:Int)*(y:Int)<=18446744073709551615:=by
 have:=CE hx hy;rw[<-iU];omega
def Wy(h:ds.length=1):dv ds=ds.getD 0 0:=by
 match ds,h with
 |[d],_=>simp[dv]
def uS(h:(dg a).length=1:=by omega):(dg a).getD 0 0=a:=by rw[<-Wy h,c8]
def YY(h:j<m):(ds.take m).getD j 0=ds.getD j 0:=by
 rw[aW,aW,oR,if_pos h]
def Nv(hj:j<m)(hm:m<=W.length):dv ((W.set j d).take m)+4294967296^j*W.getD j 0=dv (W.take m)+4294967296^j*d:=by
 rw[List.take_set,<-YY (ds:=W) hj];exact vz _ _ _ (by rw[bL];omega)
def MO{W:List Nat}{P X Y m i k c y t S:Nat}(hk:i+k<m)(hm:m<=W.length)(h:dv (W.take m)+4294967296^(i+k)*c=P+X*(4294967296^i*S))(ht:t=Y+W.getD (i+k) 0+c)(hY:Y=X*y):
  dv ((W.set (i+k) (t%4294967296)).take m)+4294967296^(i+(k+1))*(t/4294967296)=P+X*(4294967296^i*(S+4294967296^k*y)):=by
 have h1:=Nv (W:=W) (d:=t%4294967296) hk hm;rw[ht,show Y+W.getD (i+k) 0+c=c+Y+W.getD (i+k) 0 by omega] at h1⊢;have h2:=XK h1 h;rw[<-kN,gR,h2,hY,fX];simp only[fQ,cV,mV,cJ,kN]
def NY{a b:Nat}{W:List Nat}{i c lb:Nat}(hlb:lb=(dg b).length)(hl:i+lb<W.length)(h:dv (W.take (i+lb))+4294967296^(i+lb)*c=dv ((dg a).take i)*b+(dg a).getD i 0*(4294967296^i*dv ((dg b).take lb))):
  dv ((W.set (i+lb) c).take (i+1+lb))=dv ((dg a).take (i+1))*b:=by
 rw[show i+1+lb=i+lb+1 by omega,u6 hl,h,nH,kp (ds:=dg b),c8 b,dV];simp only[cV,mV,cJ]
def DL(n j:Nat):(List.replicate n 0).getD j 0=0:=by
 rw[aW,List.getElem?_replicate];split<;>rfl
def zz(h:k<=1000000000):IntKind.i64.wrap ((k:Int).tdiv 32)=((k/32:Nat):Int):=by
 rw[show(k:Int).tdiv 32=((k/32:Nat):Int) from J,JV];omega
def LU(k:Nat):(k:Int).tmod 32=((k%32:Nat):Int):=rfl
def qg[ha:BN a ia][hb:BN b ib](hi:ia<=1000000000:=by decide)(hj:ib<=1000000000:=by decide):PF GB prog 58 [dN a,dN b] (dN (a*b)):=by
 have hla:=bI (dg a);have hlb:=bI (dg b);have hba:=ud ha.h hi;have hbb:=ud hb.h hj;refine fn (fu:=⟨6⟩) func58 J J ntmps58 J J (fun C=>?_);refine mg (fu:=⟨4⟩) (X:=Unit) (fun _=>[(0, .d (dN a)),(1, .d (dN b))]) (fun _=>[]) (fun _=>True) [0,1] [] rfl ?_ (fun _=>J) (fun _ hm=>?_)
 .
  refine gx J<|cs 15 J J J (fun hg15=>?_) (fun hg15=>?_)
  .
   refine br J J J (fun hc19=>?_) (fun hc19=>?_)
   .
    have hd0:=dt a 0;have hd1:=dt b 0;refine ix _ J (cv (k:=0) J (by omega)) J<|ix (hv:=by simp only[ak];exact⟨by omega,⟨(AB _ _),(zy (dt _ _) (dt _ _))⟩⟩) _ J (cv (k:=0) J (by omega)) J<|cl J (uG (u:=(dg a).getD 0 0*(dg b).getD 0 0) (by have:=CE (dt a 0) (dt b 0);omega)) J<|rz J (by rw[uS,uS];rfl)
   .
    exact at_ () trivial
  .
   exact at_ () trivial
 .
  refine aj 31 (.d (vI ((dg a).length:Nat))) J (by rw[hla];rfl)<|gx (fu:=⟨2⟩) J<|aj 33 (.d (vI ((dg b).length:Nat))) J (by rw[hlb];rfl)<|gx J<|mk (fu:=⟨8⟩) ((List.replicate ((dg a).length+(dg b).length) 0).map dU) J J (by rw[<-mH];rfl) J<|aj 37 (.d (vI ((dg a).length:Nat))) J (by rw[hla];rfl)<|gx J<|lp (X:=List Nat×Nat) (fun⟨W,i⟩=>[(0, .d (dN a)),(1, .d (dN b)),(5, .rw 35),(36, .d (dN a)),(37, .d (vI ((dg a).length:Nat))),(38, .d (vI (i:Nat)))]) (fun⟨W,i⟩=>[(35,some (.b 225 1 (W.map dU) true))]) (fun⟨W,i⟩=>W.length=(dg a).length+(dg b).length/\bB W/\i<=(dg a).length/\dv (W.take (i+(dg b).length))=dv ((dg a).take i)*b) (fun⟨W,i⟩=>(dg a).length-i) ⟨List.replicate ((dg a).length+(dg b).length) 0,0⟩ J ⟨by simp, .replicate _,by omega,by rw[qQ,w6];simp[dv]⟩ (fun _=>J) (fun⟨W,i⟩ hk=>?_);dsimp only at hk⊢;obtain⟨h1,h2,h3,h4⟩:=hk;refine br J J J (fun hc39=>?_) (fun hc39=>?_)
  .
   refine ix (fu:=⟨15⟩) _ J (eo) J<|aj 44 (.d (vI ((dg b).length:Nat))) J (by rw[hlb];rfl)<|gx J<|lp (X:=List Nat×Nat×Nat) (fun⟨W2,c,k⟩=>[(0, .d (dN a)),(1, .d (dN b)),(5, .rw 35),(6, .d (vI (i:Nat))),(7, .d (dU ((dg a).getD i 0))),(8, .d (.v (.int .u64 (c:Nat)))),(36, .d (dN a)),(37, .d (vI ((dg a).length:Nat))),(38, .d (vI (i:Nat))),(43, .d (dN b)),(44, .d (vI ((dg b).length:Nat))),(45, .d (vI (k:Nat)))]) (fun⟨W2,c,k⟩=>[(35,some (.b 225 1 (W2.map dU) true))]) (fun⟨W2,c,k⟩=>W2.length=(dg a).length+(dg b).length/\bB W2/\c<4294967296/\k<=(dg b).length/\dv (W2.take (i+(dg b).length))+4294967296^(i+k)*c=dv ((dg a).take i)*b+(dg a).getD i 0*(4294967296^i*dv ((dg b).take k))) (fun⟨W2,c,k⟩=>(dg b).length-k) ⟨W,0,0⟩ J ⟨h1,h2,by omega,by omega,by rw[h4];simp[dv]⟩ (fun _=>J) (fun⟨W2,c,k⟩ hk=>?_);dsimp only at hk⊢;obtain⟨g1,g2,g3,g4,g5⟩:=hk;have hlw:=bI W2;have hw:=g2.get (i+k);have hda:=dt a i;have hdb:=dt b k;refine br (fu2:=⟨10⟩) J J J (fun hc46=>?_) (fun hc46=>?_)
   .
    refine ix (fu:=⟨12⟩) (hv:=by simp only[ak];exact⟨⟨by omega,by omega⟩,⟨(AB _ _),(zy (dt _ _) (dt _ _))⟩⟩) _ J (eo) J<|?_;obtain⟨p,hp⟩: ∃p,p=(dg a).getD i 0*(dg b).getD k 0:=⟨_,rfl⟩;have hp1:p<=18446744065119617025:=hp▸CE hda hdb;refine aj 54 (.d (.v (.int .u64 (p:Nat)))) J (by rw[hp,iU])<|gx J<|lb (fu:=⟨4⟩) _ J (cv (k:=i+k)) J<|?_;obtain⟨t,ht⟩: ∃t,t=p+W2.getD (i+k) 0+c:=⟨_,rfl⟩;refine aj 64 (.d (.v (.int .u64 (t:Nat)))) J (by congr 3;omega)<|gx (fu:=⟨11⟩) J<|aj 70 (.d (dU (t%4294967296))) J (by show FX.d (.v (.int _ _))= .d (.v (.int _ _));congr 3)<|gx J<|sb (fu:=⟨5⟩) (hv:=by simp only[ak];exact(by decide)) _ ((W2.set (i+k) (t%4294967296)).map dU) J (cv (k:=i+k)) J (by(rw[show((i:Int)+k).toNat=i+k by omega,<-je])<;>rfl) J<|aj 73 (.d (.v (.int .u64 (t/4294967296:Nat)))) J (by rw[oy])<|gx J<|at_ ⟨W2.set (i+k) (t%4294967296),t/4294967296,k+1⟩ (by dsimp only;exact⟨⟨by simpa using g1,g2.set _ (by omega),by omega,by omega,by rw[nH];exact MO (by omega) (by omega) g5 ht hp⟩,(by omega)⟩)
   .
    obtain rfl:k=(dg b).length:=by omega
    refine aj 78 (.d (vI ((dg b).length:Nat))) J (by rw[hlb];rfl)<|gx (fu:=⟨3⟩) J<|aj 81 (.d (dU c)) J (by show FX.d (.v (.int _ _))= .d (.v (.int _ _));congr 3;omega)<|gx J<|sb _ ((W2.set (i+(dg b).length) c).map dU) J (cv (k:=i+(dg b).length)) J (by(rw[show((i:Int)+((dg b).length:Nat)).toNat=i+(dg b).length by omega,<-je])<;>rfl) J<|at_ ⟨W2.set (i+(dg b).length) c,i+1⟩ (by dsimp only;exact⟨⟨by simpa using g1,g2.set _ g3,by omega,NY J (by omega) g5⟩,(by omega)⟩)
  .
   obtain rfl:i=(dg a).length:=by omega
   refine fz 35 J J<|cl J (qe (ds:=W)) J<|rz J (k8 h2 (by have:=h4;rw[kp,kp,c8] at this;exact this))
def II(x s:Nat):x*2^s=x*2^s%4294967296+4294967296*(x*2^s/4294967296):=by omega
def QE(hx:x<4294967296)(hs:s<32):x*2^s/4294967296<2^s:=by
 rw[kZ (by decide),cJ (2^s)];exact nQ hx (bW _) (fN (by decide))
def Gu(hs:s<32):2^s*2^(32-s)=4294967296:=by rw[<-fX,show s+(32-s)=32 by omega]
def VB(x s:Nat)(hs:s<32):x*2^s%4294967296=x%2^(32-s)*2^s:=by
 rw[<-Gu hs,cJ (2^s),Nat.mul_mod_mul_right]
def NG(hx:x<4294967296)(hs:s<32):x*2^s<18446744073709551616:=by
 have h1:2^s<=2^31:=bR (by decide) (by omega);have:=nQ hx h1 (by decide);omega
def M5(hw:w<2^s)(hs:s<32):(BitVec.ofInt 32 (w:Int) ||| BitVec.ofInt 32 ((x*2^s%4294967296:Nat):Int)).toNat=w+x*2^s%4294967296:=by
 rw[VB x s hs];refine pB 32 _ _ _ hw ?_;have h1:x%2^(32-s)+1<=2^(32-s):=dK _ (fN (by decide));have h2:=bT (2^s) h1;rw[cJ (2^(32-s)),Gu hs,dV,mR] at h2;show _<4294967296;omega
def T2(hh:h<4294967296):(BitVec.ofInt 32 ((0:Nat):Int) ||| BitVec.ofInt 32 (h:Int)).toNat=h:=by
 have:=pB 32 0 h 0 (by decide) (by simpa using hh);simpa using this
def Iv(k:Nat):2^k=4294967296^(k/32)*2^(k%32):=by
 rw[show(4294967296:Nat)=2^32 from J,<-tK,<-fX,qT]
def getD_set_ne(h:i≠j:=by omega):(W.set i d).getD j 0=W.getD j 0:=by
 rw[aW,aW,List.getElem?_set_ne h]
def A4(h:i<W.length):(W.set i d).getD i 0=d:=by
 rw[aW,rR h];rfl
def Og{A W:List Nat}{k q s i x:Nat}(hq:q=k/32)(hs:s=k%32)(hl:q+i+1<W.length)(hx:x=A.getD i 0)
  (h:dv (W.take (q+i+1))=dv (A.take i)*2^k):
  dv (((W.set (q+i) (W.getD (q+i) 0+x*2^s%4294967296)).set (q+i+1) (x*2^s/4294967296)).take (q+(i+1)+1))=dv (A.take (i+1))*2^k:=by
 have e1:=Nv (W:=W) (j:=q+i) (m:=q+i+1) (d:=W.getD (q+i) 0+x*2^s%4294967296) (by omega) (by omega);rw[show q+(i+1)+1=q+i+1+1 by omega,u6 (by rw[aN];omega),nH A,<-hx];have e2:dv ((W.set (q+i) (W.getD (q+i) 0+x*2^s%4294967296)).take (q+i+1))=dv (A.take i)*2^k+4294967296^(q+i)*(x*2^s%4294967296):=by
  rw[fQ,h] at e1;omega
 rw[e2,gR,cV,kN,<-fQ,<-II,dV,Iv k,<-hq,<-hs,fX];simp only[cV,mV,cJ]
def Cq[ha:BN a ia](hk:k<=1000000000)(hi:ia<=1000000000:=by decide):PF GB prog 262 [dN a,vI (k:Nat)] (dN (a*2^k)):=by
 have hla:=bI (dg a);have hba:=ud ha.h hi;refine fn (fu:=⟨9⟩) func262 J J ntmps262 J J (fun C=>?_);refine aj 11 (.d (vI (k/32:Nat))) J (by show FX.d (.v (.int _ _))= .d (.v (.int _ _));rw[zz hk])<|gx (fu:=⟨2⟩) J<|aj 13 (.d (vI ((dg a).length:Nat))) J (by rw[hla];rfl)<|gx (fu:=⟨2⟩) J<|aj 15 (.d (vI (k/32+(dg a).length+1:Nat))) J (by show FX.d (.v (.int _ _))= .d (.v (.int _ _));congr 3)<|gx J<|mk (fu:=⟨7⟩) (hv:=by simp only[ak];exact(by decide)) ((List.replicate (k/32+(dg a).length+1) 0).map dU) J J (by rw[<-mH];rfl) J<|aj 18 (.d (vI (k%32:Nat))) J (by show FX.d (.v (.int _ _))= .d (.v (.int _ _));rw[LU])<|gx (fu:=⟨9⟩) J<|aj 21 (.d (vI ((dg a).length:Nat))) J (by rw[hla];rfl)<|gx J<|lp (X:=List Nat×Nat) (fun⟨W,i⟩=>[(0, .d (dN a)),(1, .d (vI (k:Nat))),(5, .rw 16),(6, .d (.v (.int .u64 (k%32:Nat)))),(20, .d (dN a)),(21, .d (vI ((dg a).length:Nat))),(22, .d (vI (i:Nat)))]) (fun⟨W,i⟩=>[(16,some (.b 225 1 (W.map dU) true))]) (fun⟨W,i⟩=>W.length=k/32+(dg a).length+1/\bB W/\i<=(dg a).length/\dv (W.take (k/32+i+1))=dv ((dg a).take i)*2^k/\W.getD (k/32+i) 0<2^(k%32)/\ ∀j,k/32+i<j->W.getD j 0=0) (fun⟨W,i⟩=>(dg a).length-i) ⟨List.replicate (k/32+(dg a).length+1) 0,0⟩ J ⟨by simp, .replicate _,by omega,by rw[qQ,w6];simp[dv],by rw[DL];exact fN (by decide),fun j _=>DL _ _⟩ (fun _=>J) (fun⟨W,i⟩ hk=>?_);dsimp only at hk⊢;obtain⟨h1,h2,h3,h4,h5,h6⟩:=hk;have hlw:=bI W;have hda:=dt a i;have hsk:k%32<32:=dK _ (by decide);have hpp:2^(k%32)<=2^31:=bR (by decide) (by omega);refine br J J J (fun hc23=>?_) (fun hc23=>?_)
 .
  refine ix (fu:=⟨11⟩) (hv:=by simp only[ak];exact⟨by omega,(by omega)⟩) _ J (eo) J<|?_;have hhi:=QE hda hsk;have hfit0:=NG hda hsk;have hor:=M5 (x:=(dg a).getD i 0) h5 hsk;have hfit:W.getD (k/32+i) 0+(dg a).getD i 0*2^(k%32)%4294967296<4294967296:=by rw[<-hor];exact BitVec.isLt _
  have hlp:=II ((dg a).getD i 0) (k%32);refine aj 30 (.d (.v (.int .u64 ((dg a).getD i 0*2^(k%32):Nat)))) J (by show FX.d (.v (.int _ _))= .d (.v (.int _ _));rw[pq _ (k%32) (by omega) hfit0]) ?_;obtain⟨t,ht⟩: ∃t,t=(dg a).getD i 0*2^(k%32):=⟨_,rfl⟩;simp only[<-ht] at hhi hfit0 hor hfit hlp;rw[<-ht];refine gx (fu:=⟨8⟩) J<|aj 33 (.d (vI (k/32:Nat))) J (by show FX.d (.v (.int _ _))= .d (.v (.int _ _));rw[zz hk])<|gx J<|lb (fu:=⟨2⟩) _ J (cv (k:=k/32+i)) J<|aj 39 (.d (dU (t%4294967296))) J (by show FX.d (.v (.int _ _))= .d (.v (.int _ _));congr 3)<|gx (fu:=⟨1⟩) J<|aj 40 _ J (congrArg (fun z:Nat=>FX.d (.v (.int .u32 (z:Int)))) hor)<|gx J<|sb (fu:=⟨6⟩) _ ((W.set (k/32+i) (W.getD (k/32+i) 0+t%4294967296)).map dU) J (cv (k:=k/32+i)) J (by(rw[show(((k/32:Nat):Int)+i).toNat=k/32+i by omega];simp only[jR];rfl)<;>rfl) J<|aj 44 (.d (vI (k/32:Nat))) J (by show FX.d (.v (.int _ _))= .d (.v (.int _ _));rw[zz hk])<|gx J<|lb (fu:=⟨0⟩) _ J (cv (k:=k/32+i+1) (by omega) (by rw[aN];omega)) J<|aj 49 (.d (dU 0)) J (by rw[getD_set_ne,h6 _ (by omega)])<|gx (fu:=⟨2⟩) (hv:=by simp only[ak];exact(by decide)) J<|aj 51 (.d (.v (.int .u64 (t/4294967296:Nat)))) J (by rw[oy])<|gx (fu:=⟨1⟩) J<|aj 52 (.d (dU (t/4294967296))) J (by show FX.d (.v (.int _ _))= .d (.v (.int _ _));congr 3;omega)<|gx (fu:=⟨1⟩) J<|aj 53 _ J (congrArg (fun z:Nat=>FX.d (.v (.int .u32 (z:Int)))) (T2 (by omega)))<|gx J<|sb _ (((W.set (k/32+i) (W.getD (k/32+i) 0+t%4294967296)).set (k/32+i+1) (t/4294967296)).map dU) J (cv (k:=k/32+i+1) (by omega) (by rw[aN];omega)) J (by(rw[show(((k/32:Nat):Int)+i+1).toNat=k/32+i+1 by omega];simp only[jR];rfl)<;>rfl) J<|at_ ⟨(W.set (k/32+i) (W.getD (k/32+i) 0+t%4294967296)).set (k/32+i+1) (t/4294967296),i+1⟩ (by dsimp only;exact⟨⟨by simpa using h1,(h2.set _ hfit).set _ (by omega),by omega,by have q:=Og (x:=(dg a).getD i 0) J J (by omega) J h4;rw[<-ht] at q;exact q,by rw[show k/32+(i+1)=k/32+i+1 by omega,A4 (by simp;omega)];exact hhi,fun j hj=>by rw[getD_set_ne,getD_set_ne];exact h6 j (by omega)⟩,(by omega)⟩)
 .
  obtain rfl:i=(dg a).length:=by omega
  refine fz 16 J J<|cl J (qe (ds:=W)) J<|rz J (k8 h2 (by have:=h4;rw[kp,kp,c8] at this;exact this))
def ZS(h:(dg a).length<=k/32):a/2^k=0:=by
 refine mZ ?_;have h1:=l8 (f9 a);rw[c8] at h1;have h2:4294967296^(dg a).length<=4294967296^(k/32):=bR (by decide) h;have h3:4294967296^(k/32)*1<=4294967296^(k/32)*2^(k%32):=fR _ (fN (by decide));rw[Iv k];omega
def Gv(h:bB ds)(q:Nat):dv (ds.drop q)=dv ds/4294967296^q:=by
 rcases jZ ds.length q with hq|hq
 .rw[iS (by omega)]
  have h1:=l8 h;have h2:4294967296^ds.length<=4294967296^q:=bR (by decide) (by omega);rw[mZ (by omega)];rfl
 .have e:=AV ds q hq
  have h1:=l8 (h.take q);rw[bL,jM hq] at h1;rw[e,pV _ _ (fN (by decide)),mZ h1,eX]
def DQ(h:bB ds)(i:Nat):dv ds/4294967296^i=ds.getD i 0+4294967296*ds.getD (i+1) 0+18446744073709551616*(dv ds/4294967296^(i+2)):=by
 have e0:=Gv h i;have e2:=Gv h (i+2);rw[<-e0,<-e2];have g0:ds.getD i 0=(ds.drop i).getD 0 0:=by rw[aW,aW,lN];rfl
 have g1:ds.getD (i+1) 0=(ds.drop i).getD 1 0:=by rw[aW,aW,lN]
 have g2:ds.drop (i+2)=(ds.drop i).drop 2:=by rw[List.drop_drop]
 rw[g0,g1,g2]
 match ds.drop i with
 |[]=>rfl
 |[u]=>simp[dv]
 |u::v::t=>simp only[dv,qZ,oX,sM,iQ];omega
def Oz{D v Z:Nat}(hs:s<32)(hZ:D/4294967296^i=u+4294967296*v+18446744073709551616*Z)(hw:w=(u+v*4294967296)/2^s%4294967296):(D/2^s)%4294967296^(i+1)=(D/2^s)%4294967296^i+4294967296^i*w:=by
 rw[gR,Nat.mod_mul];congr 2;rw[rS,cJ (2^s),<-rS,hZ,hw];have h1:18446744073709551616=2^s*(2^(32-s)*4294967296):=by rw[<-cV,Gu hs]
 rw[h1,cV (2^s),pV _ _ (fN (by decide)),cJ v];rw[cJ (2^(32-s)),cV,pS]
def UA(hq:q=k/32)(hs:s=k%32)(hl:W.length=(dg a).length-q)(h:dv (W.take ((dg a).length-q))=(dv ((dg a).drop q)/2^s)%4294967296^((dg a).length-q)):dv W=a/2^k:=by
 rw[kp] at h;have h1:=l8 ((f9 a).drop q);rw[gK] at h1;have h2:=mY (dv ((dg a).drop q)) (2^s);rw[h,jN (by omega),Gv (f9 a),c8,Iv k,<-hq,<-hs,rS]
def aCm[ha:BN a ia](hk:k<=1000000000)(hi:ia<=1000000000:=by decide):PF GB prog 263 [dN a,vI (k:Nat)] (dN (a/2^k)):=by
 have hla:=bI (dg a);have hba:=ud ha.h hi;refine fn (fu:=⟨10⟩) func263 J J ntmps263 J J (fun C=>?_);refine aj 12 (.d (vI (k/32:Nat))) J (by show FX.d (.v (.int _ _))= .d (.v (.int _ _));rw[zz hk])<|gx (fu:=⟨2⟩) J<|aj 14 (.d (vI ((dg a).length:Nat))) J (by rw[hla];rfl)<|gx J<|br (fu2:=⟨6⟩) (v2:=fun _=>by simp only[ak];exact(by decide)) J J J (fun hc15=>?_) (fun hc15=>?_)
 .
  exact rz J (by rw[ZS (by omega),lO];rfl)
 .
  refine aj 17 (.d (vI (k%32:Nat))) J (by show FX.d (.v (.int _ _))= .d (.v (.int _ _));rw[LU])<|gx (fu:=⟨9⟩) J<|aj 21 (.d (vI (k/32:Nat))) J (by show FX.d (.v (.int _ _))= .d (.v (.int _ _));rw[zz hk])<|gx J<|km (fu:=⟨0⟩) (k/32) (dg a).length _ J J (by rw[hla]) J (ra _) (by omega) (by omega) J<|?_;obtain⟨I,hI⟩: ∃I,I=(dg a).drop (k/32):=⟨_,rfl⟩;have hIl:I.length=(dg a).length-k/32:=by rw[hI,gK]
  have hIm:=bI I;have hIo:bB I:=hI▸(f9 a).drop _;refine aj 22 (.d (dk I)) J (by show FX.d (.sl _)= .d (.sl _);rw[hI,<-hla,dQ,iR])<|gx (fu:=⟨7⟩) J<|aj 24 (.d (vI (I.length:Nat))) J (by rw[hIm];rfl)<|gx J<|mk (fu:=⟨8⟩) ((List.replicate I.length 0).map dU) J J (by rw[<-mH];rfl) J<|aj 27 (.d (vI (I.length:Nat))) J (by rw[hIm];rfl)<|gx J<|lp (X:=List Nat×Nat) (fun⟨W,i⟩=>[(0, .d (dN a)),(5, .d (.v (.int .u64 (k%32:Nat)))),(6, .d (dk I)),(7, .rw 25),(26, .d (dk I)),(27, .d (vI (I.length:Nat))),(28, .d (vI (i:Nat)))]) (fun⟨W,i⟩=>[(25,some (.b 225 1 (W.map dU) true))]) (fun⟨W,i⟩=>W.length=I.length/\bB W/\i<=I.length/\dv (W.take i)=(dv I/2^(k%32))%4294967296^i) (fun⟨W,i⟩=>I.length-i) ⟨List.replicate I.length 0,0⟩ J ⟨by simp, .replicate _,by omega,by simp[dv,Nat.mod_one]⟩ (fun _=>J) (fun⟨W,i⟩ hk=>?_);dsimp only at hk⊢;obtain⟨h1,h2,h3,h4⟩:=hk;have hlw:=bI W;have hda:=hIo.get i;have hdb:=hIo.get (i+1);have hsk:k%32<32:=dK _ (by decide);refine br J J J (fun hc29=>?_) (fun hc29=>?_)
  .
   refine ix (fu:=⟨13⟩) _ J (eo) J<|mg (fu:=⟨6⟩) (hv:=fun _ _=>by simp only[ak];exact(by omega)) (X:=Unit) (fun _=>[(0, .d (dN a)),(5, .d (.v (.int .u64 (k%32:Nat)))),(6, .d (dk I)),(7, .rw 25),(26, .d (dk I)),(27, .d (vI (I.length:Nat))),(28, .d (vI (i:Nat))),(8, .d (vI (i:Nat))),(10, .d (.v (.int .u64 (I.getD i 0+I.getD (i+1) 0*4294967296:Nat))))]) (fun _=>[(25,some (.b 225 1 (W.map dU) true))]) (fun _=>True) [0,5,6,7,26,27,28,8,10] [25] rfl ?_ (fun _=>J) (fun _ hm=>?_)
   .
    refine gx (fu:=⟨6⟩) J<|aj 38 (.d (vI (I.length:Nat))) J (by rw[hIm];rfl)<|gx J<|br J J J (fun hc39=>?_) (fun hc39=>?_)
    .
     refine ix (fu:=⟨3⟩) (hv:=by simp only[ak];exact⟨by omega,(by decide)⟩) _ J (cv (k:=i+1)) J<|aj 47 (.d (.v (.int .u64 (I.getD (i+1) 0*4294967296:Nat)))) J (by show FX.d (.v (.int _ _))= .d (.v (.int _ _));rw[pq _ 32 (by decide) (by show _*4294967296<_;omega) J])<|gx (fu:=⟨1⟩) J<|aj 48 _ J (congrArg (fun z:Nat=>FX.d (.v (.int .u64 (z:Int)))) (pB 64 (I.getD i 0) (I.getD (i+1) 0) 32 hda (by show _+_*4294967296<18446744073709551616;omega)))<|gx J<|at_ () trivial
    .
     refine aj 10 (.d (.v (.int .u64 (I.getD i 0+I.getD (i+1) 0*4294967296:Nat)))) J (by rw[pG (by omega:I.length<=i+1),kX,gX])<|at_ () trivial
   .
    refine aj 53 (.d (.v (.int .u64 ((I.getD i 0+I.getD (i+1) 0*4294967296)/2^(k%32):Nat)))) J (by show FX.d (.v (.int _ _))= .d (.v (.int _ _));rw[PX _ (k%32)])<|gx (fu:=⟨1⟩) J<|?_;obtain⟨w,hw⟩: ∃w,w=(I.getD i 0+I.getD (i+1) 0*4294967296)/2^(k%32)%4294967296:=⟨_,rfl⟩;have hw1:w<4294967296:=hw▸dK _ (by decide);refine aj 54 (.d (dU w)) J (by show FX.d (.v (.int _ _))= .d (.v (.int _ _));rw[hw];congr 3)<|gx J<|sb _ ((W.set i w).map dU) J (eo) J (by(rw[<-je];rfl)<;>rfl) J<|at_ ⟨W.set i w,i+1⟩ (by dsimp only;exact⟨⟨by simpa using h1,h2.set _ (by omega),by omega,by rw[u6,h4];exact(Oz hsk (DQ hIo i) hw).symm⟩,(by omega)⟩)
  .
   refine fz 25 rfl rfl<|cl rfl (qe (ds:=W)) rfl<|rz rfl (k8 h2 (by obtain rfl:i=I.length:=(by omega);rw[hIl] at h1 h4;rw[hI] at h4;exact UA rfl rfl h1 h4))
def BF(h:a<4294967296^k):(dg a).length<=k:=by
 rcases jZ k (dg a).length with q|q
 .have h1:=uR (fE a).2.2 (by intro e;rw[e] at q;simp at q)
  rw[c8] at h1;have h2:4294967296^k<=4294967296^((dg a).length-1):=bR (by decide) (by omega);omega
 .exact q
def Sz(h:(dg a).length=2):(dg a).getD 0 0+(dg a).getD 1 0*4294967296=a:=by
 have e:=c8 a;revert e
 match dg a,h with
 |[x,y],_=>intro e;simp[dv] at e⊢;omega
def Ak(a:Nat):DV:= .tp [.v (.int .u64 ((if a<18446744073709551616 then a else 0:Nat):Int)),vB (decide (a<18446744073709551616))]
def QH(h:a<18446744073709551616:=by omega):Ak a= .tp [.v (.int .u64 (a:Int)),vB true]:=by unfold Ak;rw[if_pos h,decide_eq_true h]
def V4(h: ¬a<18446744073709551616):Ak a= .tp [.v (.int .u64 0),vB false]:=by unfold Ak;rw[if_neg h,decide_eq_false h];rfl
def rg(a:Nat):a<4294967296^(dg a).length:=by have:=l8 (f9 a);rwa [c8] at this
def DK{a ia:Nat}[ha:BN a ia](hi:ia<=1000000000:=by decide):PF GB prog 206 [dN a] (Ak a):=by
 have hla:=bI (dg a);have hba:=ud ha.h hi;have hlt:=rg a;have hd00:=dt a 0;refine fn (fu:=⟨11⟩) func206 J J ntmps206 J J (fun C=>?_);refine aj 5 (.d (vI ((dg a).length:Nat))) J (by rw[hla];rfl)<|gx J<|br J J J (fun hc6=>?_) (fun hc6=>?_)
 .
  exact rz rfl (by rw[show(dg a).length=0 by omega] at hlt;obtain rfl:a=0:=(by omega);rfl)
 .
  refine br J J J (fun hc8=>?_) (fun hc8=>?_)
  .
   refine ix (fu:=⟨2⟩) _ J (cv (k:=0) J (by omega)) J<|aj 13 (.d (.v (.int .u64 (a:Nat)))) J (by rw[uS])<|gx J<|rz J (by rw[show(dg a).length=1 by omega] at hlt;rw[QH,<-uS (a:=a),uS (a:=a)];rfl)
  .
   refine br J J J (fun hc14=>?_) (fun hc14=>?_)
   .
    have hd0:=dt a 0;have hd1:=dt a 1;refine ix (hv:=by simp only[ak];exact⟨by omega,(by decide)⟩) _ J (cv (k:=1) J (by omega)) J<|ix (fu:=⟨3⟩) _ J (cv (k:=0) J (by omega)) J<|aj 25 (.d (.v (.int .u64 (a:Nat)))) J (congrArg (fun z:Nat=>FX.d (.v (.int .u64 (z:Int)))) (by rw[pq _ 32 (by decide) (by show _*4294967296<_;omega) J,BitVec.or_comm];exact(pB 64 ((dg a).getD 0 0) ((dg a).getD 1 0) 32 hd0 (by show _+_*4294967296<18446744073709551616;omega)).trans (Sz (by omega))))<|gx J<|rz J (by rw[show(dg a).length=2 by omega] at hlt;rw[QH];rfl)
   .
    exact rz rfl (by rw[V4];rfl;intro h;have:=BF (a:=a) (k:=2) (by omega);omega)
section
variable {C:aE}{Q0:Exit->Act->World->Prop}{fr fr':aC}{own own':aG}{cf cf':Cf}{vc:List Prop}
def PR(GB:Gh)(P:Program)(f:FuncId)(ds:List DV)(s:Nat)(ty:TypeId)(rows:List DV):Prop:=
 ∀G vs,bH GB G->IsLs G ds vs->gG P f vs [] G (fun v own' G'=> ∃w:SV,v= .slice w.a w.n w.c/\du G' ⟨w,s,ty,rows,true⟩ own')
def QB: ∀(l:List av),(∀o∈l,o.lo=true)->l.map (relo (gr []))=l
 |[],_=>rfl
 |a::t,h=>by
  have h1:=h a aQ;rw[bY,QB t fun o ho=>h o (aJ _ ho)];congr 1
  cases a
  simp[relo,gr] at*;exact h1
def Zh{lk:LK}{bk:BM}{fo:Operand}{args:Array Operand}{tys:Array TypeId}{ds:List DV}{pos:String}{af:Array Edge}{gd:Option (Nat×Bool)}
  (ha:ua lk fo args=some (f,ds))(hF:PR GB prog f ds s ty2 rows):bP prog GB C n lk bk ⟨some d, .call ⟨.value fo,args,tys⟩,ty,pos,af,gd⟩ (.rw d) [(d,some (.b ty2 s rows true))] [d]:=by
 intro hd tl tb K' s1 s2 hf hk;refine⟨fun ρ G ov a w r Q=>?_⟩;have r1:=r.mono s1 s2;obtain⟨h1,h2⟩:=Dv ha;obtain⟨y,hy,hy'⟩:=r1.ev h1;rw[(aH (G:=G)).1 hy'] at hy;obtain⟨vs,h3,h4⟩:=r1.evDs h2;refine vj (M:=[]) (rest:=ov) hy h3 (List.Perm.refl _) (hF G vs r.gb h4) hd (fun v own1 G' hG hK a' w' rl=>?_) a w Q ⟨r.h,r.sz,cw a,r.df⟩;obtain⟨z,rfl,vs',k1,k2,k3,k4⟩:=hK;rw[QB _ (k4 J)] at rl;have rl':gm C n (Sx.put (ck a) (some d) (.slice z.a z.n z.c)) (own1++ov) G' a' w':=rl;have hdis:=(gW.1 rl'.h.nd).2.2;have r3:=r.new' (x:=z) (B':= .b ty2 s rows true) (os:=own1) (ov':=own1++ov) (f:= .rw d) (y:= .slice z.a z.n z.c) hf hG.le rl'.h ⟨vs',by simpa using k1,k2,k3,k4⟩ (fun o ho=>bV _ ho)
  (fun q B0 hq e o ho hbq=>⟨bZ _ ho,fun hc=>by
   have hx: ∃o1∈own1,o1.b=o.b:=by
    rcases k1 with⟨_,h,_⟩|⟨b0,rest0,lo0,h,hB,_⟩
    .rw[show z=_ from h] at hc;cases hc
    .rw[show z=_ from h] at hc;cases hc;exact⟨⟨_,aD vs'++rest0,_,lo0⟩,by rw[hB];exact aQ,J⟩
   obtain⟨o1,ho1,he1⟩:=hx;exact hdis o1 ho1 o ho he1⟩) (by simp[bO]) (jk rl')
 exact hk.run _ G' _ a' w' r3
def No(fr:aC)(cf:Cf):Option (FuncId×List DV×Nat):=match cE fr cf with
 |some ⟨some d, .call ⟨.value fo,args,_⟩,_,_,_,_⟩=>match ua (b7 fr cf) fo args with
  |some (f,ds)=>some (f,ds,d)
  |none=>none
 |_=>none
def cr[fu:Fu]{ds:List DV}(ha:No fr cf=some (f,ds,d))(hF:PR GB prog f ds s ty rows)
  (hgo:cx tt n fu.n fr own cf (.rw d) [(d,some (.b ty s rows true))] [d]=⟨vc,fr',own',cf'⟩)(k:aA prog GB C n Q0 fr' own' cf')
  (hv:autoParam (ak vc) fn._auto_1):aA prog GB C n Q0 fr own cf:=by
 unfold No at ha;split at ha<;>try (cases ha;done)
 rename_i hh;split at ha<;>cases ha;rename_i h1;exact us hh (Zh h1 hF) hgo hv k
def Ei(C:aE)(s:Nat)(ty:TypeId)(rows:List DV):Ending->World->Prop:=qa C (fun v own' G'=> ∃w:SV,v= .slice w.a w.n w.c/\du G' ⟨w,s,ty,rows,true⟩ own')
def FG[fu:Fu]{c:Code}{ds:List DV}(hf:prog.funcs[f]? =some fb)(hb:fb.body=some c)(hn:(fb.name== "runtime.NumGoroutine")=false)(hm:fb.ntmps=m)(hlen:Nat.ble ds.length m=true)
  (hgo:go tt m fu.n [] (qb 0 ds) [] (.code c [])=⟨vc,fr,own,cf⟩)(k: ∀C:aE,C.mb=[]->aA prog GB C m (eH C prog fb (Ei C s ty rows)) fr own cf)
  (hv:autoParam (ak vc) fn._auto_1):PR GB prog f ds s ty rows:=by
 intro G vs hg hvs;refine gG.introR hf hb hn hm (by rw[hvs.len];exact hlen) fun C _ hmb hrd hfx=>?_;intro a w rl;refine uN hrd ?_;have h:=fB (GB:=GB) (C:=C) (Q0:=eH C prog fb (Ei C s ty rows)) hgo hv (k C (by simpa using hmb));exact h.run (fun _=>⟨none,0,0⟩) G [] a w ⟨hg,rl.h,rl.sz,rl.df,(fun k f e=>xb hvs rl.fr k f e),(fun nm B e=>by cases e),(fun nm nm' B B' e=>by cases e),fun nm p _ _ e=>by rw[hfx] at e;cases e⟩
def QT(hr:fb.results.toList=[.tmp t])(hl:aP fr t=some (.rw d))(hw:bj own d=some (.b ty s rws true))(er:rws=rows):
  aA prog GB C n (eH C prog fb (Ei C s ty rows)) fr own (.ex .ret []):=by
 subst er;refine⟨fun ρ G ov a w r=>?_⟩;obtain⟨B,g1,g2⟩:=r.bx _ _ hw;have hB:du G ⟨ρ d,s,ty,rws,true⟩ B:=g1;obtain⟨rest,hp⟩:=JN hB g2;obtain⟨y,hy,hy'⟩:=r.ev (x:= .tmp t) (f:= .rw d) hl
 cases (show y=_ from hy')
 exact vE (C:=C) (n:=n) (fr:=ck a) (own:=ov) (G:=G) (vs:=[.slice (ρ d).a (ρ d).n (ρ d).c]) (by rw[hr];exact .tmp hy .nil) (B++rest) B hp (oQ _ _) ⟨ρ d,J,hB⟩ a w ⟨r.h,r.sz,cw a,r.df⟩
def TN(hr:fb.results.toList=[.tmp t])(hl:aP fr t=some .nl)(er:rows=[]):
  aA prog GB C n (eH C prog fb (Ei C s ty rows)) fr own (.ex .ret []):=by
 subst er;refine⟨fun ρ G ov a w r=>?_⟩;obtain⟨y,hy,hy'⟩:=r.ev (x:= .tmp t) (f:= .nl) hl
 cases (show y=_ from hy')
 exact vE (C:=C) (n:=n) (fr:=ck a) (own:=ov) (G:=G) (vs:=[.slice none 0 0]) (by rw[hr];exact .tmp hy .nil) ([]++ov) [] (List.Perm.refl _) (jK _) ⟨⟨none,0,0⟩,J,[], .inl ⟨J,J,J⟩,d8.2 J,fun v h=>(by cases h),fun _ o h=>(by cases h)⟩ a w ⟨r.h,r.sz,cw a,r.df⟩
end
end Go.Sx
end
