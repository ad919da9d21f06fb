/- Part 10 of a proof. -/
import Derived.Test.YtopfgminkdfpkaaGreatDoorMp9
set_option linter.unusedSimpArgs false
set_option maxHeartbeats 2000000
set_option maxRecDepth 100000
set_option linter.unusedVariables false
section
namespace Go.Sx
open Go Go.Proofs Tryz
section
variable {GB:Gh} {C:Ctx} {n:Nat} {Q0:Exit→Act→World→Prop} {fr fr':FrX} {own own':OwX} {cf cf':Cf} {vc:List Prop}
theorem mkc[fu:Fu]{d e s b:Nat}{z:DV}{k':IntKind}(cap:Nat)(h:mkA fr cf=some ⟨d,e,s,b,z,0⟩)(hy:(match opC fr cf with|some ⟨_, .makeSlice _ _ y,_,_,_,_⟩=>evX (lkC fr cf) y|_=>none)=some (.d (.v (.int k' (cap:Nat)))))
  (hgo:goA tt n fu.n fr own cf (.rw d) [(d,some (.c e s [] cap))] [d]=⟨vc,fr',own',cf'⟩)(k:CfS prog GB C n Q0 fr' own' cf')(hb:b*cap≤140737488355328:=by omega)(hl:cap≤1152921504606846976:=by omega)
  (hv:aag vc:=by first|exact trivial|(simp only[aag];kernel_rfl)|(simp only[aag];omega)):CfS prog GB C n Q0 fr own cf:=by
 unfold mkA at h
 split at h<;>try (cases h;done)
 rename_i hh
 split at h<;>try (cases h;done)
 rename_i hx
 split at h<;>try (cases h;done)
 rename_i hT
 split at h<;>try (cases h;done)
 rename_i hi
 split at h<;>try (cases h;done)
 rename_i hz
 rw[cond_eq_ite] at h
 split at h<;>cases h
 rename_i hs
 rw[hh] at hy
 have:=aef (abK _ _ hT) rfl
 exact us hh (aCD (abK _ _ hi) hz hs hx hy hb hl) hgo hv k
structure aF7 where
 d:Nat
 nm:Nat
 e:Nat
 s:Nat
 ds:List DV
 ds2:List DV
 cap:Nat
def aFO(fr:FrX)(own:OwX)(cf:Cf):Option aF7:=match opC fr cf with
 |some ⟨some d, .call ⟨.builtin .append,⟨[x,y]⟩,⟨[t,t']⟩⟩,_,_,_,_⟩=>match abk tt t,abk tt t' with
  |some ⟨.sl e s _,_,_,_⟩,some ⟨.sl _ _ _,_,_,_⟩=>match evX (lkC fr cf) x with
   |some (.rw nm)=>match bkC fr own cf nm,at3 (lkC fr cf) (bkC fr own cf) s y with
    |some (.c e' s' ds cap),some ds2=>bif (Nat.beq e' e&&Nat.beq s' s)&&!Nat.beq nm d then some ⟨d,nm,e,s,ds,ds2,cap⟩ else none
    |_,_=>none
   |_=>none
  |_,_=>none
 |_=>none
theorem apc[fu:Fu]{d nm e s cap:Nat}{ds ds2:List DV}(ds':List DV)(h:aFO fr own cf=some ⟨d,nm,e,s,ds,ds2,cap⟩)(hds:ds++ds2=ds')(ho2:ads s ds2)(hc:ds.length+ds2.length≤cap)(hgo:goA tt n fu.n fr own cf (.rw d) [(nm,none),(d,some (.c e s ds' cap))] [d]=⟨vc,fr',own',cf'⟩)(k:CfS prog GB C n Q0 fr' own' cf')
  (hp:0<ds2.length:=by simp)(hv:aag vc:=by first|exact trivial|(simp only[aag];kernel_rfl)|(simp only[aag];omega)):CfS prog GB C n Q0 fr own cf:=by
 subst hds
 unfold aFO at h
 split at h<;>try (cases h;done)
 rename_i hh
 split at h<;>try (cases h;done)
 rename_i hT hT'
 split at h<;>try (cases h;done)
 rename_i hx
 split at h<;>try (cases h;done)
 rename_i hb hy
 rw[cond_eq_ite] at h
 split at h<;>cases h
 rename_i h2
 simp only[cJ,gX] at h2
 cases aR h2.1.1
 cases aR h2.1.2
 have:=aef (abK _ _ hT) rfl
 have hN:TyN prog _:=⟨_,(aef (abK _ _ hT') rfl).un⟩
 exact us hh (aCW hx hb hy ho2 hc hp h2.2) hgo hv k
def PI(GB:Gh)(P:Program)(f:FuncId)(i:Int)(s:Nat)(ty ty2:TypeId)(ds:List DV)(x:DV)(cap:Nat)(dso:List DV):Prop:=
 ∀G w w2 B B2,GLe GB G→aba G ⟨w,s,ty,ds,false⟩ B→cap≤w.c→aba G ⟨w2,s,ty2,[x],false⟩ B2→FnO P f [.slice w.a w.n w.c, .int .i64 i, .slice w2.a w2.n w2.c] (B++B2) G fun v own' G'=> ∃w',v= .slice w'.a w'.n w'.c∧aba G' ⟨w',s,ty,dso,false⟩ own'
structure CiA where
 f:FuncId
 nm:Nat
 nm2:Nat
 i:Int
 ty:TypeId
 ty2:TypeId
 s:Nat
 ds:List DV
 x:DV
 cap:Nat
 d:Nat
def aFi(fr:FrX)(own:OwX)(cf:Cf):Option CiA:=match opC fr cf with
 |some ⟨some d, .call ⟨.value fo,⟨[x1,x2,x3]⟩,_⟩,_,_,_,_⟩=>match evX (lkC fr cf) fo,evX (lkC fr cf) x1 with
  |some (.d (.v (.func (.func f) ⟨[]⟩ ⟨[]⟩))),some (.rw nm)=>match evX (lkC fr cf) x2,evX (lkC fr cf) x3 with
   |some (.d (.v (.int .i64 i))),some (.rw nm2)=>match bkC fr own cf nm,bkC fr own cf nm2 with
    |some (.c ty s ds cap),some (.b ty2 s2 [x] true)=>bif (!Nat.beq nm d&&!Nat.beq nm2 d)&&(!Nat.beq nm nm2&&(Nat.beq s2 s&&Nat.blt 0 cap)) then some ⟨f,nm,nm2,i,ty,ty2,s,ds,x,cap,d⟩ else none
    |_,_=>none
   |_,_=>none
  |_,_=>none
 |_=>none
theorem avT{lk:LK}{bk:BM}{fo x1 x2 x3:Operand}{tys:Array TypeId}{f:FuncId}{nm nm2 d cap s:Nat}{i:Int}{ty0 ty2:TypeId}{ty:TypeId}{pos:String}{af:Array Edge}{gd:Option (Nat×Bool)}{ds dso:List DV}{x:DV}(hne:Nat.beq nm d=false)(hne2:Nat.beq nm2 d=false)(hn2:Nat.beq nm nm2=false)(hcp:0<cap)
  (h0:evX lk fo=some (.d (.v (.func (.func f) ⟨[]⟩ ⟨[]⟩))))(h1:evX lk x1=some (.rw nm))(h2:evX lk x2=some (.d (.v (.int .i64 i))))(h3:evX lk x3=some (.rw nm2))(hb:bk nm=some (.c ty0 s ds cap))(hb2:bk nm2=some (.b ty2 s [x] true))(hF:PI GB prog f i s ty0 ty2 ds x cap dso):
  OpR prog GB C n lk bk ⟨some d, .call ⟨.value fo,⟨[x1,x2,x3]⟩,tys⟩,ty,pos,af,gd⟩ (.rw d) [(nm,none),(nm2,none),(d,some (.b ty0 s dso true))] [d]:=by
 intro hd tl tb K' s1 s2 hf hk
 refine⟨fun ρ G ov a w r Q=>?_⟩
 have r1:=r.mono s1 s2
 obtain⟨y,hy,hy'⟩:=r1.ev h0
 rw[(aaZ (G:=G)).1 hy'] at hy
 obtain⟨y1,p1,p1'⟩:=r1.ev h1
 cases (show y1=_ from p1')
 obtain⟨y2,p2,p2'⟩:=r1.ev h2
 rw[aax] at p2';subst p2'
 obtain⟨y3,p3,p3'⟩:=r1.ev h3
 cases (show y3=_ from p3')
 have hnn:nm≠d:=fun e=>by subst e;rw[mS] at hne;cases hne
 have hnn2:nm2≠d:=fun e=>by subst e;rw[mS] at hne2;cases hne2
 have hnm:nm≠nm2:=fun e=>by subst e;rw[mS] at hn2;cases hn2
 obtain⟨B,g1,g2⟩:=r1.bx _ _ hb
 obtain⟨B2,k1,k2⟩:=r1.bx _ _ hb2
 obtain⟨vs,q1,q2,q3,q4,q5⟩:=g1
 have hB:aba G ⟨ρ nm,s,ty0,ds,false⟩ B:=⟨vs,q1,q2,q3,fun h=>by cases h⟩
 have hB2:aba G ⟨ρ nm2,s,ty2,[x],false⟩ B2:=aba.weak (lo:=true) k1
 have e1: ∃o,B=[o]∧(ρ nm).a=some ⟨o.b,0,none⟩:=by
  rcases q1 with⟨_,e,_⟩|⟨b,rest,lo',e,rfl,_⟩
  ·rw[e] at q5;simp at q5;omega
  ·exact⟨_,rfl,by rw[e]⟩
 have e2: ∃o,B2=[o]∧(ρ nm2).a=some ⟨o.b,0,none⟩:=by
  obtain⟨vs2,c1,c2,_⟩:=k1
  rcases c1 with⟨e,_,_⟩|⟨b,rest,lo',e,rfl,_⟩
  ·subst e;have:=c2.len;simp at this
  ·exact⟨_,rfl,by rw[e]⟩
 obtain⟨o1,rfl,a1⟩:=e1
 obtain⟨o2,rfl,a2⟩:=e2
 have hob:o1.b≠o2.b:=fun e=>r.dj nm nm2 _ _ (s2 _ _ hb) (s2 _ _ hb2) hnm _ a1 (by rw[a2,e])
 have hp: ∃rest,ov.Perm ([o1]++[o2]++rest):=by
  obtain⟨l1,l2,e3⟩:=kZ (g2 _ aQ)
  have hm:=k2 _ aQ
  rw[e3] at hm⊢
  have hm2:o2∈l1++l2:=by
   rcases bK.1 hm with h|h
   ·exact bL _ h
   ·rcases aW.1 h with h|h
    ·exact absurd (by rw[h]) hob
    ·exact bY _ h
  obtain⟨l3,l4,e4⟩:=kZ hm2
  refine⟨l3++l4,List.perm_middle.trans ?_⟩
  rw[e4]
  exact(lL (l₁:=l3) (l₂:=l4) (a:=o2)).cons o1
 obtain⟨rest,h5⟩:=hp
 have h6: ∀o∈ov,o.b≠o1.b→o.b≠o2.b→o∈rest:=fun o ho n1 n2=>by
  have:=h5.mem_iff.1 ho
  simp only[hJ,jS,aW] at this
  rcases this with rfl|rfl|h
  ·exact absurd rfl n1
  ·exact absurd rfl n2
  ·exact h
 have hlo2: ∀o∈[o2],o.lo=true:=by obtain⟨_,_,_,_,h⟩:=k1;exact h rfl
 have hall: ∀o∈[o1]++[o2],o.lo=true:=fun o ho=>by
  rcases bK.1 ho with h|h
  ·exact q4 o h
  ·exact hlo2 o h
 refine aec (M:=[o1]++[o2]) (rest:=rest) (vs:=[.slice (ρ nm).a (ρ nm).n (ρ nm).c, .int .i64 i, .slice (ρ nm2).a (ρ nm2).n (ρ nm2).c]) hy (by simp only[af6,p1,p2,p3]) h5 (hF G (ρ nm) (ρ nm2) [o1] [o2] r.gb hB q5 hB2) hd (fun v own1 G' hG hK a' w' rl=>?_) a w Q ⟨r.h,r.sz,aaN a,r.df⟩
 obtain⟨z,rfl,vs',k1',k2',k3',k4'⟩:=hK
 have hs1:=k1'.relo (flM ([o1]++[o2]))
 have e3: ∀o∈own1.map (relo (flM ([o1]++[o2]))),o.lo=true:=fun o ho=>by
  obtain⟨o',_,rfl⟩:=bU.1 ho
  exact ag4 _ hall
 generalize own1.map (relo (flM ([o1]++[o2])))=B' at rl e3 hs1
 have rl':Rel C n (Sx.put (frA a) (some d) (.slice z.a z.n z.c)) (B'++rest) G' a' w':=rl
 have hdis:=(gU.1 rl'.h.nd).2.2
 have rd:=(r.dropB nm).dropB nm2
 have hin: ∀q B0,Sx.upB (Sx.upB tb [(nm,none)]) [(nm2,none)] q=some B0→q≠nm∧q≠nm2∧tb q=some B0:=fun q B0 e=>by
  simp only[Sx.upB] at e
  split at e
  ·cases e
  ·split at e
   ·cases e
   ·exact⟨by assumption,by assumption,e⟩
 have hf2:acM [d] (some d) tl (Sx.upB (Sx.upB tb [(nm,none)]) [(nm2,none)]):=fun q hq=>by
  obtain⟨f1,f2⟩:=hf q hq
  exact⟨f1,fun k B e1 e=>f2 k B e1 (hin k B e).2.2⟩
 have hsep: ∀q B0,Sx.upB (Sx.upB tb [(nm,none)]) [(nm2,none)] q=some B0→ ∀o∈ov,(ρ q).a=some ⟨o.b,0,none⟩→o∈rest:=fun q B0 e o ho hbq=>by
  obtain⟨n1,n2,n3⟩:=hin q B0 e
  exact h6 o ho (fun e'=>r.dj nm q _ _ (s2 _ _ hb) n3 (Ne.symm n1) _ a1 (by rw[hbq,e'])) (fun e'=>r.dj nm2 q _ _ (s2 _ _ hb2) n3 (Ne.symm n2) _ a2 (by rw[hbq,e']))
 have r3:=rd.new' (x:=z) (B':= .b ty0 s dso true) (os:=B') (ov':=B'++rest) (f:= .rw d) (y:= .slice z.a z.n z.c) hf2 hG.le rl'.h ⟨vs',by simpa using hs1,k2',k3',fun _=>e3⟩ (fun o ho=>bL _ ho)
  (fun q B0 hq e o ho hbq=>⟨bY _ (hsep q B0 e o ho hbq),fun hc=>by
   have hx: ∃o1∈B',o1.b=o.b:=by
    rcases hs1 with⟨_,h,_⟩|⟨b0,rest0,lo0,h,hB,_⟩
    ·rw[show z=_ from h] at hc;cases hc
    ·rw[show z=_ from h] at hc;cases hc;exact⟨⟨_,aah vs'++rest0,_,lo0⟩,by rw[hB];exact aQ,rfl⟩
   obtain⟨o3,ho3,he3⟩:=hx
   exact hdis o3 ho3 o (hsep q B0 e o ho hbq) he3⟩) (by show _=_;simp) (abj rl')
 exact hk.run _ G' _ a' w' r3
theorem ci[fu:Fu]{f:FuncId}{nm nm2 d cap s:Nat}{i:Int}{ty ty2:TypeId}{ds dso:List DV}{x:DV}(dso':List DV)(ha:aFi fr own cf=some ⟨f,nm,nm2,i,ty,ty2,s,ds,x,cap,d⟩)(hF:PI GB prog f i s ty ty2 ds x cap dso)(he:dso=dso')
  (hgo:goA tt n fu.n fr own cf (.rw d) [(nm,none),(nm2,none),(d,some (.b ty s dso' true))] [d]=⟨vc,fr',own',cf'⟩)(k:CfS prog GB C n Q0 fr' own' cf')
  (hv:aag vc:=by first|exact trivial|(simp only[aag];kernel_rfl)|(simp only[aag];omega)):CfS prog GB C n Q0 fr own cf:=by
 subst he
 unfold aFi at ha
 split at ha<;>try (cases ha;done)
 rename_i hh
 split at ha<;>try (cases ha;done)
 rename_i h0 h1
 split at ha<;>try (cases ha;done)
 rename_i h2 h3
 split at ha<;>try (cases ha;done)
 rename_i hb hb2
 rw[cond_eq_ite] at ha
 split at ha<;>cases ha
 rename_i hc
 simp only[cJ,gX,oW] at hc
 obtain⟨⟨c1,c2⟩,c3,c4,c5⟩:=hc
 cases aR c4
 exact us hh (avT c1 c2 c3 c5 h0 h1 h2 h3 hb hb2 hF) hgo hv k
theorem kbT(d:Nat){ops:Array Oper}{r:List Oper}{K:List Kt}(hl:aay fr d=some (.d (.v (.bool true))))(k:CfS prog GB C n Q0 ((d, .tt)::fr) own (.ops ops r K)):CfS prog GB C n Q0 fr own (.ops ops r K):=abH (g:= .tt) hl (fun _ G _ e=>(aaZ (G:=G)).1 e) k
theorem kbF(d:Nat){ops:Array Oper}{r:List Oper}{K:List Kt}(hl:aay fr d=some (.d (.v (.bool false))))(k:CfS prog GB C n Q0 ((d, .ff)::fr) own (.ops ops r K)):CfS prog GB C n Q0 fr own (.ops ops r K):=abH (g:= .ff) hl (fun _ G _ e=>(aaZ (G:=G)).1 e) k
end
section
variable {GB:Gh} {C:Ctx} {n:Nat} {Q0:Exit→Act→World→Prop} {fr fr':FrX} {own own':OwX} {cf cf':Cf} {vc:List Prop}
def xrA(fr:FrX)(cf:Cf):Option (Int×Int):=match opC fr cf with
 |some ⟨_, .binOp .xor _ x y _,_,_,_,_⟩=>match evX (lkC fr cf) x,evX (lkC fr cf) y with
  |some (.d (.v (.int .u32 p))),some (.d (.v (.int .u32 q)))=>some (p,q)
  |_,_=>none
 |_=>none
theorem xr[fu:Fu]{p q:Int}(u:Int)(h:xrA fr cf=some (p,q))(e:(((BitVec.ofInt 32 p^^^BitVec.ofInt 32 q).toNat:Nat):Int)=u)(hgo:goA tt n fu.n fr own cf (.d (.v (.int .u32 u))) [] []=⟨vc,fr',own',cf'⟩)(k:CfS prog GB C n Q0 fr' own' cf')
  (hv:aag vc:=by first|exact trivial|(simp only[aag];kernel_rfl)|(simp only[aag];omega)):CfS prog GB C n Q0 fr own cf:=by
 unfold xrA at h
 split at h<;>try (cases h;done)
 rename_i hh
 split at h<;>cases h
 rename_i h1 h2
 subst e
 exact us hh (.yd fun ρ G ov a w r=>by
  obtain⟨y1,h3,h4⟩:=r.ev h1
  obtain⟨y2,h5,h6⟩:=r.ev h2
  rw[aax] at h4 h6;subst h4 h6
  exact⟨_,aax.2 rfl,ab4 h3 h5 fun w=>by
   show(pure (Value.int .u32 (IntKind.u32.wrap ((BitVec.ofInt 32 p^^^BitVec.ofInt 32 q).toNat:Int))):Sem Value).run prog w=_
   rw[alT];rfl⟩) hgo hv k
def swA(fr:FrX)(cf:Cf):Option (Int×Int):=match opC fr cf with
 |some ⟨_, .binOp .sub _ x y _,_,_,_,_⟩=>match evX (lkC fr cf) x,evX (lkC fr cf) y with
  |some (.d (.v (.int .u32 p))),some (.d (.v (.int .u32 q)))=>some (p,q)
  |_,_=>none
 |_=>none
theorem sw[fu:Fu]{p q:Int}(u:Int)(h:swA fr cf=some (p,q))(e:(p-q)%4294967296=u)(hgo:goA tt n fu.n fr own cf (.d (.v (.int .u32 u))) [] []=⟨vc,fr',own',cf'⟩)(k:CfS prog GB C n Q0 fr' own' cf')
  (hv:aag vc:=by first|exact trivial|(simp only[aag];kernel_rfl)|(simp only[aag];omega)):CfS prog GB C n Q0 fr own cf:=by
 unfold swA at h
 split at h<;>try (cases h;done)
 rename_i hh
 split at h<;>cases h
 rename_i h1 h2
 subst e
 exact us hh (.yd fun ρ G ov a w r=>by
  obtain⟨y1,h3,h4⟩:=r.ev h1
  obtain⟨y2,h5,h6⟩:=r.ev h2
  rw[aax] at h4 h6;subst h4 h6
  exact⟨_,aax.2 rfl,by rw[←acL];exact age h3 h5⟩) hgo hv k
def ntA(fr:FrX)(cf:Cf):Option Int:=match opC fr cf with
 |some ⟨_, .unOp .xor _ x,_,_,_,_⟩=>match evX (lkC fr cf) x with
  |some (.d (.v (.int .u32 p)))=>some p
  |_=>none
 |_=>none
theorem nt[fu:Fu]{p:Int}(u:Int)(h:ntA fr cf=some p)(e:(((BitVec.ofInt 32 IntKind.u32.max^^^BitVec.ofInt 32 p).toNat:Nat):Int)=u)(hgo:goA tt n fu.n fr own cf (.d (.v (.int .u32 u))) [] []=⟨vc,fr',own',cf'⟩)(k:CfS prog GB C n Q0 fr' own' cf')
  (hv:aag vc:=by first|exact trivial|(simp only[aag];kernel_rfl)|(simp only[aag];omega)):CfS prog GB C n Q0 fr own cf:=by
 unfold ntA at h
 split at h<;>try (cases h;done)
 rename_i hh
 split at h<;>cases h
 rename_i hx
 subst e
 refine us hh (.x1 hx fun ρ G ov a w y _ r h1 h2=>?_) hgo hv k
 rw[aax] at h2;subst h2
 refine⟨_,aax.2 rfl,fun a w hf hh=>?_⟩
 simp only[execOp,aad hf h1]
 refine aam (w':=w) ?_
 show(pure (Value.int .u32 (IntKind.u32.wrap ((BitVec.ofInt 32 IntKind.u32.max^^^BitVec.ofInt 32 p).toNat:Int))):Sem Value).run prog w=_
 rw[alT];rfl
end

end Go.Sx
end
section
namespace Go.Sx
open Go
def dU(d:Nat):DV:= .v (.int .u32 (d:Int))
def dLi(ds:List Nat):DV:= .sl (ds.map dU)
def dN(n:Nat):DV:= .sl ((dg n).map dU)
def dD(n:Nat):DV:= .sl (if n=1 then [] else(dg n).map dU)
def eI(m:Int):DV:= .ag [.v (.bool (decide (m<0))),dN m.natAbs]
def eQ(q:Rat):DV:= .ag [.v (.bool (decide (q.num<0))),dN q.num.natAbs,dD q.den]
def eP(p:PtQ):DV:= .ag [.v (.bool (decide (p.x.num<0))),dN p.x.num.natAbs,dD p.x.den, .v (.bool (decide (p.y.num<0))),dN p.y.num.natAbs,dD p.y.den]
def eL(l:LnQ):DV:= .ag [.v (.bool (decide (l.a<0))),dN l.a.natAbs, .v (.bool (decide (l.b<0))),dN l.b.natAbs, .v (.bool (decide (l.c<0))),dN l.c.natAbs]
def eR(q:Rat):DV:= .ag [.v (.bool (decide (q.num<0))),dN q.num.natAbs,dN q.den]
def ePt(p:PtQ):DV:= .ag [.v (.bool (decide (p.x.num<0))),dN p.x.num.natAbs,dN p.x.den, .v (.bool (decide (p.y.num<0))),dN p.y.num.natAbs,dN p.y.den]
def vI(n:Int):DV:= .v (.int .i64 n)
def vB(b:Bool):DV:= .v (.bool b)
theorem ay6(n:Nat):dN n=dLi (dg n):=rfl
theorem aEr{ds:List Nat}(h:DOk ds):dLi (trimD ds)=dN (dv ds):=by unfold dLi dN;rw[ado h]
theorem avr{ds:List Nat}{i:Nat}(h:i<ds.length):(ds.map dU)[i]? =some (dU (ds.getD i 0)):=by
 rw[dQ,aZ h,aK,aZ h];rfl
theorem abF{ds:List Nat}{i:Nat}(h:i<ds.length):(ds.map dU)[(i:Int).toNat]? =some (dU (ds.getD i 0)):=by rw[bX];exact avr h
theorem aea(ds:List Nat)(i d:Nat):(ds.map dU).set i (.v (.int .u32 (d:Int)))=(ds.set i d).map dU:=by rw[jL];rfl
theorem aeP(n:Nat):List.replicate n (DV.v (.int .u32 0))=(List.replicate n 0).map dU:=by rw[List.map_replicate];rfl
theorem anv(ds:List Nat):ads 1 (ds.map dU):=fun d hd=>by
 obtain⟨n,_,rfl⟩:=bU.1 hd;exact⟨rfl,rfl⟩
theorem adp(n:Nat)(i:Nat):(dg n).getD i 0<4294967296:=(aaH n).2.1.get i
theorem ahA:dg 0=[]:=by rw[dg,dif_pos rfl]
theorem ane:dg 1=[1]:=by rw[dg,dif_neg (by decide)];simp[ahA]
theorem acB{n:Nat}:(dg n).length=0↔n=0:=by
 constructor
 ·intro h
  have:=(aaH n).1
  rw[bS h] at this
  exact this.symm
 ·rintro rfl;rw[ahA];rfl
theorem adq:dN 0= .sl []:=by unfold dN;rw[ahA];rfl
/-! ### bridges -/
theorem aio{G:Gh}: ∀{ds:List Nat} {es:List Value},IsLs G (ds.map dU) es↔es=ds.map dI
 |[],es=>aaJ
 |d::t,es=>by
  rw[bM,aac]
  constructor
  ·rintro ⟨y,n,rfl,h1,h2⟩
   rw[aaZ.1 h1,aio.1 h2];rfl
  ·rintro rfl
   exact⟨_,_,rfl,aaZ.2 rfl,aio.2 rfl⟩
theorem aCf{G:Gh}{ds:List Nat}{v:Value}:Is G (dLi ds) v↔ ∃x:SV,v= .slice x.a x.n x.c∧afw G 1 x (ds.map dI):=by
 unfold dLi
 rw[adu]
 constructor
 ·rintro ⟨s,x,es,rfl,h1,h2⟩
  have:=aio.1 h2
  subst this
  refine⟨x,rfl,?_⟩
  rcases afr (s:=1) h1 h2 (anv ds) with h|h
  ·rw[h] at h1⊢
   exact⟨h1.len,h1.cap, .inl rfl⟩
  ·subst h;exact h1
 ·rintro ⟨x,rfl,h⟩
  exact⟨1,x,_,rfl,h,aio.2 rfl⟩
theorem aEh{G:Gh}{n k:Nat}{v:Value}(hk:n<2^k):Is G (dN n) v↔ ∃x:SV,v= .slice x.a x.n x.c∧IsN k G x n:=by
 rw[ay6,aCf]
 constructor
 ·rintro ⟨x,rfl,h⟩
  exact⟨x,rfl,⟨(aaH n).2.1,h⟩,hk⟩
 ·rintro ⟨x,rfl,h⟩
  exact⟨x,rfl,h.d.sl⟩
/-! ### spelled otherwise -/
theorem aaC{ds:List Nat}{i:Int}{k:Nat}(hi:i=k)(h:k<ds.length):(ds.map dU)[i.toNat]? =some (dU (ds.getD k 0)):=by subst hi;exact abF h
/-! ### bounds -/
class BN (n:Nat) (k:outParam Nat):Prop where h:n<2^k
class BI (m:Int) (k:outParam Nat):Prop where h:m.natAbs<2^k
class BQ (q:Rat) (k:outParam Nat):Prop where
 hn:q.num.natAbs<2^k
 hd:q.den<2^k
theorem BN.mono{n k k':Nat}(h:BN n k)(hk:k≤k'):BN n k':=⟨cM h.h (bW (by decide) hk)⟩
theorem abn{a b i j:Nat}(h:a<2^i)(k:b<2^j):a*b<2^(i+j):=by rw[fV];exact nJ h k
theorem afR{a b i j:Nat}(h:a<2^i)(k:b<2^j):a+b<2^(i+j+1):=by
 have h1:2^i≤2^(i+j):=bW (by decide) (by omega)
 have h2:2^j≤2^(i+j):=bW (by decide) (by omega)
 rw[eX];omega
instance BN.mul (a b i j:Nat) [h:BN a i] [k:BN b j]:BN (a*b) (i+j):=⟨abn h.h k.h⟩
instance BN.add (a b i j:Nat) [h:BN a i] [k:BN b j]:BN (a+b) (i+j+1):=⟨afR h.h k.h⟩
instance BN.sub (a b i:Nat) [h:BN a i]:BN (a-b) i:=⟨by have:=h.h;omega⟩
instance BN.div (a b i:Nat) [h:BN a i]:BN (a/b) i:=⟨fY (jM _ _) h.h⟩
instance BN.abs (m:Int) (i:Nat) [h:BI m i]:BN m.natAbs i:=⟨h.h⟩
instance BN.den (q:Rat) (i:Nat) [h:BQ q i]:BN q.den i:=⟨h.hd⟩
theorem aob{a b i j:Nat}(h:a<2^i)(k:b<2^j):Nat.gcd a b<2^(i+j):=by
 have h1:2^i≤2^(i+j):=bW (by decide) (by omega)
 have h2:2^j≤2^(i+j):=bW (by decide) (by omega)
 rcases eY a with h0|h0
 ·subst h0;rw[Nat.gcd_zero_left];omega
 ·have:=Nat.gcd_le_left b h0;omega
instance BN.gcd (a b i j:Nat) [h:BN a i] [k:BN b j]:BN (Nat.gcd a b) (i+j):=⟨aob h.h k.h⟩
instance BN.one:BN 1 1:=⟨by decide⟩
instance BN.zero:BN 0 0:=⟨by decide⟩
instance BI.mul (a b:Int) (i j:Nat) [h:BI a i] [k:BI b j]:BI (a*b) (i+j):=⟨by rw[iY];exact abn h.h k.h⟩
instance BI.add (a b:Int) (i j:Nat) [h:BI a i] [k:BI b j]:BI (a+b) (i+j+1):=⟨fY (Int.natAbs_add_le a b) (afR h.h k.h)⟩
instance BI.sub (a b:Int) (i j:Nat) [h:BI a i] [k:BI b j]:BI (a-b) (i+j+1):=⟨fY (Int.natAbs_sub_le a b) (afR h.h k.h)⟩
instance BI.neg (a:Int) (i:Nat) [h:BI a i]:BI (-a) i:=⟨by rw[iL];exact h.h⟩
instance BI.num (q:Rat) (i:Nat) [h:BQ q i]:BI q.num i:=⟨h.hn⟩
instance BI.nat (n:Nat) (i:Nat) [h:BN n i]:BI (n:Int) i:=⟨by rw[jZ];exact h.h⟩
theorem abO(q:Rat):0<q.den:=jQ q.den_nz
theorem ahc{m:Int}{d i:Nat}(hd:0<d)(h:m.natAbs<2^i)(k:d<2^i):BQ (mkRat m d) i:=by
 refine⟨?_,?_⟩
 ·rw[Rat.num_mkRat,if_neg (by omega)]
  have:=mK m (d.gcd m.natAbs:Nat)
  omega
 ·rw[Rat.den_mkRat,if_neg (by omega)]
  have:=jM d (d.gcd m.natAbs)
  omega
theorem BQ.mono{q:Rat}{k k':Nat}(h:BQ q k)(hk:k≤k'):BQ q k':=⟨cM h.hn (bW (by decide) hk),cM h.hd (bW (by decide) hk)⟩
theorem aer(p q:Rat):p*q=mkRat (p.num*q.num) (p.den*q.den):=by rw[Rat.mul_def,Rat.normalize_eq_mkRat]
theorem aes(p q:Rat):p+q=mkRat (p.num*q.den+q.num*p.den) (p.den*q.den):=by rw[Rat.add_def,Rat.normalize_eq_mkRat]
instance BQ.mul (p q:Rat) (i j:Nat) [h:BQ p i] [k:BQ q j]:BQ (p*q) (i+j):=by
 rw[aer]
 exact ahc (iT (abO p) (abO q)) (BI.mul p.num q.num i j).h (abn h.hd k.hd)
instance BQ.add (p q:Rat) (i j:Nat) [h:BQ p i] [k:BQ q j]:BQ (p+q) (i+j+1):=by
 rw[aes]
 refine ahc (iT (abO p) (abO q)) ?_ ?_
 ·have h1:=abn h.hn k.hd
  have h2:=abn k.hn h.hd
  have h3:(p.num*q.den+q.num*p.den).natAbs≤(p.num*q.den).natAbs+(q.num*p.den).natAbs:=Int.natAbs_add_le ..
  rw[iY,iY,jZ,jZ] at h3
  rw[jV j i] at h2
  rw[eX];omega
 ·have h1:=abn h.hd k.hd
  rw[eX];omega
instance BQ.neg (p:Rat) (i:Nat) [h:BQ p i]:BQ (-p) i:=⟨by rw[lY,iL];exact h.hn,by rw[oR];exact h.hd⟩
instance BQ.sub (p q:Rat) (i j:Nat) [h:BQ p i] [k:BQ q j]:BQ (p-q) (i+j+1):=by
 rw[Rat.sub_eq_add_neg]
 exact BQ.add p (-q) i j
instance BQ.ofInt (m:Int) (i:Nat) [h:BI m i]:BQ (m:Rat) (i+1):=by
 refine⟨?_,?_⟩
 ·rw[pL];have:=h.h;rw[eX];omega
 ·rw[pM];have:0<2^i:=dR (by decide);rw[eX];omega
end Go.Sx
end
section
namespace Go.Sx
open Go Go.Proofs Tryz
variable {GB:Gh}
def aDx(p q:Int):Nat:=(BitVec.ofInt 32 p &&& BitVec.ofInt 32 q).toNat
def orN(p q:Int):Nat:=(BitVec.ofInt 32 p ||| BitVec.ofInt 32 q).toNat
def aCk(p q:Int):Nat:=(BitVec.ofInt 32 p^^^BitVec.ofInt 32 q).toNat
theorem aub{ds:List Nat}{n:Nat}(h:0<n∧n≤ds.length)(hz:ds.getD (n-1) 0=0):trimD (ds.take n)=trimD (ds.take (n-1)):=by
 obtain⟨m,rfl⟩: ∃m,n=m+1:=⟨n-1,by omega⟩
 rw[fW (by omega),kQ]
 rw[kQ,aK,aZ (by omega)] at hz
 simp only[kS] at hz
 rw[hz,ajH]
theorem atW{ds:List Nat}{n:Nat}(h:n≤ds.length)(hz:0<n→ds.getD (n-1) 0≠0):trimD (ds.take n)=ds.take n:=by
 rcases eY n with h0|h0
 ·subst h0;simp[trimD]
 ·obtain⟨m,rfl⟩: ∃m,n=m+1:=⟨n-1,by omega⟩
  have hz:=hz h0
  rw[fW (by omega)]
  rw[kQ,aK,aZ (by omega)] at hz
  exact ahs (by simpa using hz)
theorem azX{x y c:Nat}(hx:x<4294967296)(hy:y<4294967296)(hc:c≤1):PF GB prog 257 [.v (.int .u32 (x:Int)), .v (.int .u32 (y:Int)), .v (.int .u32 (c:Int))] (.tp [.v (.int .u32 (((x+y+c)%4294967296:Nat):Int)), .v (.int .u32 (((x+y+c)/4294967296:Nat):Int))]):=by
 refine fn (hv:=by simp only[aag];exact⟨⟨⟨⟨⟨by omega,by omega⟩,by omega⟩,by omega⟩,by omega⟩,(by decide)⟩) func257 J J ntmps257 J J (fun C=>?_)
 exact rz rfl (by
  have e1:((x:Int)+y+c)%4294967296=(((x+y+c)%4294967296:Nat):Int):=by omega
  have e2:((x:Int)+y+c).fdiv (2^min (32:Int).toNat IntKind.u64.bits)%4294967296=(((x+y+c)/4294967296:Nat):Int):=by
   rw[show(2:Int)^min (32:Int).toNat IntKind.u64.bits=((4294967296:Nat):Int) from rfl,gQ _ (by decide)]
   omega
  show DV.tp [.v (.int _ _), .v (.int _ _)]=_
  rw[e1,e2])
theorem aja(n:Nat)(h:n<4294967296):(BitVec.ofInt 32 (n:Int)).msb=decide (2147483648≤n):=by
 rw[show BitVec.ofInt 32 (n:Int)=BitVec.ofNat 32 n from BitVec.ofInt_natCast ..]
 rw[BitVec.msb_eq_decide,BitVec.toNat_ofNat,fZ (by simpa using h)]
theorem atK(b:BitVec 32):b.toNat/2147483648=if b.msb then 1 else 0:=by
 have:=b.isLt
 rw[BitVec.msb_eq_decide]
 simp only[decide_eq_true_eq,Nat.reduceSub,Nat.reducePow] at*
 split<;>omega
theorem aj2(b:BitVec 32):BitVec.ofInt 32 (b.toNat:Int)=b:=by rw[BitVec.ofInt_natCast,BitVec.ofNat_toNat,BitVec.setWidth_eq]
theorem aq9{x y c:Nat}(hx:x<4294967296)(hy:y<4294967296)(hc:c≤1):
  ((orN (aDx (aCk IntKind.u32.max x:Nat) y:Nat) (aDx (aCk IntKind.u32.max (aCk x y:Nat):Nat) (IntKind.u32.wrap (IntKind.u32.wrap ((x:Int)-y)-c)):Nat):Nat):Int).fdiv (2^min (31:Int).toNat IntKind.u32.bits)=(((if x<y+c then 1 else 0):Nat):Int):=by
 rw[show((2:Int)^min (31:Int).toNat IntKind.u32.bits)=((2147483648:Nat):Int) from rfl,gQ _ (by decide),←oN]
 congr 1
 have hd: ∃d:Nat,d<4294967296∧IntKind.u32.wrap (IntKind.u32.wrap ((x:Int)-y)-c)=(d:Int)∧((x≥y+c∧d=x-(y+c))∨(x<y+c∧d=x+4294967296-(y+c))):=by
  rw[acL,acL]
  refine⟨((((x:Int)-y)%4294967296-c)%4294967296).toNat,by omega,by omega,by omega⟩
 obtain⟨d,hd1,hd2,hd3⟩:=hd
 rw[hd2]
 unfold orN aDx aCk
 simp only[aj2]
 rw[atK]
 simp only[BitVec.msb_or,BitVec.msb_and,BitVec.msb_xor,aja x hx,aja y hy,aja d hd1]
 have h1:(BitVec.ofInt 32 IntKind.u32.max).msb=true:=by decide
 rw[h1]
 rcases iZ x 2147483648 with a|a<;>rcases iZ y 2147483648 with b|b<;>rcases iZ d 2147483648 with e|e<;>
  simp[Nat.not_le.2, *]<;>(first|omega|(split<;>omega))
theorem awc{x y c:Nat}(hx:x<4294967296)(hy:y<4294967296)(hc:c≤1):IntKind.u32.wrap (IntKind.u32.wrap ((x:Int)-y)-c)=(((if x<y+c then x+4294967296-(y+c) else x-(y+c)):Nat):Int):=by
 rw[acL,acL]
 split<;>omega
theorem azo{x y c:Nat}(hx:x<4294967296)(hy:y<4294967296)(hc:c≤1):PF GB prog 258 [.v (.int .u32 (x:Int)), .v (.int .u32 (y:Int)), .v (.int .u32 (c:Int))] (.tp [.v (.int .u32 (((if x<y+c then x+4294967296-(y+c) else x-(y+c)):Nat):Int)), .v (.int .u32 (((if x<y+c then 1 else 0):Nat):Int))]):=by
 refine fn (fu:=⟨10⟩) func258 J J ntmps258 J J (fun C=>?_)
 refine sw (fu:=⟨1⟩) _ rfl (acL _).symm rfl<|sw (fu:=⟨6⟩) _ rfl (acL _).symm rfl<|nt (fu:=⟨4⟩) _ J J J<|xr (fu:=⟨0⟩) _ J J J<|nt _ J J J<|?_
 exact rz rfl (by have h1:=aq9 hx hy hc;unfold orN aDx aCk at h1;show DV.tp [.v (.int _ _), .v (.int _ _)]=_;rw[h1,awc hx hy hc])
theorem af3{ds:List Nat}(hl:ds.length≤1125899906842624):PF GB prog 196 [dLi ds] (dLi (trimD ds)):=by
 refine fn func196 J J ntmps196 J J (fun C=>?_)
 refine lp (X:=Nat) (fun n=>[(0, .d (dLi ds)),(3, .d (vI (n:Nat)))]) (fun n=>[]) (fun n=>n≤ds.length∧trimD ds=trimD (ds.take n)) (fun n=>n) ds.length rfl ⟨bQ _,by rw[fX]⟩ (fun _=>rfl) (fun n hk=>?_)
 obtain⟨h1,h2⟩:=hk
 refine cs 8 J J J (fun hg8=>?_) (fun hg8=>?_)
 ·
  refine ix _ rfl (aaC (k:=n-1) (by omega) (by omega)) rfl<|?_
  refine br J J J (fun hc15=>?_) (fun hc15=>?_)
  ·
   have hz:ds.getD (n-1) 0=0:=by omega
   exact at_ (n-1) ⟨⟨by omega,by rw[h2,aub (by omega) hz]⟩,(by omega)⟩
  ·
   refine sc' 0 n _ J J J J (anv _) (by omega) (by simp;omega) rfl<|?_
   exact rz rfl (by have:=atW h1 (fun _ h=>hc15 (by omega));rw[←h2] at this;show DV.sl _=_;simp[dLi,this])
 ·
  refine sc' 0 n _ J J J J (anv _) (by omega) (by simp;omega) rfl<|?_
  exact rz rfl (by obtain rfl:n=0:=(by omega);show DV.sl _=_;simp[dLi,h2,trimD])
theorem ade{a k:Nat}(h:a<2^k)(hk:k≤1000000000):(dg a).length≤100000000:=by have:=aa8 h;omega
theorem aaX(a:Nat):dv (dg a)=a:=(aaH a).1
theorem afc(a:Nat):DOk (dg a):=(aaH a).2.1
theorem aaE(ds:List Nat):(ds.map dU).length=ds.length:=aJ ..
theorem acs{ds:List Nat}{n:Nat}(h:ds.length≤n):ds.take n=ds:=aT h
theorem ad3{ds:List Nat}{i:Nat}(h:ds.length≤i):ds.getD i 0=0:=by
 rw[aK,cR h];rfl
theorem ae0{ds:List Nat}{n:Nat}(h:DOk ds)(e:dv ds=n):dLi (trimD ds)=dN n:=by rw[aEr h,e]
theorem aoR{a b:Nat}(h:a<b):ahD a b= -1:=by unfold ahD;rw[if_pos h]
theorem aou{a b:Nat}(h:b<a):ahD a b=1:=by unfold ahD;rw[if_neg (by omega),if_neg (by omega)]
theorem azT{a b:Nat}(h:a=b):ahD a b=0:=by unfold ahD;rw[if_neg (by omega),if_pos h]
theorem auH(m n:Nat):Int.sign ((m:Int)-n)=ahD m n:=by
 unfold ahD
 split
 ·exact dS (by omega)
 ·split
  ·rw[show(m:Int)-n=0 by omega];rfl
  ·exact eJ (by omega)
theorem awk{a b:Nat}(h:(dg a).length≠(dg b).length):ahD (dg a).length (dg b).length=ahD a b:=by
 rcases Nat.lt_or_gt_of_ne h with h|h
 ·have:=acP (afc a) (aaH b).2.2 h
  rw[aaX,aaX] at this
  rw[aoR h,aoR this]
 ·have:=acP (afc b) (aaH a).2.2 h
  rw[aaX,aaX] at this
  rw[aou h,aou this]
theorem aoH{a b i:Nat}(hl:(dg a).length=(dg b).length)(hi:i<(dg a).length)(hs:(dg a).drop (i+1)=(dg b).drop (i+1)):
  ((dg a).getD i 0<(dg b).getD i 0→a<b)∧((dg b).getD i 0<(dg a).getD i 0→b<a)∧((dg a).getD i 0=(dg b).getD i 0→(dg a).drop i=(dg b).drop i):=by
 refine⟨fun h=>?_,fun h=>?_,fun h=>?_⟩
 ·have:=aqC (afc a) (afc b) i hi (by omega) hl hs h
  rwa [aaX,aaX] at this
 ·have:=aqC (afc b) (afc a) i (by omega) hi hl.symm hs.symm h
  rwa [aaX,aaX] at this
 ·rw[aS hi,aS (by omega:i<(dg b).length),hs]
  rw[aK,aK,aZ hi,aZ (by omega:i<(dg b).length)] at h
  simp only[kS] at h
  rw[h]
theorem aB3{z:Int}:PF GB prog 245 [vI z] (vI z.sign):=by
 refine fn func245 J J ntmps245 J J (fun C=>?_)
 refine br J J J (fun hc4=>?_) (fun hc4=>?_)
 ·
  exact rz rfl (by show DV.v (.int _ 1)=DV.v (.int _ _);rw[eJ (by omega)])
 ·
  refine br J J J (fun hc6=>?_) (fun hc6=>?_)
  ·
   exact rz rfl (by show DV.v (.int _ (-1))=DV.v (.int _ _);rw[dS (by omega)])
  ·
   exact rz rfl (by show DV.v (.int _ 0)=DV.v (.int _ _);rw[show z=0 by omega];rfl)
theorem ar6(u:Nat):dv [u%4294967296,u/4294967296]=u:=by simp only[dv];omega
theorem aC0{u:Nat}(h:u<18446744073709551616):DOk [u%4294967296,u/4294967296]:= .cons (by omega) (.cons (by omega) .nil)
theorem asJ(u:Nat):(u:Int).fdiv (2^min (32:Int).toNat IntKind.u64.bits)=((u/4294967296:Nat):Int):=by
 rw[show(2:Int)^min (32:Int).toNat IntKind.u64.bits=((4294967296:Nat):Int) from rfl,gQ _ (by decide)];rfl
theorem ahM{u:Nat}(hu:u<18446744073709551616):PF GB prog 202 [.v (.int .u64 (u:Int))] (dN u):=by
 refine fn (fu:=⟨11⟩) (hv:=by simp only[aag];exact(by decide)) func202 J J ntmps202 J J (fun C=>?_)
 refine eqF 6 (.d (.v (.int .u64 (u/4294967296:Nat)))) rfl (by rw[asJ]) ?_
 refine gx rfl<|rf (fu:=⟨0⟩) J J<|?_
 refine eqF 8 (.d (dLi [u%4294967296,u/4294967296])) rfl (by show FX.d (.sl [.v (.int _ _), .v (.int _ _)])= .d (.sl [.v (.int _ _), .v (.int _ _)]);congr 6;omega) ?_
 refine gx rfl<|cl rfl (af3 (ds:=[u%4294967296,u/4294967296]) (by simp)) rfl<|?_
 exact rz rfl (ae0 (aC0 hu) (ar6 u))
theorem aAp:PF GB prog 198 [] (dN 1):=by
 refine fn func198 J J ntmps198 J J (fun C=>?_)
 refine rf J J<|?_
 exact rz rfl (by unfold dN;rw[ane];rfl)
theorem arY{a b:Nat}(ha:(dg a).length≤100000000)(hb:(dg b).length≤100000000):PF GB prog 197 [dN a,dN b] (vI (ahD a b)):=by
 have hla:=aaE (dg a)
 have hlb:=aaE (dg b)
 refine fn func197 J J ntmps197 J J (fun C=>?_)
 refine br J J J (fun hc10=>?_) (fun hc10=>?_)
 ·
  refine cl rfl aB3 rfl<|?_
  exact rz rfl (by show DV.v (.int _ _)=DV.v (.int _ _);rw[hla,hlb,auH,awk (by omega)])
 ·
  have hl:(dg a).length=(dg b).length:=by omega
  refine lp (X:=Nat) (fun k=>[(0, .d (dN a)),(1, .d (dN b)),(5, .d (vI ((k:Nat)-1)))]) (fun k=>[]) (fun k=>k≤(dg a).length∧(dg a).drop k=(dg b).drop k) (fun k=>k) (dg a).length rfl ⟨bQ _,by rw[dJ,hl,dJ]⟩ (fun _=>rfl) (fun k hk=>?_)
  obtain⟨h1,h2⟩:=hk
  refine br J J J (fun hc21=>?_) (fun hc21=>?_)
  ·
   obtain⟨k,rfl⟩: ∃m,k=m+1:=⟨k-1,by omega⟩
   refine ix _ rfl (aaC (k:=k) (by omega) (by omega)) rfl<|ix _ rfl (aaC (k:=k) (by omega) (by omega)) rfl<|?_
   refine br J J J (fun hc32=>?_) (fun hc32=>?_)
   ·
    exact rz rfl (by show DV.v (.int _ 1)=DV.v (.int _ _);rw[aou ((aoH hl (by omega) h2).2.1 (by omega))])
   ·
    refine ix _ rfl (aaC (k:=k) (by omega) (by omega)) rfl<|ix _ rfl (aaC (k:=k) (by omega) (by omega)) rfl<|?_
    refine br J J J (fun hc41=>?_) (fun hc41=>?_)
    ·
     exact rz rfl (by show DV.v (.int _ (-1))=DV.v (.int _ _);rw[aoR ((aoH hl (by omega) h2).1 (by omega))])
    ·
     exact at_ k ⟨⟨by omega,(aoH (i:=k) hl (by omega) h2).2.2 (by omega)⟩,(by omega)⟩
  ·
   exact rz rfl (by show DV.v (.int _ 0)=DV.v (.int _ _);rw[azT];obtain rfl:k=0:=(by omega);rw[iX,iX] at h2;rw[←aaX a,h2,aaX])
theorem azi{A B W:List Nat}{i c:Nat}(hi:i<W.length)(h:dv (W.take i)+4294967296^i*c=dv (A.take i)+dv (B.take i)):
  dv ((W.set i ((A.getD i 0+B.getD i 0+c)%4294967296)).take (i+1))+4294967296^(i+1)*((A.getD i 0+B.getD i 0+c)/4294967296)=dv (A.take (i+1))+dv (B.take (i+1)):=by
 rw[abh hi,aaz A,aaz B,eX,show A.getD i 0+B.getD i 0+c=c+A.getD i 0+B.getD i 0 by omega]
 exact aqi h
theorem ayJ{a b n:Nat}{W:List Nat}{c:Nat}(hn:n=max (dg a).length (dg b).length)(hl:W.length=n+1)(h:dv (W.take n)+4294967296^n*c=dv ((dg a).take n)+dv ((dg b).take n)):dv (W.set n c)=a+b:=by
 have e:=abh (ws:=W) (k:=n) (d:=c) (by omega)
 rw[acs (by rw[aN];omega)] at e
 rw[e,h,acs (by omega),acs (by omega),aaX,aaX]
theorem aEj{a b ia ib:Nat}[ha:BN a ia][hb:BN b ib](hi:ia≤1000000000:=by decide)(hj:ib≤1000000000:=by decide):PF GB prog 216 [dN a,dN b] (dN (a+b)):=by
 have hla:=aaE (dg a)
 have hlb:=aaE (dg b)
 have hba:=ade ha.h hi
 have hbb:=ade hb.h hj
 refine fn (fu:=⟨12⟩) func216 J J ntmps216 J J (fun C=>?_)
 obtain⟨n,hn⟩: ∃n,n=max (dg a).length (dg b).length:=⟨_,rfl⟩
 refine eqF 15 (.d (vI (n:Nat))) rfl (by show FX.d (.v (.int _ _))= .d (.v (.int _ _));congr 3;split<;>omega) ?_
 refine gx rfl<|mk ((List.replicate (n+1) 0).map dU) J J (by rw[←aeP];rfl) rfl<|?_
 refine lp (X:=List Nat×Nat×Nat) (fun⟨W,c,i⟩=>[(0, .d (dN a)),(1, .d (dN b)),(5, .d (vI (n:Nat))),(6, .rw 18),(7, .d (.v (.int .u32 (c:Nat)))),(8, .d (vI (i:Nat)))]) (fun⟨W,c,i⟩=>[(18,some (.b 262 1 (W.map dU) true))]) (fun⟨W,c,i⟩=>W.length=n+1∧DOk W∧c≤1∧i≤n∧dv (W.take i)+4294967296^i*c=dv ((dg a).take i)+dv ((dg b).take i)) (fun⟨W,c,i⟩=>n-i) ⟨List.replicate (n+1) 0,0,0⟩ rfl ⟨by simp, .replicate _,by omega,by omega,by simp[dv]⟩ (fun _=>rfl) (fun⟨W,c,i⟩ hk=>?_)
 dsimp only at hk⊢
 obtain⟨h1,h2,h3,h4,h5⟩:=hk
 have hlw:=aaE W
 have hda:=adp a i
 have hdb:=adp b i
 refine br (fu1:=⟨11⟩) J J J (fun hc21=>?_) (fun hc21=>?_)
 ·
  refine mg (fu:=⟨1⟩) (X:=Unit) (fun _=>[(0, .d (dN a)),(1, .d (dN b)),(5, .d (vI (n:Nat))),(6, .rw 18),(7, .d (.v (.int .u32 (c:Nat)))),(8, .d (vI (i:Nat))),(9, .d (dU ((dg a).getD i 0))),(10, .d (.v (.int .u32 0)))]) (fun _=>[(18,some (.b 262 1 (W.map dU) true))]) (fun _=>True) [0,1,5,6,7,8,9,10] [18] rfl ?_ (fun _=>rfl) (fun _ hm=>?_)
  ·
   refine gx rfl<|?_
   refine br J J J (fun hc27=>?_) (fun hc27=>?_)
   ·
    refine ix _ rfl (abF (by omega)) rfl<|?_
    exact at_ () trivial
   ·
    refine eqF 9 (.d (dU ((dg a).getD i 0))) rfl (by rw[ad3 (by omega)];rfl) ?_
    exact at_ () trivial
  ·
   refine mg (X:=Unit) (fun _=>[(0, .d (dN a)),(1, .d (dN b)),(5, .d (vI (n:Nat))),(6, .rw 18),(7, .d (.v (.int .u32 (c:Nat)))),(8, .d (vI (i:Nat))),(9, .d (dU ((dg a).getD i 0))),(10, .d (dU ((dg b).getD i 0)))]) (fun _=>[(18,some (.b 262 1 (W.map dU) true))]) (fun _=>True) [0,1,5,6,7,8,9,10] [18] rfl ?_ (fun _=>rfl) (fun _ hm=>?_)
   ·
    refine gx rfl<|?_
    refine br J J J (fun hc35=>?_) (fun hc35=>?_)
    ·
     refine ix _ rfl (abF (by omega)) rfl<|?_
     exact at_ () trivial
    ·
     refine eqF 10 (.d (dU ((dg b).getD i 0))) rfl (by rw[ad3 (by omega)];rfl) ?_
     exact at_ () trivial
   ·
    refine cl rfl (azX (by omega) (by omega) (by omega)) rfl<|sb _ ((W.set i (((dg a).getD i 0+(dg b).getD i 0+c)%4294967296)).map dU) rfl (abF (by omega)) rfl (by rw[←aea];rfl) rfl<|?_
    exact at_ ⟨W.set i (((dg a).getD i 0+(dg b).getD i 0+c)%4294967296),((dg a).getD i 0+(dg b).getD i 0+c)/4294967296,i+1⟩ (by dsimp only;exact⟨⟨by simpa using h1,h2.set _ (by omega),by omega,by omega,azi (by omega) h5⟩,(by omega)⟩)
 ·
  obtain rfl:i=n:=by omega
  refine sb _ ((W.set i c).map dU) rfl (abF (by omega)) rfl (by rw[←aea];rfl) rfl<|fz 18 J J<|cl rfl (af3 (ds:=W.set i c) (by simp;omega)) rfl<|?_
  exact rz rfl (ae0 (h2.set _ (by omega)) (ayJ hn h1 h5))
theorem awR{A B W:List Nat}{i c d c2:Nat}(hA:DOk A)(hB:DOk B)(hi:i<W.length)(hc:c≤1)(h:dv (W.take i)+dv (B.take i)=dv (A.take i)+4294967296^i*c)
  (hd:d=if A.getD i 0<B.getD i 0+c then A.getD i 0+4294967296-(B.getD i 0+c) else A.getD i 0-(B.getD i 0+c))(hc2:c2=if A.getD i 0<B.getD i 0+c then 1 else 0):
  dv ((W.set i d).take (i+1))+dv (B.take (i+1))=dv (A.take (i+1))+4294967296^(i+1)*c2:=by
 have h1:=hA.get i
 have h2:=hB.get i
 rw[abh hi,aaz A,aaz B,eX]
 split at hd
 ·rename_i q
  rw[if_pos q] at hc2
  subst hc2 hd
  rw[jV (B.getD i 0) c]
  exact arH h (by omega) (by omega)
 ·rename_i q
  rw[if_neg q] at hc2
  subst hc2 hd
  rw[jV (B.getD i 0) c]
  exact ax6 h (by omega)
theorem awt{a b c:Nat}{W:List Nat}(hw:DOk W)(hl:W.length=(dg a).length)(hb:b≤a)(h:dv (W.take (dg a).length)+dv ((dg b).take (dg a).length)=dv ((dg a).take (dg a).length)+4294967296^(dg a).length*c):dv W=a-b:=by
 have hlb:(dg b).length≤(dg a).length:=by
  rcases iZ (dg a).length (dg b).length with q|q
  ·have:=acP (afc a) (aaH b).2.2 q
   rw[aaX,aaX] at this
   omega
  ·exact q
 rw[acs (by omega),acs hlb,acs (bQ _),aaX,aaX] at h
 have h2:=aet hw
 rw[hl] at h2
 rcases eY c with q|q
 ·subst q;omega
 ·have:4294967296^(dg a).length*1≤4294967296^(dg a).length*c:=eM _ q
  omega
theorem asz{a b ia:Nat}[ha:BN a ia](hb:b≤a)(hi:ia≤1000000000:=by decide):PF GB prog 217 [dN a,dN b] (dN (a-b)):=by
 have hla:=aaE (dg a)
 have hlb:=aaE (dg b)
 have hba:=ade ha.h hi
 refine fn (fu:=⟨9⟩) func217 J J ntmps217 J J (fun C=>?_)
 refine eqF 10 (.d (vI ((dg a).length:Nat))) rfl (by rw[hla];rfl) ?_
 refine gx rfl<|mk (fu:=⟨13⟩) ((List.replicate (dg a).length 0).map dU) J J (by rw[←aeP];rfl) rfl<|?_
 refine eqF 13 (.d (vI ((dg a).length:Nat))) rfl (by rw[hla];rfl) ?_
 refine gx rfl<|?_
 refine lp (X:=List Nat×Nat×Nat) (fun⟨W,c,i⟩=>[(0, .d (dN a)),(1, .d (dN b)),(5, .rw 11),(6, .d (.v (.int .u32 (c:Nat)))),(13, .d (vI ((dg a).length:Nat))),(14, .d (vI (i:Nat)))]) (fun⟨W,c,i⟩=>[(11,some (.b 262 1 (W.map dU) true))]) (fun⟨W,c,i⟩=>W.length=(dg a).length∧DOk W∧c≤1∧i≤(dg a).length∧dv (W.take i)+dv ((dg b).take i)=dv ((dg a).take i)+4294967296^i*c) (fun⟨W,c,i⟩=>(dg a).length-i) ⟨List.replicate (dg a).length 0,0,0⟩ rfl ⟨by simp, .replicate _,by omega,by omega,by simp[dv]⟩ (fun _=>rfl) (fun⟨W,c,i⟩ hk=>?_)
 dsimp only at hk⊢
 obtain⟨h1,h2,h3,h4,h5⟩:=hk
 have hlw:=aaE W
 have hda:=adp a i
 have hdb:=adp b i
 refine br (fu1:=⟨16⟩) J J J (fun hc15=>?_) (fun hc15=>?_)
 ·
  refine mg (X:=Unit) (fun _=>[(0, .d (dN a)),(1, .d (dN b)),(5, .rw 11),(6, .d (.v (.int .u32 (c:Nat)))),(13, .d (vI ((dg a).length:Nat))),(14, .d (vI (i:Nat))),(7, .d (vI (i:Nat))),(8, .d (dU ((dg b).getD i 0)))]) (fun _=>[(11,some (.b 262 1 (W.map dU) true))]) (fun _=>True) [0,1,5,6,13,14,7,8] [11] rfl ?_ (fun _=>rfl) (fun _ hm=>?_)
  ·
   refine gx rfl<|?_
   refine br J J J (fun hc20=>?_) (fun hc20=>?_)
   ·
    refine ix _ rfl (abF (by omega)) rfl<|?_
    exact at_ () trivial
   ·
    refine eqF 8 (.d (dU ((dg b).getD i 0))) rfl (by rw[ad3 (by omega)];rfl) ?_
    exact at_ () trivial
  ·
   refine ix _ rfl (abF (by omega)) rfl<|cl rfl (azo (by omega) (by omega) (by omega)) rfl<|sb _ ((W.set i (if(dg a).getD i 0<(dg b).getD i 0+c then(dg a).getD i 0+4294967296-((dg b).getD i 0+c) else(dg a).getD i 0-((dg b).getD i 0+c))).map dU) rfl (abF (by omega)) rfl (by rw[←aea];rfl) rfl<|?_
   exact at_ ⟨W.set i (if(dg a).getD i 0<(dg b).getD i 0+c then(dg a).getD i 0+4294967296-((dg b).getD i 0+c) else(dg a).getD i 0-((dg b).getD i 0+c)),(if(dg a).getD i 0<(dg b).getD i 0+c then 1 else 0),i+1⟩ (by dsimp only;exact⟨⟨by simpa using h1,h2.set _ (by split<;>omega),by split<;>omega,by omega,awR (afc a) (afc b) (by omega) h3 h5 J J⟩,(by omega)⟩)
 ·
  obtain rfl:i=(dg a).length:=by omega
  refine fz 11 J J<|cl rfl (af3 (ds:=W) (by omega)) rfl<|?_
  exact rz rfl (ae0 h2 (awt h2 h1 hb h5))
theorem aqP(n:Nat)(a b k:Nat)(ha:a<2^k)(h:a+b*2^k<2^n):(BitVec.ofInt n (a:Int) ||| BitVec.ofInt n ((b*2^k:Nat):Int)).toNat=a+b*2^k:=by
 rw[BitVec.toNat_or,BitVec.ofInt_natCast,BitVec.ofInt_natCast,BitVec.toNat_ofNat,BitVec.toNat_ofNat,fZ (by omega),fZ (by omega)]
 rw[←kM,Nat.or_comm,←lQ ha,kM]
 omega
theorem arS{x y:Nat}(hx:x<4294967296)(hy:y<4294967296):x*y≤18446744065119617025:=by
 have:=gS (by omega:x≤4294967295) (by omega:y≤4294967295)
 exact this
theorem aym(x y:Nat):(0:Int)≤(x:Int)*(y:Int):=by rw[←iW];omega
theorem ayp{x y:Nat}(hx:x<4294967296)(hy:y<4294967296):(x:Int)*(y:Int)≤18446744073709551615:=by
 have:=arS hx hy
 rw[←iW];omega
theorem aBq{ds:List Nat}(h:ds.length=1):dv ds=ds.getD 0 0:=by
 match ds,h with
 |[d],_=>simp[dv]
theorem acD{a:Nat}(h:(dg a).length=1):(dg a).getD 0 0=a:=by rw[←aBq h,aaX]
theorem asN{ds:List Nat}{j m:Nat}(h:j<m):(ds.take m).getD j 0=ds.getD j 0:=by
 rw[aK,aK,pN,if_pos h]
theorem anm{W:List Nat}{j m d:Nat}(hj:j<m)(hm:m≤W.length):dv ((W.set j d).take m)+4294967296^j*W.getD j 0=dv (W.take m)+4294967296^j*d:=by
 rw[List.take_set,←asN (ds:=W) hj]
 exact afh _ _ _ (by rw[cV];omega)
theorem awU{W:List Nat}{P X Y m i k c y t S:Nat}(hk:i+k<m)(hm:m≤W.length)(h:dv (W.take m)+4294967296^(i+k)*c=P+X*(4294967296^i*S))(ht:t=Y+W.getD (i+k) 0+c)(hY:Y=X*y):
  dv ((W.set (i+k) (t%4294967296)).take m)+4294967296^(i+(k+1))*(t/4294967296)=P+X*(4294967296^i*(S+4294967296^k*y)):=by
 have h1:=anm (W:=W) (d:=t%4294967296) hk hm
 rw[ht,show Y+W.getD (i+k) 0+c=c+Y+W.getD (i+k) 0 by omega] at h1⊢
 have h2:=ao0 h1 h
 rw[←jJ,eX,h2,hY,fV]
 simp only[cN,cX,kW,bN,jJ]
theorem avy{a b:Nat}{W:List Nat}{i c lb:Nat}(hlb:lb=(dg b).length)(hl:i+lb<W.length)(h:dv (W.take (i+lb))+4294967296^(i+lb)*c=dv ((dg a).take i)*b+(dg a).getD i 0*(4294967296^i*dv ((dg b).take lb))):
  dv ((W.set (i+lb) c).take (i+1+lb))=dv ((dg a).take (i+1))*b:=by
 rw[show i+1+lb=i+lb+1 by omega,abh hl,h,aaz,acs (ds:=dg b) (by omega),aaX b,cY]
 simp only[cX,kW,bN]
theorem aqA(n j:Nat):(List.replicate n 0).getD j 0=0:=by
 rw[aK,List.getElem?_replicate]
 split<;>rfl
theorem auv{k:Nat}(h:k≤1000000000):IntKind.i64.wrap ((k:Int).tdiv 32)=((k/32:Nat):Int):=by
 rw[show(k:Int).tdiv 32=((k/32:Nat):Int) from rfl,ak9];omega
theorem aBy(k:Nat):(k:Int).tmod 32=((k%32:Nat):Int):=rfl
theorem acn{a b ia ib:Nat}[ha:BN a ia][hb:BN b ib](hi:ia≤1000000000:=by decide)(hj:ib≤1000000000:=by decide):PF GB prog 156 [dN a,dN b] (dN (a*b)):=by
 have hla:=aaE (dg a)
 have hlb:=aaE (dg b)
 have hba:=ade ha.h hi
 have hbb:=ade hb.h hj
 refine fn (fu:=⟨6⟩) func156 J J ntmps156 J J (fun C=>?_)
 refine mg (fu:=⟨4⟩) (X:=Unit) (fun _=>[(0, .d (dN a)),(1, .d (dN b))]) (fun _=>[]) (fun _=>True) [0,1] [] rfl ?_ (fun _=>rfl) (fun _ hm=>?_)
 ·
  refine gx rfl<|?_
  refine cs 15 J J J (fun hg15=>?_) (fun hg15=>?_)
  ·
   refine br J J J (fun hc19=>?_) (fun hc19=>?_)
   ·
    have hd0:=adp a 0
    have hd1:=adp b 0
    refine ix _ rfl (aaC (k:=0) rfl (by omega)) rfl<|ix (hv:=by simp only[aag];exact⟨by omega,⟨(aym _ _),(ayp (adp _ _) (adp _ _))⟩⟩) _ rfl (aaC (k:=0) rfl (by omega)) rfl<|cl rfl (ahM (u:=(dg a).getD 0 0*(dg b).getD 0 0) (by have:=arS (adp a 0) (adp b 0);omega)) rfl<|?_
    exact rz rfl (by rw[acD (by omega),acD (by omega)];rfl)
   ·
    exact at_ () trivial
  ·
   exact at_ () trivial
 ·
  refine eqF 31 (.d (vI ((dg a).length:Nat))) rfl (by rw[hla];rfl) ?_
  refine gx (fu:=⟨2⟩) rfl<|?_
  refine eqF 33 (.d (vI ((dg b).length:Nat))) rfl (by rw[hlb];rfl) ?_
  refine gx rfl<|mk (fu:=⟨8⟩) ((List.replicate ((dg a).length+(dg b).length) 0).map dU) J J (by rw[←aeP];rfl) rfl<|?_
  refine eqF 37 (.d (vI ((dg a).length:Nat))) rfl (by rw[hla];rfl) ?_
  refine gx rfl<|?_
  refine lp (X:=List Nat×Nat) (fun⟨W,i⟩=>[(0, .d (dN a)),(1, .d (dN b)),(5, .rw 35),(36, .d (dN a)),(37, .d (vI ((dg a).length:Nat))),(38, .d (vI (i:Nat)))]) (fun⟨W,i⟩=>[(35,some (.b 262 1 (W.map dU) true))]) (fun⟨W,i⟩=>W.length=(dg a).length+(dg b).length∧DOk W∧i≤(dg a).length∧dv (W.take (i+(dg b).length))=dv ((dg a).take i)*b) (fun⟨W,i⟩=>(dg a).length-i) ⟨List.replicate ((dg a).length+(dg b).length) 0,0⟩ rfl ⟨by simp, .replicate _,by omega,by rw[List.take_replicate,acF];simp[dv]⟩ (fun _=>rfl) (fun⟨W,i⟩ hk=>?_)
  dsimp only at hk⊢
  obtain⟨h1,h2,h3,h4⟩:=hk
  refine br J J J (fun hc39=>?_) (fun hc39=>?_)
  ·
   refine ix (fu:=⟨15⟩) _ rfl (abF (by omega)) rfl<|?_
   refine eqF 44 (.d (vI ((dg b).length:Nat))) rfl (by rw[hlb];rfl) ?_
   refine gx rfl<|?_
   refine lp (X:=List Nat×Nat×Nat) (fun⟨W2,c,k⟩=>[(0, .d (dN a)),(1, .d (dN b)),(5, .rw 35),(6, .d (vI (i:Nat))),(7, .d (dU ((dg a).getD i 0))),(8, .d (.v (.int .u64 (c:Nat)))),(36, .d (dN a)),(37, .d (vI ((dg a).length:Nat))),(38, .d (vI (i:Nat))),(43, .d (dN b)),(44, .d (vI ((dg b).length:Nat))),(45, .d (vI (k:Nat)))]) (fun⟨W2,c,k⟩=>[(35,some (.b 262 1 (W2.map dU) true))]) (fun⟨W2,c,k⟩=>W2.length=(dg a).length+(dg b).length∧DOk W2∧c<4294967296∧k≤(dg b).length∧dv (W2.take (i+(dg b).length))+4294967296^(i+k)*c=dv ((dg a).take i)*b+(dg a).getD i 0*(4294967296^i*dv ((dg b).take k))) (fun⟨W2,c,k⟩=>(dg b).length-k) ⟨W,0,0⟩ rfl ⟨h1,h2,by omega,by omega,by rw[h4];simp[dv]⟩ (fun _=>rfl) (fun⟨W2,c,k⟩ hk=>?_)
   dsimp only at hk⊢
   obtain⟨g1,g2,g3,g4,g5⟩:=hk
   have hlw:=aaE W2
   have hw:=g2.get (i+k)
   have hda:=adp a i
   have hdb:=adp b k
   refine br (fu2:=⟨10⟩) J J J (fun hc46=>?_) (fun hc46=>?_)
   ·
    refine ix (fu:=⟨12⟩) (hv:=by simp only[aag];exact⟨⟨by omega,by omega⟩,⟨(aym _ _),(ayp (adp _ _) (adp _ _))⟩⟩) _ rfl (abF (by omega)) rfl<|?_
    obtain⟨p,hp⟩: ∃p,p=(dg a).getD i 0*(dg b).getD k 0:=⟨_,rfl⟩
    have hp1:p≤18446744065119617025:=hp▸arS hda hdb
    refine eqF 54 (.d (.v (.int .u64 (p:Nat)))) rfl (by rw[hp,iW]) ?_
    refine gx rfl<|lb (fu:=⟨4⟩) _ rfl (aaC (k:=i+k) (by omega) (by omega)) rfl<|?_
    obtain⟨t,ht⟩: ∃t,t=p+W2.getD (i+k) 0+c:=⟨_,rfl⟩
    refine eqF 64 (.d (.v (.int .u64 (t:Nat)))) rfl (by congr 3;omega) ?_
    refine gx (fu:=⟨11⟩) rfl<|?_
    refine eqF 70 (.d (dU (t%4294967296))) rfl (by show FX.d (.v (.int _ _))= .d (.v (.int _ _));congr 3) ?_
    refine gx rfl<|sb (fu:=⟨5⟩) (hv:=by simp only[aag];exact(by decide)) _ ((W2.set (i+k) (t%4294967296)).map dU) rfl (aaC (k:=i+k) (by omega) (by omega)) rfl (by(rw[show((i:Int)+k).toNat=i+k by omega,←aea])<;>rfl) rfl<|?_
    refine eqF 73 (.d (.v (.int .u64 (t/4294967296:Nat)))) rfl (by rw[asJ]) ?_
    refine gx rfl<|?_
    exact at_ ⟨W2.set (i+k) (t%4294967296),t/4294967296,k+1⟩ (by dsimp only;exact⟨⟨by simpa using g1,g2.set _ (by omega),by omega,by omega,by rw[aaz];exact awU (by omega) (by omega) g5 ht hp⟩,(by omega)⟩)
   ·
    obtain rfl:k=(dg b).length:=by omega
    refine eqF 78 (.d (vI ((dg b).length:Nat))) rfl (by rw[hlb];rfl) ?_
    refine gx (fu:=⟨3⟩) rfl<|?_
    refine eqF 81 (.d (dU c)) rfl (by show FX.d (.v (.int _ _))= .d (.v (.int _ _));congr 3;omega) ?_
    refine gx rfl<|sb _ ((W2.set (i+(dg b).length) c).map dU) rfl (aaC (k:=i+(dg b).length) (by omega) (by omega)) rfl (by(rw[show((i:Int)+((dg b).length:Nat)).toNat=i+(dg b).length by omega,←aea])<;>rfl) rfl<|?_
    exact at_ ⟨W2.set (i+(dg b).length) c,i+1⟩ (by dsimp only;exact⟨⟨by simpa using g1,g2.set _ g3,by omega,avy rfl (by omega) g5⟩,(by omega)⟩)
  ·
   obtain rfl:i=(dg a).length:=by omega
   refine fz 35 J J<|cl rfl (af3 (ds:=W) (by omega)) rfl<|?_
   exact rz rfl (ae0 h2 (by have:=h4;rw[acs (by omega),acs (by omega),aaX] at this;exact this))
theorem akR(x s:Nat):x*2^s=x*2^s%4294967296+4294967296*(x*2^s/4294967296):=by omega
theorem azd{x s:Nat}(hx:x<4294967296)(hs:s<32):x*2^s/4294967296<2^s:=by
 rw[jT (by decide),bN (2^s)]
 exact mQ hx (bQ _) (dR (by decide))
theorem asU{s:Nat}(hs:s<32):2^s*2^(32-s)=4294967296:=by rw[←fV,show s+(32-s)=32 by omega]
theorem aza(x s:Nat)(hs:s<32):x*2^s%4294967296=x%2^(32-s)*2^s:=by
 rw[←asU hs,bN (2^s),qM]
theorem awB{x s:Nat}(hx:x<4294967296)(hs:s<32):x*2^s<18446744073709551616:=by
 have h1:2^s≤2^31:=bW (by decide) (by omega)
 have:=mQ hx h1 (by decide)
 omega
theorem azL{w x s:Nat}(hw:w<2^s)(hs:s<32):(BitVec.ofInt 32 (w:Int) ||| BitVec.ofInt 32 ((x*2^s%4294967296:Nat):Int)).toNat=w+x*2^s%4294967296:=by
 rw[aza x s hs]
 refine aqP 32 _ _ _ hw ?_
 have h1:x%2^(32-s)+1≤2^(32-s):=dZ _ (dR (by decide))
 have h2:=bT (2^s) h1
 rw[bN (2^(32-s)),asU hs,cY,mU] at h2
 show _<4294967296
 omega
theorem asY{h:Nat}(hh:h<4294967296):(BitVec.ofInt 32 ((0:Nat):Int) ||| BitVec.ofInt 32 (h:Int)).toNat=h:=by
 have:=aqP 32 0 h 0 (by decide) (by simpa using hh)
 simpa using this
theorem aus(k:Nat):2^k=4294967296^(k/32)*2^(k%32):=by
 rw[show(4294967296:Nat)=2^32 from rfl,←oU,←fV,pT]
theorem getD_set_ne{W:List Nat}{i j d:Nat}(h:i≠j):(W.set i d).getD j 0=W.getD j 0:=by
 rw[aK,aK,List.getElem?_set_ne h]
theorem ajC{W:List Nat}{i d:Nat}(h:i<W.length):(W.set i d).getD i 0=d:=by
 rw[aK,lV h];rfl
theorem awD{A W:List Nat}{k q s i x:Nat}(hq:q=k/32)(hs:s=k%32)(hl:q+i+1<W.length)(hx:x=A.getD i 0)
  (h:dv (W.take (q+i+1))=dv (A.take i)*2^k):
  dv (((W.set (q+i) (W.getD (q+i) 0+x*2^s%4294967296)).set (q+i+1) (x*2^s/4294967296)).take (q+(i+1)+1))=dv (A.take (i+1))*2^k:=by
 have e1:=anm (W:=W) (j:=q+i) (m:=q+i+1) (d:=W.getD (q+i) 0+x*2^s%4294967296) (by omega) (by omega)
 rw[show q+(i+1)+1=q+i+1+1 by omega,abh (by rw[aN];omega),aaz A,←hx]
 have e2:dv ((W.set (q+i) (W.getD (q+i) 0+x*2^s%4294967296)).take (q+i+1))=dv (A.take i)*2^k+4294967296^(q+i)*(x*2^s%4294967296):=by
  rw[cN,h] at e1;omega
 rw[e2,eX,cX,jJ,←cN,←akR,cY,aus k,←hq,←hs,fV]
 simp only[cX,kW,bN]
theorem apb{a k ia:Nat}[ha:BN a ia](hk:k≤1000000000)(hi:ia≤1000000000:=by decide):PF GB prog 277 [dN a,vI (k:Nat)] (dN (a*2^k)):=by
 have hla:=aaE (dg a)
 have hba:=ade ha.h hi
 refine fn (fu:=⟨9⟩) func277 J J ntmps277 J J (fun C=>?_)
 refine eqF 11 (.d (vI (k/32:Nat))) rfl (by show FX.d (.v (.int _ _))= .d (.v (.int _ _));rw[auv hk]) ?_
 refine gx (fu:=⟨2⟩) rfl<|?_
 refine eqF 13 (.d (vI ((dg a).length:Nat))) rfl (by rw[hla];rfl) ?_
 refine gx (fu:=⟨2⟩) rfl<|?_
 refine eqF 15 (.d (vI (k/32+(dg a).length+1:Nat))) rfl (by show FX.d (.v (.int _ _))= .d (.v (.int _ _));congr 3) ?_
 refine gx rfl<|mk (fu:=⟨7⟩) (hv:=by simp only[aag];exact(by decide)) ((List.replicate (k/32+(dg a).length+1) 0).map dU) J J (by rw[←aeP];rfl) rfl<|?_
 refine eqF 18 (.d (vI (k%32:Nat))) rfl (by show FX.d (.v (.int _ _))= .d (.v (.int _ _));rw[aBy]) ?_
 refine gx (fu:=⟨9⟩) rfl<|?_
 refine eqF 21 (.d (vI ((dg a).length:Nat))) rfl (by rw[hla];rfl) ?_
 refine gx rfl<|?_
 refine lp (X:=List Nat×Nat) (fun⟨W,i⟩=>[(0, .d (dN a)),(1, .d (vI (k:Nat))),(5, .rw 16),(6, .d (.v (.int .u64 (k%32:Nat)))),(20, .d (dN a)),(21, .d (vI ((dg a).length:Nat))),(22, .d (vI (i:Nat)))]) (fun⟨W,i⟩=>[(16,some (.b 262 1 (W.map dU) true))]) (fun⟨W,i⟩=>W.length=k/32+(dg a).length+1∧DOk W∧i≤(dg a).length∧dv (W.take (k/32+i+1))=dv ((dg a).take i)*2^k∧W.getD (k/32+i) 0<2^(k%32)∧ ∀j,k/32+i<j→W.getD j 0=0) (fun⟨W,i⟩=>(dg a).length-i) ⟨List.replicate (k/32+(dg a).length+1) 0,0⟩ rfl ⟨by simp, .replicate _,by omega,by rw[List.take_replicate,acF];simp[dv],by rw[aqA];exact dR (by decide),fun j _=>aqA _ _⟩ (fun _=>rfl) (fun⟨W,i⟩ hk=>?_)
 dsimp only at hk⊢
 obtain⟨h1,h2,h3,h4,h5,h6⟩:=hk
 have hlw:=aaE W
 have hda:=adp a i
 have hsk:k%32<32:=dZ _ (by decide)
 have hpp:2^(k%32)≤2^31:=bW (by decide) (by omega)
 refine br J J J (fun hc23=>?_) (fun hc23=>?_)
 ·
  refine ix (fu:=⟨11⟩) (hv:=by simp only[aag];exact⟨by omega,(by omega)⟩) _ rfl (abF (by omega)) rfl<|?_
  have hhi:=azd hda hsk
  have hfit0:=awB hda hsk
  have hor:=azL (x:=(dg a).getD i 0) h5 hsk
  have hfit:W.getD (k/32+i) 0+(dg a).getD i 0*2^(k%32)%4294967296<4294967296:=by rw[←hor];exact BitVec.isLt _
  have hlp:=akR ((dg a).getD i 0) (k%32)
  refine eqF 30 (.d (.v (.int .u64 ((dg a).getD i 0*2^(k%32):Nat)))) rfl (by show FX.d (.v (.int _ _))= .d (.v (.int _ _));rw[aee _ (k%32) (by omega) hfit0 (by omega)]) ?_
  obtain⟨t,ht⟩: ∃t,t=(dg a).getD i 0*2^(k%32):=⟨_,rfl⟩
  simp only[←ht] at hhi hfit0 hor hfit hlp
  rw[←ht]
  refine gx (fu:=⟨8⟩) rfl<|?_
  refine eqF 33 (.d (vI (k/32:Nat))) rfl (by show FX.d (.v (.int _ _))= .d (.v (.int _ _));rw[auv hk]) ?_
  refine gx rfl<|lb (fu:=⟨2⟩) _ rfl (aaC (k:=k/32+i) (by omega) (by omega)) rfl<|?_
  refine eqF 39 (.d (dU (t%4294967296))) rfl (by show FX.d (.v (.int _ _))= .d (.v (.int _ _));congr 3) ?_
  refine gx (fu:=⟨1⟩) rfl<|?_
  refine eqF 40 _ rfl (congrArg (fun z:Nat=>FX.d (.v (.int .u32 (z:Int)))) hor) ?_
  refine gx rfl<|sb (fu:=⟨6⟩) _ ((W.set (k/32+i) (W.getD (k/32+i) 0+t%4294967296)).map dU) rfl (aaC (k:=k/32+i) (by omega) (by omega)) rfl (by(rw[show(((k/32:Nat):Int)+i).toNat=k/32+i by omega];simp only[jL];rfl)<;>rfl) rfl<|?_
  refine eqF 44 (.d (vI (k/32:Nat))) rfl (by show FX.d (.v (.int _ _))= .d (.v (.int _ _));rw[auv hk]) ?_
  refine gx rfl<|lb (fu:=⟨0⟩) _ rfl (aaC (k:=k/32+i+1) (by omega) (by rw[aN];omega)) rfl<|?_
  refine eqF 49 (.d (dU 0)) rfl (by rw[getD_set_ne (by omega),h6 _ (by omega)]) ?_
  refine gx (fu:=⟨2⟩) (hv:=by simp only[aag];exact(by decide)) rfl<|?_
  refine eqF 51 (.d (.v (.int .u64 (t/4294967296:Nat)))) rfl (by rw[asJ]) ?_
  refine gx (fu:=⟨1⟩) rfl<|?_
  refine eqF 52 (.d (dU (t/4294967296))) rfl (by show FX.d (.v (.int _ _))= .d (.v (.int _ _));congr 3;omega) ?_
  refine gx (fu:=⟨1⟩) rfl<|?_
  refine eqF 53 _ rfl (congrArg (fun z:Nat=>FX.d (.v (.int .u32 (z:Int)))) (asY (by omega))) ?_
  refine gx rfl<|sb _ (((W.set (k/32+i) (W.getD (k/32+i) 0+t%4294967296)).set (k/32+i+1) (t/4294967296)).map dU) rfl (aaC (k:=k/32+i+1) (by omega) (by rw[aN];omega)) rfl (by(rw[show(((k/32:Nat):Int)+i+1).toNat=k/32+i+1 by omega];simp only[jL];rfl)<;>rfl) rfl<|?_
  exact at_ ⟨(W.set (k/32+i) (W.getD (k/32+i) 0+t%4294967296)).set (k/32+i+1) (t/4294967296),i+1⟩ (by dsimp only;exact⟨⟨by simpa using h1,(h2.set _ hfit).set _ (by omega),by omega,by have q:=awD (x:=(dg a).getD i 0) J J (by omega) rfl h4;rw[←ht] at q;exact q,by rw[show k/32+(i+1)=k/32+i+1 by omega,ajC (by simp;omega)];exact hhi,fun j hj=>by rw[getD_set_ne (by omega),getD_set_ne (by omega)];exact h6 j (by omega)⟩,(by omega)⟩)
 ·
  obtain rfl:i=(dg a).length:=by omega
  refine fz 16 J J<|cl rfl (af3 (ds:=W) (by omega)) rfl<|?_
  exact rz rfl (ae0 h2 (by have:=h4;rw[acs (by omega),acs (by omega),aaX] at this;exact this))
theorem aq4{a k:Nat}(h:(dg a).length≤k/32):a/2^k=0:=by
 refine iM ?_
 have h1:=aet (afc a)
 rw[aaX] at h1
 have h2:4294967296^(dg a).length≤4294967296^(k/32):=bW (by decide) h
 have h3:4294967296^(k/32)*1≤4294967296^(k/32)*2^(k%32):=eM _ (dR (by decide))
 rw[aus k]
 omega
theorem al1{ds:List Nat}(h:DOk ds)(q:Nat):dv (ds.drop q)=dv ds/4294967296^q:=by
 rcases iZ ds.length q with hq|hq
 ·rw[jK (by omega)]
  have h1:=aet h
  have h2:4294967296^ds.length≤4294967296^q:=bW (by decide) (by omega)
  rw[iM (by omega)];rfl
 ·have e:=aiz ds q hq
  have h1:=aet (h.take q)
  rw[cV,fT hq] at h1
  rw[e,lZ _ _ (dR (by decide)),iM h1,dT]
theorem atM{ds:List Nat}(h:DOk ds)(i:Nat):dv ds/4294967296^i=ds.getD i 0+4294967296*ds.getD (i+1) 0+18446744073709551616*(dv ds/4294967296^(i+2)):=by
 have e0:=al1 h i
 have e2:=al1 h (i+2)
 rw[←e0,←e2]
 have g0:ds.getD i 0=(ds.drop i).getD 0 0:=by rw[aK,aK,nR];rfl
 have g1:ds.getD (i+1) 0=(ds.drop i).getD 1 0:=by rw[aK,aK,nR]
 have g2:ds.drop (i+2)=(ds.drop i).drop 2:=by rw[sX]
 rw[g0,g1,g2]
 match ds.drop i with
 |[]=>rfl
 |[u]=>simp[dv]
 |u::v::t=>simp only[dv,List.getD_cons_zero,List.getD_cons_succ,rM,iX];omega
theorem aq3{D s i u v w Z:Nat}(hs:s<32)(hZ:D/4294967296^i=u+4294967296*v+18446744073709551616*Z)(hw:w=(u+v*4294967296)/2^s%4294967296):(D/2^s)%4294967296^(i+1)=(D/2^s)%4294967296^i+4294967296^i*w:=by
 rw[eX,Nat.mod_mul]
 congr 2
 rw[lW,bN (2^s),←lW,hZ,hw]
 have h1:18446744073709551616=2^s*(2^(32-s)*4294967296):=by rw[←cX,asU hs]
 rw[h1,cX (2^s),lZ _ _ (dR (by decide)),bN v]
 rw[bN (2^(32-s)),cX,mJ]
theorem auz{a k:Nat}{W:List Nat}{q s:Nat}(hq:q=k/32)(hs:s=k%32)(hl:W.length=(dg a).length-q)(h:dv (W.take ((dg a).length-q))=(dv ((dg a).drop q)/2^s)%4294967296^((dg a).length-q)):dv W=a/2^k:=by
 rw[acs (by omega)] at h
 have h1:=aet ((afc a).drop q)
 rw[gJ] at h1
 have h2:=jM (dv ((dg a).drop q)) (2^s)
 rw[h,fZ (by omega),al1 (afc a),aaX,aus k,←hq,←hs,lW]
theorem aze{a k ia:Nat}[ha:BN a ia](hk:k≤1000000000)(hi:ia≤1000000000:=by decide):PF GB prog 278 [dN a,vI (k:Nat)] (dN (a/2^k)):=by
 have hla:=aaE (dg a)
 have hba:=ade ha.h hi
 refine fn (fu:=⟨10⟩) func278 J J ntmps278 J J (fun C=>?_)
 refine eqF 12 (.d (vI (k/32:Nat))) rfl (by show FX.d (.v (.int _ _))= .d (.v (.int _ _));rw[auv hk]) ?_
 refine gx (fu:=⟨2⟩) rfl<|?_
 refine eqF 14 (.d (vI ((dg a).length:Nat))) rfl (by rw[hla];rfl) ?_
 refine gx rfl<|?_
 refine br (fu2:=⟨6⟩) (v2:=fun _=>by simp only[aag];exact(by decide)) J J J (fun hc15=>?_) (fun hc15=>?_)
 ·
  exact rz rfl (by rw[aq4 (by omega),adq];rfl)
 ·
  refine eqF 17 (.d (vI (k%32:Nat))) rfl (by show FX.d (.v (.int _ _))= .d (.v (.int _ _));rw[aBy]) ?_
  refine gx (fu:=⟨9⟩) rfl<|?_
  refine eqF 21 (.d (vI (k/32:Nat))) rfl (by show FX.d (.v (.int _ _))= .d (.v (.int _ _));rw[auv hk]) ?_
  refine gx rfl<|sc' (fu:=⟨0⟩) (k/32) (dg a).length _ J J (by rw[hla]) rfl (anv _) (by omega) (by omega) rfl<|?_
  obtain⟨I,hI⟩: ∃I,I=(dg a).drop (k/32):=⟨_,rfl⟩
  have hIl:I.length=(dg a).length-k/32:=by rw[hI,gJ]
  have hIm:=aaE I
  have hIo:DOk I:=hI▸(afc a).drop _
  refine eqF 22 (.d (dLi I)) rfl (by show FX.d (.sl _)= .d (.sl _);rw[hI,←hla,fX,gL]) ?_
  refine gx (fu:=⟨7⟩) rfl<|?_
  refine eqF 24 (.d (vI (I.length:Nat))) rfl (by rw[hIm];rfl) ?_
  refine gx rfl<|mk (fu:=⟨8⟩) ((List.replicate I.length 0).map dU) J J (by rw[←aeP];rfl) rfl<|?_
  refine eqF 27 (.d (vI (I.length:Nat))) rfl (by rw[hIm];rfl) ?_
  refine gx rfl<|?_
  refine lp (X:=List Nat×Nat) (fun⟨W,i⟩=>[(0, .d (dN a)),(5, .d (.v (.int .u64 (k%32:Nat)))),(6, .d (dLi I)),(7, .rw 25),(26, .d (dLi I)),(27, .d (vI (I.length:Nat))),(28, .d (vI (i:Nat)))]) (fun⟨W,i⟩=>[(25,some (.b 262 1 (W.map dU) true))]) (fun⟨W,i⟩=>W.length=I.length∧DOk W∧i≤I.length∧dv (W.take i)=(dv I/2^(k%32))%4294967296^i) (fun⟨W,i⟩=>I.length-i) ⟨List.replicate I.length 0,0⟩ rfl ⟨by simp, .replicate _,by omega,by simp[dv,Nat.mod_one]⟩ (fun _=>rfl) (fun⟨W,i⟩ hk=>?_)
  dsimp only at hk⊢
  obtain⟨h1,h2,h3,h4⟩:=hk
  have hlw:=aaE W
  have hda:=hIo.get i
  have hdb:=hIo.get (i+1)
  have hsk:k%32<32:=dZ _ (by decide)
  refine br J J J (fun hc29=>?_) (fun hc29=>?_)
  ·
   refine ix (fu:=⟨13⟩) _ rfl (abF (by omega)) rfl<|?_
   refine mg (fu:=⟨6⟩) (hv:=fun _ _=>by simp only[aag];exact(by omega)) (X:=Unit) (fun _=>[(0, .d (dN a)),(5, .d (.v (.int .u64 (k%32:Nat)))),(6, .d (dLi I)),(7, .rw 25),(26, .d (dLi I)),(27, .d (vI (I.length:Nat))),(28, .d (vI (i:Nat))),(8, .d (vI (i:Nat))),(10, .d (.v (.int .u64 (I.getD i 0+I.getD (i+1) 0*4294967296:Nat))))]) (fun _=>[(25,some (.b 262 1 (W.map dU) true))]) (fun _=>True) [0,5,6,7,26,27,28,8,10] [25] rfl ?_ (fun _=>rfl) (fun _ hm=>?_)
   ·
    refine gx (fu:=⟨6⟩) rfl<|?_
    refine eqF 38 (.d (vI (I.length:Nat))) rfl (by rw[hIm];rfl) ?_
    refine gx rfl<|?_
    refine br J J J (fun hc39=>?_) (fun hc39=>?_)
    ·
     refine ix (fu:=⟨3⟩) (hv:=by simp only[aag];exact⟨by omega,(by decide)⟩) _ rfl (aaC (k:=i+1) (by omega) (by omega)) rfl<|?_
     refine eqF 47 (.d (.v (.int .u64 (I.getD (i+1) 0*4294967296:Nat)))) rfl (by show FX.d (.v (.int _ _))= .d (.v (.int _ _));rw[aee _ 32 (by decide) (by show _*4294967296<_;omega) rfl]) ?_
     refine gx (fu:=⟨1⟩) rfl<|?_
     refine eqF 48 _ rfl (congrArg (fun z:Nat=>FX.d (.v (.int .u64 (z:Int)))) (aqP 64 (I.getD i 0) (I.getD (i+1) 0) 32 hda (by show _+_*4294967296<18446744073709551616;omega))) ?_
     refine gx rfl<|?_
     exact at_ () trivial
    ·
     refine eqF 10 (.d (.v (.int .u64 (I.getD i 0+I.getD (i+1) 0*4294967296:Nat)))) rfl (by rw[ad3 (by omega:I.length≤i+1),kV,dY]) ?_
     exact at_ () trivial
   ·
    refine eqF 53 (.d (.v (.int .u64 ((I.getD i 0+I.getD (i+1) 0*4294967296)/2^(k%32):Nat)))) rfl (by show FX.d (.v (.int _ _))= .d (.v (.int _ _));rw[aeV _ (k%32) (by omega) (by omega)]) ?_
    refine gx (fu:=⟨1⟩) rfl<|?_
    obtain⟨w,hw⟩: ∃w,w=(I.getD i 0+I.getD (i+1) 0*4294967296)/2^(k%32)%4294967296:=⟨_,rfl⟩
    have hw1:w<4294967296:=hw▸dZ _ (by decide)
    refine eqF 54 (.d (dU w)) rfl (by show FX.d (.v (.int _ _))= .d (.v (.int _ _));rw[hw];congr 3) ?_
    refine gx rfl<|sb _ ((W.set i w).map dU) rfl (abF (by omega)) rfl (by(rw[←aea];rfl)<;>rfl) rfl<|?_
    exact at_ ⟨W.set i w,i+1⟩ (by dsimp only;exact⟨⟨by simpa using h1,h2.set _ (by omega),by omega,by rw[abh (by omega),h4];exact(aq3 hsk (atM hIo i) hw).symm⟩,(by omega)⟩)
  ·
   refine fz 25 J J<|cl rfl (af3 (ds:=W) (by omega)) rfl<|?_
   exact rz rfl (ae0 h2 (by obtain rfl:i=I.length:=(by omega);rw[hIl] at h1 h4;rw[hI] at h4;exact auz rfl rfl h1 h4))
theorem agD{a k:Nat}(h:a<4294967296^k):(dg a).length≤k:=by
 rcases iZ k (dg a).length with q|q
 ·have h1:=af8 (aaH a).2.2 (by intro e;rw[e] at q;simp at q)
  rw[aaX] at h1
  have h2:4294967296^k≤4294967296^((dg a).length-1):=bW (by decide) (by omega)
  omega
 ·exact q
theorem awm{a:Nat}(h:(dg a).length=2):(dg a).getD 0 0+(dg a).getD 1 0*4294967296=a:=by
 have e:=aaX a
 revert e
 match dg a,h with
 |[x,y],_=>intro e;simp[dv] at e⊢;omega
def asH(a:Nat):DV:= .tp [.v (.int .u64 ((if a<18446744073709551616 then a else 0:Nat):Int)),vB (decide (a<18446744073709551616))]
theorem aqe{a:Nat}(h:a<18446744073709551616):asH a= .tp [.v (.int .u64 (a:Int)),vB true]:=by unfold asH;rw[if_pos h,decide_eq_true h]
theorem avE{a:Nat}(h: ¬a<18446744073709551616):asH a= .tp [.v (.int .u64 0),vB false]:=by unfold asH;rw[if_neg h,decide_eq_false h];rfl
theorem adg(a:Nat):a<4294967296^(dg a).length:=by have:=aet (afc a);rwa [aaX] at this
theorem ao1{a ia:Nat}[ha:BN a ia](hi:ia≤1000000000:=by decide):PF GB prog 242 [dN a] (asH a):=by
 have hla:=aaE (dg a)
 have hba:=ade ha.h hi
 have hlt:=adg a
 have hd00:=adp a 0
 refine fn (fu:=⟨11⟩) func242 J J ntmps242 J J (fun C=>?_)
 refine eqF 5 (.d (vI ((dg a).length:Nat))) rfl (by rw[hla];rfl) ?_
 refine gx rfl<|?_
 refine br J J J (fun hc6=>?_) (fun hc6=>?_)
 ·
  exact rz rfl (by rw[show(dg a).length=0 by omega] at hlt;obtain rfl:a=0:=(by omega);rfl)
 ·
  refine br J J J (fun hc8=>?_) (fun hc8=>?_)
  ·
   refine ix (fu:=⟨2⟩) _ rfl (aaC (k:=0) rfl (by omega)) rfl<|?_
   refine eqF 13 (.d (.v (.int .u64 (a:Nat)))) rfl (by rw[acD (by omega)]) ?_
   refine gx rfl<|?_
   exact rz rfl (by rw[show(dg a).length=1 by omega] at hlt;rw[aqe (by omega),←acD (a:=a) (by omega),acD (a:=a) (by omega)];rfl)
  ·
   refine br J J J (fun hc14=>?_) (fun hc14=>?_)
   ·
    have hd0:=adp a 0
    have hd1:=adp a 1
    refine ix (hv:=by simp only[aag];exact⟨by omega,(by decide)⟩) _ rfl (aaC (k:=1) rfl (by omega)) rfl<|ix (fu:=⟨3⟩) _ rfl (aaC (k:=0) rfl (by omega)) rfl<|?_
    refine eqF 25 (.d (.v (.int .u64 (a:Nat)))) rfl (congrArg (fun z:Nat=>FX.d (.v (.int .u64 (z:Int)))) (by rw[aee _ 32 (by decide) (by show _*4294967296<_;omega) rfl,BitVec.or_comm];exact(aqP 64 ((dg a).getD 0 0) ((dg a).getD 1 0) 32 hd0 (by show _+_*4294967296<18446744073709551616;omega)).trans (awm (by omega)))) ?_
    refine gx rfl<|?_
    exact rz rfl (by rw[show(dg a).length=2 by omega] at hlt;rw[aqe (by omega)];rfl)
   ·
    exact rz rfl (by rw[avE];rfl;intro h;have:=agD (a:=a) (k:=2) (by omega);omega)
theorem aBK{G:Gh}{ds:List Nat}{v:Value}(hd:DOk ds)(h:Is G (dLi ds) v): ∃x:SV,v=x.v∧IsD G x ds:=by
 obtain⟨x,rfl,h1⟩:=aCf.1 h
 exact⟨x,rfl,hd,h1⟩
theorem IsN.is{G:Gh}{k n:Nat}{z:SV}(h:IsN k G z n):Is G (dN n) z.v:=(aEh h.lt).2 ⟨z,rfl,h⟩
theorem op1{G:Gh}{ds:List Nat}{vs:List Value}(hd:DOk ds)(h:IsLs G [dLi ds] vs): ∃x:SV,vs=[x.v]∧IsD G x ds:=by
 obtain⟨v,m,rfl,h1,h2⟩:=aac.1 h
 cases aaJ.1 h2
 obtain⟨x,rfl,h3⟩:=aBK hd h1
 exact⟨x,rfl,h3⟩
theorem op2{G:Gh}{a b:Nat}{vs:List Value}(h:IsLs G [dN a,dN b] vs): ∃x y:SV,vs=[x.v,y.v]∧IsD G x (dg a)∧IsD G y (dg b):=by
 obtain⟨v,m,rfl,h1,h2⟩:=aac.1 h
 obtain⟨y,rfl,h4⟩:=op1 (aaH b).2.1 h2
 obtain⟨x,rfl,h3⟩:=aBK (aaH a).2.1 h1
 exact⟨x,y,rfl,h3,h4⟩
section
variable {GB:Gh} {a b i j:Nat}
theorem agA[h:BN a i](hi:i≤1000000000):(dg a).length≤31250001:=by have:=aa8 h.h;omega
theorem awW{ds:List Nat}(hd:DOk ds)(hl:ds.length≤1125899906842624):PF GB prog 285 [dLi ds] (vB (decide (Nrm ds))):=fun G vs _ hv=>by
 obtain⟨x,rfl,hx⟩:=op1 hd hv
 exact(ard hx hl).mono fun v G' _ h=>aaZ.2 h
theorem ajx[h:BN a i](hi:i≤1000000000:=by decide):PF GB prog 231 [dN a] (vI (bl a:Nat)):=fun G vs _ hv=>by
 obtain⟨x,rfl,hx⟩:=op1 (aaH a).2.1 hv
 have:=agA (a:=a) hi
 exact(awx hx (by omega)).mono fun v G' _ h=>aaZ.2 (by rw[h,aaX])
theorem akL[h:BN a i](hi:i≤1000000000:=by decide):PF GB prog 237 [dN a] (dN a):=fun G vs _ hv=>by
 obtain⟨x,rfl,hx⟩:=op1 (aaH a).2.1 hv
 have:=agA (a:=a) hi
 refine(ali (k:=i) hx (by rw[aaX];exact h.h) (by omega)).mono fun v G' _ h=>?_
 obtain⟨z,rfl,h⟩:=h
 rw[aaX] at h;exact h.is
theorem ahC(h:a<18446744073709551616):PF GB prog 238 [.v (.int .u64 (a:Nat))] (dN a):=fun G vs _ hv=>by
 obtain⟨v,m,rfl,h1,h2⟩:=aac.1 hv
 cases aaJ.1 h2
 rw[aaZ.1 h1]
 refine(afo h).mono fun v G' _ h=>?_
 obtain⟨z,rfl,h⟩:=h
 exact h.is
theorem aup(h:a<18446744073709551616):PF GB prog 235 [dN a] (.tp [.v (.int .u64 (a:Nat)),vB true]):=fun G vs _ hv=>by
 obtain⟨x,rfl,hx⟩:=op1 (aaH a).2.1 hv
 have:BN a 64:=⟨h⟩
 have:=agA (a:=a) (i:=64) (by decide)
 refine(alq hx (by omega)).mono fun v G' _ e=>?_
 rw[aaX,if_pos h,decide_eq_true h] at e
 subst e
 exact adM.2 ⟨_,rfl, .cons (aaZ.2 rfl) (.cons (aaZ.2 rfl) .nil)⟩
theorem aEs[h:BN a i][k:BN b j](hi:i≤1000000000:=by decide)(hj:j≤1000000000:=by decide):PF GB prog 269 [dN a,dN b] (dN (a+b)):=fun G vs _ hv=>by
 obtain⟨x,y,rfl,hx,hy⟩:=op2 hv
 have:=agA (a:=a) hi
 have:=agA (a:=b) hj
 refine(azy (kk:=i+j+1) hx hy (by rw[aaX,aaX];exact afR h.h k.h) (by omega) (by omega)).mono fun v G' _ h=>?_
 obtain⟨z,rfl,h⟩:=h
 rw[aaX,aaX] at h;exact h.is
theorem aCU[h:BN a i][k:BN b j](hi:i≤1000000000:=by decide)(hj:j≤1000000000:=by decide):PF GB prog 270 [dN a,dN b] (.tp [dN (a-b),vB (decide (b≤a))]):=fun G vs _ hv=>by
 obtain⟨x,y,rfl,hx,hy⟩:=op2 hv
 have:=agA (a:=a) hi
 have:=agA (a:=b) hj
 refine(ayI (kk:=i) hx hy (by rw[aaX];exact h.h) (by omega) (by omega)).mono fun v G' _ h=>?_
 obtain⟨z,rfl,h⟩:=h
 rw[aaX,aaX] at h⊢
 exact adM.2 ⟨_,rfl, .cons h.is (.cons (aaZ.2 rfl) .nil)⟩
theorem aqH[h:BN a i][k:BN b j](hi:i≤1000000000:=by decide)(hj:j≤1000000000:=by decide):PF GB prog 230 [dN a,dN b] (dN (a*b)):=fun G vs _ hv=>by
 obtain⟨x,y,rfl,hx,hy⟩:=op2 hv
 have:=agA (a:=a) hi
 have:=agA (a:=b) hj
 refine(azY (kk:=i+j) hx hy (by rw[aaX,aaX];exact abn h.h k.h) (by omega) (by omega)).mono fun v G' _ h=>?_
 obtain⟨z,rfl,h⟩:=h
 rw[aaX,aaX] at h;exact h.is
theorem apS[h:BN a i][k:BN b j](hb:0<b)(hi:i≤1000000000:=by decide)(hj:j≤1000000000:=by decide):PF GB prog 233 [dN a,dN b] (.tp [dN (a/b),dN (a%b),vB true]):=fun G vs _ hv=>by
 obtain⟨x,y,rfl,hx,hy⟩:=op2 hv
 have:=agA (a:=a) hi
 have:=agA (a:=b) hj
 refine(ahk (k1:=i) (k2:=j) hx hy (by rw[aaX];exact hb) (by rw[aaX,aaX];exact fY (jM _ _) h.h) (by rw[aaX,aaX];exact oL (dZ _ hb) k.h) (by omega) (by omega)).mono fun v G' _ h=>?_
 obtain⟨z,r,rfl,h,h'⟩:=h
 rw[aaX,aaX] at h h'
 exact adM.2 ⟨_,rfl, .cons h.is (.cons h'.is (.cons (aaZ.2 rfl) .nil))⟩
theorem aBw[h:BN a i][k:BN b j](hi:i≤1000000000:=by decide)(hj:j≤1000000000:=by decide):PF GB prog 232 [dN a,dN b] (dN (Nat.gcd a b)):=fun G vs _ hv=>by
 obtain⟨x,y,rfl,hx,hy⟩:=op2 hv
 have:=agA (a:=a) hi
 have:=agA (a:=b) hj
 have e: ∀k',k'≤i+j→(2:Nat)^k'≤2^(i+j):=fun k' h=>bW (by decide) h
 have:=e i (by omega)
 have:=e j (by omega)
 have:=h.h
 have:=k.h
 refine(azK (k:=i+j) (k0:=i+j) hx hy (by rw[aaX];omega) (by rw[aaX];omega) (by omega) (by rw[aaX,aaX];exact aob h.h k.h) (by omega) (by omega)).mono fun v G' _ h=>?_
 obtain⟨z,rfl,h⟩:=h
 rw[aaX,aaX] at h;exact h.is
end
section
variable {GB:Gh} {C:Ctx} {n:Nat} {Q0:Exit→Act→World→Prop} {fr fr' fr1 fr2:FrX} {own own' own1 own2:OwX} {cf cf' cf1 cf2:Cf} {vc vc1 vc2:List Prop}
theorem rzI{fb:Func}{e:Exit}{ds:List DV}{rv:DV}(hr:awo tt fr own fb.results.toList=some ds)(hd: ∀G y,Is G (afU ds) y→Is G rv y)(he:aCZ e=true:=by rfl):CfS prog GB C n (bodyPost prog fb (amy C (fun v G'=>Is G' rv v))) fr own (.ex e []):=by
 refine⟨fun ρ G ov a w r=>?_⟩
 obtain⟨vs,h1,h2⟩:=aoO r hr
 have hk:Is G rv (abT vs):=hd _ _ (an0 h2)
 cases e with
 |ret=>exact zD (C:=C) (n:=n) (fr:=frA a) (own:=ov) (G:=G) (K:=fun v G'=>Is G' rv v) h1 hk a w ⟨r.h,r.sz,aaN a,r.df⟩
 |normal=>exact apr (C:=C) (n:=n) (fr:=frA a) (own:=ov) (G:=G) (K:=fun v G'=>Is G' rv v) h1 hk a w ⟨r.h,r.sz,aaN a,r.df⟩
 |_=>cases he
def cuA(fr:FrX)(cf:Cf):Option (Int×IntKind):=match opC fr cf with
 |some ⟨_, .convert t t' x,_,_,_,_⟩=>match abk tt t,abk tt t',evX (lkC fr cf) x with
  |some ⟨.int k,_,_,_⟩,some ⟨.int k',_,_,_⟩,some (.d (.v (.int j p)))=>bif kq k j then some (p,k') else none
  |_,_,_=>none
 |_=>none
theorem cu[fu:Fu]{p:Int}{k':IntKind}(u:Int)(h:cuA fr cf=some (p,k'))(e:k'.wrap p=u)(hgo:goA tt n fu.n fr own cf (.d (.v (.int k' u))) [] []=⟨vc,fr',own',cf'⟩)(k:CfS prog GB C n Q0 fr' own' cf')
  (hv:aag vc:=by first|exact trivial|(simp only[aag];kernel_rfl)|(simp only[aag];omega)):CfS prog GB C n Q0 fr own cf:=by
 unfold cuA at h
 split at h<;>try (cases h;done)
 rename_i hh
 split at h<;>try (cases h;done)
 rename_i k0 _ _ _ k1 _ _ _ j p0 hT hT' hx
 cases hk:kq k0 j with
 |false=>rw[hk] at h;cases h
 |true=>
  rw[hk,cond_true] at h;cases h;cases aw0 hk
  have:=aki (abK _ _ hT) rfl
  have:=aki (abK _ _ hT') rfl
  subst e
  refine us hh (.x1 hx fun ρ G ov a w y _ r h1 h2=>?_) hgo hv k
  rw[aax] at h2;subst h2
  exact⟨_,aax.2 rfl,ald h1⟩
def nuA(fr:FrX)(cf:Cf):Option (Int×IntKind):=match opC fr cf with
 |some ⟨_, .unOp .neg _ x,_,_,_,_⟩=>match evX (lkC fr cf) x with
  |some (.d (.v (.int j p)))=>some (p,j)
  |_=>none
 |_=>none
theorem nu[fu:Fu]{p:Int}{k':IntKind}(u:Int)(h:nuA fr cf=some (p,k'))(e:k'.wrap (0-p)=u)(hgo:goA tt n fu.n fr own cf (.d (.v (.int k' u))) [] []=⟨vc,fr',own',cf'⟩)(k:CfS prog GB C n Q0 fr' own' cf')
  (hv:aag vc:=by first|exact trivial|(simp only[aag];kernel_rfl)|(simp only[aag];omega)):CfS prog GB C n Q0 fr own cf:=by
 unfold nuA at h
 split at h<;>try (cases h;done)
 rename_i hh
 split at h<;>cases h
 rename_i hx
 subst e
 exact us hh (.x1 hx fun ρ G ov a w y _ r h1 h2=>by
  rw[aax] at h2;subst h2
  exact⟨_,aax.2 rfl,as4 h1⟩) hgo hv k
end
theorem auQ{x:Nat}:bl x=0↔x=0:=by
 have:= @ahH x 0
 simp at this;omega
theorem ahF{a:Nat}:0<(dg a).length↔0<a:=by
 have:= @acB a
 omega
def eS(neg:Bool)(a:Nat):DV:= .ag [.v (.bool neg),dN a]
theorem apU(neg:Bool)(a:Nat):eI (zv neg a)= .ag [.v (.bool (neg&&decide (0<a))),dN a]:=by unfold eI;rw[af5,am5]
theorem aAe{n:Bool}{u:Nat}{b:Int}(h:n≠decide (b<0))(hle:b.natAbs≤u):zv n (u-b.natAbs)=zv n u+b:=by cases n<;>simp[zv] at* <;>omega
theorem azW{n:Bool}{u:Nat}{b:Int}(h:n≠decide (b<0))(hle:u≤b.natAbs):zv (decide (b<0)) (b.natAbs-u)=zv n u+b:=by cases n<;>simp[zv] at* <;>(try rw[if_pos h])<;>(try rw[if_neg (by omega)])<;>omega
theorem amJ{neg:Bool}{ds:List Nat}(hd:DOk ds)(hl:ds.length≤1125899906842624):PF GB prog 249 [.ag [.v (.bool neg),dLi ds]] (vB (decide (Nrm ds∧(neg=true→0<ds.length)))):=by
 refine fn func249 J J ntmps249 J J (fun C=>?_)
 refine cl rfl (awW hd hl) rfl<|?_
 refine csd 6 J J J (fun hg6=>?_) (fun hg6=>?_)
 ·
  refine csb 10 J J J (fun hg10=>?_) (fun hg10=>?_)
  ·
   exact rz rfl (by unfold vB;congr 2;simp_all [afU])
  ·
   exact rz rfl (by unfold vB;congr 2;simp_all [afU])
 ·
  exact rz rfl (by unfold vB;congr 2;simp_all [afU])
theorem arC{n:Bool}{a i:Nat}[h:BN a i](hi:i≤1000000000:=by decide):PF GB prog 185 [eS n a] (vI (zv n a).sign):=by
 refine fn func185 J J ntmps185 J J (fun C=>?_)
 refine cl rfl (ajx (a:=a) hi) rfl<|?_
 refine br J J J (fun hc3=>?_) (fun hc3=>?_)
 ·
  exact rz rfl (by have:=auQ.1 (Int.ofNat.inj hc3);subst this;cases n<;>rfl)
 ·
  refine bb J J J (fun hc8=>?_) (fun hc8=>?_)
  ·
   exact rz rfl (by subst hc8;rw[dS (by have:a≠0:=(fun e=>hc3 (by rw[e];rfl));simp[zv];omega)];rfl)
  ·
   exact rz rfl (by subst hc8;rw[eJ (by have:a≠0:=(fun e=>hc3 (by rw[e];rfl));simp[zv];omega)];rfl)
theorem ai1{m:Int}(h0: -9223372036854775808≤m)(h1:m≤9223372036854775807):PF GB prog 183 [vI m] (eI m):=by
 refine fn (fu:=⟨8⟩) func183 J J ntmps183 J J (fun C=>?_)
 refine cu ((m%18446744073709551616:Int)) rfl (ab1 _) rfl<|?_
 refine br (fu1:=⟨2⟩) (fu2:=⟨0⟩) J J J (fun hc7=>?_) (fun hc7=>?_)
 ·
  refine nu ((m.natAbs:Nat)) rfl (by rw[ab1];omega) rfl<|cl rfl (ahC (a:=m.natAbs) (by omega)) rfl<|?_
  exact rz J J
 ·
  refine eqF 3 (.d (.v (.int .u64 (m.natAbs:Nat)))) rfl (by congr 3;omega) ?_
  refine gx rfl<|cl rfl (ahC (a:=m.natAbs) (by omega)) rfl<|?_
  exact rz J J
theorem atA{n:Bool}{a:Nat}(h:a<4611686018427387904):PF GB prog 234 [eS n a] (.tp [vI (zv n a),vB true]):=by
 refine fn func234 J J ntmps234 J J (fun C=>?_)
 refine cl (fu:=⟨2⟩) rfl (aup (a:=a) (by omega)) rfl<|knT J J J<|?_
 refine csb 18 J J J (fun hg18=>?_) (fun hg18=>?_)
 ·
  refine br (fu1:=⟨3⟩) J J J (fun hc12=>?_) (fun hc12=>?_)
  ·
   refine nu (fu:=⟨0⟩) (((18446744073709551616-a)%18446744073709551616:Int)) rfl (by rw[ab1];omega) rfl<|cu (zv n a) rfl (by subst hg18;rw[ak9];simp only[zv,if_true];omega) rfl<|?_
   exact rz J J
  ·
   exact absurd (by omega) hc12
 ·
  refine csb 32 J J J (fun hg32=>?_) (fun hg32=>?_)
  ·
   refine br J J J (fun hc25=>?_) (fun hc25=>?_)
   ·
    exact rz rfl (by subst hg18;rfl)
   ·
    exact absurd (by omega) hc25
  ·
   subst hg18;cases hg32
theorem ahl{neg:Bool}{a i:Nat}[h:BN a i](hi:i≤1000000000:=by decide):PF GB prog 236 [eS neg a] (eI (zv neg a)):=by
 refine fn func236 J J ntmps236 J J (fun C=>?_)
 refine cl rfl (akL hi) rfl<|?_
 refine csb 9 J J J (fun hg9=>?_) (fun hg9=>?_)
 ·
  exact rz rfl (by rw[apU];simp[hg9,ahF,afU])
 ·
  exact rz rfl (by rw[apU];simp[hg9,ahF,afU])
theorem aip{neg:Bool}{a:Nat}:PF GB prog 268 [.v (.bool neg),dN a] (eI (zv neg a)):=by
 refine fn func268 J J ntmps268 J J (fun C=>?_)
 refine csb 6 J J J (fun hg6=>?_) (fun hg6=>?_)
 ·
  exact rz rfl (by rw[apU];simp[hg6,ahF,afU])
 ·
  exact rz rfl (by rw[apU];simp[hg6,ahF,afU])
theorem aBA{m:Int}{i:Nat}[h:BI m i](hi:i≤1000000000:=by decide):PF GB prog 188 [eI m] (eI (-m)):=by
 refine fn func188 J J ntmps188 J J (fun C=>?_)
 refine cl rfl (ahl (neg:=!decide (m<0)) (a:=m.natAbs) hi) rfl<|?_
 exact rz rfl (by rw[aCE,adt];rfl)
theorem asQ{a b:Int}{i j:Nat}[h:BI a i][k:BI b j](hi:i≤1000000000:=by decide)(hj:j≤1000000000:=by decide):PF GB prog 229 [eI a,eI b] (eI (a*b)):=by
 refine fn func229 J J ntmps229 J J (fun C=>?_)
 refine cl rfl (aqH (a:=a.natAbs) (b:=b.natAbs) hi hj) rfl<|cl rfl aip rfl<|?_
 exact rz rfl (by rw[show(!(decide (a<0)==decide (b<0)))=(decide (a<0) !=decide (b<0)) from rfl,ax1,adt,adt];rfl)
theorem azR{n1:Bool}{u:Nat}{b:Int}{i j:Nat}[h:BN u i][k:BI b j](hi:i≤1000000000:=by decide)(hj:j≤1000000000:=by decide):PF GB prog 228 [eS n1 u,eI b] (eI (zv n1 u+b)):=by
 refine fn func228 J J ntmps228 J J (fun C=>?_)
 refine bb J J J (fun hc13=>?_) (fun hc13=>?_)
 ·
  refine cl rfl (aEs (b:=b.natAbs) hi hj) rfl<|cl rfl aip rfl<|?_
  exact rz rfl (by rw[aoT,show n1=decide (b<0) from by simpa using hc13,adt];rfl)
 ·
  refine cl rfl (aCU (b:=b.natAbs) hi hj) rfl<|?_
  refine bd J J J (fun hc30=>?_) (fun hc30=>?_)
  ·
   refine cl rfl aip rfl<|?_
   exact rz rfl (by rw[aAe (by simpa using hc13) hc30];rfl)
  ·
   refine cl rfl (aCU (a:=b.natAbs) hj hi) rfl<|cl rfl aip rfl<|?_
   exact rz rfl (by rw[azW (by simpa using hc13) (by omega)];rfl)
theorem aCy{a b:Int}{i j:Nat}[h:BI a i][k:BI b j](hi:i≤1000000000:=by decide)(hj:j≤1000000000:=by decide):PF GB prog 228 [eI a,eI b] (eI (a+b)):=(azR (n1:=decide (a<0)) (u:=a.natAbs) hi hj).to (by rw[adt])
end Go.Sx
end
