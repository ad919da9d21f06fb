import Derived.Test.YtmbbejdimfkkcaaGreatDoorMo7
set_option linter.all false
set_option maxHeartbeats 2000000
set_option maxRecDepth 100000
section
namespace Go.Sx
open Go Go.Proofs Tryz
section
variable {GB:Gh} {C:aH} {n:Nat} {Q0:Exit->Act->World->Prop} {fr fr':aF} {own own':bh} {cf cf':Cf} {vc:List Prop}
def mkc[fu:Fu]{d e s b:Nat}{z:DV}{k':IntKind}(cap:Nat)(h:Hn fr cf=some ⟨d,e,s,b,z,0⟩)(hy:(match di fr cf with|some ⟨_, .makeSlice _ _ y,_,_,_,_⟩=>bt (ck fr cf) y|_=>none)=some (.d (.v (.int k' (cap:Nat)))))
  (hgo:c6 tt n fu.n fr own cf (.rw d) [(d,some (.c e s [] cap))] [d]=⟨vc,fr',own',cf'⟩)(k:av prog GB C n Q0 fr' own' cf')(hb:b*cap<=140737488355328:=by omega)(hl:cap<=1152921504606846976:=by omega)
  (hv:autoParam (ak vc) cL._auto_1):av prog GB C n Q0 fr own cf:=by
 unfold Hn at h;split at h<;>try (cases h;done)
 rename_i hh;split at h<;>try (cases h;done)
 rename_i hx;split at h<;>try (cases h;done)
 rename_i hT;split at h<;>try (cases h;done)
 rename_i hi;split at h<;>try (cases h;done)
 rename_i hz;rw[cond_eq_ite] at h;split at h<;>cases h;rename_i hs;rw[hh] at hy;have:=lh (fi _ _ hT) J;exact us hh (aJK (fi _ _ hi) hz hs hx hy hb hl) hgo hv k
structure W5 where
 d:Nat
 nm:Nat
 e:Nat
 s:Nat
 ds:List DV
 ds2:List DV
 cap:Nat
def Td(fr:aF)(own:bh)(cf:Cf):Option W5:=match di fr cf with
 |some ⟨some d, .call ⟨.builtin .append,⟨[x,y]⟩,⟨[t,t']⟩⟩,_,_,_,_⟩=>match eo tt t,eo tt t' with
  |some ⟨.sl e s _,_,_,_⟩,some ⟨.sl _ _ _,_,_,_⟩=>match bt (ck fr cf) x with
   |some (.rw nm)=>match jo fr own cf nm,qP (ck fr cf) (jo fr own cf) s y with
    |some (.c e' s' ds cap),some ds2=>bif (Nat.beq e' e&&Nat.beq s' s)&&!Nat.beq nm d then some ⟨d,nm,e,s,ds,ds2,cap⟩ else none
    |_,_=>none
   |_=>none
  |_,_=>none
 |_=>none
def apc[fu:Fu]{d nm e s cap:Nat}{ds ds2:List DV}(ds':List DV)(h:Td fr own cf=some ⟨d,nm,e,s,ds,ds2,cap⟩)(hds:ds++ds2=ds')(ho2:cO s ds2)(hc:ds.length+ds2.length<=cap)(hgo:c6 tt n fu.n fr own cf (.rw d) [(nm,none),(d,some (.c e s ds' cap))] [d]=⟨vc,fr',own',cf'⟩)(k:av prog GB C n Q0 fr' own' cf')
  (hp:0<ds2.length:=by simp)(hv:autoParam (ak vc) cL._auto_1):av prog GB C n Q0 fr own cf:=by
 subst hds;unfold Td at h;split at h<;>try (cases h;done)
 rename_i hh;split at h<;>try (cases h;done)
 rename_i hT hT';split at h<;>try (cases h;done)
 rename_i hx;split at h<;>try (cases h;done)
 rename_i hb hy;rw[cond_eq_ite] at h;split at h<;>cases h;rename_i h2;simp only[bT,iW] at h2
 cases bX h2.1.1
 cases bX h2.1.2
 have:=lh (fi _ _ hT) J;have hN:kd prog _:=⟨_,(lh (fi _ _ hT') J).un⟩;exact us hh (WV hx hb hy ho2 hc hp h2.2) hgo hv k
def PI(GB:Gh)(P:Program)(f:FuncId)(i:Int)(s:Nat)(ty ty2:TypeId)(ds:List DV)(x:DV)(cap:Nat)(dso:List DV):Prop:=
 ∀G w w2 B B2,b7 GB G->eg G ⟨w,s,ty,ds,false⟩ B->cap<=w.c->eg G ⟨w2,s,ty2,[x],false⟩ B2->iD P f [.slice w.a w.n w.c, .int .i64 i, .slice w2.a w2.n w2.c] (B++B2) G fun v own' G'=> ∃w',v= .slice w'.a w'.n w'.c/\eg G' ⟨w',s,ty,dso,false⟩ own'
structure Y3 where
 f:FuncId
 nm:Nat
 nm2:Nat
 i:Int
 ty:TypeId
 ty2:TypeId
 s:Nat
 ds:List DV
 x:DV
 cap:Nat
 d:Nat
def Oj(fr:aF)(own:bh)(cf:Cf):Option Y3:=match di fr cf with
 |some ⟨some d, .call ⟨.value fo,⟨[x1,x2,x3]⟩,_⟩,_,_,_,_⟩=>match bt (ck fr cf) fo,bt (ck fr cf) x1 with
  |some (.d (.v (.func (.func f) ⟨[]⟩ ⟨[]⟩))),some (.rw nm)=>match bt (ck fr cf) x2,bt (ck fr cf) x3 with
   |some (.d (.v (.int .i64 i))),some (.rw nm2)=>match jo fr own cf nm,jo fr own cf nm2 with
    |some (.c ty s ds cap),some (.b ty2 s2 [x] true)=>bif (!Nat.beq nm d&&!Nat.beq nm2 d)&&(!Nat.beq nm nm2&&(Nat.beq s2 s&&Nat.blt 0 cap)) then some ⟨f,nm,nm2,i,ty,ty2,s,ds,x,cap,d⟩ else none
    |_,_=>none
   |_,_=>none
  |_,_=>none
 |_=>none
def XF{lk:LK}{bk:BM}{fo x1 x2 x3:Operand}{tys:Array TypeId}{f:FuncId}{nm nm2 d cap s:Nat}{i:Int}{ty0 ty2:TypeId}{ty:TypeId}{pos:String}{af:Array Edge}{gd:Option (Nat×Bool)}{ds dso:List DV}{x:DV}(hne:Nat.beq nm d=false)(hne2:Nat.beq nm2 d=false)(hn2:Nat.beq nm nm2=false)(hcp:0<cap)
  (h0:bt lk fo=some (.d (.v (.func (.func f) ⟨[]⟩ ⟨[]⟩))))(h1:bt lk x1=some (.rw nm))(h2:bt lk x2=some (.d (.v (.int .i64 i))))(h3:bt lk x3=some (.rw nm2))(hb:bk nm=some (.c ty0 s ds cap))(hb2:bk nm2=some (.b ty2 s [x] true))(hF:PI GB prog f i s ty0 ty2 ds x cap dso):
  b9 prog GB C n lk bk ⟨some d, .call ⟨.value fo,⟨[x1,x2,x3]⟩,tys⟩,ty,pos,af,gd⟩ (.rw d) [(nm,none),(nm2,none),(d,some (.b ty0 s dso true))] [d]:=by
 intro hd tl tb K' s1 s2 hf hk;refine⟨fun ρ G ov a w r Q=>?_⟩;have r1:=r.mono s1 s2;obtain⟨y,hy,hy'⟩:=r1.ev h0;rw[(aP (G:=G)).1 hy'] at hy;obtain⟨y1,p1,p1'⟩:=r1.ev h1
 cases (show y1=_ from p1')
 obtain⟨y2,p2,p2'⟩:=r1.ev h2;rw[dl] at p2';subst p2';obtain⟨y3,p3,p3'⟩:=r1.ev h3
 cases (show y3=_ from p3')
 have hnn:nm≠d:=fun e=>by subst e;rw[oY] at hne;cases hne
 have hnn2:nm2≠d:=fun e=>by subst e;rw[oY] at hne2;cases hne2
 have hnm:nm≠nm2:=fun e=>by subst e;rw[oY] at hn2;cases hn2
 obtain⟨B,g1,g2⟩:=r1.bx _ _ hb;obtain⟨B2,k1,k2⟩:=r1.bx _ _ hb2;obtain⟨vs,q1,q2,q3,q4,q5⟩:=g1;have hB:eg G ⟨ρ nm,s,ty0,ds,false⟩ B:=⟨vs,q1,q2,q3,fun h=>by cases h⟩;have hB2:eg G ⟨ρ nm2,s,ty2,[x],false⟩ B2:=eg.weak (lo:=true) k1;have e1: ∃o,B=[o]/\(ρ nm).a=some ⟨o.b,0,none⟩:=by
  rcases q1 with⟨_,e,_⟩|⟨b,rest,lo',e,rfl,_⟩
  .rw[e] at q5;simp at q5;omega
  .exact⟨_,J,by rw[e]⟩
 have e2: ∃o,B2=[o]/\(ρ nm2).a=some ⟨o.b,0,none⟩:=by
  obtain⟨vs2,c1,c2,_⟩:=k1;rcases c1 with⟨e,_,_⟩|⟨b,rest,lo',e,rfl,_⟩
  .subst e;have:=c2.len;simp at this
  .exact⟨_,J,by rw[e]⟩
 obtain⟨o1,rfl,a1⟩:=e1;obtain⟨o2,rfl,a2⟩:=e2;have hob:o1.b≠o2.b:=fun e=>r.dj nm nm2 _ _ (s2 _ _ hb) (s2 _ _ hb2) hnm _ a1 (by rw[a2,e]);have hp: ∃rest,ov.Perm ([o1]++[o2]++rest):=by
  obtain⟨l1,l2,e3⟩:=mL (g2 _ aQ);have hm:=k2 _ aQ;rw[e3] at hm⊢;have hm2:o2∈l1++l2:=by
   rcases bZ.1 hm with h|h
   .exact bU _ h
   .rcases aW.1 h with h|h
    .exact absurd (by rw[h]) hob
    .exact bQ _ h
  obtain⟨l3,l4,e4⟩:=mL hm2;refine⟨l3++l4,List.perm_middle.trans ?_⟩;rw[e4];exact(pQ (l₁:=l3) (l₂:=l4) (a:=o2)).cons o1
 obtain⟨rest,h5⟩:=hp;have h6: ∀o∈ov,o.b≠o1.b->o.b≠o2.b->o∈rest:=fun o ho n1 n2=>by
  have:=h5.mem_iff.1 ho;simp only[gL,kV,aW] at this;rcases this with rfl|rfl|h
  .exact absurd J n1
  .exact absurd J n2
  .exact h
 have hlo2: ∀o∈[o2],o.lo=true:=by obtain⟨_,_,_,_,h⟩:=k1;exact h rfl
 have hall: ∀o∈[o1]++[o2],o.lo=true:=fun o ho=>by
  rcases bZ.1 ho with h|h
  .exact q4 o h
  .exact hlo2 o h
 refine yc (M:=[o1]++[o2]) (rest:=rest) (vs:=[.slice (ρ nm).a (ρ nm).n (ρ nm).c, .int .i64 i, .slice (ρ nm2).a (ρ nm2).n (ρ nm2).c]) hy (by simp only[fI,p1,p2,p3]) h5 (hF G (ρ nm) (ρ nm2) [o1] [o2] r.gb hB q5 hB2) hd (fun v own1 G' hG hK a' w' rl=>?_) a w Q ⟨r.h,r.sz,c7 a,r.df⟩;obtain⟨z,rfl,vs',k1',k2',k3',k4'⟩:=hK;have hs1:=k1'.relo (iw ([o1]++[o2]));have e3: ∀o∈own1.map (relo (iw ([o1]++[o2]))),o.lo=true:=fun o ho=>by
  obtain⟨o',_,rfl⟩:=aU.1 ho;exact HQ _ hall
 generalize own1.map (relo (iw ([o1]++[o2])))=B' at rl e3 hs1;have rl':io C n (Sx.put (cG a) (some d) (.slice z.a z.n z.c)) (B'++rest) G' a' w':=rl;have hdis:=(gN.1 rl'.h.nd).2.2;have rd:=(r.dropB nm).dropB nm2;have hin: ∀q B0,Sx.upB (Sx.upB tb [(nm,none)]) [(nm2,none)] q=some B0->q≠nm/\q≠nm2/\tb q=some B0:=fun q B0 e=>by
  simp only[Sx.upB] at e;split at e
  .cases e
  .split at e
   .cases e
   .exact⟨ome,ome,e⟩
 have hf2:kE [d] (some d) tl (Sx.upB (Sx.upB tb [(nm,none)]) [(nm2,none)]):=fun q hq=>by
  obtain⟨f1,f2⟩:=hf q hq;exact⟨f1,fun k B e1 e=>f2 k B e1 (hin k B e).2.2⟩
 have hsep: ∀q B0,Sx.upB (Sx.upB tb [(nm,none)]) [(nm2,none)] q=some B0-> ∀o∈ov,(ρ q).a=some ⟨o.b,0,none⟩->o∈rest:=fun q B0 e o ho hbq=>by
  obtain⟨n1,n2,n3⟩:=hin q B0 e;exact h6 o ho (fun e'=>r.dj nm q _ _ (s2 _ _ hb) n3 (Ne.symm n1) _ a1 (by rw[hbq,e'])) (fun e'=>r.dj nm2 q _ _ (s2 _ _ hb2) n3 (Ne.symm n2) _ a2 (by rw[hbq,e']))
 have r3:=rd.new' (x:=z) (B':= .b ty0 s dso true) (os:=B') (ov':=B'++rest) (f:= .rw d) (y:= .slice z.a z.n z.c) hf2 hG.le rl'.h ⟨vs',by simpa using hs1,k2',k3',fun _=>e3⟩ (fun o ho=>bU _ ho)
  (fun q B0 hq e o ho hbq=>⟨bQ _ (hsep q B0 e o ho hbq),fun hc=>by
   have hx: ∃o1∈B',o1.b=o.b:=by
    rcases hs1 with⟨_,h,_⟩|⟨b0,rest0,lo0,h,hB,_⟩
    .rw[show z=_ from h] at hc;cases hc
    .rw[show z=_ from h] at hc;cases hc;exact⟨⟨_,aI vs'++rest0,_,lo0⟩,by rw[hB];exact aQ,J⟩
   obtain⟨o3,ho3,he3⟩:=hx;exact hdis o3 ho3 o (hsep q B0 e o ho hbq) he3⟩) okV (kj rl')
 exact hk.run _ G' _ a' w' r3
def ci[fu:Fu]{f:FuncId}{nm nm2 d cap s:Nat}{i:Int}{ty ty2:TypeId}{ds dso:List DV}{x:DV}(dso':List DV)(ha:Oj fr own cf=some ⟨f,nm,nm2,i,ty,ty2,s,ds,x,cap,d⟩)(hF:PI GB prog f i s ty ty2 ds x cap dso)(he:dso=dso')
  (hgo:c6 tt n fu.n fr own cf (.rw d) [(nm,none),(nm2,none),(d,some (.b ty s dso' true))] [d]=⟨vc,fr',own',cf'⟩)(k:av prog GB C n Q0 fr' own' cf')
  (hv:autoParam (ak vc) cL._auto_1):av prog GB C n Q0 fr own cf:=by
 subst he;unfold Oj at ha;split at ha<;>try (cases ha;done)
 rename_i hh;split at ha<;>try (cases ha;done)
 rename_i h0 h1;split at ha<;>try (cases ha;done)
 rename_i h2 h3;split at ha<;>try (cases ha;done)
 rename_i hb hb2;rw[cond_eq_ite] at ha;split at ha<;>cases ha;rename_i hc;simp only[bT,iW,lV] at hc;obtain⟨⟨c1,c2⟩,c3,c4,c5⟩:=hc
 cases bX c4
 exact us hh (XF c1 c2 c3 c5 h0 h1 h2 h3 hb hb2 hF) hgo hv k
def ld(d:Nat){ops:Array Oper}{r:List Oper}{K:List Kt}(hl:bi fr d=some (.d (.v (.bool true))))(k:av prog GB C n Q0 ((d, .tt)::fr) own (.ops ops r K)):av prog GB C n Q0 fr own (.ops ops r K):=oq (g:= .tt) hl (fun _ G _ e=>(aP (G:=G)).1 e) k
def th(d:Nat){ops:Array Oper}{r:List Oper}{K:List Kt}(hl:bi fr d=some (.d (.v (.bool false))))(k:av prog GB C n Q0 ((d, .ff)::fr) own (.ops ops r K)):av prog GB C n Q0 fr own (.ops ops r K):=oq (g:= .ff) hl (fun _ G _ e=>(aP (G:=G)).1 e) k
end
section
variable {GB:Gh} {C:aH} {n:Nat} {Q0:Exit->Act->World->Prop} {fr fr':aF} {own own':bh} {cf cf':Cf} {vc:List Prop}
def V6(fr:aF)(cf:Cf):Option (Int×Int):=match di fr cf with
 |some ⟨_, .binOp .xor _ x y _,_,_,_,_⟩=>match bt (ck fr cf) x,bt (ck fr cf) y with
  |some (.d (.v (.int .u32 p))),some (.d (.v (.int .u32 q)))=>some (p,q)
  |_,_=>none
 |_=>none
def xr[fu:Fu]{p q:Int}(u:Int)(h:V6 fr cf=some (p,q))(e:(((BitVec.ofInt 32 p^^^BitVec.ofInt 32 q).toNat:Nat):Int)=u)(hgo:c6 tt n fu.n fr own cf (.d (.v (.int .u32 u))) [] []=⟨vc,fr',own',cf'⟩)(k:av prog GB C n Q0 fr' own' cf')
  (hv:autoParam (ak vc) cL._auto_1):av prog GB C n Q0 fr own cf:=by
 unfold V6 at h;split at h<;>try (cases h;done)
 rename_i hh;split at h<;>cases h;rename_i h1 h2;subst e;exact us hh (.yd fun ρ G ov a w r=>by
  obtain⟨y1,h3,h4⟩:=r.ev h1;obtain⟨y2,h5,h6⟩:=r.ev h2;rw[dl] at h4 h6;subst h4 h6;exact⟨_,dl.2 J,mf h3 h5 fun w=>by
   show(pure (Value.int .u32 (IntKind.u32.wrap ((BitVec.ofInt 32 p^^^BitVec.ofInt 32 q).toNat:Int))):Sem Value).run prog w=_;rw[HV];rfl⟩) hgo hv k
def QB(fr:aF)(cf:Cf):Option (Int×Int):=match di fr cf with
 |some ⟨_, .binOp .sub _ x y _,_,_,_,_⟩=>match bt (ck fr cf) x,bt (ck fr cf) y with
  |some (.d (.v (.int .u32 p))),some (.d (.v (.int .u32 q)))=>some (p,q)
  |_,_=>none
 |_=>none
def sw[fu:Fu]{p q:Int}(u:Int)(h:QB fr cf=some (p,q))(e:(p-q)%4294967296=u)(hgo:c6 tt n fu.n fr own cf (.d (.v (.int .u32 u))) [] []=⟨vc,fr',own',cf'⟩)(k:av prog GB C n Q0 fr' own' cf')
  (hv:autoParam (ak vc) cL._auto_1):av prog GB C n Q0 fr own cf:=by
 unfold QB at h;split at h<;>try (cases h;done)
 rename_i hh;split at h<;>cases h;rename_i h1 h2;subst e;exact us hh (.yd fun ρ G ov a w r=>by
  obtain⟨y1,h3,h4⟩:=r.ev h1;obtain⟨y2,h5,h6⟩:=r.ev h2;rw[dl] at h4 h6;subst h4 h6;exact⟨_,dl.2 J,by rw[<-vi];exact aEQ h3 h5⟩) hgo hv k
def OA(fr:aF)(cf:Cf):Option Int:=match di fr cf with
 |some ⟨_, .unOp .xor _ x,_,_,_,_⟩=>match bt (ck fr cf) x with
  |some (.d (.v (.int .u32 p)))=>some p
  |_=>none
 |_=>none
def nt[fu:Fu]{p:Int}(u:Int)(h:OA fr cf=some p)(e:(((BitVec.ofInt 32 IntKind.u32.max^^^BitVec.ofInt 32 p).toNat:Nat):Int)=u)(hgo:c6 tt n fu.n fr own cf (.d (.v (.int .u32 u))) [] []=⟨vc,fr',own',cf'⟩)(k:av prog GB C n Q0 fr' own' cf')
  (hv:autoParam (ak vc) cL._auto_1):av prog GB C n Q0 fr own cf:=by
 unfold OA at h;split at h<;>try (cases h;done)
 rename_i hh;split at h<;>cases h;rename_i hx;subst e;refine us hh (.x1 hx fun ρ G ov a w y _ r h1 h2=>?_) hgo hv k;rw[dl] at h2;subst h2;refine⟨_,dl.2 J,fun a w hf hh=>?_⟩;simp only[execOp,bF hf h1];refine dh (w':=w) ?_;show(pure (Value.int .u32 (IntKind.u32.wrap ((BitVec.ofInt 32 IntKind.u32.max^^^BitVec.ofInt 32 p).toNat:Int))):Sem Value).run prog w=_;rw[HV];rfl
end

end Go.Sx
end
section
namespace Go.Sx
open Go
def dU(d:Nat):DV:= .v (.int .u32 (d:Int))
def d6(ds:List Nat):DV:= .sl (ds.map dU)
def dN(n:Nat):DV:= .sl ((dg n).map dU)
def dD(n:Nat):DV:= .sl (if n=1 then [] else(dg n).map dU)
def eI(m:Int):DV:= .ag [.v (.bool (decide (m<0))),dN m.natAbs]
def eQ(q:Rat):DV:= .ag [.v (.bool (decide (q.num<0))),dN q.num.natAbs,dD q.den]
def eP(p:ah):DV:= .ag [.v (.bool (decide (p.x.num<0))),dN p.x.num.natAbs,dD p.x.den, .v (.bool (decide (p.y.num<0))),dN p.y.num.natAbs,dD p.y.den]
def eL(l:aa):DV:= .ag [.v (.bool (decide (l.a<0))),dN l.a.natAbs, .v (.bool (decide (l.b<0))),dN l.b.natAbs, .v (.bool (decide (l.c<0))),dN l.c.natAbs]
def eR(q:Rat):DV:= .ag [.v (.bool (decide (q.num<0))),dN q.num.natAbs,dN q.den]
def om(p:ah):DV:= .ag [.v (.bool (decide (p.x.num<0))),dN p.x.num.natAbs,dN p.x.den, .v (.bool (decide (p.y.num<0))),dN p.y.num.natAbs,dN p.y.den]
def vI(n:Int):DV:= .v (.int .i64 n)
def vB(b:Bool):DV:= .v (.bool b)
def M7(n:Nat):dN n=d6 (dg n):=rfl
def aLF{ds:List Nat}(h:bH ds):d6 (trimD ds)=dN (dv ds):=by unfold d6 dN;rw[F9 h]
def az8{ds:List Nat}{i:Nat}(h:i<ds.length):(ds.map dU)[i]? =some (dU (ds.getD i 0)):=by
 rw[cJ,aZ h,aV,aZ h];rfl
def fg{ds:List Nat}{i:Nat}(h:i<ds.length:=by omega):(ds.map dU)[(i:Int).toNat]? =some (dU (ds.getD i 0)):=by rw[cK];exact az8 h
def j0(ds:List Nat)(i d:Nat):(ds.map dU).set i (.v (.int .u32 (d:Int)))=(ds.set i d).map dU:=by rw[kK];rfl
def nO(n:Nat):List.replicate n (DV.v (.int .u32 0))=(List.replicate n 0).map dU:=by rw[List.map_replicate];rfl
def tC(ds:List Nat):cO 1 (ds.map dU):=fun d hd=>by
 obtain⟨n,_,rfl⟩:=aU.1 hd;exact⟨rfl,rfl⟩
def eh(n:Nat)(i:Nat):(dg n).getD i 0<4294967296:=(gh n).2.1.get i
def xd:dg 0=[]:=by rw[dg,dif_pos J]
def DR:dg 1=[1]:=by rw[dg,dif_neg oma];simp[xd]
def wv{n:Nat}:(dg n).length=0↔n=0:=by
 constructor
 .intro h
  have:=(gh n).1;rw[cY h] at this;exact this.symm
 .rintro rfl;rw[xd];rfl
def mH:dN 0= .sl []:=by unfold dN;rw[xd];rfl
def Hf{G:Gh}: ∀{ds:List Nat} {es:List Value},IsLs G (ds.map dU) es↔es=ds.map dI
 |[],es=>fh
 |d::t,es=>by
  rw[bY,bA];constructor
  .rintro ⟨y,n,rfl,h1,h2⟩
   rw[aP.1 h1,Hf.1 h2];rfl
  .rintro rfl
   exact⟨_,_,J,aP.2 J,Hf.2 J⟩
def M3{G:Gh}{ds:List Nat}{v:Value}:Is G (d6 ds) v↔ ∃x:SV,v= .slice x.a x.n x.c/\gt G 1 x (ds.map dI):=by
 unfold d6;rw[ie];constructor
 .rintro ⟨s,x,es,rfl,h1,h2⟩
  have:=Hf.1 h2;subst this;refine⟨x,J,?_⟩;rcases DY (s:=1) h1 h2 (tC ds) with h|h
  .rw[h] at h1⊢
   exact⟨h1.len,h1.cap, .inl J⟩
  .subst h;exact h1
 .rintro ⟨x,rfl,h⟩
  exact⟨1,x,_,J,h,Hf.2 J⟩
def Rw{G:Gh}{n k:Nat}{v:Value}(hk:n<2^k):Is G (dN n) v↔ ∃x:SV,v= .slice x.a x.n x.c/\Cu k G x n:=by
 rw[M7,M3];constructor
 .rintro ⟨x,rfl,h⟩
  exact⟨x,J,⟨(gh n).2.1,h⟩,hk⟩
 .rintro ⟨x,rfl,h⟩
  exact⟨x,J,h.d.sl⟩
def cP{ds:List Nat}{i:Int}{k:Nat}(hi:i=k:=by omega)(h:k<ds.length:=by omega):(ds.map dU)[i.toNat]? =some (dU (ds.getD k 0)):=by subst hi;exact fg h
class BN (n:Nat) (k:outParam Nat):Prop where h:n<2^k
class BI (m:Int) (k:outParam Nat):Prop where h:m.natAbs<2^k
class BQ (q:Rat) (k:outParam Nat):Prop where
 hn:q.num.natAbs<2^k
 hd:q.den<2^k
theorem BN.mono{n k k':Nat}(h:BN n k)(hk:k<=k'):BN n k':=⟨cS h.h (bR oma hk)⟩
def lI{a b i j:Nat}(h:a<2^i)(k:b<2^j):a*b<2^(i+j):=by rw[fY];exact pZ h k
def Nx{a b i j:Nat}(h:a<2^i)(k:b<2^j):a+b<2^(i+j+1):=by
 have h1:2^i<=2^(i+j):=bR oma we;have h2:2^j<=2^(i+j):=bR oma we;rw[iK];omega
instance BN.mul (a b i j:Nat) [h:BN a i] [k:BN b j]:BN (a*b) (i+j):=⟨lI h.h k.h⟩
instance BN.div (a b i:Nat) [h:BN a i]:BN (a/b) i:=⟨dR (nK _ _) h.h⟩
instance BN.abs (m:Int) (i:Nat) [h:BI m i]:BN m.natAbs i:=⟨h.h⟩
instance BN.den (q:Rat) (i:Nat) [h:BQ q i]:BN q.den i:=⟨h.hd⟩
def Qj{a b i j:Nat}(h:a<2^i)(k:b<2^j):Nat.gcd a b<2^(i+j):=by
 have h1:2^i<=2^(i+j):=bR oma we;have h2:2^j<=2^(i+j):=bR oma we;rcases gX a with h0|h0
 .subst h0;rw[Nat.gcd_zero_left];omega
 .have:=Nat.gcd_le_left b h0;omega
instance BN.gcd (a b i j:Nat) [h:BN a i] [k:BN b j]:BN (Nat.gcd a b) (i+j):=⟨Qj h.h k.h⟩
instance BN.one:BN 1 1:=⟨oma⟩
instance BI.mul (a b:Int) (i j:Nat) [h:BI a i] [k:BI b j]:BI (a*b) (i+j):=⟨by rw[fU];exact lI h.h k.h⟩
instance BI.add (a b:Int) (i j:Nat) [h:BI a i] [k:BI b j]:BI (a+b) (i+j+1):=⟨dR (Int.natAbs_add_le a b) (Nx h.h k.h)⟩
instance BI.sub (a b:Int) (i j:Nat) [h:BI a i] [k:BI b j]:BI (a-b) (i+j+1):=⟨dR (Int.natAbs_sub_le a b) (Nx h.h k.h)⟩
instance BI.neg (a:Int) (i:Nat) [h:BI a i]:BI (-a) i:=⟨by rw[kQ];exact h.h⟩
instance BI.num (q:Rat) (i:Nat) [h:BQ q i]:BI q.num i:=⟨h.hn⟩
instance BI.nat (n:Nat) (i:Nat) [h:BN n i]:BI (n:Int) i:=⟨by rw[fT];exact h.h⟩
def mG(q:Rat):0<q.den:=iM q.den_nz
theorem Df{m:Int}{d i:Nat}(hd:0<d)(h:m.natAbs<2^i)(k:d<2^i):BQ (mkRat m d) i:=by
 refine⟨?_,?_⟩
 .rw[Rat.num_mkRat,if_neg we]
  have:=oJ m (d.gcd m.natAbs:Nat);omega
 .rw[Rat.den_mkRat,if_neg we]
  have:=nK d (d.gcd m.natAbs);omega
theorem BQ.mono{q:Rat}{k k':Nat}(h:BQ q k)(hk:k<=k':=by decide):BQ q k':=⟨cS h.hn (bR oma hk),cS h.hd (bR oma hk)⟩
def CA(p q:Rat):p*q=mkRat (p.num*q.num) (p.den*q.den):=by rw[Rat.mul_def,Rat.normalize_eq_mkRat]
def B4(p q:Rat):p+q=mkRat (p.num*q.den+q.num*p.den) (p.den*q.den):=by rw[Rat.add_def,Rat.normalize_eq_mkRat]
instance BQ.mul (p q:Rat) (i j:Nat) [h:BQ p i] [k:BQ q j]:BQ (p*q) (i+j):=by
 rw[CA];exact Df (jR (mG p) (mG q)) (BI.mul p.num q.num i j).h (lI h.hd k.hd)
instance BQ.add (p q:Rat) (i j:Nat) [h:BQ p i] [k:BQ q j]:BQ (p+q) (i+j+1):=by
 rw[B4];refine Df (jR (mG p) (mG q)) ?_ ?_
 .have h1:=lI h.hn k.hd
  have h2:=lI k.hn h.hd;have h3:(p.num*q.den+q.num*p.den).natAbs<=(p.num*q.den).natAbs+(q.num*p.den).natAbs:=Int.natAbs_add_le ..;rw[fU,fU,fT,fT] at h3;rw[lJ j i] at h2;rw[iK];omega
 .have h1:=lI h.hd k.hd
  rw[iK];omega
instance BQ.neg (p:Rat) (i:Nat) [h:BQ p i]:BQ (-p) i:=⟨by rw[oW,kQ];exact h.hn,by rw[tU];exact h.hd⟩
instance BQ.sub (p q:Rat) (i j:Nat) [h:BQ p i] [k:BQ q j]:BQ (p-q) (i+j+1):=by
 rw[Rat.sub_eq_add_neg];exact BQ.add p (-q) i j
instance BQ.ofInt (m:Int) (i:Nat) [h:BI m i]:BQ (m:Rat) (i+1):=by
 refine⟨?_,?_⟩
 .rw[lL];have:=h.h;rw[iK];omega
 .rw[lM];have:0<2^i:=gU oma;rw[iK];omega
end Go.Sx
end
section
namespace Go.Sx
open Go Go.Proofs Tryz
variable {GB:Gh}
def FY(p q:Int):Nat:=(BitVec.ofInt 32 p &&& BitVec.ofInt 32 q).toNat
def ML(p q:Int):Nat:=(BitVec.ofInt 32 p ||| BitVec.ofInt 32 q).toNat
def BW(p q:Int):Nat:=(BitVec.ofInt 32 p^^^BitVec.ofInt 32 q).toNat
def Vu{ds:List Nat}{n:Nat}(h:0<n/\n<=ds.length)(hz:ds.getD (n-1) 0=0):trimD (ds.take n)=trimD (ds.take (n-1)):=by
 obtain⟨m,rfl⟩: ∃m,n=m+1:=⟨n-1,we⟩;rw[jW we,kN];rw[kN,aV,aZ we] at hz;simp only[mQ] at hz;rw[hz,WT]
def RU{ds:List Nat}{n:Nat}(h:n<=ds.length)(hz:0<n->ds.getD (n-1) 0≠0):trimD (ds.take n)=ds.take n:=by
 rcases gX n with h0|h0
 .subst h0;simp[trimD]
 .obtain⟨m,rfl⟩: ∃m,n=m+1:=⟨n-1,we⟩
  have hz:=hz h0;rw[jW we];rw[kN,aV,aZ we] at hz;exact PC (by simpa using hz)
def Wf{x y c:Nat}(hx:x<4294967296)(hy:y<4294967296)(hc:c<=1):PF GB prog 212 [.v (.int .u32 (x:Int)), .v (.int .u32 (y:Int)), .v (.int .u32 (c:Int))] (.tp [.v (.int .u32 (((x+y+c)%4294967296:Nat):Int)), .v (.int .u32 (((x+y+c)/4294967296:Nat):Int))]):=by
 refine fn (hv:=by simp only[ak];exact⟨⟨⟨⟨⟨we,we⟩,we⟩,we⟩,we⟩,oma⟩) func212 J J ntmps212 J J (fun C=>?_);exact rz J (by
  have e1:((x:Int)+y+c)%4294967296=(((x+y+c)%4294967296:Nat):Int):=by omega
  have e2:((x:Int)+y+c).fdiv (2^min (32:Int).toNat IntKind.u64.bits)%4294967296=(((x+y+c)/4294967296:Nat):Int):=by
   rw[show(2:Int)^min (32:Int).toNat IntKind.u64.bits=((4294967296:Nat):Int) from J,kM _ oma];omega
  show DV.tp [.v (.int _ _), .v (.int _ _)]=_;rw[e1,e2])
def H1(n:Nat)(h:n<4294967296):(BitVec.ofInt 32 (n:Int)).msb=decide (2147483648<=n):=by
 rw[show BitVec.ofInt 32 (n:Int)=BitVec.ofNat 32 n from BitVec.ofInt_natCast ..];rw[BitVec.msb_eq_decide,BitVec.toNat_ofNat,kY omE]
def ZI(b:BitVec 32):b.toNat/2147483648=if b.msb then 1 else 0:=by
 have:=b.isLt;rw[BitVec.msb_eq_decide];simp only[decide_eq_true_eq,Nat.reduceSub,Nat.reducePow] at*;split<;>omega
def alw(b:BitVec 32):BitVec.ofInt 32 (b.toNat:Int)=b:=by rw[BitVec.ofInt_natCast,BitVec.ofNat_toNat,BitVec.setWidth_eq]
def aud{x y c:Nat}(hx:x<4294967296)(hy:y<4294967296)(hc:c<=1):
  ((ML (FY (BW IntKind.u32.max x:Nat) y:Nat) (FY (BW IntKind.u32.max (BW x y:Nat):Nat) (IntKind.u32.wrap (IntKind.u32.wrap ((x:Int)-y)-c)):Nat):Nat):Int).fdiv (2^min (31:Int).toNat IntKind.u32.bits)=(((if x<y+c then 1 else 0):Nat):Int):=by
 rw[show((2:Int)^min (31:Int).toNat IntKind.u32.bits)=((2147483648:Nat):Int) from J,kM _ oma,<-tX];congr 1;have hd: ∃d:Nat,d<4294967296/\IntKind.u32.wrap (IntKind.u32.wrap ((x:Int)-y)-c)=(d:Int)/\((x>=y+c/\d=x-(y+c))\/(x<y+c/\d=x+4294967296-(y+c))):=by
  rw[vi,vi];refine⟨((((x:Int)-y)%4294967296-c)%4294967296).toNat,we,we,we⟩
 obtain⟨d,hd1,hd2,hd3⟩:=hd;rw[hd2];unfold ML FY BW;simp only[alw];rw[ZI];simp only[BitVec.msb_or,BitVec.msb_and,BitVec.msb_xor,H1 x hx,H1 y hy,H1 d hd1];have h1:(BitVec.ofInt 32 IntKind.u32.max).msb=true:=by decide
 rw[h1];rcases jS x 2147483648 with a|a<;>rcases jS y 2147483648 with b|b<;>rcases jS d 2147483648 with e|e<;>
  simp[Nat.not_le.2, *]<;>(first|omega|(split<;>omega))
def XW{x y c:Nat}(hx:x<4294967296)(hy:y<4294967296)(hc:c<=1):IntKind.u32.wrap (IntKind.u32.wrap ((x:Int)-y)-c)=(((if x<y+c then x+4294967296-(y+c) else x-(y+c)):Nat):Int):=by
 rw[vi,vi];split<;>omega
def aEb{x y c:Nat}(hx:x<4294967296)(hy:y<4294967296)(hc:c<=1):PF GB prog 214 [.v (.int .u32 (x:Int)), .v (.int .u32 (y:Int)), .v (.int .u32 (c:Int))] (.tp [.v (.int .u32 (((if x<y+c then x+4294967296-(y+c) else x-(y+c)):Nat):Int)), .v (.int .u32 (((if x<y+c then 1 else 0):Nat):Int))]):=by
 refine fn (fu:=⟨10⟩) func214 J J ntmps214 J J (fun C=>?_);refine sw (fu:=⟨1⟩) _ J (vi _).symm J<|sw (fu:=⟨6⟩) _ J (vi _).symm J<|nt (fu:=⟨4⟩) _ J J J<|xr (fu:=⟨0⟩) _ J J J<|nt _ J J J<|rz J (by have h1:=aud hx hy hc;unfold ML FY BW at h1;show DV.tp [.v (.int _ _), .v (.int _ _)]=_;rw[h1,XW hx hy hc])
def sC{ds:List Nat}(hl:ds.length<=1125899906842624:=by omega):PF GB prog 145 [d6 ds] (d6 (trimD ds)):=by
 refine fn func145 J J ntmps145 J J (fun C=>?_);refine lp (X:=Nat) (fun n=>[(0, .d (d6 ds)),(3, .d (vI (n:Nat)))]) (fun n=>[]) (fun n=>n<=ds.length/\trimD ds=trimD (ds.take n)) (fun n=>n) ds.length J ⟨bV _,by rw[cN]⟩ (fun _=>J) (fun n hk=>?_);obtain⟨h1,h2⟩:=hk;refine cs 8 J J J (fun hg8=>?_) (fun hg8=>?_)
 .
  refine ix _ J (cP (k:=n-1)) J<|br J J J (fun hc15=>?_) (fun hc15=>?_)
  .
   have hz:ds.getD (n-1) 0=0:=by omega
   exact at_ (n-1) ⟨⟨we,by rw[h2,Vu we hz]⟩,we⟩
  .
   refine kp 0 n _ J J J J (tC _) we omq J<|rz J (by have:=RU h1 (fun _ h=>hc15 we);rw[<-h2] at this;show DV.sl _=_;simp[d6,this])
 .
  refine kp 0 n _ J J J J (tC _) we omq rfl<|rz rfl (by obtain rfl:n=0:=we;show DV.sl _=_;simp[d6,h2,trimD])
def xf{a k:Nat}(h:a<2^k)(hk:k<=1000000000):(dg a).length<=100000000:=by have:=kA h;omega
def dm(a:Nat):dv (dg a)=a:=(gh a).1
def gD(a:Nat):bH (dg a):=(gh a).2.1
def b8(ds:List Nat):(ds.map dU).length=ds.length:=aX ..
def k9{ds:List Nat}{n:Nat}(h:ds.length<=n:=by omega):ds.take n=ds:=bM h
def qr{ds:List Nat}{i:Nat}(h:ds.length<=i:=by omega):ds.getD i 0=0:=by
 rw[aV,fK h];rfl
def mh{ds:List Nat}{n:Nat}(h:bH ds)(e:dv ds=n):d6 (trimD ds)=dN n:=by rw[aLF h,e]
def CS{a b:Nat}(h:a<b):jk a b= -1:=by unfold jk;rw[if_pos h]
def Cv{a b:Nat}(h:b<a):jk a b=1:=by unfold jk;rw[if_neg we,if_neg we]
def Mp{a b:Nat}(h:a=b):jk a b=0:=by unfold jk;rw[if_neg we,if_pos h]
def av8(m n:Nat):Int.sign ((m:Int)-n)=jk m n:=by
 unfold jk;split
 .exact fQ we
 .split
  .rw[show(m:Int)-n=0 by omega];rfl
  .exact gQ we
def H4{a b:Nat}(h:(dg a).length≠(dg b).length:=by omega):jk (dg a).length (dg b).length=jk a b:=by
 rcases Nat.lt_or_gt_of_ne h with h|h
 .have:=Ak (gD a) (gh b).2.2 h
  rw[dm,dm] at this;rw[CS h,CS this]
 .have:=Ak (gD b) (gh a).2.2 h
  rw[dm,dm] at this;rw[Cv h,Cv this]
def AX{a b i:Nat}(hl:(dg a).length=(dg b).length)(hi:i<(dg a).length)(hs:(dg a).drop (i+1)=(dg b).drop (i+1)):
  ((dg a).getD i 0<(dg b).getD i 0->a<b)/\((dg b).getD i 0<(dg a).getD i 0->b<a)/\((dg a).getD i 0=(dg b).getD i 0->(dg a).drop i=(dg b).drop i):=by
 refine⟨fun h=>?_,fun h=>?_,fun h=>?_⟩
 .have:=UP (gD a) (gD b) i hi we hl hs h
  rwa [dm,dm] at this
 .have:=UP (gD b) (gD a) i we hi hl.symm hs.symm h
  rwa [dm,dm] at this
 .rw[bK hi,bK (by omega:i<(dg b).length),hs]
  rw[aV,aV,aZ hi,aZ (by omega:i<(dg b).length)] at h;simp only[mQ] at h;rw[h]
theorem okP{p:Prop}(h:p:=by show DV.v (.int _ 0)=DV.v (.int _ _);rw[show z=0 by omega];rfl):p:=h
theorem ozk{p:Prop}(h:p:=by show DV.v (.int _ (-1))=DV.v (.int _ _);rw[fQ we]):p:=h
theorem ozo{p:Prop}(h:p:=by show DV.v (.int _ 1)=DV.v (.int _ _);rw[gQ we]):p:=h
def aJA{z:Int}:PF GB prog 213 [vI z] (vI z.sign):=by
 refine fn func213 J J ntmps213 J J (fun C=>?_);refine br J J J (fun hc4=>?_) (fun hc4=>?_)
 .
  exact rz J ozo
 .
  refine br J J J (fun hc6=>?_) (fun hc6=>?_)
  .
   exact rz J ozk
  .
   exact rz J okP
def Ur(u:Nat):dv [u%4294967296,u/4294967296]=u:=by simp only[dv];omega
def UQ{u:Nat}(h:u<18446744073709551616):bH [u%4294967296,u/4294967296]:= .cons we (.cons we .nil)
def qa(u:Nat):(u:Int).fdiv (2^min (32:Int).toNat IntKind.u64.bits)=((u/4294967296:Nat):Int):=by
 rw[show(2:Int)^min (32:Int).toNat IntKind.u64.bits=((4294967296:Nat):Int) from J,kM _ oma];rfl
theorem okh{p:Prop}(h:p:=by show FX.d (.sl [.v (.int _ _), .v (.int _ _)])= .d (.sl [.v (.int _ _), .v (.int _ _)]);congr 6;omega):p:=h
theorem oku{p:Prop}(h:p:=by rw[qa]):p:=h
def vZ{u:Nat}(hu:u<18446744073709551616:=by omega):PF GB prog 98 [.v (.int .u64 (u:Int))] (dN u):=by
 refine fn (fu:=⟨11⟩) (hv:=by simp only[ak];exact oma) func98 J J ntmps98 J J (fun C=>?_);refine aj 6 (.d (.v (.int .u64 (u/4294967296:Nat)))) J oku<|gx J<|rf (fu:=⟨0⟩) J J<|aj 8 (.d (d6 [u%4294967296,u/4294967296])) J okh<|gx J<|cl J (sC (ds:=[u%4294967296,u/4294967296]) omc) J<|rz J (mh (UQ hu) (Ur u))
theorem okL{p:Prop}(h:p:=by unfold dN;rw[DR];rfl):p:=h
def HY:PF GB prog 146 [] (dN 1):=by
 refine fn func146 J J ntmps146 J J (fun C=>?_);refine rf J J<|rz J okL
def BJ{a b:Nat}(ha:(dg a).length<=100000000:=by omega)(hb:(dg b).length<=100000000:=by omega):PF GB prog 154 [dN a,dN b] (vI (jk a b)):=by
 have hla:=b8 (dg a);have hlb:=b8 (dg b);refine fn func154 J J ntmps154 J J (fun C=>?_);refine br J J J (fun hc10=>?_) (fun hc10=>?_)
 .
  refine cl J aJA J<|rz J (by show DV.v (.int _ _)=DV.v (.int _ _);rw[hla,hlb,av8,H4])
 .
  have hl:(dg a).length=(dg b).length:=by omega
  refine lp (X:=Nat) (fun k=>[(0, .d (dN a)),(1, .d (dN b)),(5, .d (vI ((k:Nat)-1)))]) (fun k=>[]) (fun k=>k<=(dg a).length/\(dg a).drop k=(dg b).drop k) (fun k=>k) (dg a).length J ⟨bV _,by rw[fL,hl,fL]⟩ (fun _=>J) (fun k hk=>?_);obtain⟨h1,h2⟩:=hk;refine br J J J (fun hc21=>?_) (fun hc21=>?_)
  .
   obtain⟨k,rfl⟩: ∃m,k=m+1:=⟨k-1,we⟩;refine ix _ J (cP (k:=k)) J<|ix _ J (cP (k:=k)) J<|br J J J (fun hc32=>?_) (fun hc32=>?_)
   .
    exact rz J (by show DV.v (.int _ 1)=DV.v (.int _ _);rw[Cv ((AX hl we h2).2.1 we)])
   .
    refine ix _ J (cP (k:=k)) J<|ix _ J (cP (k:=k)) J<|br J J J (fun hc41=>?_) (fun hc41=>?_)
    .
     exact rz J (by show DV.v (.int _ (-1))=DV.v (.int _ _);rw[CS ((AX hl we h2).1 we)])
    .
     exact at_ k ⟨⟨we,(AX (i:=k) hl we h2).2.2 we⟩,we⟩
  .
   exact rz rfl (by show DV.v (.int _ 0)=DV.v (.int _ _);rw[Mp];obtain rfl:k=0:=we;rw[iS,iS] at h2;rw[<-dm a,h2,dm])
def OV{A B W:List Nat}{i c:Nat}(hi:i<W.length)(h:dv (W.take i)+4294967296^i*c=dv (A.take i)+dv (B.take i)):
  dv ((W.set i ((A.getD i 0+B.getD i 0+c)%4294967296)).take (i+1))+4294967296^(i+1)*((A.getD i 0+B.getD i 0+c)/4294967296)=dv (A.take (i+1))+dv (B.take (i+1)):=by
 rw[z6 hi,pB A,pB B,iK,show A.getD i 0+B.getD i 0+c=c+A.getD i 0+B.getD i 0 by omega];exact aB6 h
theorem ozd{p:Prop}(h:p:=by rw[bJ];omega):p:=h
def RY{a b n:Nat}{W:List Nat}{c:Nat}(hn:n=max (dg a).length (dg b).length)(hl:W.length=n+1)(h:dv (W.take n)+4294967296^n*c=dv ((dg a).take n)+dv ((dg b).take n)):dv (W.set n c)=a+b:=by
 have e:=z6 (ws:=W) (k:=n) (d:=c);rw[k9 ozd] at e;rw[e,h,k9,k9,dm,dm]
theorem omH{p:Prop}(h:p:=by rw[<-nO];rfl):p:=h
theorem okj{p:Prop}(h:p:=by rw[<-j0];rfl):p:=h
def aL1{a b ia ib:Nat}[ha:BN a ia][hb:BN b ib](hi:ia<=1000000000:=by decide)(hj:ib<=1000000000:=by decide):PF GB prog 153 [dN a,dN b] (dN (a+b)):=by
 have hla:=b8 (dg a);have hlb:=b8 (dg b);have hba:=xf ha.h hi;have hbb:=xf hb.h hj;refine fn (fu:=⟨12⟩) func153 J J ntmps153 J J (fun C=>?_);obtain⟨n,hn⟩: ∃n,n=max (dg a).length (dg b).length:=⟨_,rfl⟩;refine aj 15 (.d (vI (n:Nat))) J (by show FX.d (.v (.int _ _))= .d (.v (.int _ _));congr 3;split<;>omega)<|gx J<|mk ((List.replicate (n+1) 0).map dU) J J omH J<|lp (X:=List Nat×Nat×Nat) (fun⟨W,c,i⟩=>[(0, .d (dN a)),(1, .d (dN b)),(5, .d (vI (n:Nat))),(6, .rw 18),(7, .d (.v (.int .u32 (c:Nat)))),(8, .d (vI (i:Nat)))]) (fun⟨W,c,i⟩=>[(18,some (.b 245 1 (W.map dU) true))]) (fun⟨W,c,i⟩=>W.length=n+1/\bH W/\c<=1/\i<=n/\dv (W.take i)+4294967296^i*c=dv ((dg a).take i)+dv ((dg b).take i)) (fun⟨W,c,i⟩=>n-i) ⟨List.replicate (n+1) 0,0,0⟩ J ⟨omc, .replicate _,we,we,by simp[dv]⟩ (fun _=>J) (fun⟨W,c,i⟩ hk=>?_);dsimp only at hk⊢;obtain⟨h1,h2,h3,h4,h5⟩:=hk;have hlw:=b8 W;have hda:=eh a i;have hdb:=eh b i;refine br (fu1:=⟨11⟩) J J J (fun hc21=>?_) (fun hc21=>?_)
 .
  refine mg (fu:=⟨1⟩) (X:=Unit) (fun _=>[(0, .d (dN a)),(1, .d (dN b)),(5, .d (vI (n:Nat))),(6, .rw 18),(7, .d (.v (.int .u32 (c:Nat)))),(8, .d (vI (i:Nat))),(9, .d (dU ((dg a).getD i 0))),(10, .d (.v (.int .u32 0)))]) (fun _=>[(18,some (.b 245 1 (W.map dU) true))]) (fun _=>True) [0,1,5,6,7,8,9,10] [18] rfl ?_ (fun _=>J) (fun _ hm=>?_)
  .
   refine gx J<|br J J J (fun hc27=>?_) (fun hc27=>?_)
   .
    refine ix _ J (fg) J<|at_ () trivial
   .
    refine aj 9 (.d (dU ((dg a).getD i 0))) J (by rw[qr];rfl)<|at_ () trivial
  .
   refine mg (X:=Unit) (fun _=>[(0, .d (dN a)),(1, .d (dN b)),(5, .d (vI (n:Nat))),(6, .rw 18),(7, .d (.v (.int .u32 (c:Nat)))),(8, .d (vI (i:Nat))),(9, .d (dU ((dg a).getD i 0))),(10, .d (dU ((dg b).getD i 0)))]) (fun _=>[(18,some (.b 245 1 (W.map dU) true))]) (fun _=>True) [0,1,5,6,7,8,9,10] [18] rfl ?_ (fun _=>J) (fun _ hm=>?_)
   .
    refine gx J<|br J J J (fun hc35=>?_) (fun hc35=>?_)
    .
     refine ix _ J (fg) J<|at_ () trivial
    .
     refine aj 10 (.d (dU ((dg b).getD i 0))) J (by rw[qr];rfl)<|at_ () trivial
   .
    refine cl J (Wf we we we) J<|sb _ ((W.set i (((dg a).getD i 0+(dg b).getD i 0+c)%4294967296)).map dU) J (fg) J okj J<|at_ ⟨W.set i (((dg a).getD i 0+(dg b).getD i 0+c)%4294967296),((dg a).getD i 0+(dg b).getD i 0+c)/4294967296,i+1⟩ (by dsimp only;exact⟨⟨by simpa using h1,h2.set _ we,we,we,OV we h5⟩,we⟩)
 .
  obtain rfl:i=n:=by omega
  refine sb _ ((W.set i c).map dU) J (fg) J okj J<|fz 18 J J<|cl J (sC (ds:=W.set i c) omq) J<|rz J (mh (h2.set _ we) (RY hn h1 h5))
def R5{A B W:List Nat}{i c d c2:Nat}(hA:bH A)(hB:bH B)(hi:i<W.length)(hc:c<=1)(h:dv (W.take i)+dv (B.take i)=dv (A.take i)+4294967296^i*c)
  (hd:d=if A.getD i 0<B.getD i 0+c then A.getD i 0+4294967296-(B.getD i 0+c) else A.getD i 0-(B.getD i 0+c))(hc2:c2=if A.getD i 0<B.getD i 0+c then 1 else 0):
  dv ((W.set i d).take (i+1))+dv (B.take (i+1))=dv (A.take (i+1))+4294967296^(i+1)*c2:=by
 have h1:=hA.get i;have h2:=hB.get i;rw[z6 hi,pB A,pB B,iK];split at hd
 .rename_i q
  rw[if_pos q] at hc2;subst hc2 hd;rw[lJ (B.getD i 0) c];exact aDZ h we we
 .rename_i q
  rw[if_neg q] at hc2;subst hc2 hd;rw[lJ (B.getD i 0) c];exact aJt h we
def UH{a b c:Nat}{W:List Nat}(hw:bH W)(hl:W.length=(dg a).length)(hb:b<=a)(h:dv (W.take (dg a).length)+dv ((dg b).take (dg a).length)=dv ((dg a).take (dg a).length)+4294967296^(dg a).length*c):dv W=a-b:=by
 have hlb:(dg b).length<=(dg a).length:=by
  rcases jS (dg a).length (dg b).length with q|q
  .have:=Ak (gD a) (gh b).2.2 q
   rw[dm,dm] at this;omega
  .exact q
 rw[k9,k9 hlb,k9 (bV _),dm,dm] at h;have h2:=m6 hw;rw[hl] at h2;rcases gX c with q|q
 .subst q;omega
 .have:4294967296^(dg a).length*1<=4294967296^(dg a).length*c:=fV _ q
  omega
theorem omT{p:Prop}(h:p:=by rw[hla];rfl):p:=h
def H'{a b ia:Nat}[ha:BN a ia](hb:b<=a)(hi:ia<=1000000000:=by decide):PF GB prog 155 [dN a,dN b] (dN (a-b)):=by
 have hla:=b8 (dg a);have hlb:=b8 (dg b);have hba:=xf ha.h hi;refine fn (fu:=⟨9⟩) func155 J J ntmps155 J J (fun C=>?_);refine aj 10 (.d (vI ((dg a).length:Nat))) J omT<|gx J<|mk (fu:=⟨13⟩) ((List.replicate (dg a).length 0).map dU) J J omH J<|aj 13 (.d (vI ((dg a).length:Nat))) J omT<|gx J<|lp (X:=List Nat×Nat×Nat) (fun⟨W,c,i⟩=>[(0, .d (dN a)),(1, .d (dN b)),(5, .rw 11),(6, .d (.v (.int .u32 (c:Nat)))),(13, .d (vI ((dg a).length:Nat))),(14, .d (vI (i:Nat)))]) (fun⟨W,c,i⟩=>[(11,some (.b 245 1 (W.map dU) true))]) (fun⟨W,c,i⟩=>W.length=(dg a).length/\bH W/\c<=1/\i<=(dg a).length/\dv (W.take i)+dv ((dg b).take i)=dv ((dg a).take i)+4294967296^i*c) (fun⟨W,c,i⟩=>(dg a).length-i) ⟨List.replicate (dg a).length 0,0,0⟩ J ⟨omc, .replicate _,we,we,by simp[dv]⟩ (fun _=>J) (fun⟨W,c,i⟩ hk=>?_);dsimp only at hk⊢;obtain⟨h1,h2,h3,h4,h5⟩:=hk;have hlw:=b8 W;have hda:=eh a i;have hdb:=eh b i;refine br (fu1:=⟨16⟩) J J J (fun hc15=>?_) (fun hc15=>?_)
 .
  refine mg (X:=Unit) (fun _=>[(0, .d (dN a)),(1, .d (dN b)),(5, .rw 11),(6, .d (.v (.int .u32 (c:Nat)))),(13, .d (vI ((dg a).length:Nat))),(14, .d (vI (i:Nat))),(7, .d (vI (i:Nat))),(8, .d (dU ((dg b).getD i 0)))]) (fun _=>[(11,some (.b 245 1 (W.map dU) true))]) (fun _=>True) [0,1,5,6,13,14,7,8] [11] rfl ?_ (fun _=>J) (fun _ hm=>?_)
  .
   refine gx J<|br J J J (fun hc20=>?_) (fun hc20=>?_)
   .
    refine ix _ J (fg) J<|at_ () trivial
   .
    refine aj 8 (.d (dU ((dg b).getD i 0))) J (by rw[qr];rfl)<|at_ () trivial
  .
   refine ix _ J (fg) J<|cl J (aEb we we we) J<|sb _ ((W.set i (if(dg a).getD i 0<(dg b).getD i 0+c then(dg a).getD i 0+4294967296-((dg b).getD i 0+c) else(dg a).getD i 0-((dg b).getD i 0+c))).map dU) J (fg) J okj J<|at_ ⟨W.set i (if(dg a).getD i 0<(dg b).getD i 0+c then(dg a).getD i 0+4294967296-((dg b).getD i 0+c) else(dg a).getD i 0-((dg b).getD i 0+c)),(if(dg a).getD i 0<(dg b).getD i 0+c then 1 else 0),i+1⟩ (by dsimp only;exact⟨⟨by simpa using h1,h2.set _ (by split<;>omega),by split<;>omega,we,R5 (gD a) (gD b) we h3 h5 J J⟩,we⟩)
 .
  obtain rfl:i=(dg a).length:=by omega
  refine fz 11 J J<|cl J (sC (ds:=W)) J<|rz J (mh h2 (UH h2 h1 hb h5))
def rg(n:Nat)(a b k:Nat)(ha:a<2^k)(h:a+b*2^k<2^n):(BitVec.ofInt n (a:Int) ||| BitVec.ofInt n ((b*2^k:Nat):Int)).toNat=a+b*2^k:=by
 rw[BitVec.toNat_or,BitVec.ofInt_natCast,BitVec.ofInt_natCast,BitVec.toNat_ofNat,BitVec.toNat_ofNat,kY we,kY we];rw[<-Nat.shiftLeft_eq,Nat.or_comm,<-Nat.shiftLeft_add_eq_or_of_lt ha,Nat.shiftLeft_eq];omega
def F6{x y:Nat}(hx:x<4294967296)(hy:y<4294967296):x*y<=18446744065119617025:=by
 have:=fZ (by omega:x<=4294967295) (by omega:y<=4294967295);exact this
def Cw(x y:Nat):(0:Int)<=(x:Int)*(y:Int):=by rw[<-jJ];omega
def DJ{x y:Nat}(hx:x<4294967296)(hy:y<4294967296):(x:Int)*(y:Int)<=18446744073709551615:=by
 have:=F6 hx hy;rw[<-jJ];omega
def XE{ds:List Nat}(h:ds.length=1):dv ds=ds.getD 0 0:=by
 match ds,h with
 |[d],_=>simp[dv]
def xq{a:Nat}(h:(dg a).length=1:=by omega):(dg a).getD 0 0=a:=by rw[<-XE h,dm]
def Yq{ds:List Nat}{j m:Nat}(h:j<m):(ds.take m).getD j 0=ds.getD j 0:=by
 rw[aV,aV,pV,if_pos h]
def QK{W:List Nat}{j m d:Nat}(hj:j<m)(hm:m<=W.length):dv ((W.set j d).take m)+4294967296^j*W.getD j 0=dv (W.take m)+4294967296^j*d:=by
 rw[List.take_set,<-Yq (ds:=W) hj];exact zc _ _ _ (by rw[bL];omega)
def Ui{W:List Nat}{P X Y m i k c y t S:Nat}(hk:i+k<m)(hm:m<=W.length)(h:dv (W.take m)+4294967296^(i+k)*c=P+X*(4294967296^i*S))(ht:t=Y+W.getD (i+k) 0+c)(hY:Y=X*y):
  dv ((W.set (i+k) (t%4294967296)).take m)+4294967296^(i+(k+1))*(t/4294967296)=P+X*(4294967296^i*(S+4294967296^k*y)):=by
 have h1:=QK (W:=W) (d:=t%4294967296) hk hm;rw[ht,show Y+W.getD (i+k) 0+c=c+Y+W.getD (i+k) 0 by omega] at h1⊢;have h2:=Zh h1 h;rw[<-lT,iK,h2,hY,fY];simp only[fW,cR,nX,cW,lT]
def Va{a b:Nat}{W:List Nat}{i c lb:Nat}(hlb:lb=(dg b).length)(hl:i+lb<W.length)(h:dv (W.take (i+lb))+4294967296^(i+lb)*c=dv ((dg a).take i)*b+(dg a).getD i 0*(4294967296^i*dv ((dg b).take lb))):
  dv ((W.set (i+lb) c).take (i+1+lb))=dv ((dg a).take (i+1))*b:=by
 rw[show i+1+lb=i+lb+1 by omega,z6 hl,h,pB,k9 (ds:=dg b),dm b,dS];simp only[cR,nX,cW]
def EH(n j:Nat):(List.replicate n 0).getD j 0=0:=by
 rw[aV,List.getElem?_replicate];split<;>rfl
def Db{k:Nat}(h:k<=1000000000):IntKind.i64.wrap ((k:Int).tdiv 32)=((k/32:Nat):Int):=by
 rw[show(k:Int).tdiv 32=((k/32:Nat):Int) from J,KI];omega
def Tv(k:Nat):(k:Int).tmod 32=((k%32:Nat):Int):=rfl
theorem omk{p:Prop}(h:p:=by show FX.d (.v (.int _ _))= .d (.v (.int _ _));congr 3):p:=h
theorem omI{p:Prop}(h:p:=by congr 3;omega):p:=h
theorem okn{p:Prop}(h:p:=by dsimp only;exact⟨⟨by simpa using g1,g2.set _ we,we,we,by rw[pB];exact Ui we we g5 ht hp⟩,we⟩):p:=h
theorem okv{p:Prop}(h:p:=by have:=h4;rw[k9,k9,dm] at this;exact this):p:=h
theorem okH{p:Prop}(h:p:=by dsimp only;exact⟨⟨by simpa using g1,g2.set _ g3,we,Va J we g5⟩,we⟩):p:=h
def qi{a b ia ib:Nat}[ha:BN a ia][hb:BN b ib](hi:ia<=1000000000:=by decide)(hj:ib<=1000000000:=by decide):PF GB prog 87 [dN a,dN b] (dN (a*b)):=by
 have hla:=b8 (dg a);have hlb:=b8 (dg b);have hba:=xf ha.h hi;have hbb:=xf hb.h hj;refine fn (fu:=⟨6⟩) func87 J J ntmps87 J J (fun C=>?_);refine mg (fu:=⟨4⟩) (X:=Unit) (fun _=>[(0, .d (dN a)),(1, .d (dN b))]) (fun _=>[]) (fun _=>True) [0,1] [] rfl ?_ (fun _=>J) (fun _ hm=>?_)
 .
  refine gx J<|cs 15 J J J (fun hg15=>?_) (fun hg15=>?_)
  .
   refine br J J J (fun hc19=>?_) (fun hc19=>?_)
   .
    have hd0:=eh a 0;have hd1:=eh b 0;refine ix _ J (cP (k:=0) J we) J<|ix (hv:=by simp only[ak];exact⟨we,⟨(Cw _ _),(DJ (eh _ _) (eh _ _))⟩⟩) _ J (cP (k:=0) J we) J<|cl J (vZ (u:=(dg a).getD 0 0*(dg b).getD 0 0) (by have:=F6 (eh a 0) (eh b 0);omega)) J<|rz J (by rw[xq,xq];rfl)
   .
    exact at_ () trivial
  .
   exact at_ () trivial
 .
  refine aj 31 (.d (vI ((dg a).length:Nat))) J omT<|gx (fu:=⟨2⟩) J<|aj 33 (.d (vI ((dg b).length:Nat))) J (by rw[hlb];rfl)<|gx J<|mk (fu:=⟨8⟩) ((List.replicate ((dg a).length+(dg b).length) 0).map dU) J J omH J<|aj 37 (.d (vI ((dg a).length:Nat))) J omT<|gx J<|lp (X:=List Nat×Nat) (fun⟨W,i⟩=>[(0, .d (dN a)),(1, .d (dN b)),(5, .rw 35),(36, .d (dN a)),(37, .d (vI ((dg a).length:Nat))),(38, .d (vI (i:Nat)))]) (fun⟨W,i⟩=>[(35,some (.b 245 1 (W.map dU) true))]) (fun⟨W,i⟩=>W.length=(dg a).length+(dg b).length/\bH W/\i<=(dg a).length/\dv (W.take (i+(dg b).length))=dv ((dg a).take i)*b) (fun⟨W,i⟩=>(dg a).length-i) ⟨List.replicate ((dg a).length+(dg b).length) 0,0⟩ J ⟨omc, .replicate _,we,by rw[qL,Ar];simp[dv]⟩ (fun _=>J) (fun⟨W,i⟩ hk=>?_);dsimp only at hk⊢;obtain⟨h1,h2,h3,h4⟩:=hk;refine br J J J (fun hc39=>?_) (fun hc39=>?_)
  .
   refine ix (fu:=⟨15⟩) _ J (fg) J<|aj 44 (.d (vI ((dg b).length:Nat))) J (by rw[hlb];rfl)<|gx J<|lp (X:=List Nat×Nat×Nat) (fun⟨W2,c,k⟩=>[(0, .d (dN a)),(1, .d (dN b)),(5, .rw 35),(6, .d (vI (i:Nat))),(7, .d (dU ((dg a).getD i 0))),(8, .d (.v (.int .u64 (c:Nat)))),(36, .d (dN a)),(37, .d (vI ((dg a).length:Nat))),(38, .d (vI (i:Nat))),(43, .d (dN b)),(44, .d (vI ((dg b).length:Nat))),(45, .d (vI (k:Nat)))]) (fun⟨W2,c,k⟩=>[(35,some (.b 245 1 (W2.map dU) true))]) (fun⟨W2,c,k⟩=>W2.length=(dg a).length+(dg b).length/\bH W2/\c<4294967296/\k<=(dg b).length/\dv (W2.take (i+(dg b).length))+4294967296^(i+k)*c=dv ((dg a).take i)*b+(dg a).getD i 0*(4294967296^i*dv ((dg b).take k))) (fun⟨W2,c,k⟩=>(dg b).length-k) ⟨W,0,0⟩ J ⟨h1,h2,we,we,by rw[h4];simp[dv]⟩ (fun _=>J) (fun⟨W2,c,k⟩ hk=>?_);dsimp only at hk⊢;obtain⟨g1,g2,g3,g4,g5⟩:=hk;have hlw:=b8 W2;have hw:=g2.get (i+k);have hda:=eh a i;have hdb:=eh b k;refine br (fu2:=⟨10⟩) J J J (fun hc46=>?_) (fun hc46=>?_)
   .
    refine ix (fu:=⟨12⟩) (hv:=by simp only[ak];exact⟨⟨we,we⟩,⟨(Cw _ _),(DJ (eh _ _) (eh _ _))⟩⟩) _ J (fg) J<|?_;obtain⟨p,hp⟩: ∃p,p=(dg a).getD i 0*(dg b).getD k 0:=⟨_,rfl⟩;have hp1:p<=18446744065119617025:=hp▸F6 hda hdb;refine aj 54 (.d (.v (.int .u64 (p:Nat)))) J (by rw[hp,jJ])<|gx J<|lb (fu:=⟨4⟩) _ J (cP (k:=i+k)) J<|?_;obtain⟨t,ht⟩: ∃t,t=p+W2.getD (i+k) 0+c:=⟨_,rfl⟩;refine aj 64 (.d (.v (.int .u64 (t:Nat)))) J omI<|gx (fu:=⟨11⟩) J<|aj 70 (.d (dU (t%4294967296))) J omk<|gx J<|sb (fu:=⟨5⟩) (hv:=by simp only[ak];exact oma) _ ((W2.set (i+k) (t%4294967296)).map dU) J (cP (k:=i+k)) J (by(rw[show((i:Int)+k).toNat=i+k by omega,<-j0])<;>rfl) J<|aj 73 (.d (.v (.int .u64 (t/4294967296:Nat)))) J oku<|gx J<|at_ ⟨W2.set (i+k) (t%4294967296),t/4294967296,k+1⟩ okn
   .
    obtain rfl:k=(dg b).length:=by omega
    refine aj 78 (.d (vI ((dg b).length:Nat))) J (by rw[hlb];rfl)<|gx (fu:=⟨3⟩) J<|aj 81 (.d (dU c)) J (omi we)<|gx J<|sb _ ((W2.set (i+(dg b).length) c).map dU) J (cP (k:=i+(dg b).length)) J (by(rw[show((i:Int)+((dg b).length:Nat)).toNat=i+(dg b).length by omega,<-j0])<;>rfl) J<|at_ ⟨W2.set (i+(dg b).length) c,i+1⟩ okH
  .
   obtain rfl:i=(dg a).length:=by omega
   refine fz 35 J J<|cl J (sC (ds:=W)) J<|rz J (mh h2 okv)
def KX(x s:Nat):x*2^s=x*2^s%4294967296+4294967296*(x*2^s/4294967296):=by omega
def Vg{x s:Nat}(hx:x<4294967296)(hs:s<32):x*2^s/4294967296<2^s:=by
 rw[kS oma,cW (2^s)];exact nL hx (bV _) (gU oma)
def KJ{s:Nat}(hs:s<32):2^s*2^(32-s)=4294967296:=by rw[<-fY,show s+(32-s)=32 by omega]
def aEI(x s:Nat)(hs:s<32):x*2^s%4294967296=x%2^(32-s)*2^s:=by
 rw[<-KJ hs,cW (2^s),Nat.mul_mod_mul_right]
def PO{x s:Nat}(hx:x<4294967296)(hs:s<32):x*2^s<18446744073709551616:=by
 have h1:2^s<=2^31:=bR oma we;have:=nL hx h1 oma;omega
def UI{w x s:Nat}(hw:w<2^s)(hs:s<32):(BitVec.ofInt 32 (w:Int) ||| BitVec.ofInt 32 ((x*2^s%4294967296:Nat):Int)).toNat=w+x*2^s%4294967296:=by
 rw[aEI x s hs];refine rg 32 _ _ _ hw ?_;have h1:x%2^(32-s)+1<=2^(32-s):=dW _ (gU oma);have h2:=bW (2^s) h1;rw[cW (2^(32-s)),KJ hs,dS,mN] at h2;show _<4294967296;omega
def aw9{h:Nat}(hh:h<4294967296):(BitVec.ofInt 32 ((0:Nat):Int) ||| BitVec.ofInt 32 (h:Int)).toNat=h:=by
 have:=rg 32 0 h 0 oma (by simpa using hh);simpa using this
def Lv(k:Nat):2^k=4294967296^(k/32)*2^(k%32):=by
 rw[show(4294967296:Nat)=2^32 from J,<-uR,<-fY,rU]
def getD_set_ne{W:List Nat}{i j d:Nat}(h:i≠j:=by omega):(W.set i d).getD j 0=W.getD j 0:=by
 rw[aV,aV,List.getElem?_set_ne h]
def CE{W:List Nat}{i d:Nat}(h:i<W.length):(W.set i d).getD i 0=d:=by
 rw[aV,sS h];rfl
def P'{A W:List Nat}{k q s i x:Nat}(hq:q=k/32)(hs:s=k%32)(hl:q+i+1<W.length)(hx:x=A.getD i 0)
  (h:dv (W.take (q+i+1))=dv (A.take i)*2^k):
  dv (((W.set (q+i) (W.getD (q+i) 0+x*2^s%4294967296)).set (q+i+1) (x*2^s/4294967296)).take (q+(i+1)+1))=dv (A.take (i+1))*2^k:=by
 have e1:=QK (W:=W) (j:=q+i) (m:=q+i+1) (d:=W.getD (q+i) 0+x*2^s%4294967296) we we;rw[show q+(i+1)+1=q+i+1+1 by omega,z6 ozd,pB A,<-hx];have e2:dv ((W.set (q+i) (W.getD (q+i) 0+x*2^s%4294967296)).take (q+i+1))=dv (A.take i)*2^k+4294967296^(q+i)*(x*2^s%4294967296):=by
  rw[fW,h] at e1;omega
 rw[e2,iK,cR,lT,<-fW,<-KX,dS,Lv k,<-hq,<-hs,fY];simp only[cR,nX,cW]
theorem omC{p:Prop}(h:p:=by show FX.d (.v (.int _ _))= .d (.v (.int _ _));rw[Db hk]):p:=h
theorem ozg{p:Prop}(h:p:=by show FX.d (.v (.int _ _))= .d (.v (.int _ _));rw[Tv]):p:=h
def Ek{a k ia:Nat}[ha:BN a ia](hk:k<=1000000000)(hi:ia<=1000000000:=by decide):PF GB prog 260 [dN a,vI (k:Nat)] (dN (a*2^k)):=by
 have hla:=b8 (dg a);have hba:=xf ha.h hi;refine fn (fu:=⟨9⟩) func260 J J ntmps260 J J (fun C=>?_);refine aj 11 (.d (vI (k/32:Nat))) J omC<|gx (fu:=⟨2⟩) J<|aj 13 (.d (vI ((dg a).length:Nat))) J omT<|gx (fu:=⟨2⟩) J<|aj 15 (.d (vI (k/32+(dg a).length+1:Nat))) J omk<|gx J<|mk (fu:=⟨7⟩) (hv:=by simp only[ak];exact oma) ((List.replicate (k/32+(dg a).length+1) 0).map dU) J J omH J<|aj 18 (.d (vI (k%32:Nat))) J ozg<|gx (fu:=⟨9⟩) J<|aj 21 (.d (vI ((dg a).length:Nat))) J omT<|gx J<|lp (X:=List Nat×Nat) (fun⟨W,i⟩=>[(0, .d (dN a)),(1, .d (vI (k:Nat))),(5, .rw 16),(6, .d (.v (.int .u64 (k%32:Nat)))),(20, .d (dN a)),(21, .d (vI ((dg a).length:Nat))),(22, .d (vI (i:Nat)))]) (fun⟨W,i⟩=>[(16,some (.b 245 1 (W.map dU) true))]) (fun⟨W,i⟩=>W.length=k/32+(dg a).length+1/\bH W/\i<=(dg a).length/\dv (W.take (k/32+i+1))=dv ((dg a).take i)*2^k/\W.getD (k/32+i) 0<2^(k%32)/\ ∀j,k/32+i<j->W.getD j 0=0) (fun⟨W,i⟩=>(dg a).length-i) ⟨List.replicate (k/32+(dg a).length+1) 0,0⟩ J ⟨omc, .replicate _,we,by rw[qL,Ar];simp[dv],by rw[EH];exact gU oma,fun j _=>EH _ _⟩ (fun _=>J) (fun⟨W,i⟩ hk=>?_);dsimp only at hk⊢;obtain⟨h1,h2,h3,h4,h5,h6⟩:=hk;have hlw:=b8 W;have hda:=eh a i;have hsk:k%32<32:=dW _ oma;have hpp:2^(k%32)<=2^31:=bR oma we;refine br J J J (fun hc23=>?_) (fun hc23=>?_)
 .
  refine ix (fu:=⟨11⟩) (hv:=by simp only[ak];exact⟨we,we⟩) _ J (fg) J<|?_;have hhi:=Vg hda hsk;have hfit0:=PO hda hsk;have hor:=UI (x:=(dg a).getD i 0) h5 hsk;have hfit:W.getD (k/32+i) 0+(dg a).getD i 0*2^(k%32)%4294967296<4294967296:=by rw[<-hor];exact BitVec.isLt _
  have hlp:=KX ((dg a).getD i 0) (k%32);refine aj 30 (.d (.v (.int .u64 ((dg a).getD i 0*2^(k%32):Nat)))) J (by show FX.d (.v (.int _ _))= .d (.v (.int _ _));rw[q9 _ (k%32) we hfit0]) ?_;obtain⟨t,ht⟩: ∃t,t=(dg a).getD i 0*2^(k%32):=⟨_,rfl⟩;simp only[<-ht] at hhi hfit0 hor hfit hlp;rw[<-ht];refine gx (fu:=⟨8⟩) J<|aj 33 (.d (vI (k/32:Nat))) J omC<|gx J<|lb (fu:=⟨2⟩) _ J (cP (k:=k/32+i)) J<|aj 39 (.d (dU (t%4294967296))) J omk<|gx (fu:=⟨1⟩) J<|aj 40 _ J (congrArg (fun z:Nat=>FX.d (.v (.int .u32 (z:Int)))) hor)<|gx J<|sb (fu:=⟨6⟩) _ ((W.set (k/32+i) (W.getD (k/32+i) 0+t%4294967296)).map dU) J (cP (k:=k/32+i)) J (by(rw[show(((k/32:Nat):Int)+i).toNat=k/32+i by omega];simp only[kK];rfl)<;>rfl) J<|aj 44 (.d (vI (k/32:Nat))) J omC<|gx J<|lb (fu:=⟨0⟩) _ J (cP (k:=k/32+i+1) we ozd) J<|aj 49 (.d (dU 0)) J (by rw[getD_set_ne,h6 _ we])<|gx (fu:=⟨2⟩) (hv:=by simp only[ak];exact oma) J<|aj 51 (.d (.v (.int .u64 (t/4294967296:Nat)))) J oku<|gx (fu:=⟨1⟩) J<|aj 52 (.d (dU (t/4294967296))) J (omi we)<|gx (fu:=⟨1⟩) J<|aj 53 _ J (congrArg (fun z:Nat=>FX.d (.v (.int .u32 (z:Int)))) (aw9 we))<|gx J<|sb _ (((W.set (k/32+i) (W.getD (k/32+i) 0+t%4294967296)).set (k/32+i+1) (t/4294967296)).map dU) J (cP (k:=k/32+i+1) we ozd) J (by(rw[show(((k/32:Nat):Int)+i+1).toNat=k/32+i+1 by omega];simp only[kK];rfl)<;>rfl) J<|at_ ⟨(W.set (k/32+i) (W.getD (k/32+i) 0+t%4294967296)).set (k/32+i+1) (t/4294967296),i+1⟩ (by dsimp only;exact⟨⟨by simpa using h1,(h2.set _ hfit).set _ we,we,by have q:=P' (x:=(dg a).getD i 0) J J we J h4;rw[<-ht] at q;exact q,by rw[show k/32+(i+1)=k/32+i+1 by omega,CE omq];exact hhi,fun j hj=>by rw[getD_set_ne,getD_set_ne];exact h6 j we⟩,we⟩)
 .
  obtain rfl:i=(dg a).length:=by omega
  refine fz 16 J J<|cl J (sC (ds:=W)) J<|rz J (mh h2 okv)
def Xy{a k:Nat}(h:(dg a).length<=k/32):a/2^k=0:=by
 refine mM ?_;have h1:=m6 (gD a);rw[dm] at h1;have h2:4294967296^(dg a).length<=4294967296^(k/32):=bR oma h;have h3:4294967296^(k/32)*1<=4294967296^(k/32)*2^(k%32):=fV _ (gU oma);rw[Lv k];omega
def KG{ds:List Nat}(h:bH ds)(q:Nat):dv (ds.drop q)=dv ds/4294967296^q:=by
 rcases jS ds.length q with hq|hq
 .rw[iN we]
  have h1:=m6 h;have h2:4294967296^ds.length<=4294967296^q:=bR oma we;rw[mM we];rfl
 .have e:=Dk ds q hq
  have h1:=m6 (h.take q);rw[bL,kW hq] at h1;rw[e,qX _ _ (gU oma),mM h1,fX]
def Hx{ds:List Nat}(h:bH ds)(i:Nat):dv ds/4294967296^i=ds.getD i 0+4294967296*ds.getD (i+1) 0+18446744073709551616*(dv ds/4294967296^(i+2)):=by
 have e0:=KG h i;have e2:=KG h (i+2);rw[<-e0,<-e2];have g0:ds.getD i 0=(ds.drop i).getD 0 0:=by rw[aV,aV,mS];rfl
 have g1:ds.getD (i+1) 0=(ds.drop i).getD 1 0:=by rw[aV,aV,mS]
 have g2:ds.drop (i+2)=(ds.drop i).drop 2:=by rw[List.drop_drop]
 rw[g0,g1,g2]
 match ds.drop i with
 |[]=>rfl
 |[u]=>simp[dv]
 |u::v::t=>simp only[dv,qM,oM,uZ,iS];omega
def So{D s i u v w Z:Nat}(hs:s<32)(hZ:D/4294967296^i=u+4294967296*v+18446744073709551616*Z)(hw:w=(u+v*4294967296)/2^s%4294967296):(D/2^s)%4294967296^(i+1)=(D/2^s)%4294967296^i+4294967296^i*w:=by
 rw[iK,Nat.mod_mul];congr 2;rw[sL,cW (2^s),<-sL,hZ,hw];have h1:18446744073709551616=2^s*(2^(32-s)*4294967296):=by rw[<-cR,KJ hs]
 rw[h1,cR (2^s),qX _ _ (gU oma),cW v];rw[cW (2^(32-s)),cR,qU]
def axO{a k:Nat}{W:List Nat}{q s:Nat}(hq:q=k/32)(hs:s=k%32)(hl:W.length=(dg a).length-q)(h:dv (W.take ((dg a).length-q))=(dv ((dg a).drop q)/2^s)%4294967296^((dg a).length-q)):dv W=a/2^k:=by
 rw[k9] at h;have h1:=m6 ((gD a).drop q);rw[gM] at h1;have h2:=nK (dv ((dg a).drop q)) (2^s);rw[h,kY we,KG (gD a),dm,Lv k,<-hq,<-hs,sL]
theorem omt{p:Prop}(h:p:=by show FX.d (.v (.int _ _))= .d (.v (.int _ _));rw[q9 _ 32 oma (by show _*4294967296<_;omega) J]):p:=h
theorem omw{p:Prop}(h:p:=by show _+_*4294967296<18446744073709551616;omega):p:=h
def WE{a k ia:Nat}[ha:BN a ia](hk:k<=1000000000)(hi:ia<=1000000000:=by decide):PF GB prog 261 [dN a,vI (k:Nat)] (dN (a/2^k)):=by
 have hla:=b8 (dg a);have hba:=xf ha.h hi;refine fn (fu:=⟨10⟩) func261 J J ntmps261 J J (fun C=>?_);refine aj 12 (.d (vI (k/32:Nat))) J omC<|gx (fu:=⟨2⟩) J<|aj 14 (.d (vI ((dg a).length:Nat))) J omT<|gx J<|br (fu2:=⟨6⟩) (v2:=fun _=>by simp only[ak];exact oma) J J J (fun hc15=>?_) (fun hc15=>?_)
 .
  exact rz J (by rw[Xy we,mH];rfl)
 .
  refine aj 17 (.d (vI (k%32:Nat))) J ozg<|gx (fu:=⟨9⟩) J<|aj 21 (.d (vI (k/32:Nat))) J omC<|gx J<|kp (fu:=⟨0⟩) (k/32) (dg a).length _ J J (by rw[hla]) J (tC _) we we J<|?_;obtain⟨I,hI⟩: ∃I,I=(dg a).drop (k/32):=⟨_,rfl⟩;have hIl:I.length=(dg a).length-k/32:=by rw[hI,gM]
  have hIm:=b8 I;have hIo:bH I:=hI▸(gD a).drop _;refine aj 22 (.d (d6 I)) J (by show FX.d (.sl _)= .d (.sl _);rw[hI,<-hla,cN,iL])<|gx (fu:=⟨7⟩) J<|aj 24 (.d (vI (I.length:Nat))) J (by rw[hIm];rfl)<|gx J<|mk (fu:=⟨8⟩) ((List.replicate I.length 0).map dU) J J omH J<|aj 27 (.d (vI (I.length:Nat))) J (by rw[hIm];rfl)<|gx J<|lp (X:=List Nat×Nat) (fun⟨W,i⟩=>[(0, .d (dN a)),(5, .d (.v (.int .u64 (k%32:Nat)))),(6, .d (d6 I)),(7, .rw 25),(26, .d (d6 I)),(27, .d (vI (I.length:Nat))),(28, .d (vI (i:Nat)))]) (fun⟨W,i⟩=>[(25,some (.b 245 1 (W.map dU) true))]) (fun⟨W,i⟩=>W.length=I.length/\bH W/\i<=I.length/\dv (W.take i)=(dv I/2^(k%32))%4294967296^i) (fun⟨W,i⟩=>I.length-i) ⟨List.replicate I.length 0,0⟩ J ⟨omc, .replicate _,we,by simp[dv,Nat.mod_one]⟩ (fun _=>J) (fun⟨W,i⟩ hk=>?_);dsimp only at hk⊢;obtain⟨h1,h2,h3,h4⟩:=hk;have hlw:=b8 W;have hda:=hIo.get i;have hdb:=hIo.get (i+1);have hsk:k%32<32:=dW _ oma;refine br J J J (fun hc29=>?_) (fun hc29=>?_)
  .
   refine ix (fu:=⟨13⟩) _ J (fg) J<|mg (fu:=⟨6⟩) (hv:=fun _ _=>by simp only[ak];exact we) (X:=Unit) (fun _=>[(0, .d (dN a)),(5, .d (.v (.int .u64 (k%32:Nat)))),(6, .d (d6 I)),(7, .rw 25),(26, .d (d6 I)),(27, .d (vI (I.length:Nat))),(28, .d (vI (i:Nat))),(8, .d (vI (i:Nat))),(10, .d (.v (.int .u64 (I.getD i 0+I.getD (i+1) 0*4294967296:Nat))))]) (fun _=>[(25,some (.b 245 1 (W.map dU) true))]) (fun _=>True) [0,5,6,7,26,27,28,8,10] [25] rfl ?_ (fun _=>J) (fun _ hm=>?_)
   .
    refine gx (fu:=⟨6⟩) J<|aj 38 (.d (vI (I.length:Nat))) J (by rw[hIm];rfl)<|gx J<|br J J J (fun hc39=>?_) (fun hc39=>?_)
    .
     refine ix (fu:=⟨3⟩) (hv:=by simp only[ak];exact⟨we,oma⟩) _ J (cP (k:=i+1)) J<|aj 47 (.d (.v (.int .u64 (I.getD (i+1) 0*4294967296:Nat)))) J omt<|gx (fu:=⟨1⟩) J<|aj 48 _ J (congrArg (fun z:Nat=>FX.d (.v (.int .u64 (z:Int)))) (rg 64 (I.getD i 0) (I.getD (i+1) 0) 32 hda omw))<|gx J<|at_ () trivial
    .
     refine aj 10 (.d (.v (.int .u64 (I.getD i 0+I.getD (i+1) 0*4294967296:Nat)))) J (by rw[qr (by omega:I.length<=i+1),kL,gV])<|at_ () trivial
   .
    refine aj 53 (.d (.v (.int .u64 ((I.getD i 0+I.getD (i+1) 0*4294967296)/2^(k%32):Nat)))) J (by show FX.d (.v (.int _ _))= .d (.v (.int _ _));rw[S2 _ (k%32)])<|gx (fu:=⟨1⟩) J<|?_;obtain⟨w,hw⟩: ∃w,w=(I.getD i 0+I.getD (i+1) 0*4294967296)/2^(k%32)%4294967296:=⟨_,rfl⟩;have hw1:w<4294967296:=hw▸dW _ oma;refine aj 54 (.d (dU w)) J (by show FX.d (.v (.int _ _))= .d (.v (.int _ _));rw[hw];congr 3)<|gx J<|sb _ ((W.set i w).map dU) J (fg) J (by(rw[<-j0];rfl)<;>rfl) J<|at_ ⟨W.set i w,i+1⟩ (by dsimp only;exact⟨⟨by simpa using h1,h2.set _ we,we,by rw[z6,h4];exact(So hsk (Hx hIo i) hw).symm⟩,we⟩)
  .
   refine fz 25 rfl rfl<|cl rfl (sC (ds:=W)) rfl<|rz rfl (mh h2 (by obtain rfl:i=I.length:=we;rw[hIl] at h1 h4;rw[hI] at h4;exact axO rfl rfl h1 h4))
def CF{a k:Nat}(h:a<4294967296^k):(dg a).length<=k:=by
 rcases jS k (dg a).length with q|q
 .have h1:=Ae (gh a).2.2 (by intro e;rw[e] at q;simp at q)
  rw[dm] at h1;have h2:4294967296^k<=4294967296^((dg a).length-1):=bR oma we;omega
 .exact q
def aBM{a:Nat}(h:(dg a).length=2):(dg a).getD 0 0+(dg a).getD 1 0*4294967296=a:=by
 have e:=dm a;revert e
 match dg a,h with
 |[x,y],_=>intro e;simp[dv] at e⊢;omega
def DW(a:Nat):DV:= .tp [.v (.int .u64 ((if a<18446744073709551616 then a else 0:Nat):Int)),vB (decide (a<18446744073709551616))]
def NC{a:Nat}(h:a<18446744073709551616:=by omega):DW a= .tp [.v (.int .u64 (a:Int)),vB true]:=by unfold DW;rw[if_pos h,decide_eq_true h]
def aAk{a:Nat}(h: ¬a<18446744073709551616):DW a= .tp [.v (.int .u64 0),vB false]:=by unfold DW;rw[if_neg h,decide_eq_false h];rfl
def s7(a:Nat):a<4294967296^(dg a).length:=by have:=m6 (gD a);rwa [dm] at this
theorem omG{p:Prop}(h:p:=by show _*4294967296<_;omega):p:=h
def FF{a ia:Nat}[ha:BN a ia](hi:ia<=1000000000:=by decide):PF GB prog 204 [dN a] (DW a):=by
 have hla:=b8 (dg a);have hba:=xf ha.h hi;have hlt:=s7 a;have hd00:=eh a 0;refine fn (fu:=⟨11⟩) func204 J J ntmps204 J J (fun C=>?_);refine aj 5 (.d (vI ((dg a).length:Nat))) J omT<|gx J<|br J J J (fun hc6=>?_) (fun hc6=>?_)
 .
  exact rz rfl (by rw[show(dg a).length=0 by omega] at hlt;obtain rfl:a=0:=we;rfl)
 .
  refine br J J J (fun hc8=>?_) (fun hc8=>?_)
  .
   refine ix (fu:=⟨2⟩) _ J (cP (k:=0) J we) J<|aj 13 (.d (.v (.int .u64 (a:Nat)))) J (by rw[xq])<|gx J<|rz J (by rw[show(dg a).length=1 by omega] at hlt;rw[NC,<-xq (a:=a),xq (a:=a)];rfl)
  .
   refine br J J J (fun hc14=>?_) (fun hc14=>?_)
   .
    have hd0:=eh a 0;have hd1:=eh a 1;refine ix (hv:=by simp only[ak];exact⟨we,oma⟩) _ J (cP (k:=1) J we) J<|ix (fu:=⟨3⟩) _ J (cP (k:=0) J we) J<|aj 25 (.d (.v (.int .u64 (a:Nat)))) J (congrArg (fun z:Nat=>FX.d (.v (.int .u64 (z:Int)))) (by rw[q9 _ 32 oma omG J,BitVec.or_comm];exact(rg 64 ((dg a).getD 0 0) ((dg a).getD 1 0) 32 hd0 omw).trans (aBM we)))<|gx J<|rz J (by rw[show(dg a).length=2 by omega] at hlt;rw[NC];rfl)
   .
    exact rz rfl (by rw[aAk];rfl;intro h;have:=CF (a:=a) (k:=2) we;omega)
section
variable {GB:Gh} {C:aH} {n:Nat} {Q0:Exit->Act->World->Prop} {fr fr':aF} {own own':bh} {cf cf':Cf} {vc:List Prop}
def PR(GB:Gh)(P:Program)(f:FuncId)(ds:List DV)(s:Nat)(ty:TypeId)(rows:List DV):Prop:=
 ∀G vs,b7 GB G->IsLs G ds vs->iD P f vs [] G (fun v own' G'=> ∃w:SV,v= .slice w.a w.n w.c/\eg G' ⟨w,s,ty,rows,true⟩ own')
def Om: ∀(l:List aA),(∀o∈l,o.lo=true)->l.map (relo (iw []))=l
 |[],_=>rfl
 |a::t,h=>by
  have h1:=h a aQ;rw[bY,Om t fun o ho=>h o (aJ _ ho)];congr 1
  cases a
  simp[relo,iw] at*;exact h1
def aBA{lk:LK}{bk:BM}{fo:Operand}{args:Array Operand}{tys:Array TypeId}{f:FuncId}{d s:Nat}{ds rows:List DV}{ty ty2:TypeId}{pos:String}{af:Array Edge}{gd:Option (Nat×Bool)}
  (ha:vk lk fo args=some (f,ds))(hF:PR GB prog f ds s ty2 rows):b9 prog GB C n lk bk ⟨some d, .call ⟨.value fo,args,tys⟩,ty,pos,af,gd⟩ (.rw d) [(d,some (.b ty2 s rows true))] [d]:=by
 intro hd tl tb K' s1 s2 hf hk;refine⟨fun ρ G ov a w r Q=>?_⟩;have r1:=r.mono s1 s2;obtain⟨h1,h2⟩:=Ge ha;obtain⟨y,hy,hy'⟩:=r1.ev h1;rw[(aP (G:=G)).1 hy'] at hy;obtain⟨vs,h3,h4⟩:=r1.evDs h2;refine yc (M:=[]) (rest:=ov) hy h3 (List.Perm.refl _) (hF G vs r.gb h4) hd (fun v own1 G' hG hK a' w' rl=>?_) a w Q ⟨r.h,r.sz,c7 a,r.df⟩;obtain⟨z,rfl,vs',k1,k2,k3,k4⟩:=hK;rw[Om _ (k4 J)] at rl;have rl':io C n (Sx.put (cG a) (some d) (.slice z.a z.n z.c)) (own1++ov) G' a' w':=rl;have hdis:=(gN.1 rl'.h.nd).2.2;have r3:=r.new' (x:=z) (B':= .b ty2 s rows true) (os:=own1) (ov':=own1++ov) (f:= .rw d) (y:= .slice z.a z.n z.c) hf hG.le rl'.h ⟨vs',by simpa using k1,k2,k3,k4⟩ (fun o ho=>bU _ ho)
  (fun q B0 hq e o ho hbq=>⟨bQ _ ho,fun hc=>by
   have hx: ∃o1∈own1,o1.b=o.b:=by
    rcases k1 with⟨_,h,_⟩|⟨b0,rest0,lo0,h,hB,_⟩
    .rw[show z=_ from h] at hc;cases hc
    .rw[show z=_ from h] at hc;cases hc;exact⟨⟨_,aI vs'++rest0,_,lo0⟩,by rw[hB];exact aQ,J⟩
   obtain⟨o1,ho1,he1⟩:=hx;exact hdis o1 ho1 o ho he1⟩) (by simp[ce]) (kj rl')
 exact hk.run _ G' _ a' w' r3
def QL(fr:aF)(cf:Cf):Option (FuncId×List DV×Nat):=match di fr cf with
 |some ⟨some d, .call ⟨.value fo,args,_⟩,_,_,_,_⟩=>match vk (ck fr cf) fo args with
  |some (f,ds)=>some (f,ds,d)
  |none=>none
 |_=>none
def cr[fu:Fu]{f:FuncId}{d s:Nat}{ds rows:List DV}{ty:TypeId}(ha:QL fr cf=some (f,ds,d))(hF:PR GB prog f ds s ty rows)
  (hgo:c6 tt n fu.n fr own cf (.rw d) [(d,some (.b ty s rows true))] [d]=⟨vc,fr',own',cf'⟩)(k:av prog GB C n Q0 fr' own' cf')
  (hv:autoParam (ak vc) fn._auto_1):av prog GB C n Q0 fr own cf:=by
 unfold QL at ha;split at ha<;>try (cases ha;done)
 rename_i hh;split at ha<;>cases ha;rename_i h1;exact us hh (aBA h1 hF) hgo hv k
def Gd(C:aH)(s:Nat)(ty:TypeId)(rows:List DV):Ending->World->Prop:=sF C (fun v own' G'=> ∃w:SV,v= .slice w.a w.n w.c/\eg G' ⟨w,s,ty,rows,true⟩ own')
def BP[fu:Fu]{f:FuncId}{fb:Func}{c:Code}{m s:Nat}{ds rows:List DV}{ty:TypeId}(hf:prog.funcs[f]? =some fb)(hb:fb.body=some c)(hn:(fb.name== "runtime.NumGoroutine")=false)(hm:fb.ntmps=m)(hlen:Nat.ble ds.length m=true)
  (hgo:go tt m fu.n [] (sD 0 ds) [] (.code c [])=⟨vc,fr,own,cf⟩)(k: ∀C:aH,C.mb=[]->av prog GB C m (fC C prog fb (Gd C s ty rows)) fr own cf)
  (hv:autoParam (ak vc) fn._auto_1):PR GB prog f ds s ty rows:=by
 intro G vs hg hvs;refine iD.introR hf hb hn hm okE fun C _ hmb hrd hfx=>?_;intro a w rl;refine wh hrd ?_;have h:=gn (GB:=GB) (C:=C) (Q0:=fC C prog fb (Gd C s ty rows)) hgo hv (k C (by simpa using hmb));exact h.run (fun _=>⟨none,0,0⟩) G [] a w ⟨hg,rl.h,rl.sz,rl.df,(fun k f e=>A7 hvs rl.fr k f e),(fun nm B e=>by cases e),(fun nm nm' B B' e=>by cases e),fun nm p _ _ e=>by rw[hfx] at e;cases e⟩
def Ca{fb:Func}{t d s:Nat}{ty:TypeId}{rows rws:List DV}(hr:fb.results.toList=[.tmp t])(hl:bi fr t=some (.rw d))(hw:bC own d=some (.b ty s rws true))(er:rws=rows):
  av prog GB C n (fC C prog fb (Gd C s ty rows)) fr own (.ex .ret []):=by
 subst er;refine⟨fun ρ G ov a w r=>?_⟩;obtain⟨B,g1,g2⟩:=r.bx _ _ hw;have hB:eg G ⟨ρ d,s,ty,rws,true⟩ B:=g1;obtain⟨rest,hp⟩:=J0 hB g2;obtain⟨y,hy,hy'⟩:=r.ev (x:= .tmp t) (f:= .rw d) hl
 cases (show y=_ from hy')
 exact y4 (C:=C) (n:=n) (fr:=cG a) (own:=ov) (G:=G) (vs:=[.slice (ρ d).a (ρ d).n (ρ d).c]) oke (B++rest) B hp (oS _ _) ⟨ρ d,J,hB⟩ a w ⟨r.h,r.sz,c7 a,r.df⟩
def M2{fb:Func}{t s:Nat}{ty:TypeId}{rows:List DV}(hr:fb.results.toList=[.tmp t])(hl:bi fr t=some .nl)(er:rows=[]):
  av prog GB C n (fC C prog fb (Gd C s ty rows)) fr own (.ex .ret []):=by
 subst er;refine⟨fun ρ G ov a w r=>?_⟩;obtain⟨y,hy,hy'⟩:=r.ev (x:= .tmp t) (f:= .nl) hl
 cases (show y=_ from hy')
 exact y4 (C:=C) (n:=n) (fr:=cG a) (own:=ov) (G:=G) (vs:=[.slice none 0 0]) oke ([]++ov) [] (List.Perm.refl _) (jM _) ⟨⟨none,0,0⟩,J,[], .inl ⟨J,J,J⟩,fh.2 J,fun v h=>okA,fun _ o h=>okA⟩ a w ⟨r.h,r.sz,c7 a,r.df⟩
end
end Go.Sx
end
