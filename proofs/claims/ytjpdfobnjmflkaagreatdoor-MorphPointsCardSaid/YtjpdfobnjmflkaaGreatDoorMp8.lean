import Derived.Test.YtjpdfobnjmflkaaGreatDoorMp7
set_option linter.all false
set_option maxHeartbeats 2000000
set_option maxRecDepth 100000
section
namespace Go.Sx
open Go Go.Proofs Tryz
variable {GB:Gh}{C:aG}{n b:Nat}{Q0:Exit->Act->World->Prop}{fr fr':aC}{own':aH}{cf cf':Cf}{vc:List Prop}{dso:List DV}{ops:Array Oper}{r:List Oper}{K:List Kt}{p q:Int}
section
variable {own:aH}
def mkc[fu:Fu]{d e s:Nat}{z:DV}{k':IntKind}(cap:Nat)(h:E0 fr cf=some ⟨d,e,s,b,z,0⟩)(hy:(match cG fr cf with|some ⟨_, .makeSlice _ _ y,_,_,_,_⟩=>aP (b7 fr cf) y|_=>none)=some (.d (.v (.int k' (cap:Nat)))))
  (hgo:cB tt n fu.n fr own cf (.rw d) [(d,some (.c e s [] cap))] [d]=⟨vc,fr',own',cf'⟩)(k:av prog GB C n Q0 fr' own' cf')(hb:b*cap<=140737488355328:=by omega)(hl:cap<=1152921504606846976:=by omega)
  (hv:autoParam (ak vc) cL._auto_1):av prog GB C n Q0 fr own cf:=by
 unfold E0 at h;split at h<;>try (cases h;done)
 rename_i hh;split at h<;>try (cases h;done)
 rename_i hx;split at h<;>try (cases h;done)
 rename_i hT;split at h<;>try (cases h;done)
 rename_i hi;split at h<;>try (cases h;done)
 rename_i hz;rw[cond_eq_ite] at h;split at h<;>cases h;rename_i hs;rw[hh] at hy;have:=jk (eh _ _ hT) J;exact us hh (aGL (eh _ _ hi) hz hs hx hy hb hl) hgo hv k
structure Zr where
 d:Nat
 nm:Nat
 e:Nat
 s:Nat
 ds:List DV
 ds2:List DV
 cap:Nat
def OO(fr:aC)(own:aH)(cf:Cf):Option Zr:=match cG fr cf with
 |some ⟨some d, .call ⟨.builtin .append,⟨[x,y]⟩,⟨[t,t']⟩⟩,_,_,_,_⟩=>match du tt t,du tt t' with
  |some ⟨.sl e s _,_,_,_⟩,some ⟨.sl _ _ _,_,_,_⟩=>match aP (b7 fr cf) x with
   |some (.rw nm)=>match iB fr own cf nm,qi (b7 fr cf) (iB fr own cf) s y with
    |some (.c e' s' ds cap),some ds2=>bif (Nat.beq e' e&&Nat.beq s' s)&&!Nat.beq nm d then some ⟨d,nm,e,s,ds,ds2,cap⟩ else none
    |_,_=>none
   |_=>none
  |_,_=>none
 |_=>none
def Yg[fu:Fu]{d nm e s cap:Nat}{ds ds2:List DV}(ds':List DV)(h:OO fr own cf=some ⟨d,nm,e,s,ds,ds2,cap⟩)(hds:ds++ds2=ds')(ho2:c9 s ds2)(hc:ds.length+ds2.length<=cap)(hgo:cB tt n fu.n fr own cf (.rw d) [(nm,none),(d,some (.c e s ds' cap))] [d]=⟨vc,fr',own',cf'⟩)(k:av prog GB C n Q0 fr' own' cf')
  (hp:0<ds2.length:=by simp)(hv:autoParam (ak vc) cL._auto_1):av prog GB C n Q0 fr own cf:=by
 subst hds;unfold OO at h;split at h<;>try (cases h;done)
 rename_i hh;split at h<;>try (cases h;done)
 rename_i hT hT';split at h<;>try (cases h;done)
 rename_i hx;split at h<;>try (cases h;done)
 rename_i hb hy;rw[cond_eq_ite] at h;split at h<;>cases h;rename_i h2;simp only[bT,iU] at h2
 cases aM h2.1.1
 cases aM h2.1.2
 have:=jk (eh _ _ hT) J;have hN:jy prog _:=⟨_,(jk (eh _ _ hT') J).un⟩;exact us hh (aF2 hx hb hy ho2 hc hp h2.2) hgo hv k
def PI(GB:Gh)(P:Program)(f:FuncId)(i:Int)(s:Nat)(ty ty2:TypeId)(ds:List DV)(x:DV)(cap:Nat)(dso:List DV):Prop:=
 ∀G w w2 B B2,bH GB G->dq G ⟨w,s,ty,ds,false⟩ B->cap<=w.c->dq G ⟨w2,s,ty2,[x],false⟩ B2->ir P f [.slice w.a w.n w.c, .int .i64 i, .slice w2.a w2.n w2.c] (B++B2) G fun v own' G'=> ∃w',v= .slice w'.a w'.n w'.c/\dq G' ⟨w',s,ty,dso,false⟩ own'
structure CiA where
 f:FuncId
 nm:Nat
 nm2:Nat
 i:Int
 ty:TypeId
 ty2:TypeId
 s:Nat
 ds:List DV
 x:DV
 cap:Nat
 d:Nat
def LQ(fr:aC)(own:aH)(cf:Cf):Option CiA:=match cG fr cf with
 |some ⟨some d, .call ⟨.value fo,⟨[x1,x2,x3]⟩,_⟩,_,_,_,_⟩=>match aP (b7 fr cf) fo,aP (b7 fr cf) x1 with
  |some (.d (.v (.func (.func f) ⟨[]⟩ ⟨[]⟩))),some (.rw nm)=>match aP (b7 fr cf) x2,aP (b7 fr cf) x3 with
   |some (.d (.v (.int .i64 i))),some (.rw nm2)=>match iB fr own cf nm,iB fr own cf nm2 with
    |some (.c ty s ds cap),some (.b ty2 s2 [x] true)=>bif (!Nat.beq nm d&&!Nat.beq nm2 d)&&(!Nat.beq nm nm2&&(Nat.beq s2 s&&Nat.blt 0 cap)) then some ⟨f,nm,nm2,i,ty,ty2,s,ds,x,cap,d⟩ else none
    |_,_=>none
   |_,_=>none
  |_,_=>none
 |_=>none
def WN{lk:LK}{bk:BM}{fo x1 x2 x3:Operand}{tys:Array TypeId}{f:FuncId}{nm nm2 d cap s:Nat}{i:Int}{ty0 ty2:TypeId}{ty:TypeId}{pos:String}{af:Array Edge}{gd:Option (Nat×Bool)}{ds:List DV}{x:DV}(hne:Nat.beq nm d=false)(hne2:Nat.beq nm2 d=false)(hn2:Nat.beq nm nm2=false)(hcp:0<cap)
  (h0:aP lk fo=some (.d (.v (.func (.func f) ⟨[]⟩ ⟨[]⟩))))(h1:aP lk x1=some (.rw nm))(h2:aP lk x2=some (.d (.v (.int .i64 i))))(h3:aP lk x3=some (.rw nm2))(hb:bk nm=some (.c ty0 s ds cap))(hb2:bk nm2=some (.b ty2 s [x] true))(hF:PI GB prog f i s ty0 ty2 ds x cap dso):
  bO prog GB C n lk bk ⟨some d, .call ⟨.value fo,⟨[x1,x2,x3]⟩,tys⟩,ty,pos,af,gd⟩ (.rw d) [(nm,none),(nm2,none),(d,some (.b ty0 s dso true))] [d]:=by
 intro hd tl tb K' s1 s2 hf hk;refine⟨fun ρ G ov a w r Q=>?_⟩;have r1:=r.mono s1 s2;obtain⟨y,hy,hy'⟩:=r1.ev h0;rw[(aI (G:=G)).1 hy'] at hy;obtain⟨y1,p1,p1'⟩:=r1.ev h1
 cases (show y1=_ from p1')
 obtain⟨y2,p2,p2'⟩:=r1.ev h2;rw[cP] at p2';subst p2';obtain⟨y3,p3,p3'⟩:=r1.ev h3
 cases (show y3=_ from p3')
 have hnn:nm≠d:=fun e=>by subst e;rw[oU] at hne;cases hne
 have hnn2:nm2≠d:=fun e=>by subst e;rw[oU] at hne2;cases hne2
 have hnm:nm≠nm2:=fun e=>by subst e;rw[oU] at hn2;cases hn2
 obtain⟨B,g1,g2⟩:=r1.bx _ _ hb;obtain⟨B2,k1,k2⟩:=r1.bx _ _ hb2;obtain⟨vs,q1,q2,q3,q4,q5⟩:=g1;have hB:dq G ⟨ρ nm,s,ty0,ds,false⟩ B:=⟨vs,q1,q2,q3,fun h=>by cases h⟩;have hB2:dq G ⟨ρ nm2,s,ty2,[x],false⟩ B2:=dq.weak (lo:=true) k1;have e1: ∃o,B=[o]/\(ρ nm).a=some ⟨o.b,0,none⟩:=by
  rcases q1 with⟨_,e,_⟩|⟨b,rest,lo',e,rfl,_⟩
  .rw[e] at q5;simp at q5;omega
  .exact⟨_,J,by rw[e]⟩
 have e2: ∃o,B2=[o]/\(ρ nm2).a=some ⟨o.b,0,none⟩:=by
  obtain⟨vs2,c1,c2,_⟩:=k1;rcases c1 with⟨e,_,_⟩|⟨b,rest,lo',e,rfl,_⟩
  .subst e;have:=c2.len;simp at this
  .exact⟨_,J,by rw[e]⟩
 obtain⟨o1,rfl,a1⟩:=e1;obtain⟨o2,rfl,a2⟩:=e2;have hob:o1.b≠o2.b:=fun e=>r.dj nm nm2 _ _ (s2 _ _ hb) (s2 _ _ hb2) hnm _ a1 (by rw[a2,e]);have hp: ∃rest,ov.Perm ([o1]++[o2]++rest):=by
  obtain⟨l1,l2,e3⟩:=lS (g2 _ aQ);have hm:=k2 _ aQ;rw[e3] at hm⊢;have hm2:o2∈l1++l2:=by
   rcases aL.1 hm with h|h
   .exact bK _ h
   .rcases aK.1 h with h|h
    .exact absurd (by rw[h]) hob
    .exact bQ _ h
  obtain⟨l3,l4,e4⟩:=lS hm2;refine⟨l3++l4,List.perm_middle.trans ?_⟩;rw[e4];exact(nT (l₁:=l3) (l₂:=l4) (a:=o2)).cons o1
 obtain⟨rest,h5⟩:=hp;have h6: ∀o∈ov,o.b≠o1.b->o.b≠o2.b->o∈rest:=fun o ho n1 n2=>by
  have:=h5.mem_iff.1 ho;simp only[iX,kZ,aK] at this;rcases this with rfl|rfl|h
  .exact absurd J n1
  .exact absurd J n2
  .exact h
 have hlo2: ∀o∈[o2],o.lo=true:=by obtain⟨_,_,_,_,h⟩:=k1;exact h rfl
 have hall: ∀o∈[o1]++[o2],o.lo=true:=fun o ho=>by
  rcases aL.1 ho with h|h
  .exact q4 o h
  .exact hlo2 o h
 refine u7 (M:=[o1]++[o2]) (rest:=rest) (vs:=[.slice (ρ nm).a (ρ nm).n (ρ nm).c, .int .i64 i, .slice (ρ nm2).a (ρ nm2).n (ρ nm2).c]) hy (by simp only[fC,p1,p2,p3]) h5 (hF G (ρ nm) (ρ nm2) [o1] [o2] r.gb hB q5 hB2) hd (fun v own1 G' hG hK a' w' rl=>?_) a w Q ⟨r.h,r.sz,cI a,r.df⟩;obtain⟨z,rfl,vs',k1',k2',k3',k4'⟩:=hK;have hs1:=k1'.relo (gw ([o1]++[o2]));have e3: ∀o∈own1.map (relo (gw ([o1]++[o2]))),o.lo=true:=fun o ho=>by
  obtain⟨o',_,rfl⟩:=aU.1 ho;exact Bc _ hall
 generalize own1.map (relo (gw ([o1]++[o2])))=B' at rl e3 hs1;have rl':ij C n (Sx.put (cC a) (some d) (.slice z.a z.n z.c)) (B'++rest) G' a' w':=rl;have hdis:=(gT.1 rl'.h.nd).2.2;have rd:=(r.dropB nm).dropB nm2;have hin: ∀q B0,Sx.upB (Sx.upB tb [(nm,none)]) [(nm2,none)] q=some B0->q≠nm/\q≠nm2/\tb q=some B0:=fun q B0 e=>by
  simp only[Sx.upB] at e;split at e
  .cases e
  .split at e
   .cases e
   .exact⟨by assumption,by assumption,e⟩
 have hf2:ku [d] (some d) tl (Sx.upB (Sx.upB tb [(nm,none)]) [(nm2,none)]):=fun q hq=>by
  obtain⟨f1,f2⟩:=hf q hq;exact⟨f1,fun k B e1 e=>f2 k B e1 (hin k B e).2.2⟩
 have hsep: ∀q B0,Sx.upB (Sx.upB tb [(nm,none)]) [(nm2,none)] q=some B0-> ∀o∈ov,(ρ q).a=some ⟨o.b,0,none⟩->o∈rest:=fun q B0 e o ho hbq=>by
  obtain⟨n1,n2,n3⟩:=hin q B0 e;exact h6 o ho (fun e'=>r.dj nm q _ _ (s2 _ _ hb) n3 (Ne.symm n1) _ a1 (by rw[hbq,e'])) (fun e'=>r.dj nm2 q _ _ (s2 _ _ hb2) n3 (Ne.symm n2) _ a2 (by rw[hbq,e']))
 have r3:=rd.new' (x:=z) (B':= .b ty0 s dso true) (os:=B') (ov':=B'++rest) (f:= .rw d) (y:= .slice z.a z.n z.c) hf2 hG.le rl'.h ⟨vs',by simpa using hs1,k2',k3',fun _=>e3⟩ (fun o ho=>bK _ ho)
  (fun q B0 hq e o ho hbq=>⟨bQ _ (hsep q B0 e o ho hbq),fun hc=>by
   have hx: ∃o1∈B',o1.b=o.b:=by
    rcases hs1 with⟨_,h,_⟩|⟨b0,rest0,lo0,h,hB,_⟩
    .rw[show z=_ from h] at hc;cases hc
    .rw[show z=_ from h] at hc;cases hc;exact⟨⟨_,aB vs'++rest0,_,lo0⟩,by rw[hB];exact aQ,J⟩
   obtain⟨o3,ho3,he3⟩:=hx;exact hdis o3 ho3 o (hsep q B0 e o ho hbq) he3⟩) (by show _=_;simp) (jr rl')
 exact hk.run _ G' _ a' w' r3
def ci[fu:Fu]{f:FuncId}{nm nm2 d cap s:Nat}{i:Int}{ty ty2:TypeId}{ds:List DV}{x:DV}(dso':List DV)(ha:LQ fr own cf=some ⟨f,nm,nm2,i,ty,ty2,s,ds,x,cap,d⟩)(hF:PI GB prog f i s ty ty2 ds x cap dso)(he:dso=dso')
  (hgo:cB tt n fu.n fr own cf (.rw d) [(nm,none),(nm2,none),(d,some (.b ty s dso' true))] [d]=⟨vc,fr',own',cf'⟩)(k:av prog GB C n Q0 fr' own' cf')
  (hv:autoParam (ak vc) cL._auto_1):av prog GB C n Q0 fr own cf:=by
 subst he;unfold LQ at ha;split at ha<;>try (cases ha;done)
 rename_i hh;split at ha<;>try (cases ha;done)
 rename_i h0 h1;split at ha<;>try (cases ha;done)
 rename_i h2 h3;split at ha<;>try (cases ha;done)
 rename_i hb hb2;rw[cond_eq_ite] at ha;split at ha<;>cases ha;rename_i hc;simp only[bT,iU,lK] at hc;obtain⟨⟨c1,c2⟩,c3,c4,c5⟩:=hc
 cases aM c4
 exact us hh (WN c1 c2 c3 c5 h0 h1 h2 h3 hb hb2 hF) hgo hv k
def ll(d:Nat)(hl:bi fr d=some (.d (.v (.bool true))))(k:av prog GB C n Q0 ((d, .tt)::fr) own (.ops ops r K)):av prog GB C n Q0 fr own (.ops ops r K):=qb (g:= .tt) hl (fun _ G _ e=>(aI (G:=G)).1 e) k
def pg(d:Nat)(hl:bi fr d=some (.d (.v (.bool false))))(k:av prog GB C n Q0 ((d, .ff)::fr) own (.ops ops r K)):av prog GB C n Q0 fr own (.ops ops r K):=qb (g:= .ff) hl (fun _ G _ e=>(aI (G:=G)).1 e) k
end
section
variable {own:aH}
def S3(fr:aC)(cf:Cf):Option (Int×Int):=match cG fr cf with
 |some ⟨_, .binOp .xor _ x y _,_,_,_,_⟩=>match aP (b7 fr cf) x,aP (b7 fr cf) y with
  |some (.d (.v (.int .u32 p))),some (.d (.v (.int .u32 q)))=>some (p,q)
  |_,_=>none
 |_=>none
def xr[fu:Fu](u:Int)(h:S3 fr cf=some (p,q))(e:(((BitVec.ofInt 32 p^^^BitVec.ofInt 32 q).toNat:Nat):Int)=u)(hgo:cB tt n fu.n fr own cf (.d (.v (.int .u32 u))) [] []=⟨vc,fr',own',cf'⟩)(k:av prog GB C n Q0 fr' own' cf')
  (hv:autoParam (ak vc) cL._auto_1):av prog GB C n Q0 fr own cf:=by
 unfold S3 at h;split at h<;>try (cases h;done)
 rename_i hh;split at h<;>cases h;rename_i h1 h2;subst e;exact us hh (.yd fun ρ G ov a w r=>by
  obtain⟨y1,h3,h4⟩:=r.ev h1;obtain⟨y2,h5,h6⟩:=r.ev h2;rw[cP] at h4 h6;subst h4 h6;exact⟨_,cP.2 J,lE h3 h5 fun w=>by
   show(pure (Value.int .u32 (IntKind.u32.wrap ((BitVec.ofInt 32 p^^^BitVec.ofInt 32 q).toNat:Int))):Sem Value).run prog w=_;rw[Fc];rfl⟩) hgo hv k
def Ob(fr:aC)(cf:Cf):Option (Int×Int):=match cG fr cf with
 |some ⟨_, .binOp .sub _ x y _,_,_,_,_⟩=>match aP (b7 fr cf) x,aP (b7 fr cf) y with
  |some (.d (.v (.int .u32 p))),some (.d (.v (.int .u32 q)))=>some (p,q)
  |_,_=>none
 |_=>none
def sw[fu:Fu](u:Int)(h:Ob fr cf=some (p,q))(e:(p-q)%4294967296=u)(hgo:cB tt n fu.n fr own cf (.d (.v (.int .u32 u))) [] []=⟨vc,fr',own',cf'⟩)(k:av prog GB C n Q0 fr' own' cf')
  (hv:autoParam (ak vc) cL._auto_1):av prog GB C n Q0 fr own cf:=by
 unfold Ob at h;split at h<;>try (cases h;done)
 rename_i hh;split at h<;>cases h;rename_i h1 h2;subst e;exact us hh (.yd fun ρ G ov a w r=>by
  obtain⟨y1,h3,h4⟩:=r.ev h1;obtain⟨y2,h5,h6⟩:=r.ev h2;rw[cP] at h4 h6;subst h4 h6;exact⟨_,cP.2 J,by rw[<-tw];exact XD h3 h5⟩) hgo hv k
def N'(fr:aC)(cf:Cf):Option Int:=match cG fr cf with
 |some ⟨_, .unOp .xor _ x,_,_,_,_⟩=>match aP (b7 fr cf) x with
  |some (.d (.v (.int .u32 p)))=>some p
  |_=>none
 |_=>none
def nt[fu:Fu](u:Int)(h:N' fr cf=some p)(e:(((BitVec.ofInt 32 IntKind.u32.max^^^BitVec.ofInt 32 p).toNat:Nat):Int)=u)(hgo:cB tt n fu.n fr own cf (.d (.v (.int .u32 u))) [] []=⟨vc,fr',own',cf'⟩)(k:av prog GB C n Q0 fr' own' cf')
  (hv:autoParam (ak vc) cL._auto_1):av prog GB C n Q0 fr own cf:=by
 unfold N' at h;split at h<;>try (cases h;done)
 rename_i hh;split at h<;>cases h;rename_i hx;subst e;refine us hh (.x1 hx fun ρ G ov a w y _ r h1 h2=>?_) hgo hv k;rw[cP] at h2;subst h2;refine⟨_,cP.2 J,fun a w hf hh=>?_⟩;simp only[execOp,bw hf h1];refine c7 (w':=w) ?_;show(pure (Value.int .u32 (IntKind.u32.wrap ((BitVec.ofInt 32 IntKind.u32.max^^^BitVec.ofInt 32 p).toNat:Int))):Sem Value).run prog w=_;rw[Fc];rfl
end

end Go.Sx
end
section
namespace Go.Sx
open Go
variable {ds:List Nat}{i n k k' a b j d:Nat}{G:Gh}{v:Value}
def dU(d:Nat):DV:= .v (.int .u32 (d:Int))
def dG(ds:List Nat):DV:= .sl (ds.map dU)
def dN(n:Nat):DV:= .sl ((dg n).map dU)
def dD(n:Nat):DV:= .sl (if n=1 then [] else(dg n).map dU)
def eI(m:Int):DV:= .ag [.v (.bool (decide (m<0))),dN m.natAbs]
def eQ(q:Rat):DV:= .ag [.v (.bool (decide (q.num<0))),dN q.num.natAbs,dD q.den]
def eP(p:aa):DV:= .ag [.v (.bool (decide (p.x.num<0))),dN p.x.num.natAbs,dD p.x.den, .v (.bool (decide (p.y.num<0))),dN p.y.num.natAbs,dD p.y.den]
def eL(l:ah):DV:= .ag [.v (.bool (decide (l.a<0))),dN l.a.natAbs, .v (.bool (decide (l.b<0))),dN l.b.natAbs, .v (.bool (decide (l.c<0))),dN l.c.natAbs]
def eR(q:Rat):DV:= .ag [.v (.bool (decide (q.num<0))),dN q.num.natAbs,dN q.den]
def nI(p:aa):DV:= .ag [.v (.bool (decide (p.x.num<0))),dN p.x.num.natAbs,dN p.x.den, .v (.bool (decide (p.y.num<0))),dN p.y.num.natAbs,dN p.y.den]
def vI(n:Int):DV:= .v (.int .i64 n)
def vB(b:Bool):DV:= .v (.bool b)
def Hy(n:Nat):dN n=dG (dg n):=rfl
def aJh(h:bA ds):dG (trimD ds)=dN (dv ds):=by unfold dG dN;rw[ED h]
def Vz(h:i<ds.length):(ds.map dU)[i]? =some (dU (ds.getD i 0)):=by
 rw[cV,aZ h,aW,aZ h];rfl
def fh(h:i<ds.length:=by omega):(ds.map dU)[(i:Int).toNat]? =some (dU (ds.getD i 0)):=by rw[cZ];exact Vz h
def jA(ds:List Nat)(i d:Nat):(ds.map dU).set i (.v (.int .u32 (d:Int)))=(ds.set i d).map dU:=by rw[kQ];rfl
def nC(n:Nat):List.replicate n (DV.v (.int .u32 0))=(List.replicate n 0).map dU:=by rw[List.map_replicate];rfl
def r5(ds:List Nat):c9 1 (ds.map dU):=fun d hd=>by
 obtain⟨n,_,rfl⟩:=aU.1 hd;exact⟨rfl,rfl⟩
def ef(n:Nat)(i:Nat):(dg n).getD i 0<4294967296:=(f8 n).2.1.get i
def uM:dg 0=[]:=by rw[dg,dif_pos J]
def Bt:dg 1=[1]:=by rw[dg,dif_neg (by decide)];simp[uM]
def vQ{n:Nat}:(dg n).length=0↔n=0:=by
 constructor
 .intro h
  have:=(f8 n).1;rw[cW h] at this;exact this.symm
 .rintro rfl;rw[uM];rfl
def nk:dN 0= .sl []:=by unfold dN;rw[uM];rfl
def FO{G:Gh}: ∀{ds:List Nat} {es:List Value},IsLs G (ds.map dU) es↔es=ds.map dI
 |[],es=>et
 |d::t,es=>by
  rw[bU,bj];constructor
  .rintro ⟨y,n,rfl,h1,h2⟩
   rw[aI.1 h1,FO.1 h2];rfl
  .rintro rfl
   exact⟨_,_,J,aI.2 J,FO.2 J⟩
def II:Is G (dG ds) v↔ ∃x:SV,v= .slice x.a x.n x.c/\gk G 1 x (ds.map dI):=by
 unfold dG;rw[gt];constructor
 .rintro ⟨s,x,es,rfl,h1,h2⟩
  have:=FO.1 h2;subst this;refine⟨x,J,?_⟩;rcases A8 (s:=1) h1 h2 (r5 ds) with h|h
  .rw[h] at h1⊢
   exact⟨h1.len,h1.cap, .inl J⟩
  .subst h;exact h1
 .rintro ⟨x,rfl,h⟩
  exact⟨1,x,_,J,h,FO.2 J⟩
def NT(hk:n<2^k):Is G (dN n) v↔ ∃x:SV,v= .slice x.a x.n x.c/\BO k G x n:=by
 rw[Hy,II];constructor
 .rintro ⟨x,rfl,h⟩
  exact⟨x,J,⟨(f8 n).2.1,h⟩,hk⟩
 .rintro ⟨x,rfl,h⟩
  exact⟨x,J,h.d.sl⟩
def cO{i:Int}(hi:i=k:=by omega)(h:k<ds.length:=by omega):(ds.map dU)[i.toNat]? =some (dU (ds.getD k 0)):=by subst hi;exact fh h
class BN (n:Nat) (k:outParam Nat):Prop where h:n<2^k
class BI (m:Int) (k:outParam Nat):Prop where h:m.natAbs<2^k
class BQ (q:Rat) (k:outParam Nat):Prop where
 hn:q.num.natAbs<2^k
 hd:q.den<2^k
theorem BN.mono(h:BN n k)(hk:k<=k'):BN n k':=⟨dJ h.h (bL (by decide) hk)⟩
def qO(h:a<2^i)(k:b<2^j):a*b<2^(i+j):=by rw[fY];exact pY h k
def Qs(h:a<2^i)(k:b<2^j):a+b<2^(i+j+1):=by
 have h1:2^i<=2^(i+j):=bL (by decide) (by omega);have h2:2^j<=2^(i+j):=bL (by decide) (by omega);rw[iQ];omega
instance BN.mul (a b i j:Nat) [h:BN a i] [k:BN b j]:BN (a*b) (i+j):=⟨qO h.h k.h⟩
instance BN.div (a b i:Nat) [h:BN a i]:BN (a/b) i:=⟨fU (nZ _ _) h.h⟩
instance BN.abs (m:Int) (i:Nat) [h:BI m i]:BN m.natAbs i:=⟨h.h⟩
instance BN.den (q:Rat) (i:Nat) [h:BQ q i]:BN q.den i:=⟨h.hd⟩
def Po(h:a<2^i)(k:b<2^j):Nat.gcd a b<2^(i+j):=by
 have h1:2^i<=2^(i+j):=bL (by decide) (by omega);have h2:2^j<=2^(i+j):=bL (by decide) (by omega);rcases fX a with h0|h0
 .subst h0;rw[Nat.gcd_zero_left];omega
 .have:=Nat.gcd_le_left b h0;omega
instance BN.gcd (a b i j:Nat) [h:BN a i] [k:BN b j]:BN (Nat.gcd a b) (i+j):=⟨Po h.h k.h⟩
instance BN.one:BN 1 1:=⟨by decide⟩
instance BI.mul (a b:Int) (i j:Nat) [h:BI a i] [k:BI b j]:BI (a*b) (i+j):=⟨by rw[fR];exact qO h.h k.h⟩
instance BI.add (a b:Int) (i j:Nat) [h:BI a i] [k:BI b j]:BI (a+b) (i+j+1):=⟨fU (Int.natAbs_add_le a b) (Qs h.h k.h)⟩
instance BI.sub (a b:Int) (i j:Nat) [h:BI a i] [k:BI b j]:BI (a-b) (i+j+1):=⟨fU (Int.natAbs_sub_le a b) (Qs h.h k.h)⟩
instance BI.neg (a:Int) (i:Nat) [h:BI a i]:BI (-a) i:=⟨by rw[jX];exact h.h⟩
instance BI.num (q:Rat) (i:Nat) [h:BQ q i]:BI q.num i:=⟨h.hn⟩
instance BI.nat (n:Nat) (i:Nat) [h:BN n i]:BI (n:Int) i:=⟨by rw[fL];exact h.h⟩
def mH(q:Rat):0<q.den:=iS q.den_nz
theorem wX{m:Int}(hd:0<d)(h:m.natAbs<2^i)(k:d<2^i:=by decide):BQ (mkRat m d) i:=by
 refine⟨?_,?_⟩
 .rw[Rat.num_mkRat,if_neg (by omega)]
  have:=oX m (d.gcd m.natAbs:Nat);omega
 .rw[Rat.den_mkRat,if_neg (by omega)]
  have:=nZ d (d.gcd m.natAbs);omega
theorem BQ.mono{q:Rat}(h:BQ q k)(hk:k<=k':=by decide):BQ q k':=⟨dJ h.hn (bL (by decide) hk),dJ h.hd (bL (by decide) hk)⟩
def Cs(p q:Rat):p*q=mkRat (p.num*q.num) (p.den*q.den):=by rw[Rat.mul_def,Rat.normalize_eq_mkRat]
def Bi(p q:Rat):p+q=mkRat (p.num*q.den+q.num*p.den) (p.den*q.den):=by rw[Rat.add_def,Rat.normalize_eq_mkRat]
instance BQ.mul (p q:Rat) (i j:Nat) [h:BQ p i] [k:BQ q j]:BQ (p*q) (i+j):=by
 rw[Cs];exact wX (iN (mH p) (mH q)) (BI.mul p.num q.num i j).h (qO h.hd k.hd)
instance BQ.add (p q:Rat) (i j:Nat) [h:BQ p i] [k:BQ q j]:BQ (p+q) (i+j+1):=by
 rw[Bi];refine wX (iN (mH p) (mH q)) ?_ ?_
 .have h1:=qO h.hn k.hd
  have h2:=qO k.hn h.hd;have h3:(p.num*q.den+q.num*p.den).natAbs<=(p.num*q.den).natAbs+(q.num*p.den).natAbs:=Int.natAbs_add_le ..;rw[fR,fR,fL,fL] at h3;rw[lX j i] at h2;rw[iQ];omega
 .have h1:=qO h.hd k.hd
  rw[iQ];omega
instance BQ.neg (p:Rat) (i:Nat) [h:BQ p i]:BQ (-p) i:=⟨by rw[mS,jX];exact h.hn,by rw[qK];exact h.hd⟩
instance BQ.sub (p q:Rat) (i j:Nat) [h:BQ p i] [k:BQ q j]:BQ (p-q) (i+j+1):=by
 rw[Rat.sub_eq_add_neg];exact BQ.add p (-q) i j
instance BQ.ofInt (m:Int) (i:Nat) [h:BI m i]:BQ (m:Rat) (i+1):=by
 refine⟨?_,?_⟩
 .rw[oK];have:=h.h;rw[iQ];omega
 .rw[oV];have:0<2^i:=gK (by decide);rw[iQ];omega
end Go.Sx
end
section
namespace Go.Sx
open Go Go.Proofs Tryz
variable {GB:Gh}{ds A B W:List Nat}{n x y c a k i b u ia ib d c2 j m s w h q t:Nat}{f:FuncId}{rows rws:List DV}{ty ty2:TypeId}{fb:Func}
def Dz(p q:Int):Nat:=(BitVec.ofInt 32 p &&& BitVec.ofInt 32 q).toNat
def KG(p q:Int):Nat:=(BitVec.ofInt 32 p ||| BitVec.ofInt 32 q).toNat
def AC(p q:Int):Nat:=(BitVec.ofInt 32 p^^^BitVec.ofInt 32 q).toNat
def O8(h:0<n/\n<=ds.length)(hz:ds.getD (n-1) 0=0):trimD (ds.take n)=trimD (ds.take (n-1)):=by
 obtain⟨m,rfl⟩: ∃m,n=m+1:=⟨n-1,by omega⟩;rw[jT (by omega),mU];rw[mU,aW,aZ (by omega)] at hz;simp only[lZ] at hz;rw[hz,X9]
def Lp(h:n<=ds.length)(hz:0<n->ds.getD (n-1) 0≠0):trimD (ds.take n)=ds.take n:=by
 rcases fX n with h0|h0
 .subst h0;simp[trimD]
 .obtain⟨m,rfl⟩: ∃m,n=m+1:=⟨n-1,by omega⟩
  have hz:=hz h0;rw[jT (by omega)];rw[mU,aW,aZ (by omega)] at hz;exact N1 (by simpa using hz)
def aDw(hx:x<4294967296)(hy:y<4294967296)(hc:c<=1):PF GB prog 281 [.v (.int .u32 (x:Int)), .v (.int .u32 (y:Int)), .v (.int .u32 (c:Int))] (.tp [.v (.int .u32 (((x+y+c)%4294967296:Nat):Int)), .v (.int .u32 (((x+y+c)/4294967296:Nat):Int))]):=by
 refine fn (hv:=by simp only[ak];exact⟨⟨⟨⟨⟨by omega,by omega⟩,by omega⟩,by omega⟩,by omega⟩,(by decide)⟩) func281 J J ntmps281 J J (fun C=>?_);exact rz J (by
  have e1:((x:Int)+y+c)%4294967296=(((x+y+c)%4294967296:Nat):Int):=by omega
  have e2:((x:Int)+y+c).fdiv (2^min (32:Int).toNat IntKind.u64.bits)%4294967296=(((x+y+c)/4294967296:Nat):Int):=by
   rw[show(2:Int)^min (32:Int).toNat IntKind.u64.bits=((4294967296:Nat):Int) from J,kL _ (by decide)];omega
  show DV.tp [.v (.int _ _), .v (.int _ _)]=_;rw[e1,e2])
def HV(n:Nat)(h:n<4294967296):(BitVec.ofInt 32 (n:Int)).msb=decide (2147483648<=n):=by
 rw[show BitVec.ofInt 32 (n:Int)=BitVec.ofNat 32 n from BitVec.ofInt_natCast ..];rw[BitVec.msb_eq_decide,BitVec.toNat_ofNat,jW (by simpa using h)]
def avz(b:BitVec 32):b.toNat/2147483648=if b.msb then 1 else 0:=by
 have:=b.isLt;rw[BitVec.msb_eq_decide];simp only[decide_eq_true_eq,Nat.reduceSub,Nat.reducePow] at*;split<;>omega
def akS(b:BitVec 32):BitVec.ofInt 32 (b.toNat:Int)=b:=by rw[BitVec.ofInt_natCast,BitVec.ofNat_toNat,BitVec.setWidth_eq]
def atJ(hx:x<4294967296)(hy:y<4294967296)(hc:c<=1):
  ((KG (Dz (AC IntKind.u32.max x:Nat) y:Nat) (Dz (AC IntKind.u32.max (AC x y:Nat):Nat) (IntKind.u32.wrap (IntKind.u32.wrap ((x:Int)-y)-c)):Nat):Nat):Int).fdiv (2^min (31:Int).toNat IntKind.u32.bits)=(((if x<y+c then 1 else 0):Nat):Int):=by
 rw[show((2:Int)^min (31:Int).toNat IntKind.u32.bits)=((2147483648:Nat):Int) from J,kL _ (by decide),<-sT];congr 1;have hd: ∃d:Nat,d<4294967296/\IntKind.u32.wrap (IntKind.u32.wrap ((x:Int)-y)-c)=(d:Int)/\((x>=y+c/\d=x-(y+c))\/(x<y+c/\d=x+4294967296-(y+c))):=by
  rw[tw,tw];refine⟨((((x:Int)-y)%4294967296-c)%4294967296).toNat,by omega,by omega,by omega⟩
 obtain⟨d,hd1,hd2,hd3⟩:=hd;rw[hd2];unfold KG Dz AC;simp only[akS];rw[avz];simp only[BitVec.msb_or,BitVec.msb_and,BitVec.msb_xor,HV x hx,HV y hy,HV d hd1];have h1:(BitVec.ofInt 32 IntKind.u32.max).msb=true:=by decide
 rw[h1];rcases jM x 2147483648 with a|a<;>rcases jM y 2147483648 with b|b<;>rcases jM d 2147483648 with e|e<;>
  simp[Nat.not_le.2, *]<;>(first|omega|(split<;>omega))
def ZS(hx:x<4294967296)(hy:y<4294967296)(hc:c<=1):IntKind.u32.wrap (IntKind.u32.wrap ((x:Int)-y)-c)=(((if x<y+c then x+4294967296-(y+c) else x-(y+c)):Nat):Int):=by
 rw[tw,tw];split<;>omega
def ZH(hx:x<4294967296)(hy:y<4294967296)(hc:c<=1):PF GB prog 282 [.v (.int .u32 (x:Int)), .v (.int .u32 (y:Int)), .v (.int .u32 (c:Int))] (.tp [.v (.int .u32 (((if x<y+c then x+4294967296-(y+c) else x-(y+c)):Nat):Int)), .v (.int .u32 (((if x<y+c then 1 else 0):Nat):Int))]):=by
 refine fn (fu:=⟨10⟩) func282 J J ntmps282 J J (fun C=>?_);refine sw (fu:=⟨1⟩) _ J (tw _).symm J<|sw (fu:=⟨6⟩) _ J (tw _).symm J<|nt (fu:=⟨4⟩) _ J J J<|xr (fu:=⟨0⟩) _ J J J<|nt _ J J J<|rz J (by have h1:=atJ hx hy hc;unfold KG Dz AC at h1;show DV.tp [.v (.int _ _), .v (.int _ _)]=_;rw[h1,ZS hx hy hc])
def r7(hl:ds.length<=1125899906842624:=by omega):PF GB prog 116 [dG ds] (dG (trimD ds)):=by
 refine fn func116 J J ntmps116 J J (fun C=>?_);refine lp (X:=Nat) (fun n=>[(0, .d (dG ds)),(3, .d (vI (n:Nat)))]) (fun n=>[]) (fun n=>n<=ds.length/\trimD ds=trimD (ds.take n)) (fun n=>n) ds.length J ⟨bW _,by rw[dQ]⟩ (fun _=>J) (fun n hk=>?_);obtain⟨h1,h2⟩:=hk;refine cs 8 J J J (fun hg8=>?_) (fun hg8=>?_)
 .
  refine ix _ J (cO (k:=n-1)) J<|br J J J (fun hc15=>?_) (fun hc15=>?_)
  .
   have hz:ds.getD (n-1) 0=0:=by omega
   exact at_ (n-1) ⟨⟨by omega,by rw[h2,O8 (by omega) hz]⟩,(by omega)⟩
  .
   refine kI 0 n _ J J J J (r5 _) (by omega) (by simp;omega) J<|rz J (by have:=Lp h1 (fun _ h=>hc15 (by omega));rw[<-h2] at this;show DV.sl _=_;simp[dG,this])
 .
  refine kI 0 n _ J J J J (r5 _) (by omega) (by simp;omega) rfl<|rz rfl (by obtain rfl:n=0:=(by omega);show DV.sl _=_;simp[dG,h2,trimD])
def vO(h:a<2^k)(hk:k<=1000000000):(dg a).length<=100000000:=by have:=k9 h;omega
def dl(a:Nat):dv (dg a)=a:=(f8 a).1
def gy(a:Nat):bA (dg a):=(f8 a).2.1
def bP(ds:List Nat):(ds.map dU).length=ds.length:=aX ..
def kA(h:ds.length<=n:=by omega):ds.take n=ds:=bM h
def qk(h:ds.length<=i:=by omega):ds.getD i 0=0:=by
 rw[aW,dS h];rfl
def lz(h:bA ds)(e:dv ds=n):dG (trimD ds)=dN n:=by rw[aJh h,e]
def BB(h:a<b):i5 a b= -1:=by unfold i5;rw[if_pos h]
def Bm(h:b<a):i5 a b=1:=by unfold i5;rw[if_neg (by omega),if_neg (by omega)]
def Ib(h:a=b):i5 a b=0:=by unfold i5;rw[if_neg (by omega),if_pos h]
def av7(m n:Nat):Int.sign ((m:Int)-n)=i5 m n:=by
 unfold i5;split
 .exact dY (by omega)
 .split
  .rw[show(m:Int)-n=0 by omega];rfl
  .exact eK (by omega)
def GC(h:(dg a).length≠(dg b).length:=by omega):i5 (dg a).length (dg b).length=i5 a b:=by
 rcases Nat.lt_or_gt_of_ne h with h|h
 .have:=yp (gy a) (f8 b).2.2 h
  rw[dl,dl] at this;rw[BB h,BB this]
 .have:=yp (gy b) (f8 a).2.2 h
  rw[dl,dl] at this;rw[Bm h,Bm this]
def Ar(hl:(dg a).length=(dg b).length)(hi:i<(dg a).length)(hs:(dg a).drop (i+1)=(dg b).drop (i+1)):
  ((dg a).getD i 0<(dg b).getD i 0->a<b)/\((dg b).getD i 0<(dg a).getD i 0->b<a)/\((dg a).getD i 0=(dg b).getD i 0->(dg a).drop i=(dg b).drop i):=by
 refine⟨fun h=>?_,fun h=>?_,fun h=>?_⟩
 .have:=Qr (gy a) (gy b) i hi (by omega) hl hs h
  rwa [dl,dl] at this
 .have:=Qr (gy b) (gy a) i (by omega) hi hl.symm hs.symm h
  rwa [dl,dl] at this
 .rw[bJ hi,bJ (by omega:i<(dg b).length),hs]
  rw[aW,aW,aZ hi,aZ (by omega:i<(dg b).length)] at h;simp only[lZ] at h;rw[h]
def aF3{z:Int}:PF GB prog 177 [vI z] (vI z.sign):=by
 refine fn func177 J J ntmps177 J J (fun C=>?_);refine br J J J (fun hc4=>?_) (fun hc4=>?_)
 .
  exact rz J (by show DV.v (.int _ 1)=DV.v (.int _ _);rw[eK (by omega)])
 .
  refine br J J J (fun hc6=>?_) (fun hc6=>?_)
  .
   exact rz J (by show DV.v (.int _ (-1))=DV.v (.int _ _);rw[dY (by omega)])
  .
   exact rz J (by show DV.v (.int _ 0)=DV.v (.int _ _);rw[show z=0 by omega];rfl)
def QR(u:Nat):dv [u%4294967296,u/4294967296]=u:=by simp only[dv];omega
def Pg(h:u<18446744073709551616):bA [u%4294967296,u/4294967296]:= .cons (by omega) (.cons (by omega) .nil)
def pp(u:Nat):(u:Int).fdiv (2^min (32:Int).toNat IntKind.u64.bits)=((u/4294967296:Nat):Int):=by
 rw[show(2:Int)^min (32:Int).toNat IntKind.u64.bits=((4294967296:Nat):Int) from J,kL _ (by decide)];rfl
def uc(hu:u<18446744073709551616:=by omega):PF GB prog 54 [.v (.int .u64 (u:Int))] (dN u):=by
 refine fn (fu:=⟨11⟩) (hv:=by simp only[ak];exact(by decide)) func54 J J ntmps54 J J (fun C=>?_);refine aj 6 (.d (.v (.int .u64 (u/4294967296:Nat)))) J (by rw[pp])<|gx J<|rf (fu:=⟨0⟩) J J<|aj 8 (.d (dG [u%4294967296,u/4294967296])) J (by show FX.d (.sl [.v (.int _ _), .v (.int _ _)])= .d (.sl [.v (.int _ _), .v (.int _ _)]);congr 6;omega)<|gx J<|cl J (r7 (ds:=[u%4294967296,u/4294967296]) (by simp)) J<|rz J (lz (Pg hu) (QR u))
def F2:PF GB prog 113 [] (dN 1):=by
 refine fn func113 J J ntmps113 J J (fun C=>?_);refine rf J J<|rz J (by unfold dN;rw[Bt];rfl)
def Aw(ha:(dg a).length<=100000000:=by omega)(hb:(dg b).length<=100000000:=by omega):PF GB prog 112 [dN a,dN b] (vI (i5 a b)):=by
 have hla:=bP (dg a);have hlb:=bP (dg b);refine fn func112 J J ntmps112 J J (fun C=>?_);refine br J J J (fun hc10=>?_) (fun hc10=>?_)
 .
  refine cl J aF3 J<|rz J (by show DV.v (.int _ _)=DV.v (.int _ _);rw[hla,hlb,av7,GC])
 .
  have hl:(dg a).length=(dg b).length:=by omega
  refine lp (X:=Nat) (fun k=>[(0, .d (dN a)),(1, .d (dN b)),(5, .d (vI ((k:Nat)-1)))]) (fun k=>[]) (fun k=>k<=(dg a).length/\(dg a).drop k=(dg b).drop k) (fun k=>k) (dg a).length J ⟨bW _,by rw[fW,hl,fW]⟩ (fun _=>J) (fun k hk=>?_);obtain⟨h1,h2⟩:=hk;refine br J J J (fun hc21=>?_) (fun hc21=>?_)
  .
   obtain⟨k,rfl⟩: ∃m,k=m+1:=⟨k-1,by omega⟩;refine ix _ J (cO (k:=k)) J<|ix _ J (cO (k:=k)) J<|br J J J (fun hc32=>?_) (fun hc32=>?_)
   .
    exact rz J (by show DV.v (.int _ 1)=DV.v (.int _ _);rw[Bm ((Ar hl (by omega) h2).2.1 (by omega))])
   .
    refine ix _ J (cO (k:=k)) J<|ix _ J (cO (k:=k)) J<|br J J J (fun hc41=>?_) (fun hc41=>?_)
    .
     exact rz J (by show DV.v (.int _ (-1))=DV.v (.int _ _);rw[BB ((Ar hl (by omega) h2).1 (by omega))])
    .
     exact at_ k ⟨⟨by omega,(Ar (i:=k) hl (by omega) h2).2.2 (by omega)⟩,(by omega)⟩
  .
   exact rz rfl (by show DV.v (.int _ 0)=DV.v (.int _ _);rw[Ib];obtain rfl:k=0:=(by omega);rw[iV,iV] at h2;rw[<-dl a,h2,dl])
def O0(hi:i<W.length)(h:dv (W.take i)+4294967296^i*c=dv (A.take i)+dv (B.take i)):
  dv ((W.set i ((A.getD i 0+B.getD i 0+c)%4294967296)).take (i+1))+4294967296^(i+1)*((A.getD i 0+B.getD i 0+c)/4294967296)=dv (A.take (i+1))+dv (B.take (i+1)):=by
 rw[xi hi,pn A,pn B,iQ,show A.getD i 0+B.getD i 0+c=c+A.getD i 0+B.getD i 0 by omega];exact ZK h
def Se(hn:n=max (dg a).length (dg b).length)(hl:W.length=n+1)(h:dv (W.take n)+4294967296^n*c=dv ((dg a).take n)+dv ((dg b).take n)):dv (W.set n c)=a+b:=by
 have e:=xi (ws:=W) (k:=n) (d:=c);rw[kA (by rw[bZ];omega)] at e;rw[e,h,kA,kA,dl,dl]
def aJz[ha:BN a ia][hb:BN b ib](hi:ia<=1000000000:=by decide)(hj:ib<=1000000000:=by decide):PF GB prog 226 [dN a,dN b] (dN (a+b)):=by
 have hla:=bP (dg a);have hlb:=bP (dg b);have hba:=vO ha.h hi;have hbb:=vO hb.h hj;refine fn (fu:=⟨12⟩) func226 J J ntmps226 J J (fun C=>?_);obtain⟨n,hn⟩: ∃n,n=max (dg a).length (dg b).length:=⟨_,rfl⟩;refine aj 15 (.d (vI (n:Nat))) J (by show FX.d (.v (.int _ _))= .d (.v (.int _ _));congr 3;split<;>omega)<|gx J<|mk ((List.replicate (n+1) 0).map dU) J J (by rw[<-nC];rfl) J<|lp (X:=List Nat×Nat×Nat) (fun⟨W,c,i⟩=>[(0, .d (dN a)),(1, .d (dN b)),(5, .d (vI (n:Nat))),(6, .rw 18),(7, .d (.v (.int .u32 (c:Nat)))),(8, .d (vI (i:Nat)))]) (fun⟨W,c,i⟩=>[(18,some (.b 208 1 (W.map dU) true))]) (fun⟨W,c,i⟩=>W.length=n+1/\bA W/\c<=1/\i<=n/\dv (W.take i)+4294967296^i*c=dv ((dg a).take i)+dv ((dg b).take i)) (fun⟨W,c,i⟩=>n-i) ⟨List.replicate (n+1) 0,0,0⟩ J ⟨by simp, .replicate _,by omega,by omega,by simp[dv]⟩ (fun _=>J) (fun⟨W,c,i⟩ hk=>?_);dsimp only at hk⊢;obtain⟨h1,h2,h3,h4,h5⟩:=hk;have hlw:=bP W;have hda:=ef a i;have hdb:=ef b i;refine br (fu1:=⟨11⟩) J J J (fun hc21=>?_) (fun hc21=>?_)
 .
  refine mg (fu:=⟨1⟩) (X:=Unit) (fun _=>[(0, .d (dN a)),(1, .d (dN b)),(5, .d (vI (n:Nat))),(6, .rw 18),(7, .d (.v (.int .u32 (c:Nat)))),(8, .d (vI (i:Nat))),(9, .d (dU ((dg a).getD i 0))),(10, .d (.v (.int .u32 0)))]) (fun _=>[(18,some (.b 208 1 (W.map dU) true))]) (fun _=>True) [0,1,5,6,7,8,9,10] [18] rfl ?_ (fun _=>J) (fun _ hm=>?_)
  .
   refine gx J<|br J J J (fun hc27=>?_) (fun hc27=>?_)
   .
    refine ix _ J (fh) J<|at_ () trivial
   .
    refine aj 9 (.d (dU ((dg a).getD i 0))) J (by rw[qk];rfl)<|at_ () trivial
  .
   refine mg (X:=Unit) (fun _=>[(0, .d (dN a)),(1, .d (dN b)),(5, .d (vI (n:Nat))),(6, .rw 18),(7, .d (.v (.int .u32 (c:Nat)))),(8, .d (vI (i:Nat))),(9, .d (dU ((dg a).getD i 0))),(10, .d (dU ((dg b).getD i 0)))]) (fun _=>[(18,some (.b 208 1 (W.map dU) true))]) (fun _=>True) [0,1,5,6,7,8,9,10] [18] rfl ?_ (fun _=>J) (fun _ hm=>?_)
   .
    refine gx J<|br J J J (fun hc35=>?_) (fun hc35=>?_)
    .
     refine ix _ J (fh) J<|at_ () trivial
    .
     refine aj 10 (.d (dU ((dg b).getD i 0))) J (by rw[qk];rfl)<|at_ () trivial
   .
    refine cl J (aDw (by omega) (by omega) (by omega)) J<|sb _ ((W.set i (((dg a).getD i 0+(dg b).getD i 0+c)%4294967296)).map dU) J (fh) J (by rw[<-jA];rfl) J<|at_ ⟨W.set i (((dg a).getD i 0+(dg b).getD i 0+c)%4294967296),((dg a).getD i 0+(dg b).getD i 0+c)/4294967296,i+1⟩ (by dsimp only;exact⟨⟨by simpa using h1,h2.set _ (by omega),by omega,by omega,O0 (by omega) h5⟩,(by omega)⟩)
 .
  obtain rfl:i=n:=by omega
  refine sb _ ((W.set i c).map dU) J (fh) J (by rw[<-jA];rfl) J<|fz 18 J J<|cl J (r7 (ds:=W.set i c) (by simp;omega)) J<|rz J (lz (h2.set _ (by omega)) (Se hn h1 h5))
def Tc(hA:bA A)(hB:bA B)(hi:i<W.length)(hc:c<=1)(h:dv (W.take i)+dv (B.take i)=dv (A.take i)+4294967296^i*c)
  (hd:d=if A.getD i 0<B.getD i 0+c then A.getD i 0+4294967296-(B.getD i 0+c) else A.getD i 0-(B.getD i 0+c))(hc2:c2=if A.getD i 0<B.getD i 0+c then 1 else 0):
  dv ((W.set i d).take (i+1))+dv (B.take (i+1))=dv (A.take (i+1))+4294967296^(i+1)*c2:=by
 have h1:=hA.get i;have h2:=hB.get i;rw[xi hi,pn A,pn B,iQ];split at hd
 .rename_i q
  rw[if_pos q] at hc2;subst hc2 hd;rw[lX (B.getD i 0) c];exact aEe h (by omega) (by omega)
 .rename_i q
  rw[if_neg q] at hc2;subst hc2 hd;rw[lX (B.getD i 0) c];exact aGs h (by omega)
def RW(hw:bA W)(hl:W.length=(dg a).length)(hb:b<=a)(h:dv (W.take (dg a).length)+dv ((dg b).take (dg a).length)=dv ((dg a).take (dg a).length)+4294967296^(dg a).length*c):dv W=a-b:=by
 have hlb:(dg b).length<=(dg a).length:=by
  rcases jM (dg a).length (dg b).length with q|q
  .have:=yp (gy a) (f8 b).2.2 q
   rw[dl,dl] at this;omega
  .exact q
 rw[kA,kA hlb,kA (bW _),dl,dl] at h;have h2:=mG hw;rw[hl] at h2;rcases fX c with q|q
 .subst q;omega
 .have:4294967296^(dg a).length*1<=4294967296^(dg a).length*c:=fM _ q
  omega
def Kr[ha:BN a ia](hb:b<=a)(hi:ia<=1000000000:=by decide):PF GB prog 227 [dN a,dN b] (dN (a-b)):=by
 have hla:=bP (dg a);have hlb:=bP (dg b);have hba:=vO ha.h hi;refine fn (fu:=⟨9⟩) func227 J J ntmps227 J J (fun C=>?_);refine aj 10 (.d (vI ((dg a).length:Nat))) J (by rw[hla];rfl)<|gx J<|mk (fu:=⟨13⟩) ((List.replicate (dg a).length 0).map dU) J J (by rw[<-nC];rfl) J<|aj 13 (.d (vI ((dg a).length:Nat))) J (by rw[hla];rfl)<|gx J<|lp (X:=List Nat×Nat×Nat) (fun⟨W,c,i⟩=>[(0, .d (dN a)),(1, .d (dN b)),(5, .rw 11),(6, .d (.v (.int .u32 (c:Nat)))),(13, .d (vI ((dg a).length:Nat))),(14, .d (vI (i:Nat)))]) (fun⟨W,c,i⟩=>[(11,some (.b 208 1 (W.map dU) true))]) (fun⟨W,c,i⟩=>W.length=(dg a).length/\bA W/\c<=1/\i<=(dg a).length/\dv (W.take i)+dv ((dg b).take i)=dv ((dg a).take i)+4294967296^i*c) (fun⟨W,c,i⟩=>(dg a).length-i) ⟨List.replicate (dg a).length 0,0,0⟩ J ⟨by simp, .replicate _,by omega,by omega,by simp[dv]⟩ (fun _=>J) (fun⟨W,c,i⟩ hk=>?_);dsimp only at hk⊢;obtain⟨h1,h2,h3,h4,h5⟩:=hk;have hlw:=bP W;have hda:=ef a i;have hdb:=ef b i;refine br (fu1:=⟨16⟩) J J J (fun hc15=>?_) (fun hc15=>?_)
 .
  refine mg (X:=Unit) (fun _=>[(0, .d (dN a)),(1, .d (dN b)),(5, .rw 11),(6, .d (.v (.int .u32 (c:Nat)))),(13, .d (vI ((dg a).length:Nat))),(14, .d (vI (i:Nat))),(7, .d (vI (i:Nat))),(8, .d (dU ((dg b).getD i 0)))]) (fun _=>[(11,some (.b 208 1 (W.map dU) true))]) (fun _=>True) [0,1,5,6,13,14,7,8] [11] rfl ?_ (fun _=>J) (fun _ hm=>?_)
  .
   refine gx J<|br J J J (fun hc20=>?_) (fun hc20=>?_)
   .
    refine ix _ J (fh) J<|at_ () trivial
   .
    refine aj 8 (.d (dU ((dg b).getD i 0))) J (by rw[qk];rfl)<|at_ () trivial
  .
   refine ix _ J (fh) J<|cl J (ZH (by omega) (by omega) (by omega)) J<|sb _ ((W.set i (if(dg a).getD i 0<(dg b).getD i 0+c then(dg a).getD i 0+4294967296-((dg b).getD i 0+c) else(dg a).getD i 0-((dg b).getD i 0+c))).map dU) J (fh) J (by rw[<-jA];rfl) J<|at_ ⟨W.set i (if(dg a).getD i 0<(dg b).getD i 0+c then(dg a).getD i 0+4294967296-((dg b).getD i 0+c) else(dg a).getD i 0-((dg b).getD i 0+c)),(if(dg a).getD i 0<(dg b).getD i 0+c then 1 else 0),i+1⟩ (by dsimp only;exact⟨⟨by simpa using h1,h2.set _ (by split<;>omega),by split<;>omega,by omega,Tc (gy a) (gy b) (by omega) h3 h5 J J⟩,(by omega)⟩)
 .
  obtain rfl:i=(dg a).length:=by omega
  refine fz 11 J J<|cl J (r7 (ds:=W)) J<|rz J (lz h2 (RW h2 h1 hb h5))
def qt(n:Nat)(a b k:Nat)(ha:a<2^k)(h:a+b*2^k<2^n):(BitVec.ofInt n (a:Int) ||| BitVec.ofInt n ((b*2^k:Nat):Int)).toNat=a+b*2^k:=by
 rw[BitVec.toNat_or,BitVec.ofInt_natCast,BitVec.ofInt_natCast,BitVec.toNat_ofNat,BitVec.toNat_ofNat,jW (by omega),jW (by omega)];rw[<-Nat.shiftLeft_eq,Nat.or_comm,<-Nat.shiftLeft_add_eq_or_of_lt ha,Nat.shiftLeft_eq];omega
def F1(hx:x<4294967296)(hy:y<4294967296):x*y<=18446744065119617025:=by
 have:=iW (by omega:x<=4294967295) (by omega:y<=4294967295);exact this
def Bo(x y:Nat):(0:Int)<=(x:Int)*(y:Int):=by rw[<-jQ];omega
def Ca(hx:x<4294967296)(hy:y<4294967296):(x:Int)*(y:Int)<=18446744073709551615:=by
 have:=F1 hx hy;rw[<-jQ];omega
def Wi(h:ds.length=1):dv ds=ds.getD 0 0:=by
 match ds,h with
 |[d],_=>simp[dv]
def wx(h:(dg a).length=1:=by omega):(dg a).getD 0 0=a:=by rw[<-Wi h,dl]
def Y4(h:j<m):(ds.take m).getD j 0=ds.getD j 0:=by
 rw[aW,aW,pT,if_pos h]
def M2(hj:j<m)(hm:m<=W.length):dv ((W.set j d).take m)+4294967296^j*W.getD j 0=dv (W.take m)+4294967296^j*d:=by
 rw[List.take_set,<-Y4 (ds:=W) hj];exact w6 _ _ _ (by rw[bR];omega)
def Tj{W:List Nat}{P X Y m i k c y t S:Nat}(hk:i+k<m)(hm:m<=W.length)(h:dv (W.take m)+4294967296^(i+k)*c=P+X*(4294967296^i*S))(ht:t=Y+W.getD (i+k) 0+c)(hY:Y=X*y):
  dv ((W.set (i+k) (t%4294967296)).take m)+4294967296^(i+(k+1))*(t/4294967296)=P+X*(4294967296^i*(S+4294967296^k*y)):=by
 have h1:=M2 (W:=W) (d:=t%4294967296) hk hm;rw[ht,show Y+W.getD (i+k) 0+c=c+Y+W.getD (i+k) 0 by omega] at h1⊢;have h2:=ayE h1 h;rw[<-lY,iQ,h2,hY,fY];simp only[fJ,cY,nQ,cJ,lY]
def Px{a b:Nat}{W:List Nat}{i c lb:Nat}(hlb:lb=(dg b).length)(hl:i+lb<W.length)(h:dv (W.take (i+lb))+4294967296^(i+lb)*c=dv ((dg a).take i)*b+(dg a).getD i 0*(4294967296^i*dv ((dg b).take lb))):
  dv ((W.set (i+lb) c).take (i+1+lb))=dv ((dg a).take (i+1))*b:=by
 rw[show i+1+lb=i+lb+1 by omega,xi hl,h,pn,kA (ds:=dg b),dl b,dV];simp only[cY,nQ,cJ]
def Ef(n j:Nat):(List.replicate n 0).getD j 0=0:=by
 rw[aW,List.getElem?_replicate];split<;>rfl
def BU(h:k<=1000000000):IntKind.i64.wrap ((k:Int).tdiv 32)=((k/32:Nat):Int):=by
 rw[show(k:Int).tdiv 32=((k/32:Nat):Int) from J,Hv];omega
def RC(k:Nat):(k:Int).tmod 32=((k%32:Nat):Int):=rfl
def rO[ha:BN a ia][hb:BN b ib](hi:ia<=1000000000:=by decide)(hj:ib<=1000000000:=by decide):PF GB prog 144 [dN a,dN b] (dN (a*b)):=by
 have hla:=bP (dg a);have hlb:=bP (dg b);have hba:=vO ha.h hi;have hbb:=vO hb.h hj;refine fn (fu:=⟨6⟩) func144 J J ntmps144 J J (fun C=>?_);refine mg (fu:=⟨4⟩) (X:=Unit) (fun _=>[(0, .d (dN a)),(1, .d (dN b))]) (fun _=>[]) (fun _=>True) [0,1] [] rfl ?_ (fun _=>J) (fun _ hm=>?_)
 .
  refine gx J<|cs 15 J J J (fun hg15=>?_) (fun hg15=>?_)
  .
   refine br J J J (fun hc19=>?_) (fun hc19=>?_)
   .
    have hd0:=ef a 0;have hd1:=ef b 0;refine ix _ J (cO (k:=0) J (by omega)) J<|ix (hv:=by simp only[ak];exact⟨by omega,⟨(Bo _ _),(Ca (ef _ _) (ef _ _))⟩⟩) _ J (cO (k:=0) J (by omega)) J<|cl J (uc (u:=(dg a).getD 0 0*(dg b).getD 0 0) (by have:=F1 (ef a 0) (ef b 0);omega)) J<|rz J (by rw[wx,wx];rfl)
   .
    exact at_ () trivial
  .
   exact at_ () trivial
 .
  refine aj 31 (.d (vI ((dg a).length:Nat))) J (by rw[hla];rfl)<|gx (fu:=⟨2⟩) J<|aj 33 (.d (vI ((dg b).length:Nat))) J (by rw[hlb];rfl)<|gx J<|mk (fu:=⟨8⟩) ((List.replicate ((dg a).length+(dg b).length) 0).map dU) J J (by rw[<-nC];rfl) J<|aj 37 (.d (vI ((dg a).length:Nat))) J (by rw[hla];rfl)<|gx J<|lp (X:=List Nat×Nat) (fun⟨W,i⟩=>[(0, .d (dN a)),(1, .d (dN b)),(5, .rw 35),(36, .d (dN a)),(37, .d (vI ((dg a).length:Nat))),(38, .d (vI (i:Nat)))]) (fun⟨W,i⟩=>[(35,some (.b 208 1 (W.map dU) true))]) (fun⟨W,i⟩=>W.length=(dg a).length+(dg b).length/\bA W/\i<=(dg a).length/\dv (W.take (i+(dg b).length))=dv ((dg a).take i)*b) (fun⟨W,i⟩=>(dg a).length-i) ⟨List.replicate ((dg a).length+(dg b).length) 0,0⟩ J ⟨by simp, .replicate _,by omega,by rw[qM,y4];simp[dv]⟩ (fun _=>J) (fun⟨W,i⟩ hk=>?_);dsimp only at hk⊢;obtain⟨h1,h2,h3,h4⟩:=hk;refine br J J J (fun hc39=>?_) (fun hc39=>?_)
  .
   refine ix (fu:=⟨15⟩) _ J (fh) J<|aj 44 (.d (vI ((dg b).length:Nat))) J (by rw[hlb];rfl)<|gx J<|lp (X:=List Nat×Nat×Nat) (fun⟨W2,c,k⟩=>[(0, .d (dN a)),(1, .d (dN b)),(5, .rw 35),(6, .d (vI (i:Nat))),(7, .d (dU ((dg a).getD i 0))),(8, .d (.v (.int .u64 (c:Nat)))),(36, .d (dN a)),(37, .d (vI ((dg a).length:Nat))),(38, .d (vI (i:Nat))),(43, .d (dN b)),(44, .d (vI ((dg b).length:Nat))),(45, .d (vI (k:Nat)))]) (fun⟨W2,c,k⟩=>[(35,some (.b 208 1 (W2.map dU) true))]) (fun⟨W2,c,k⟩=>W2.length=(dg a).length+(dg b).length/\bA W2/\c<4294967296/\k<=(dg b).length/\dv (W2.take (i+(dg b).length))+4294967296^(i+k)*c=dv ((dg a).take i)*b+(dg a).getD i 0*(4294967296^i*dv ((dg b).take k))) (fun⟨W2,c,k⟩=>(dg b).length-k) ⟨W,0,0⟩ J ⟨h1,h2,by omega,by omega,by rw[h4];simp[dv]⟩ (fun _=>J) (fun⟨W2,c,k⟩ hk=>?_);dsimp only at hk⊢;obtain⟨g1,g2,g3,g4,g5⟩:=hk;have hlw:=bP W2;have hw:=g2.get (i+k);have hda:=ef a i;have hdb:=ef b k;refine br (fu2:=⟨10⟩) J J J (fun hc46=>?_) (fun hc46=>?_)
   .
    refine ix (fu:=⟨12⟩) (hv:=by simp only[ak];exact⟨⟨by omega,by omega⟩,⟨(Bo _ _),(Ca (ef _ _) (ef _ _))⟩⟩) _ J (fh) J<|?_;obtain⟨p,hp⟩: ∃p,p=(dg a).getD i 0*(dg b).getD k 0:=⟨_,rfl⟩;have hp1:p<=18446744065119617025:=hp▸F1 hda hdb;refine aj 54 (.d (.v (.int .u64 (p:Nat)))) J (by rw[hp,jQ])<|gx J<|lb (fu:=⟨4⟩) _ J (cO (k:=i+k)) J<|?_;obtain⟨t,ht⟩: ∃t,t=p+W2.getD (i+k) 0+c:=⟨_,rfl⟩;refine aj 64 (.d (.v (.int .u64 (t:Nat)))) J (by congr 3;omega)<|gx (fu:=⟨11⟩) J<|aj 70 (.d (dU (t%4294967296))) J (by show FX.d (.v (.int _ _))= .d (.v (.int _ _));congr 3)<|gx J<|sb (fu:=⟨5⟩) (hv:=by simp only[ak];exact(by decide)) _ ((W2.set (i+k) (t%4294967296)).map dU) J (cO (k:=i+k)) J (by(rw[show((i:Int)+k).toNat=i+k by omega,<-jA])<;>rfl) J<|aj 73 (.d (.v (.int .u64 (t/4294967296:Nat)))) J (by rw[pp])<|gx J<|at_ ⟨W2.set (i+k) (t%4294967296),t/4294967296,k+1⟩ (by dsimp only;exact⟨⟨by simpa using g1,g2.set _ (by omega),by omega,by omega,by rw[pn];exact Tj (by omega) (by omega) g5 ht hp⟩,(by omega)⟩)
   .
    obtain rfl:k=(dg b).length:=by omega
    refine aj 78 (.d (vI ((dg b).length:Nat))) J (by rw[hlb];rfl)<|gx (fu:=⟨3⟩) J<|aj 81 (.d (dU c)) J (by show FX.d (.v (.int _ _))= .d (.v (.int _ _));congr 3;omega)<|gx J<|sb _ ((W2.set (i+(dg b).length) c).map dU) J (cO (k:=i+(dg b).length)) J (by(rw[show((i:Int)+((dg b).length:Nat)).toNat=i+(dg b).length by omega,<-jA])<;>rfl) J<|at_ ⟨W2.set (i+(dg b).length) c,i+1⟩ (by dsimp only;exact⟨⟨by simpa using g1,g2.set _ g3,by omega,Px J (by omega) g5⟩,(by omega)⟩)
  .
   obtain rfl:i=(dg a).length:=by omega
   refine fz 35 J J<|cl J (r7 (ds:=W)) J<|rz J (lz h2 (by have:=h4;rw[kA,kA,dl] at this;exact this))
def GP(x s:Nat):x*2^s=x*2^s%4294967296+4294967296*(x*2^s/4294967296):=by omega
def QJ(hx:x<4294967296)(hs:s<32):x*2^s/4294967296<2^s:=by
 rw[kW (by decide),cJ (2^s)];exact nS hx (bW _) (gK (by decide))
def IS(hs:s<32):2^s*2^(32-s)=4294967296:=by rw[<-fY,show s+(32-s)=32 by omega]
def aFy(x s:Nat)(hs:s<32):x*2^s%4294967296=x%2^(32-s)*2^s:=by
 rw[<-IS hs,cJ (2^s),Nat.mul_mod_mul_right]
def RE(hx:x<4294967296)(hs:s<32):x*2^s<18446744073709551616:=by
 have h1:2^s<=2^31:=bL (by decide) (by omega);have:=nS hx h1 (by decide);omega
def MD(hw:w<2^s)(hs:s<32):(BitVec.ofInt 32 (w:Int) ||| BitVec.ofInt 32 ((x*2^s%4294967296:Nat):Int)).toNat=w+x*2^s%4294967296:=by
 rw[aFy x s hs];refine qt 32 _ _ _ hw ?_;have h1:x%2^(32-s)+1<=2^(32-s):=dK _ (gK (by decide));have h2:=bS (2^s) h1;rw[cJ (2^(32-s)),IS hs,dV,nY] at h2;show _<4294967296;omega
def axX(hh:h<4294967296):(BitVec.ofInt 32 ((0:Nat):Int) ||| BitVec.ofInt 32 (h:Int)).toNat=h:=by
 have:=qt 32 0 h 0 (by decide) (by simpa using hh);simpa using this
def GM(k:Nat):2^k=4294967296^(k/32)*2^(k%32):=by
 rw[show(4294967296:Nat)=2^32 from J,<-tL,<-fY,rW]
def getD_set_ne(h:i≠j:=by omega):(W.set i d).getD j 0=W.getD j 0:=by
 rw[aW,aW,List.getElem?_set_ne h]
def Bz(h:i<W.length):(W.set i d).getD i 0=d:=by
 rw[aW,pS h];rfl
def ML{A W:List Nat}{k q s i x:Nat}(hq:q=k/32)(hs:s=k%32)(hl:q+i+1<W.length)(hx:x=A.getD i 0)
  (h:dv (W.take (q+i+1))=dv (A.take i)*2^k):
  dv (((W.set (q+i) (W.getD (q+i) 0+x*2^s%4294967296)).set (q+i+1) (x*2^s/4294967296)).take (q+(i+1)+1))=dv (A.take (i+1))*2^k:=by
 have e1:=M2 (W:=W) (j:=q+i) (m:=q+i+1) (d:=W.getD (q+i) 0+x*2^s%4294967296) (by omega) (by omega);rw[show q+(i+1)+1=q+i+1+1 by omega,xi (by rw[bZ];omega),pn A,<-hx];have e2:dv ((W.set (q+i) (W.getD (q+i) 0+x*2^s%4294967296)).take (q+i+1))=dv (A.take i)*2^k+4294967296^(q+i)*(x*2^s%4294967296):=by
  rw[fJ,h] at e1;omega
 rw[e2,iQ,cY,lY,<-fJ,<-GP,dV,GM k,<-hq,<-hs,fY];simp only[cY,nQ,cJ]
def Dc[ha:BN a ia](hk:k<=1000000000)(hi:ia<=1000000000:=by decide):PF GB prog 244 [dN a,vI (k:Nat)] (dN (a*2^k)):=by
 have hla:=bP (dg a);have hba:=vO ha.h hi;refine fn (fu:=⟨9⟩) func244 J J ntmps244 J J (fun C=>?_);refine aj 11 (.d (vI (k/32:Nat))) J (by show FX.d (.v (.int _ _))= .d (.v (.int _ _));rw[BU hk])<|gx (fu:=⟨2⟩) J<|aj 13 (.d (vI ((dg a).length:Nat))) J (by rw[hla];rfl)<|gx (fu:=⟨2⟩) J<|aj 15 (.d (vI (k/32+(dg a).length+1:Nat))) J (by show FX.d (.v (.int _ _))= .d (.v (.int _ _));congr 3)<|gx J<|mk (fu:=⟨7⟩) (hv:=by simp only[ak];exact(by decide)) ((List.replicate (k/32+(dg a).length+1) 0).map dU) J J (by rw[<-nC];rfl) J<|aj 18 (.d (vI (k%32:Nat))) J (by show FX.d (.v (.int _ _))= .d (.v (.int _ _));rw[RC])<|gx (fu:=⟨9⟩) J<|aj 21 (.d (vI ((dg a).length:Nat))) J (by rw[hla];rfl)<|gx J<|lp (X:=List Nat×Nat) (fun⟨W,i⟩=>[(0, .d (dN a)),(1, .d (vI (k:Nat))),(5, .rw 16),(6, .d (.v (.int .u64 (k%32:Nat)))),(20, .d (dN a)),(21, .d (vI ((dg a).length:Nat))),(22, .d (vI (i:Nat)))]) (fun⟨W,i⟩=>[(16,some (.b 208 1 (W.map dU) true))]) (fun⟨W,i⟩=>W.length=k/32+(dg a).length+1/\bA W/\i<=(dg a).length/\dv (W.take (k/32+i+1))=dv ((dg a).take i)*2^k/\W.getD (k/32+i) 0<2^(k%32)/\ ∀j,k/32+i<j->W.getD j 0=0) (fun⟨W,i⟩=>(dg a).length-i) ⟨List.replicate (k/32+(dg a).length+1) 0,0⟩ J ⟨by simp, .replicate _,by omega,by rw[qM,y4];simp[dv],by rw[Ef];exact gK (by decide),fun j _=>Ef _ _⟩ (fun _=>J) (fun⟨W,i⟩ hk=>?_);dsimp only at hk⊢;obtain⟨h1,h2,h3,h4,h5,h6⟩:=hk;have hlw:=bP W;have hda:=ef a i;have hsk:k%32<32:=dK _ (by decide);have hpp:2^(k%32)<=2^31:=bL (by decide) (by omega);refine br J J J (fun hc23=>?_) (fun hc23=>?_)
 .
  refine ix (fu:=⟨11⟩) (hv:=by simp only[ak];exact⟨by omega,(by omega)⟩) _ J (fh) J<|?_;have hhi:=QJ hda hsk;have hfit0:=RE hda hsk;have hor:=MD (x:=(dg a).getD i 0) h5 hsk;have hfit:W.getD (k/32+i) 0+(dg a).getD i 0*2^(k%32)%4294967296<4294967296:=by rw[<-hor];exact BitVec.isLt _
  have hlp:=GP ((dg a).getD i 0) (k%32);refine aj 30 (.d (.v (.int .u64 ((dg a).getD i 0*2^(k%32):Nat)))) J (by show FX.d (.v (.int _ _))= .d (.v (.int _ _));rw[qz _ (k%32) (by omega) hfit0]) ?_;obtain⟨t,ht⟩: ∃t,t=(dg a).getD i 0*2^(k%32):=⟨_,rfl⟩;simp only[<-ht] at hhi hfit0 hor hfit hlp;rw[<-ht];refine gx (fu:=⟨8⟩) J<|aj 33 (.d (vI (k/32:Nat))) J (by show FX.d (.v (.int _ _))= .d (.v (.int _ _));rw[BU hk])<|gx J<|lb (fu:=⟨2⟩) _ J (cO (k:=k/32+i)) J<|aj 39 (.d (dU (t%4294967296))) J (by show FX.d (.v (.int _ _))= .d (.v (.int _ _));congr 3)<|gx (fu:=⟨1⟩) J<|aj 40 _ J (congrArg (fun z:Nat=>FX.d (.v (.int .u32 (z:Int)))) hor)<|gx J<|sb (fu:=⟨6⟩) _ ((W.set (k/32+i) (W.getD (k/32+i) 0+t%4294967296)).map dU) J (cO (k:=k/32+i)) J (by(rw[show(((k/32:Nat):Int)+i).toNat=k/32+i by omega];simp only[kQ];rfl)<;>rfl) J<|aj 44 (.d (vI (k/32:Nat))) J (by show FX.d (.v (.int _ _))= .d (.v (.int _ _));rw[BU hk])<|gx J<|lb (fu:=⟨0⟩) _ J (cO (k:=k/32+i+1) (by omega) (by rw[bZ];omega)) J<|aj 49 (.d (dU 0)) J (by rw[getD_set_ne,h6 _ (by omega)])<|gx (fu:=⟨2⟩) (hv:=by simp only[ak];exact(by decide)) J<|aj 51 (.d (.v (.int .u64 (t/4294967296:Nat)))) J (by rw[pp])<|gx (fu:=⟨1⟩) J<|aj 52 (.d (dU (t/4294967296))) J (by show FX.d (.v (.int _ _))= .d (.v (.int _ _));congr 3;omega)<|gx (fu:=⟨1⟩) J<|aj 53 _ J (congrArg (fun z:Nat=>FX.d (.v (.int .u32 (z:Int)))) (axX (by omega)))<|gx J<|sb _ (((W.set (k/32+i) (W.getD (k/32+i) 0+t%4294967296)).set (k/32+i+1) (t/4294967296)).map dU) J (cO (k:=k/32+i+1) (by omega) (by rw[bZ];omega)) J (by(rw[show(((k/32:Nat):Int)+i+1).toNat=k/32+i+1 by omega];simp only[kQ];rfl)<;>rfl) J<|at_ ⟨(W.set (k/32+i) (W.getD (k/32+i) 0+t%4294967296)).set (k/32+i+1) (t/4294967296),i+1⟩ (by dsimp only;exact⟨⟨by simpa using h1,(h2.set _ hfit).set _ (by omega),by omega,by have q:=ML (x:=(dg a).getD i 0) J J (by omega) J h4;rw[<-ht] at q;exact q,by rw[show k/32+(i+1)=k/32+i+1 by omega,Bz (by simp;omega)];exact hhi,fun j hj=>by rw[getD_set_ne,getD_set_ne];exact h6 j (by omega)⟩,(by omega)⟩)
 .
  obtain rfl:i=(dg a).length:=by omega
  refine fz 16 J J<|cl J (r7 (ds:=W)) J<|rz J (lz h2 (by have:=h4;rw[kA,kA,dl] at this;exact this))
def at6(h:(dg a).length<=k/32):a/2^k=0:=by
 refine lM ?_;have h1:=mG (gy a);rw[dl] at h1;have h2:4294967296^(dg a).length<=4294967296^(k/32):=bL (by decide) h;have h3:4294967296^(k/32)*1<=4294967296^(k/32)*2^(k%32):=fM _ (gK (by decide));rw[GM k];omega
def H9(h:bA ds)(q:Nat):dv (ds.drop q)=dv ds/4294967296^q:=by
 rcases jM ds.length q with hq|hq
 .rw[jU (by omega)]
  have h1:=mG h;have h2:4294967296^ds.length<=4294967296^q:=bL (by decide) (by omega);rw[lM (by omega)];rfl
 .have e:=Bp ds q hq
  have h1:=mG (h.take q);rw[bR,jZ hq] at h1;rw[e,qV _ _ (gK (by decide)),lM h1,eM]
def D8(h:bA ds)(i:Nat):dv ds/4294967296^i=ds.getD i 0+4294967296*ds.getD (i+1) 0+18446744073709551616*(dv ds/4294967296^(i+2)):=by
 have e0:=H9 h i;have e2:=H9 h (i+2);rw[<-e0,<-e2];have g0:ds.getD i 0=(ds.drop i).getD 0 0:=by rw[aW,aW,lR];rfl
 have g1:ds.getD (i+1) 0=(ds.drop i).getD 1 0:=by rw[aW,aW,lR]
 have g2:ds.drop (i+2)=(ds.drop i).drop 2:=by rw[tT]
 rw[g0,g1,g2]
 match ds.drop i with
 |[]=>rfl
 |[u]=>simp[dv]
 |u::v::t=>simp only[dv,qN,pZ,tK,iV];omega
def OD{D v Z:Nat}(hs:s<32)(hZ:D/4294967296^i=u+4294967296*v+18446744073709551616*Z)(hw:w=(u+v*4294967296)/2^s%4294967296):(D/2^s)%4294967296^(i+1)=(D/2^s)%4294967296^i+4294967296^i*w:=by
 rw[iQ,Nat.mod_mul];congr 2;rw[sV,cJ (2^s),<-sV,hZ,hw];have h1:18446744073709551616=2^s*(2^(32-s)*4294967296):=by rw[<-cY,IS hs]
 rw[h1,cY (2^s),qV _ _ (gK (by decide)),cJ v];rw[cJ (2^(32-s)),cY,qR]
def aup(hq:q=k/32)(hs:s=k%32)(hl:W.length=(dg a).length-q)(h:dv (W.take ((dg a).length-q))=(dv ((dg a).drop q)/2^s)%4294967296^((dg a).length-q)):dv W=a/2^k:=by
 rw[kA] at h;have h1:=mG ((gy a).drop q);rw[gU] at h1;have h2:=nZ (dv ((dg a).drop q)) (2^s);rw[h,jW (by omega),H9 (gy a),dl,GM k,<-hq,<-hs,sV]
def aE6[ha:BN a ia](hk:k<=1000000000)(hi:ia<=1000000000:=by decide):PF GB prog 245 [dN a,vI (k:Nat)] (dN (a/2^k)):=by
 have hla:=bP (dg a);have hba:=vO ha.h hi;refine fn (fu:=⟨10⟩) func245 J J ntmps245 J J (fun C=>?_);refine aj 12 (.d (vI (k/32:Nat))) J (by show FX.d (.v (.int _ _))= .d (.v (.int _ _));rw[BU hk])<|gx (fu:=⟨2⟩) J<|aj 14 (.d (vI ((dg a).length:Nat))) J (by rw[hla];rfl)<|gx J<|br (fu2:=⟨6⟩) (v2:=fun _=>by simp only[ak];exact(by decide)) J J J (fun hc15=>?_) (fun hc15=>?_)
 .
  exact rz J (by rw[at6 (by omega),nk];rfl)
 .
  refine aj 17 (.d (vI (k%32:Nat))) J (by show FX.d (.v (.int _ _))= .d (.v (.int _ _));rw[RC])<|gx (fu:=⟨9⟩) J<|aj 21 (.d (vI (k/32:Nat))) J (by show FX.d (.v (.int _ _))= .d (.v (.int _ _));rw[BU hk])<|gx J<|kI (fu:=⟨0⟩) (k/32) (dg a).length _ J J (by rw[hla]) J (r5 _) (by omega) (by omega) J<|?_;obtain⟨I,hI⟩: ∃I,I=(dg a).drop (k/32):=⟨_,rfl⟩;have hIl:I.length=(dg a).length-k/32:=by rw[hI,gU]
  have hIm:=bP I;have hIo:bA I:=hI▸(gy a).drop _;refine aj 22 (.d (dG I)) J (by show FX.d (.sl _)= .d (.sl _);rw[hI,<-hla,dQ,jV])<|gx (fu:=⟨7⟩) J<|aj 24 (.d (vI (I.length:Nat))) J (by rw[hIm];rfl)<|gx J<|mk (fu:=⟨8⟩) ((List.replicate I.length 0).map dU) J J (by rw[<-nC];rfl) J<|aj 27 (.d (vI (I.length:Nat))) J (by rw[hIm];rfl)<|gx J<|lp (X:=List Nat×Nat) (fun⟨W,i⟩=>[(0, .d (dN a)),(5, .d (.v (.int .u64 (k%32:Nat)))),(6, .d (dG I)),(7, .rw 25),(26, .d (dG I)),(27, .d (vI (I.length:Nat))),(28, .d (vI (i:Nat)))]) (fun⟨W,i⟩=>[(25,some (.b 208 1 (W.map dU) true))]) (fun⟨W,i⟩=>W.length=I.length/\bA W/\i<=I.length/\dv (W.take i)=(dv I/2^(k%32))%4294967296^i) (fun⟨W,i⟩=>I.length-i) ⟨List.replicate I.length 0,0⟩ J ⟨by simp, .replicate _,by omega,by simp[dv,Nat.mod_one]⟩ (fun _=>J) (fun⟨W,i⟩ hk=>?_);dsimp only at hk⊢;obtain⟨h1,h2,h3,h4⟩:=hk;have hlw:=bP W;have hda:=hIo.get i;have hdb:=hIo.get (i+1);have hsk:k%32<32:=dK _ (by decide);refine br J J J (fun hc29=>?_) (fun hc29=>?_)
  .
   refine ix (fu:=⟨13⟩) _ J (fh) J<|mg (fu:=⟨6⟩) (hv:=fun _ _=>by simp only[ak];exact(by omega)) (X:=Unit) (fun _=>[(0, .d (dN a)),(5, .d (.v (.int .u64 (k%32:Nat)))),(6, .d (dG I)),(7, .rw 25),(26, .d (dG I)),(27, .d (vI (I.length:Nat))),(28, .d (vI (i:Nat))),(8, .d (vI (i:Nat))),(10, .d (.v (.int .u64 (I.getD i 0+I.getD (i+1) 0*4294967296:Nat))))]) (fun _=>[(25,some (.b 208 1 (W.map dU) true))]) (fun _=>True) [0,5,6,7,26,27,28,8,10] [25] rfl ?_ (fun _=>J) (fun _ hm=>?_)
   .
    refine gx (fu:=⟨6⟩) J<|aj 38 (.d (vI (I.length:Nat))) J (by rw[hIm];rfl)<|gx J<|br J J J (fun hc39=>?_) (fun hc39=>?_)
    .
     refine ix (fu:=⟨3⟩) (hv:=by simp only[ak];exact⟨by omega,(by decide)⟩) _ J (cO (k:=i+1)) J<|aj 47 (.d (.v (.int .u64 (I.getD (i+1) 0*4294967296:Nat)))) J (by show FX.d (.v (.int _ _))= .d (.v (.int _ _));rw[qz _ 32 (by decide) (by show _*4294967296<_;omega) J])<|gx (fu:=⟨1⟩) J<|aj 48 _ J (congrArg (fun z:Nat=>FX.d (.v (.int .u64 (z:Int)))) (qt 64 (I.getD i 0) (I.getD (i+1) 0) 32 hda (by show _+_*4294967296<18446744073709551616;omega)))<|gx J<|at_ () trivial
    .
     refine aj 10 (.d (.v (.int .u64 (I.getD i 0+I.getD (i+1) 0*4294967296:Nat)))) J (by rw[qk (by omega:I.length<=i+1),kU,fS])<|at_ () trivial
   .
    refine aj 53 (.d (.v (.int .u64 ((I.getD i 0+I.getD (i+1) 0*4294967296)/2^(k%32):Nat)))) J (by show FX.d (.v (.int _ _))= .d (.v (.int _ _));rw[TX _ (k%32)])<|gx (fu:=⟨1⟩) J<|?_;obtain⟨w,hw⟩: ∃w,w=(I.getD i 0+I.getD (i+1) 0*4294967296)/2^(k%32)%4294967296:=⟨_,rfl⟩;have hw1:w<4294967296:=hw▸dK _ (by decide);refine aj 54 (.d (dU w)) J (by show FX.d (.v (.int _ _))= .d (.v (.int _ _));rw[hw];congr 3)<|gx J<|sb _ ((W.set i w).map dU) J (fh) J (by(rw[<-jA];rfl)<;>rfl) J<|at_ ⟨W.set i w,i+1⟩ (by dsimp only;exact⟨⟨by simpa using h1,h2.set _ (by omega),by omega,by rw[xi,h4];exact(OD hsk (D8 hIo i) hw).symm⟩,(by omega)⟩)
  .
   refine fz 25 rfl rfl<|cl rfl (r7 (ds:=W)) rfl<|rz rfl (lz h2 (by obtain rfl:i=I.length:=(by omega);rw[hIl] at h1 h4;rw[hI] at h4;exact aup rfl rfl h1 h4))
def BY(h:a<4294967296^k):(dg a).length<=k:=by
 rcases jM k (dg a).length with q|q
 .have h1:=xl (f8 a).2.2 (by intro e;rw[e] at q;simp at q)
  rw[dl] at h1;have h2:4294967296^k<=4294967296^((dg a).length-1):=bL (by decide) (by omega);omega
 .exact q
def aBa(h:(dg a).length=2):(dg a).getD 0 0+(dg a).getD 1 0*4294967296=a:=by
 have e:=dl a;revert e
 match dg a,h with
 |[x,y],_=>intro e;simp[dv] at e⊢;omega
def AE(a:Nat):DV:= .tp [.v (.int .u64 ((if a<18446744073709551616 then a else 0:Nat):Int)),vB (decide (a<18446744073709551616))]
def OK(h:a<18446744073709551616:=by omega):AE a= .tp [.v (.int .u64 (a:Int)),vB true]:=by unfold AE;rw[if_pos h,decide_eq_true h]
def aAb(h: ¬a<18446744073709551616):AE a= .tp [.v (.int .u64 0),vB false]:=by unfold AE;rw[if_neg h,decide_eq_false h];rfl
def sF(a:Nat):a<4294967296^(dg a).length:=by have:=mG (gy a);rwa [dl] at this
def Fj{a ia:Nat}[ha:BN a ia](hi:ia<=1000000000:=by decide):PF GB prog 176 [dN a] (AE a):=by
 have hla:=bP (dg a);have hba:=vO ha.h hi;have hlt:=sF a;have hd00:=ef a 0;refine fn (fu:=⟨11⟩) func176 J J ntmps176 J J (fun C=>?_);refine aj 5 (.d (vI ((dg a).length:Nat))) J (by rw[hla];rfl)<|gx J<|br J J J (fun hc6=>?_) (fun hc6=>?_)
 .
  exact rz rfl (by rw[show(dg a).length=0 by omega] at hlt;obtain rfl:a=0:=(by omega);rfl)
 .
  refine br J J J (fun hc8=>?_) (fun hc8=>?_)
  .
   refine ix (fu:=⟨2⟩) _ J (cO (k:=0) J (by omega)) J<|aj 13 (.d (.v (.int .u64 (a:Nat)))) J (by rw[wx])<|gx J<|rz J (by rw[show(dg a).length=1 by omega] at hlt;rw[OK,<-wx (a:=a),wx (a:=a)];rfl)
  .
   refine br J J J (fun hc14=>?_) (fun hc14=>?_)
   .
    have hd0:=ef a 0;have hd1:=ef a 1;refine ix (hv:=by simp only[ak];exact⟨by omega,(by decide)⟩) _ J (cO (k:=1) J (by omega)) J<|ix (fu:=⟨3⟩) _ J (cO (k:=0) J (by omega)) J<|aj 25 (.d (.v (.int .u64 (a:Nat)))) J (congrArg (fun z:Nat=>FX.d (.v (.int .u64 (z:Int)))) (by rw[qz _ 32 (by decide) (by show _*4294967296<_;omega) J,BitVec.or_comm];exact(qt 64 ((dg a).getD 0 0) ((dg a).getD 1 0) 32 hd0 (by show _+_*4294967296<18446744073709551616;omega)).trans (aBa (by omega))))<|gx J<|rz J (by rw[show(dg a).length=2 by omega] at hlt;rw[OK];rfl)
   .
    exact rz rfl (by rw[aAb];rfl;intro h;have:=BY (a:=a) (k:=2) (by omega);omega)
section
variable {C:aG}{Q0:Exit->Act->World->Prop}{fr fr':aC}{own own':aH}{cf cf':Cf}{vc:List Prop}
def PR(GB:Gh)(P:Program)(f:FuncId)(ds:List DV)(s:Nat)(ty:TypeId)(rows:List DV):Prop:=
 ∀G vs,bH GB G->IsLs G ds vs->ir P f vs [] G (fun v own' G'=> ∃w:SV,v= .slice w.a w.n w.c/\dq G' ⟨w,s,ty,rows,true⟩ own')
def OP: ∀(l:List aA),(∀o∈l,o.lo=true)->l.map (relo (gw []))=l
 |[],_=>rfl
 |a::t,h=>by
  have h1:=h a aQ;rw[bU,OP t fun o ho=>h o (aJ _ ho)];congr 1
  cases a
  simp[relo,gw] at*;exact h1
def azw{lk:LK}{bk:BM}{fo:Operand}{args:Array Operand}{tys:Array TypeId}{ds:List DV}{pos:String}{af:Array Edge}{gd:Option (Nat×Bool)}
  (ha:uD lk fo args=some (f,ds))(hF:PR GB prog f ds s ty2 rows):bO prog GB C n lk bk ⟨some d, .call ⟨.value fo,args,tys⟩,ty,pos,af,gd⟩ (.rw d) [(d,some (.b ty2 s rows true))] [d]:=by
 intro hd tl tb K' s1 s2 hf hk;refine⟨fun ρ G ov a w r Q=>?_⟩;have r1:=r.mono s1 s2;obtain⟨h1,h2⟩:=DI ha;obtain⟨y,hy,hy'⟩:=r1.ev h1;rw[(aI (G:=G)).1 hy'] at hy;obtain⟨vs,h3,h4⟩:=r1.evDs h2;refine u7 (M:=[]) (rest:=ov) hy h3 (List.Perm.refl _) (hF G vs r.gb h4) hd (fun v own1 G' hG hK a' w' rl=>?_) a w Q ⟨r.h,r.sz,cI a,r.df⟩;obtain⟨z,rfl,vs',k1,k2,k3,k4⟩:=hK;rw[OP _ (k4 J)] at rl;have rl':ij C n (Sx.put (cC a) (some d) (.slice z.a z.n z.c)) (own1++ov) G' a' w':=rl;have hdis:=(gT.1 rl'.h.nd).2.2;have r3:=r.new' (x:=z) (B':= .b ty2 s rows true) (os:=own1) (ov':=own1++ov) (f:= .rw d) (y:= .slice z.a z.n z.c) hf hG.le rl'.h ⟨vs',by simpa using k1,k2,k3,k4⟩ (fun o ho=>bK _ ho)
  (fun q B0 hq e o ho hbq=>⟨bQ _ ho,fun hc=>by
   have hx: ∃o1∈own1,o1.b=o.b:=by
    rcases k1 with⟨_,h,_⟩|⟨b0,rest0,lo0,h,hB,_⟩
    .rw[show z=_ from h] at hc;cases hc
    .rw[show z=_ from h] at hc;cases hc;exact⟨⟨_,aB vs'++rest0,_,lo0⟩,by rw[hB];exact aQ,J⟩
   obtain⟨o1,ho1,he1⟩:=hx;exact hdis o1 ho1 o ho he1⟩) (by simp[b9]) (jr rl')
 exact hk.run _ G' _ a' w' r3
def M0(fr:aC)(cf:Cf):Option (FuncId×List DV×Nat):=match cG fr cf with
 |some ⟨some d, .call ⟨.value fo,args,_⟩,_,_,_,_⟩=>match uD (b7 fr cf) fo args with
  |some (f,ds)=>some (f,ds,d)
  |none=>none
 |_=>none
def cr[fu:Fu]{ds:List DV}(ha:M0 fr cf=some (f,ds,d))(hF:PR GB prog f ds s ty rows)
  (hgo:cB tt n fu.n fr own cf (.rw d) [(d,some (.b ty s rows true))] [d]=⟨vc,fr',own',cf'⟩)(k:av prog GB C n Q0 fr' own' cf')
  (hv:autoParam (ak vc) fn._auto_1):av prog GB C n Q0 fr own cf:=by
 unfold M0 at ha;split at ha<;>try (cases ha;done)
 rename_i hh;split at ha<;>cases ha;rename_i h1;exact us hh (azw h1 hF) hgo hv k
def CS(C:aG)(s:Nat)(ty:TypeId)(rows:List DV):Ending->World->Prop:=rE C (fun v own' G'=> ∃w:SV,v= .slice w.a w.n w.c/\dq G' ⟨w,s,ty,rows,true⟩ own')
def I6[fu:Fu]{c:Code}{ds:List DV}(hf:prog.funcs[f]? =some fb)(hb:fb.body=some c)(hn:(fb.name== "runtime.NumGoroutine")=false)(hm:fb.ntmps=m)(hlen:Nat.ble ds.length m=true)
  (hgo:go tt m fu.n [] (sP 0 ds) [] (.code c [])=⟨vc,fr,own,cf⟩)(k: ∀C:aG,C.mb=[]->av prog GB C m (fp C prog fb (CS C s ty rows)) fr own cf)
  (hv:autoParam (ak vc) fn._auto_1):PR GB prog f ds s ty rows:=by
 intro G vs hg hvs;refine ir.introR hf hb hn hm (by rw[hvs.len];exact hlen) fun C _ hmb hrd hfx=>?_;intro a w rl;refine uP hrd ?_;have h:=gc (GB:=GB) (C:=C) (Q0:=fp C prog fb (CS C s ty rows)) hgo hv (k C (by simpa using hmb));exact h.run (fun _=>⟨none,0,0⟩) G [] a w ⟨hg,rl.h,rl.sz,rl.df,(fun k f e=>Ay hvs rl.fr k f e),(fun nm B e=>by cases e),(fun nm nm' B B' e=>by cases e),fun nm p _ _ e=>by rw[hfx] at e;cases e⟩
def QM(hr:fb.results.toList=[.tmp t])(hl:bi fr t=some (.rw d))(hw:bt own d=some (.b ty s rws true))(er:rws=rows):
  av prog GB C n (fp C prog fb (CS C s ty rows)) fr own (.ex .ret []):=by
 subst er;refine⟨fun ρ G ov a w r=>?_⟩;obtain⟨B,g1,g2⟩:=r.bx _ _ hw;have hB:dq G ⟨ρ d,s,ty,rws,true⟩ B:=g1;obtain⟨rest,hp⟩:=Hj hB g2;obtain⟨y,hy,hy'⟩:=r.ev (x:= .tmp t) (f:= .rw d) hl
 cases (show y=_ from hy')
 exact wD (C:=C) (n:=n) (fr:=cC a) (own:=ov) (G:=G) (vs:=[.slice (ρ d).a (ρ d).n (ρ d).c]) (by rw[hr];exact .tmp hy .nil) (B++rest) B hp (oL _ _) ⟨ρ d,J,hB⟩ a w ⟨r.h,r.sz,cI a,r.df⟩
def Wg(hr:fb.results.toList=[.tmp t])(hl:bi fr t=some .nl)(er:rows=[]):
  av prog GB C n (fp C prog fb (CS C s ty rows)) fr own (.ex .ret []):=by
 subst er;refine⟨fun ρ G ov a w r=>?_⟩;obtain⟨y,hy,hy'⟩:=r.ev (x:= .tmp t) (f:= .nl) hl
 cases (show y=_ from hy')
 exact wD (C:=C) (n:=n) (fr:=cC a) (own:=ov) (G:=G) (vs:=[.slice none 0 0]) (by rw[hr];exact .tmp hy .nil) ([]++ov) [] (List.Perm.refl _) (kX _) ⟨⟨none,0,0⟩,J,[], .inl ⟨J,J,J⟩,et.2 J,fun v h=>(by cases h),fun _ o h=>(by cases h)⟩ a w ⟨r.h,r.sz,cI a,r.df⟩
end
end Go.Sx
end
