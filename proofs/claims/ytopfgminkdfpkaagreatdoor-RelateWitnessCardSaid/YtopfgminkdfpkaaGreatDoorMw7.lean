/-
  The abstract machine: the steps for rows with room. The abstract machine: words of 32 bits. Zero values of the program's types as deep values. Package nat: the functions without a loop over two numbers. DERIVED: THE SHELF's CONTRACTS AT THIS DUMP, IN PLAIN WORDS (tools/lay-plain.mjs out of 'TryzShelf.lean', which tools/lay-shelf.mjs wrote): THE SAME DECLARATIONS UNDER THE SAME NAMES: 'import', 'namespace', 'open', 'def', 'theorem' AND NOTHING ELSE: no command of the shelf's: FOR A HAND-IN. Each laying: the table of numbers ('.._ren') and one theorem, a field a fact of the dump's own or the kernel's comparison; each contract: ONE APPLICATION. Package nat: words, the number of digits, comparison. Package nat: sum, difference, product. Package nat: the product, division by one digit, shifts. Package nat: division by one digit, shifts by less than a digit. Plain arithmetic of long division in base 2^32.
-/
import Derived.Test.YtopfgminkdfpkaaGreatDoorMw6
import Derived.Shelf.Small.Bits
import Derived.Shelf.Strconv.Itoa0
import Derived.Shelf.Bits.Mul64
import Derived.Test.YtopfgminkdfpkaaGreatDoorProg
set_option linter.unusedSimpArgs false
set_option maxHeartbeats 1000000
set_option maxRecDepth 100000
set_option linter.unusedVariables false
section
namespace Go.Sx
open Go Go.Proofs
section
variable {GB:Gh} {C:Ctx} {n:Nat} {Q0:Exit→Act→World→Prop} {fr fr':FrX} {own own':OwX} {cf cf':Cf} {vc:List Prop}
theorem mkc[fu:Fu]{d e s b:Nat}{z:DV}{k':IntKind}(cap:Nat)(h:mkA fr cf=some ⟨d,e,s,b,z,0⟩)(hy:(match opC fr cf with|some ⟨_, .makeSlice _ _ y,_,_,_,_⟩=>evX (lkC fr cf) y|_=>none)=some (.d (.v (.int k' (cap:Nat)))))
  (hgo:goA tt n fu.n fr own cf (.rw d) [(d,some (.c e s [] cap))] [d]=⟨vc,fr',own',cf'⟩)(k:CfS Tryz.prog GB C n Q0 fr' own' cf')(hb:b*cap≤140737488355328:=by omega)(hl:cap≤1152921504606846976:=by omega)
  (hv:aai vc:=by first|exact trivial|(simp only[aai];kernel_rfl)|(simp only[aai];omega)):CfS Tryz.prog GB C n Q0 fr own cf:=by
 unfold mkA at h
 split at h<;>try (cases h;done)
 rename_i hh
 split at h<;>try (cases h;done)
 rename_i hx
 split at h<;>try (cases h;done)
 rename_i hT
 split at h<;>try (cases h;done)
 rename_i hi
 split at h<;>try (cases h;done)
 rename_i hz
 rw[cond_eq_ite] at h
 split at h<;>cases h
 rename_i hs
 rw[hh] at hy
 have:=af5 (aca _ _ hT) rfl
 exact us hh (aCs (aca _ _ hi) hz hs hx hy hb hl) hgo hv k
structure aHd where
 d:Nat
 nm:Nat
 e:Nat
 s:Nat
 ds:List DV
 ds2:List DV
 cap:Nat
def aGn(fr:FrX)(own:OwX)(cf:Cf):Option aHd:=match opC fr cf with
 |some ⟨some d, .call ⟨.builtin .append,⟨[x,y]⟩,⟨[t,t']⟩⟩,_,_,_,_⟩=>match abE tt t,abE tt t' with
  |some ⟨.sl e s _,_,_,_⟩,some ⟨.sl _ _ _,_,_,_⟩=>match evX (lkC fr cf) x with
   |some (.rw nm)=>match bkC fr own cf nm,auW (lkC fr cf) (bkC fr own cf) s y with
    |some (.c e' s' ds cap),some ds2=>bif (Nat.beq e' e&&Nat.beq s' s)&&!Nat.beq nm d then some ⟨d,nm,e,s,ds,ds2,cap⟩ else none
    |_,_=>none
   |_=>none
  |_,_=>none
 |_=>none
theorem apc[fu:Fu]{d nm e s cap:Nat}{ds ds2:List DV}(ds':List DV)(h:aGn fr own cf=some ⟨d,nm,e,s,ds,ds2,cap⟩)(hds:ds++ds2=ds')(ho2:adx s ds2)(hc:ds.length+ds2.length≤cap)(hgo:goA tt n fu.n fr own cf (.rw d) [(nm,none),(d,some (.c e s ds' cap))] [d]=⟨vc,fr',own',cf'⟩)(k:CfS Tryz.prog GB C n Q0 fr' own' cf')
  (hp:0<ds2.length:=by simp)(hv:aai vc:=by first|exact trivial|(simp only[aai];kernel_rfl)|(simp only[aai];omega)):CfS Tryz.prog GB C n Q0 fr own cf:=by
 subst hds
 unfold aGn at h
 split at h<;>try (cases h;done)
 rename_i hh
 split at h<;>try (cases h;done)
 rename_i hT hT'
 split at h<;>try (cases h;done)
 rename_i hx
 split at h<;>try (cases h;done)
 rename_i hb hy
 rw[cond_eq_ite] at h
 split at h<;>cases h
 rename_i h2
 simp only[Bool.and_eq_true,Bool.not_eq_true'] at h2
 cases Nat.eq_of_beq_eq_true h2.1.1
 cases Nat.eq_of_beq_eq_true h2.1.2
 have:=af5 (aca _ _ hT) rfl
 have hN:TyN Tryz.prog _:=⟨_,(af5 (aca _ _ hT') rfl).un⟩
 exact us hh (aCN hx hb hy ho2 hc hp h2.2) hgo hv k
def PI(GB:Gh)(P:Program)(f:FuncId)(i:Int)(s:Nat)(ty ty2:TypeId)(ds:List DV)(x:DV)(cap:Nat)(dso:List DV):Prop:=
 ∀G w w2 B B2,GLe GB G→abB G ⟨w,s,ty,ds,false⟩ B→cap≤w.c→abB G ⟨w2,s,ty2,[x],false⟩ B2→FnO P f [.slice w.a w.n w.c, .int .i64 i, .slice w2.a w2.n w2.c] (B++B2) G fun v own' G'=> ∃w',v= .slice w'.a w'.n w'.c∧abB G' ⟨w',s,ty,dso,false⟩ own'
structure CiA where
 f:FuncId
 nm:Nat
 nm2:Nat
 i:Int
 ty:TypeId
 ty2:TypeId
 s:Nat
 ds:List DV
 x:DV
 cap:Nat
 d:Nat
def aGA(fr:FrX)(own:OwX)(cf:Cf):Option CiA:=match opC fr cf with
 |some ⟨some d, .call ⟨.value fo,⟨[x1,x2,x3]⟩,_⟩,_,_,_,_⟩=>match evX (lkC fr cf) fo,evX (lkC fr cf) x1 with
  |some (.d (.v (.func (.func f) ⟨[]⟩ ⟨[]⟩))),some (.rw nm)=>match evX (lkC fr cf) x2,evX (lkC fr cf) x3 with
   |some (.d (.v (.int .i64 i))),some (.rw nm2)=>match bkC fr own cf nm,bkC fr own cf nm2 with
    |some (.c ty s ds cap),some (.b ty2 s2 [x] true)=>bif (!Nat.beq nm d&&!Nat.beq nm2 d)&&(!Nat.beq nm nm2&&(Nat.beq s2 s&&Nat.blt 0 cap)) then some ⟨f,nm,nm2,i,ty,ty2,s,ds,x,cap,d⟩ else none
    |_,_=>none
   |_,_=>none
  |_,_=>none
 |_=>none
theorem awP{lk:LK}{bk:BM}{fo x1 x2 x3:Operand}{tys:Array TypeId}{f:FuncId}{nm nm2 d cap s:Nat}{i:Int}{ty0 ty2:TypeId}{ty:TypeId}{pos:String}{af:Array Edge}{gd:Option (Nat×Bool)}{ds dso:List DV}{x:DV}(hne:Nat.beq nm d=false)(hne2:Nat.beq nm2 d=false)(hn2:Nat.beq nm nm2=false)(hcp:0<cap)
  (h0:evX lk fo=some (.d (.v (.func (.func f) ⟨[]⟩ ⟨[]⟩))))(h1:evX lk x1=some (.rw nm))(h2:evX lk x2=some (.d (.v (.int .i64 i))))(h3:evX lk x3=some (.rw nm2))(hb:bk nm=some (.c ty0 s ds cap))(hb2:bk nm2=some (.b ty2 s [x] true))(hF:PI GB Tryz.prog f i s ty0 ty2 ds x cap dso):
  OpR Tryz.prog GB C n lk bk ⟨some d, .call ⟨.value fo,⟨[x1,x2,x3]⟩,tys⟩,ty,pos,af,gd⟩ (.rw d) [(nm,none),(nm2,none),(d,some (.b ty0 s dso true))] [d]:=by
 intro hd tl tb K' s1 s2 hf hk
 refine⟨fun ρ G ov a w r Q=>?_⟩
 have r1:=r.mono s1 s2
 obtain⟨y,hy,hy'⟩:=r1.ev h0
 rw[(aaV (G:=G)).1 hy'] at hy
 obtain⟨y1,p1,p1'⟩:=r1.ev h1
 cases (show y1=_ from p1')
 obtain⟨y2,p2,p2'⟩:=r1.ev h2
 rw[aaz] at p2';subst p2'
 obtain⟨y3,p3,p3'⟩:=r1.ev h3
 cases (show y3=_ from p3')
 have hnn:nm≠d:=fun e=>by subst e;rw[Nat.beq_refl] at hne;cases hne
 have hnn2:nm2≠d:=fun e=>by subst e;rw[Nat.beq_refl] at hne2;cases hne2
 have hnm:nm≠nm2:=fun e=>by subst e;rw[Nat.beq_refl] at hn2;cases hn2
 obtain⟨B,g1,g2⟩:=r1.bx _ _ hb
 obtain⟨B2,k1,k2⟩:=r1.bx _ _ hb2
 obtain⟨vs,q1,q2,q3,q4,q5⟩:=g1
 have hB:abB G ⟨ρ nm,s,ty0,ds,false⟩ B:=⟨vs,q1,q2,q3,fun h=>by cases h⟩
 have hB2:abB G ⟨ρ nm2,s,ty2,[x],false⟩ B2:=abB.weak (lo:=true) k1
 have e1: ∃o,B=[o]∧(ρ nm).a=some ⟨o.b,0,none⟩:=by
  rcases q1 with⟨_,e,_⟩|⟨b,rest,lo',e,rfl,_⟩
  ·rw[e] at q5;simp at q5;omega
  ·exact⟨_,rfl,by rw[e]⟩
 have e2: ∃o,B2=[o]∧(ρ nm2).a=some ⟨o.b,0,none⟩:=by
  obtain⟨vs2,c1,c2,_⟩:=k1
  rcases c1 with⟨e,_,_⟩|⟨b,rest,lo',e,rfl,_⟩
  ·subst e;have:=c2.len;simp at this
  ·exact⟨_,rfl,by rw[e]⟩
 obtain⟨o1,rfl,a1⟩:=e1
 obtain⟨o2,rfl,a2⟩:=e2
 have hob:o1.b≠o2.b:=fun e=>r.dj nm nm2 _ _ (s2 _ _ hb) (s2 _ _ hb2) hnm _ a1 (by rw[a2,e])
 have hp: ∃rest,ov.Perm ([o1]++[o2]++rest):=by
  obtain⟨l1,l2,e3⟩:=List.append_of_mem (g2 _ List.mem_cons_self)
  have hm:=k2 _ List.mem_cons_self
  rw[e3] at hm⊢
  have hm2:o2∈l1++l2:=by
   rcases List.mem_append.1 hm with h|h
   ·exact List.mem_append_left _ h
   ·rcases List.mem_cons.1 h with h|h
    ·exact absurd (by rw[h]) hob
    ·exact List.mem_append_right _ h
  obtain⟨l3,l4,e4⟩:=List.append_of_mem hm2
  refine⟨l3++l4,List.perm_middle.trans ?_⟩
  rw[e4]
  exact(List.perm_middle (l₁:=l3) (l₂:=l4) (a:=o2)).cons o1
 obtain⟨rest,h5⟩:=hp
 have h6: ∀o∈ov,o.b≠o1.b→o.b≠o2.b→o∈rest:=fun o ho n1 n2=>by
  have:=h5.mem_iff.1 ho
  simp only[List.cons_append,List.nil_append,List.mem_cons] at this
  rcases this with rfl|rfl|h
  ·exact absurd rfl n1
  ·exact absurd rfl n2
  ·exact h
 have hlo2: ∀o∈[o2],o.lo=true:=by obtain⟨_,_,_,_,h⟩:=k1;exact h rfl
 have hall: ∀o∈[o1]++[o2],o.lo=true:=fun o ho=>by
  rcases List.mem_append.1 ho with h|h
  ·exact q4 o h
  ·exact hlo2 o h
 refine ae3 (M:=[o1]++[o2]) (rest:=rest) (vs:=[.slice (ρ nm).a (ρ nm).n (ρ nm).c, .int .i64 i, .slice (ρ nm2).a (ρ nm2).n (ρ nm2).c]) hy (by simp only[af7,p1,p2,p3]) h5 (hF G (ρ nm) (ρ nm2) [o1] [o2] r.gb hB q5 hB2) hd (fun v own1 G' hG hK a' w' rl=>?_) a w Q ⟨r.h,r.sz,aaQ a,r.df⟩
 obtain⟨z,rfl,vs',k1',k2',k3',k4'⟩:=hK
 have hs1:=k1'.relo (flM ([o1]++[o2]))
 have e3: ∀o∈own1.map (relo (flM ([o1]++[o2]))),o.lo=true:=fun o ho=>by
  obtain⟨o',_,rfl⟩:=List.mem_map.1 ho
  exact ait _ hall
 generalize own1.map (relo (flM ([o1]++[o2])))=B' at rl e3 hs1
 have rl':Rel C n (Sx.put (frA a) (some d) (.slice z.a z.n z.c)) (B'++rest) G' a' w':=rl
 have hdis:=(List.pairwise_append.1 rl'.h.nd).2.2
 have rd:=(r.dropB nm).dropB nm2
 have hin: ∀q B0,Sx.upB (Sx.upB tb [(nm,none)]) [(nm2,none)] q=some B0→q≠nm∧q≠nm2∧tb q=some B0:=fun q B0 e=>by
  simp only[Sx.upB] at e
  split at e
  ·cases e
  ·split at e
   ·cases e
   ·exact⟨by assumption,by assumption,e⟩
 have hf2:acS [d] (some d) tl (Sx.upB (Sx.upB tb [(nm,none)]) [(nm2,none)]):=fun q hq=>by
  obtain⟨f1,f2⟩:=hf q hq
  exact⟨f1,fun k B e1 e=>f2 k B e1 (hin k B e).2.2⟩
 have hsep: ∀q B0,Sx.upB (Sx.upB tb [(nm,none)]) [(nm2,none)] q=some B0→ ∀o∈ov,(ρ q).a=some ⟨o.b,0,none⟩→o∈rest:=fun q B0 e o ho hbq=>by
  obtain⟨n1,n2,n3⟩:=hin q B0 e
  exact h6 o ho (fun e'=>r.dj nm q _ _ (s2 _ _ hb) n3 (Ne.symm n1) _ a1 (by rw[hbq,e'])) (fun e'=>r.dj nm2 q _ _ (s2 _ _ hb2) n3 (Ne.symm n2) _ a2 (by rw[hbq,e']))
 have r3:=rd.new' (x:=z) (B':= .b ty0 s dso true) (os:=B') (ov':=B'++rest) (f:= .rw d) (y:= .slice z.a z.n z.c) hf2 hG.le rl'.h ⟨vs',by simpa using hs1,k2',k3',fun _=>e3⟩ (fun o ho=>List.mem_append_left _ ho)
  (fun q B0 hq e o ho hbq=>⟨List.mem_append_right _ (hsep q B0 e o ho hbq),fun hc=>by
   have hx: ∃o1∈B',o1.b=o.b:=by
    rcases hs1 with⟨_,h,_⟩|⟨b0,rest0,lo0,h,hB,_⟩
    ·rw[show z=_ from h] at hc;cases hc
    ·rw[show z=_ from h] at hc;cases hc;exact⟨⟨_,aak vs'++rest0,_,lo0⟩,by rw[hB];exact List.mem_cons_self,rfl⟩
   obtain⟨o3,ho3,he3⟩:=hx
   exact hdis o3 ho3 o (hsep q B0 e o ho hbq) he3⟩) (by show _=_;simp) (abr rl')
 exact hk.run _ G' _ a' w' r3
theorem ci[fu:Fu]{f:FuncId}{nm nm2 d cap s:Nat}{i:Int}{ty ty2:TypeId}{ds dso:List DV}{x:DV}(dso':List DV)(ha:aGA fr own cf=some ⟨f,nm,nm2,i,ty,ty2,s,ds,x,cap,d⟩)(hF:PI GB Tryz.prog f i s ty ty2 ds x cap dso)(he:dso=dso')
  (hgo:goA tt n fu.n fr own cf (.rw d) [(nm,none),(nm2,none),(d,some (.b ty s dso' true))] [d]=⟨vc,fr',own',cf'⟩)(k:CfS Tryz.prog GB C n Q0 fr' own' cf')
  (hv:aai vc:=by first|exact trivial|(simp only[aai];kernel_rfl)|(simp only[aai];omega)):CfS Tryz.prog GB C n Q0 fr own cf:=by
 subst he
 unfold aGA at ha
 split at ha<;>try (cases ha;done)
 rename_i hh
 split at ha<;>try (cases ha;done)
 rename_i h0 h1
 split at ha<;>try (cases ha;done)
 rename_i h2 h3
 split at ha<;>try (cases ha;done)
 rename_i hb hb2
 rw[cond_eq_ite] at ha
 split at ha<;>cases ha
 rename_i hc
 simp only[Bool.and_eq_true,Bool.not_eq_true',Nat.blt_eq] at hc
 obtain⟨⟨c1,c2⟩,c3,c4,c5⟩:=hc
 cases Nat.eq_of_beq_eq_true c4
 exact us hh (awP c1 c2 c3 c5 h0 h1 h2 h3 hb hb2 hF) hgo hv k
theorem kbT(d:Nat){ops:Array Oper}{r:List Oper}{K:List Kt}(hl:aaw fr d=some (.d (.v (.bool true))))(k:CfS Tryz.prog GB C n Q0 ((d, .tt)::fr) own (.ops ops r K)):CfS Tryz.prog GB C n Q0 fr own (.ops ops r K):=abD (g:= .tt) hl (fun _ G _ e=>(aaV (G:=G)).1 e) k
theorem kbF(d:Nat){ops:Array Oper}{r:List Oper}{K:List Kt}(hl:aaw fr d=some (.d (.v (.bool false))))(k:CfS Tryz.prog GB C n Q0 ((d, .ff)::fr) own (.ops ops r K)):CfS Tryz.prog GB C n Q0 fr own (.ops ops r K):=abD (g:= .ff) hl (fun _ G _ e=>(aaV (G:=G)).1 e) k
end
section
variable {GB:Gh} {C:Ctx} {n:Nat} {Q0:Exit→Act→World→Prop} {fr fr':FrX} {own own':OwX} {cf cf':Cf} {vc:List Prop}
def xrA(fr:FrX)(cf:Cf):Option (Int×Int):=match opC fr cf with
 |some ⟨_, .binOp .xor _ x y _,_,_,_,_⟩=>match evX (lkC fr cf) x,evX (lkC fr cf) y with
  |some (.d (.v (.int .u32 p))),some (.d (.v (.int .u32 q)))=>some (p,q)
  |_,_=>none
 |_=>none
theorem xr[fu:Fu]{p q:Int}(u:Int)(h:xrA fr cf=some (p,q))(e:(((BitVec.ofInt 32 p^^^BitVec.ofInt 32 q).toNat:Nat):Int)=u)(hgo:goA tt n fu.n fr own cf (.d (.v (.int .u32 u))) [] []=⟨vc,fr',own',cf'⟩)(k:CfS Tryz.prog GB C n Q0 fr' own' cf')
  (hv:aai vc:=by first|exact trivial|(simp only[aai];kernel_rfl)|(simp only[aai];omega)):CfS Tryz.prog GB C n Q0 fr own cf:=by
 unfold xrA at h
 split at h<;>try (cases h;done)
 rename_i hh
 split at h<;>cases h
 rename_i h1 h2
 subst e
 exact us hh (.yd fun ρ G ov a w r=>by
  obtain⟨y1,h3,h4⟩:=r.ev h1
  obtain⟨y2,h5,h6⟩:=r.ev h2
  rw[aaz] at h4 h6;subst h4 h6
  exact⟨_,aaz.2 rfl,ab5 h3 h5 fun w=>by
   show(pure (Value.int .u32 (IntKind.u32.wrap ((BitVec.ofInt 32 p^^^BitVec.ofInt 32 q).toNat:Int))):Sem Value).run Tryz.prog w=_
   rw[alC];rfl⟩) hgo hv k
def swA(fr:FrX)(cf:Cf):Option (Int×Int):=match opC fr cf with
 |some ⟨_, .binOp .sub _ x y _,_,_,_,_⟩=>match evX (lkC fr cf) x,evX (lkC fr cf) y with
  |some (.d (.v (.int .u32 p))),some (.d (.v (.int .u32 q)))=>some (p,q)
  |_,_=>none
 |_=>none
theorem sw[fu:Fu]{p q:Int}(u:Int)(h:swA fr cf=some (p,q))(e:(p-q)%4294967296=u)(hgo:goA tt n fu.n fr own cf (.d (.v (.int .u32 u))) [] []=⟨vc,fr',own',cf'⟩)(k:CfS Tryz.prog GB C n Q0 fr' own' cf')
  (hv:aai vc:=by first|exact trivial|(simp only[aai];kernel_rfl)|(simp only[aai];omega)):CfS Tryz.prog GB C n Q0 fr own cf:=by
 unfold swA at h
 split at h<;>try (cases h;done)
 rename_i hh
 split at h<;>cases h
 rename_i h1 h2
 subst e
 exact us hh (.yd fun ρ G ov a w r=>by
  obtain⟨y1,h3,h4⟩:=r.ev h1
  obtain⟨y2,h5,h6⟩:=r.ev h2
  rw[aaz] at h4 h6;subst h4 h6
  exact⟨_,aaz.2 rfl,by rw[←acL];exact agl h3 h5⟩) hgo hv k
def ntA(fr:FrX)(cf:Cf):Option Int:=match opC fr cf with
 |some ⟨_, .unOp .xor _ x,_,_,_,_⟩=>match evX (lkC fr cf) x with
  |some (.d (.v (.int .u32 p)))=>some p
  |_=>none
 |_=>none
theorem nt[fu:Fu]{p:Int}(u:Int)(h:ntA fr cf=some p)(e:(((BitVec.ofInt 32 IntKind.u32.max^^^BitVec.ofInt 32 p).toNat:Nat):Int)=u)(hgo:goA tt n fu.n fr own cf (.d (.v (.int .u32 u))) [] []=⟨vc,fr',own',cf'⟩)(k:CfS Tryz.prog GB C n Q0 fr' own' cf')
  (hv:aai vc:=by first|exact trivial|(simp only[aai];kernel_rfl)|(simp only[aai];omega)):CfS Tryz.prog GB C n Q0 fr own cf:=by
 unfold ntA at h
 split at h<;>try (cases h;done)
 rename_i hh
 split at h<;>cases h
 rename_i hx
 subst e
 refine us hh (.x1 hx fun ρ G ov a w y _ r h1 h2=>?_) hgo hv k
 rw[aaz] at h2;subst h2
 refine⟨_,aaz.2 rfl,fun a w hf hh=>?_⟩
 simp only[execOp,aac hf h1]
 refine aan (w':=w) ?_
 show(pure (Value.int .u32 (IntKind.u32.wrap ((BitVec.ofInt 32 IntKind.u32.max^^^BitVec.ofInt 32 p).toNat:Int))):Sem Value).run Tryz.prog w=_
 rw[alC];rfl
end

theorem arI{ds:List Nat}{k:Nat}(hk:k<ds.length)(h:trimD ds=trimD (ds.take (k+1)))(h0:ds.getD k 0=0):trimD ds=trimD (ds.take k):=by
 rw[h,List.take_succ_eq_append_getElem hk]
 have:ds[k]=0:=by rw[List.getD_eq_getElem?_getD,List.getElem?_eq_getElem hk] at h0;simpa using h0
 rw[this,ajx]
theorem ar2{ds:List Nat}{k:Nat}(hk:k<ds.length)(h:trimD ds=trimD (ds.take (k+1)))(h0:ds.getD k 0≠0):trimD ds=ds.take (k+1):=by
 rw[h,List.take_succ_eq_append_getElem hk]
 have:ds[k]≠0:=by rw[List.getD_eq_getElem?_getD,List.getElem?_eq_getElem hk] at h0;simpa using h0
 exact ahO this
theorem aa2{A G:Gh}{x:SV}{ds:List Nat}(hx:IsD A x ds)[GL A G](hb:ds.length≤1125899906842624):Fn Tryz.prog 271 [x.v] G (fun v _=>v= .slice x.a (trimD ds).length x.c):=by
 have hlen:=hx.len
 have hcap:=hx.sl.cap
 refine Fn.intro Tryz.func271 J J Tryz.ntmps271 rfl ?_
 intro C _ _
 refine sR<|sa J J<|zE<|aaj<|aas<|?_
 refine abZ (X:=Nat) (fun k=>[(0, .slice x.a k x.c)]) (fun _=>[]) (fun k _=>k≤ds.length∧trimD ds=trimD (ds.take k)) (fun k=>k) ds.length ⟨Nat.le_refl _,by simp⟩ (hlen▸ .cons rfl .nil) rfl ?_
 rintro k Gx _ ⟨hk,ht⟩
 refine aaj<|sR<|sm J J<|adj J J<|sy (af8 J J) rfl<|sm J J<|?_
 refine ab7 6 rfl (fun hg=>?_) (fun hg=>?_)
 ·have hk1:k-1<ds.length:=by omega
  have hkt:((k:Int)-1).toNat=k-1:=by omega
  have hk2:k=k-1+1:=by omega
  refine syg J J (aaS rfl) rfl<|syg J J (aaS rfl) rfl<|syg J J (afd rfl) rfl<|syg J J (aa7 J J) rfl<|?_
  refine syg J J (abU (z:=⟨x.a,k,x.c⟩) (hx.take k hk) J J (by omega) (by show _<(k:Int);omega)) rfl<|syg J J (abX hx rfl (by omega)) rfl<|syg J J (ab3 J J) rfl<|sy (ac6 J J) rfl<|zE<|?_
  rw[hkt]
  refine abn rfl (fun hc=>?_) (fun hc=>?_) -- slot 14
  ·refine abu<|abI<|abI<|aar<|sR<|sm J J<|sa J J<|zE<|aaL<|?_
   have hs:=ar2 hk1 (hk2▸ht) (fun e=>hc (by rw[e];rfl))
   refine zD (.tmp rfl .nil) ?_
   rw[hs,←hk2]
   simp[abO,hk]
  refine zK<|aas<|aam<|sm J J<|sm J J<|adj J J<|sy (aa7 J J) rfl<|sy (ac0 J J (by omega) (by omega)) rfl<|?_
  refine sa J J<|zE<|?_
  exact aaX (k-1) ⟨by omega,arI hk1 (hk2▸ht) (by omega)⟩ (by omega) (.cons (by rw[←hkt];rfl) .nil) rfl
 refine ss J J J J<|ss J J J J<|ss J J J J<|ss J J J J<|ss J J J J<|ss J J J J<|?_
 refine ss J J J J<|sy (abx J J) rfl<|zE<|aeS rfl<|abu<|abI<|abI<|aar<|sR<|sm J J<|sa J J<|zE<|aaL<|?_
 have hk0:k=0:=by omega
 subst hk0
 refine zD (.tmp rfl .nil) ?_
 rw[ht]
 rfl
/-! ### Normal, Clone, Norm -/
theorem arP{A G:Gh}{x:SV}{ds:List Nat}(hx:IsD A x ds)[GL A G](hb:ds.length≤1125899906842624):Fn Tryz.prog 285 [x.v] G (fun v _=>v= .bool (decide (Nrm ds))):=by
 have hlen:=hx.len
 refine Fn.intro Tryz.func285 J J Tryz.ntmps285 rfl ?_
 intro C _ _
 refine sR<|sa J J<|zE<|sR<|sm J J<|adj J J<|sy (ab3 J J) rfl<|sm J J<|?_
 refine ab7 6 rfl (fun hg=>?_) (fun hg=>?_)
 ·refine ss J J J J<|ss J J J J<|ss J J J J<|ss J J J J<|ss J J J J<|ss J J J J<|ss J J J J<|sy (ac6 J J) rfl<|sa J J<|?_
  refine zE<|aaL<|?_
  refine zD (.tmp rfl .nil) ?_
  have:ds=[]:=List.eq_nil_of_length_eq_zero (by omega)
  subst this
  simp[abO,Nrm]
 have hne:0<ds.length:=by omega
 have hkt:((x.n:Int)-1).toNat=ds.length-1:=by omega
 refine syg J J (aaS rfl) rfl<|syg J J (aaS rfl) rfl<|syg J J (afd rfl) rfl<|syg J J (aa7 J J) rfl<|syg J J (abU hx J J (by omega) (by omega)) rfl<|?_
 refine syg J J (abX hx rfl (by omega)) rfl<|syg J J (ahX J J) rfl<|sy (abx J J) rfl<|sa J J<|zE<|aaL<|?_
 refine zD (.tmp rfl .nil) ?_
 rw[hkt]
 simp only[abO,Value.bool.injEq,decide_eq_decide,Nrm,List.getLast?_eq_getElem?,List.getD_eq_getElem?_getD,List.getElem?_eq_getElem (show ds.length-1<ds.length by omega),Option.getD_some,ne_eq,Option.some.injEq]
 exact not_congr (by omega)
theorem aAo(ds:List Nat): ∀v∈ds.map dI,flat v=true:=fun v hv=>by
 obtain⟨d,_,rfl⟩:=List.mem_map.1 hv;rfl
theorem am2{A G:Gh}{x:SV}{ds:List Nat}(hx:IsD A x ds)[GL A G](hb:ds.length≤1125899906842):Fn Tryz.prog 274 [x.v] G (fun v G'=> ∃z:SV,v=z.v∧IsD G' z ds):=by
 have hlen:=hx.len
 refine Fn.intro Tryz.func274 J J Tryz.ntmps274 rfl ?_
 intro C _ _
 refine sR<|sa J J<|zE<|aaj<|sR<|sm J J<|sy (azd J J) rfl<|zE<|?_
 refine axT rfl (fun hc=>?_) (fun hc=>?_)
 ·refine sR<|sa J J<|zE<|aaL<|?_
  refine zD (.tmp rfl .nil) ⟨⟨none,0,0⟩,rfl,?_⟩
  rcases hx.sl.mem with h|⟨b,off,cs,ha,_⟩
  ·have:ds=[]:=by simpa using h
   subst this;exact .nil _
  ·rw[ha] at hc;cases hc
 refine zK<|sR<|?_
 refine sc (anZ rfl ?_)
 intro b1
 refine sm J J<|?_
 refine sc (agN (xs:=[]) (rest:=[]) (ys:=ds.map dI) J J (.hd ..) J J (Nat.le_refl _) (aEa hx) (by simp[hlen]) (aAo ds) (by decide) (by omega) J J ?_)
 intro b cap rest h1 h2
 refine sa J J<|zE<|aci b (.hd ..) (fun G' _ hgb=>?_)
 refine aaL<|?_
 refine zD (.tmp rfl .nil) ⟨⟨some ⟨b,0,none⟩,x.n,cap⟩,by simp[abO,SV.v],?_⟩
 exact .of_block hx.ok hgb.h hlen (by omega) (by simp)
theorem amc{A G:Gh}{x:SV}{ds:List Nat}{k:Nat}(hx:IsD A x ds)[GL A G](hk:dv ds<2^k)(hb:ds.length≤1125899906842):Fn Tryz.prog 237 [x.v] G (fun v G'=> ∃z:SV,v=z.v∧IsN k G' z (dv ds)):=by
 have htl:=abt ds
 refine Fn.intro Tryz.func237 J J Tryz.ntmps237 rfl ?_
 intro C _ _
 refine sR<|sa J J<|zE<|sR<|sm J J<|?_
 refine sc (zC J J (aa2 hx (by omega)) rfl ?_)
 rintro _ G1 _ rfl
 refine sc (zC J J (am2 hx.trim (by omega)) rfl ?_)
 rintro _ G2 _ ⟨z,rfl,hz⟩
 refine sa J J<|zE<|aaL<|?_
 refine zD (.tmp rfl .nil) ⟨z,rfl,?_⟩
 exact⟨by rw[adr hx.ok];exact hz,hk⟩
end Go.Sx
end
section
namespace Go.Proofs
open Go.Shelf
def Tryz.lays128_ren:Go.Shelf.Ren:=⟨fun|128=>294|n=>n,fun|51=>262|3=>3|4=>4|46=>290|5=>5|9=>9|n=>n,fun|n=>n⟩
def Tryz.lays125_ren:Go.Shelf.Ren:=⟨fun|125=>255|128=>294|129=>295|n=>n,fun|46=>290|3=>3|51=>262|53=>282|4=>4|5=>5|9=>9|n=>n,fun|n=>n⟩
def Tryz.lays133_ren:Go.Shelf.Ren:=⟨fun|133=>272|128=>294|n=>n,fun|51=>262|3=>3|4=>4|46=>290|5=>5|9=>9|n=>n,fun|n=>n⟩
theorem Tryz.lays133:Go.Proofs.Lays.n133 Tryz.prog Tryz.lays133_ren:={
 mixed:=by kernel_rfl
 f128:=Tryz.func294.trans (congrArg some (by kernel_rfl))
 f133:=Tryz.func272.trans (congrArg some (by kernel_rfl))
 t3:=Tryz.underlying3
 a3:=Tryz.isAgg3
 z3:=Tryz.sizeOf3
 v3:=Tryz.zeroValue3
 t4:=Tryz.underlying4
 a4:=Tryz.isAgg4
 z4:=Tryz.sizeOf4
 v4:=Tryz.zeroValue4
 t5:=Tryz.underlying5
 a5:=Tryz.isAgg5
 z5:=Tryz.sizeOf5
 v5:=Tryz.zeroValue5
 t9:=Tryz.underlying9
 a9:=Tryz.isAgg9
 z9:=Tryz.sizeOf9
 v9:=Tryz.zeroValue9
 t46:=Tryz.underlying290
 a46:=Tryz.isAgg290
 z46:=Tryz.sizeOf290
 v46:=Tryz.zeroValue290
 t51:=Tryz.underlying262
 a51:=Tryz.isAgg262
 z51:=Tryz.sizeOf262
 v51:=Tryz.zeroValue262}
theorem Tryz.bits_LeadingZeros32(x:Int)(w:World)(h0:0≤x)(h1:x≤4294967295):
  Calls Tryz.prog 272 #[.int .u32 x] w fun e w'=>e= .returned (.int .i64 (32-(Lib.bitLen x.toNat:Int)))∧w'=w:=Any.bits_LeadingZeros32 Tryz.lays133 x w h0 h1
def Tryz.lays129_ren:Go.Shelf.Ren:=⟨fun|129=>295|n=>n,fun|53=>282|3=>3|4=>4|46=>290|5=>5|9=>9|n=>n,fun|n=>n⟩
def Tryz.lays264_ren:Go.Shelf.Ren:=⟨fun|264=>265|n=>n,fun|53=>282|46=>290|n=>n,fun|n=>n⟩
theorem Tryz.lays264:Go.Proofs.Lays.n264 Tryz.prog Tryz.lays264_ren:={
 mixed:=by kernel_rfl
 f264:=Tryz.func265.trans (congrArg some (by kernel_rfl))
 t46:=Tryz.underlying290
 a46:=Tryz.isAgg290
 z46:=Tryz.sizeOf290
 v46:=Tryz.zeroValue290
 t53:=Tryz.underlying282
 a53:=Tryz.isAgg282
 z53:=Tryz.sizeOf282
 v53:=Tryz.zeroValue282}
open Go.RowKit Go.Lib in
theorem Tryz.bits_Mul64(x y:Nat)(hx:x<18446744073709551616)(hy:y<18446744073709551616)(w:World):
  Calls Tryz.prog 265 #[.int .u64 x, .int .u64 y] w fun e w'=>e= .returned (.tuple #[.int .u64 ((x*y/18446744073709551616:Nat):Int), .int .u64 ((x*y%18446744073709551616:Nat):Int)])∧w'=w:=Any.bits_Mul64 Tryz.lays264 x y hx hy w
end Go.Proofs
end
section
namespace Go.Sx
open Go Go.Proofs
/-! ### the number of binary digits -/
def bl(x:Nat):Nat:=if x=0 then 0 else Nat.log2 x+1
theorem awx(x:Nat):x<2^bl x:=by
 unfold bl
 split
 ·rename_i h;subst h;decide
 ·exact Nat.lt_log2_self
theorem ahv{x k:Nat}:bl x≤k↔x<2^k:=by
 constructor
 ·intro h;exact Nat.lt_of_lt_of_le (awx x) (Nat.pow_le_pow_right (by omega) h)
 ·intro h
  unfold bl
  split
  ·omega
  ·rename_i h0
   have:=(Nat.log2_lt h0).2 h
   omega
theorem aBr{x:Nat}(h:x≠0):bl x=1+bl (x/2):=by
 have h1: ∀k,bl x≤k+1↔bl (x/2)≤k:=fun k=>by
  rw[ahv,ahv,Nat.pow_succ];omega
 have h2:bl x≠0:=fun e=>by
  have:=awx x;rw[e] at this;simp at this;exact h this
 have h3:=(h1 (bl (x/2))).2 (Nat.le_refl _)
 have h4:=(h1 (bl x-1)).1 (by omega)
 omega
theorem ahY: ∀(f x:Nat),x<2^f→Lib.bitLenAux f x=bl x
 |0,x,h=>by
  have:x=0:=by simpa using h
  subst this;rfl
 |f+1,x,h=>by
  unfold Lib.bitLenAux
  split
  ·rename_i h0;subst h0;rfl
  ·rename_i h0
   rw[ahY f (x/2) (by rw[Nat.pow_succ] at h;omega),aBr h0]
theorem atN{x:Nat}(h:x<2^64):Lib.bitLen x=bl x:=ahY 64 x h
theorem av2{x k:Nat}(d:Nat)(h:x<2^k)(hd:d≠0):bl (x+2^k*d)=k+bl d:=by
 have h1: ∀j,bl (x+2^k*d)≤k+j↔bl d≤j:=fun j=>by
  rw[ahv,ahv,Nat.pow_add]
  constructor
  ·intro h'
   exact Nat.lt_of_mul_lt_mul_left (a:=2^k) (by omega)
  ·intro h'
   have:2^k*(d+1)≤2^k*2^j:=Nat.mul_le_mul_left _ h'
   rw[Nat.mul_add] at this
   omega
 have h2:k<bl (x+2^k*d):=by
  rcases Nat.lt_or_ge k (bl (x+2^k*d)) with h'|h'
  ·exact h'
  ·have:=ahv.1 h'
   have h3:2^k*1≤2^k*d:=Nat.mul_le_mul_left _ (by omega)
   omega
 have h3:=(h1 (bl d)).2 (Nat.le_refl _)
 have h4:=(h1 (bl (x+2^k*d)-k)).1 (by omega)
 omega
theorem aFD{ds:List Nat}(h:DOk ds)(hn:Nrm ds)(hne:ds≠[]):bl (dv ds)=32*(ds.length-1)+bl (ds.getD (ds.length-1) 0):=by
 rcases List.eq_nil_or_concat ds with rfl|⟨l,d,rfl⟩
 ·exact absurd rfl hne
 ·rw[List.concat_eq_append] at*
  have hd:d≠0:=fun e=>by subst e;simp[Nrm] at hn
  have hl:DOk l:=fun x hx=>h x (List.mem_append_left _ hx)
  have h1:=aeK hl
  rw[aeH]
  have h2:(4294967296:Nat)^l.length=2^(32*l.length):=by rw[Nat.pow_mul]
  rw[h2] at h1⊢
  have h3:dv [d]=d:=by simp[dv]
  rw[h3,av2 d h1 hd]
  have h4:(l++[d]).length-1=l.length:=by simp
  rw[h4,List.getD_eq_getElem?_getD,List.getElem?_append_right (Nat.le_refl _)]
  simp
theorem aj4{P:Program}{f:FuncId}{fn:Func}{c:Code}(h:P.funcs[f]? =some fn)(hb:fn.body=some c)(hn:(fn.name== "runtime.NumGoroutine")=false):ad7 P f:=⟨fn,h,hn,by rw[hb];rfl⟩
theorem ajB{G:Gh}{x:Nat}(hx:x<4294967296):Fn Tryz.prog 272 [.int .u32 (x:Int)] G (fun v _=>v= .int .i64 (32-(bl x:Int))):=by
 have h:=Fn.of_calls (G:=G) (aj4 Tryz.func272 J J) (fun w=>Tryz.bits_LeadingZeros32 (x:Int) w (by omega) (by omega))
 rw[Int.toNat_natCast,atN (Nat.lt_trans hx (by decide))] at h
 exact h
/-! ### FromUint, Uint, Bits -/
theorem afr{G:Gh}{u:Nat}(hu:u<18446744073709551616):Fn Tryz.prog 238 [.int .u64 (u:Int)] G (fun v G'=> ∃z:SV,v=z.v∧IsN 64 G' z u):=by
 refine Fn.intro Tryz.func238 J J Tryz.ntmps238 rfl ?_
 intro C _ _
 refine sR<|sa J J<|zE<|sR<|sm J J<|sy (abg rfl) rfl<|sm J J<|?_
 refine sy (adU J J (by decide)) rfl<|sy (abg rfl) rfl<|?_
 refine sc (air (by rfl) (by rfl) (by rfl) (by rfl) rfl ?_)
 intro b1
 refine aci b1 (.hd ..) (fun G1 _ hgb=>?_)
 have h1:((u:Int)%4294967296)=((u%4294967296:Nat):Int):=by omega
 have h2:((u:Int).fdiv (2^min (32:Int).toNat IntKind.u64.bits)%4294967296)=((u/4294967296:Nat):Int):=by
  have:(2^min (32:Int).toNat IntKind.u64.bits:Int)=4294967296:=by decide
  rw[this,Int.fdiv_eq_ediv_of_nonneg _ (by omega)]
  omega
 have hok:DOk [u%4294967296,u/4294967296]:= .cons (by omega) (.cons (by omega) .nil)
 have hd:IsD G1 ⟨some ⟨b1,0,none⟩,2,2⟩ [u%4294967296,u/4294967296]:= .of_block hok hgb.h rfl (Nat.le_refl _) (by rw[h1,h2];rfl)
 have hv:dv [u%4294967296,u/4294967296]=u:=by simp only[dv];omega
 refine sc (zC J J (aa2 hd (by simp)) rfl ?_)
 rintro _ G2 _ rfl
 refine sa J J<|zE<|aaL<|?_
 refine zD (.tmp rfl .nil) ⟨⟨some ⟨b1,0,none⟩,(trimD [u%4294967296,u/4294967296]).length,2⟩,rfl,?_⟩
 have:=hd.trim.up (G:=G2)
 rw[←adr hok,hv] at this
 exact⟨by rw[←adr hok,hv];exact this,Nat.lt_of_lt_of_le hu (by decide)⟩
theorem ayr{P:Program}{t:TypeId}(a b k:Nat)(ha:a<2^k)(h:a+b*2^k<18446744073709551616)(w:World):(binOp .or t (.int .u64 (a:Int)) (.int .u64 ((b*2^k:Nat):Int))).run P w= .ok (.int .u64 ((a+b*2^k:Nat):Int)) w:=by
 have h1:(BitVec.ofInt 64 (a:Int) ||| BitVec.ofInt 64 ((b*2^k:Nat):Int)).toNat=a+b*2^k:=by
  rw[BitVec.toNat_or,BitVec.ofInt_natCast,BitVec.ofInt_natCast,BitVec.toNat_ofNat,BitVec.toNat_ofNat,Nat.mod_eq_of_lt (by omega),Nat.mod_eq_of_lt (by omega)]
  rw[←Nat.shiftLeft_eq,Nat.or_comm,←Nat.shiftLeft_add_eq_or_of_lt ha,Nat.shiftLeft_eq]
  omega
 have h2:IntKind.u64.wrap ((a+b*2^k:Nat):Int)=((a+b*2^k:Nat):Int):=by rw[abV];omega
 simp only[binOp]
 show(Op.intBits .or .u64 (a:Int) ((b*2^k:Nat):Int)).run P w=_
 unfold Op.intBits
 show(pure (Value.int .u64 (IntKind.u64.wrap ((BitVec.ofInt 64 (a:Int) ||| BitVec.ofInt 64 ((b*2^k:Nat):Int)).toNat:Int))):Sem Value).run P w=_
 rw[h1,h2,aao]
theorem alx{A G:Gh}{x:SV}{ds:List Nat}(hx:IsD A x ds)[GL A G](hb:ds.length≤1125899906842624):Fn Tryz.prog 235 [x.v] G (fun v _=>v= .tuple #[.int .u64 ((if dv ds<18446744073709551616 then dv ds else 0:Nat):Int), .bool (decide (dv ds<18446744073709551616))]):=by
 have htl:=abt ds
 have hdv:=aa9 ds
 have hok:=hx.ok.trimD
 have hnr:=Nrm.trimD ds
 have hxt:=hx.trim
 have hcall:=fun G1 (_:GL A G1)=>aa2 (G:=G1) hx (by omega)
 generalize trimD ds=es at*
 have hlen:=hxt.len
 rw[←hdv]
 have hbig:(if dv es<18446744073709551616 then dv es else 0)=if es.length≤2 then dv es else 0:=by
  by_cases h2:es.length≤2
  ·have h3:=aeK hok
   have h4:(4294967296:Nat)^es.length≤4294967296^2:=Nat.pow_le_pow_right (by omega) h2
   rw[if_pos h2,if_pos (by omega)]
  ·have h3:=agf hnr (fun e=>by subst e;simp at h2)
   have h4:(4294967296:Nat)^2≤4294967296^(es.length-1):=Nat.pow_le_pow_right (by omega) (by omega)
   rw[if_neg h2,if_neg (by omega)]
 have hbig2:decide (dv es<18446744073709551616)=decide (es.length≤2):=by
  rw[decide_eq_decide]
  by_cases h2:es.length≤2
  ·have h3:=aeK hok
   have h4:(4294967296:Nat)^es.length≤4294967296^2:=Nat.pow_le_pow_right (by omega) h2
   exact⟨fun _=>h2,fun _=>by omega⟩
  ·have h3:=agf hnr (fun e=>by subst e;simp at h2)
   have h4:(4294967296:Nat)^2≤4294967296^(es.length-1):=Nat.pow_le_pow_right (by omega) (by omega)
   exact⟨fun _=>by omega,fun h=>absurd h h2⟩
 rw[hbig,hbig2]
 refine Fn.intro Tryz.func235 J J Tryz.ntmps235 rfl ?_
 intro C _ _
 refine sR<|sa J J<|sa J J<|zE<|sR<|sm J J<|?_
 refine sc (zC J J (hcall _ inferInstance) rfl ?_)
 rintro _ G1 _ rfl
 refine sa J J<|zE<|aaj<|sR<|sm J J<|adj J J<|sy (af8 J J) rfl<|zE<|?_
 refine aaH rfl (fun hc=>?_) (fun hc=>?_) -- slot 11
 ·refine sR<|sa J J<|sa J J<|zE<|aaL<|?_
  refine zD (.tmp rfl (.tmp rfl .nil)) ?_
  have: ¬es.length≤2:=by omega
  simp[abO,this]
 have h2:es.length≤2:=by omega
 refine zK<|sR<|sa J J<|zE<|aaj<|sR<|sm J J<|adj J J<|sm J J<|zE<|aas<|?_
 refine abZ (X:=Nat) (fun k=>[(14, .int .i64 k),(13, .int .i64 es.length),(12, .slice x.a es.length x.c),(4, .int .u64 ((dv (es.take k):Nat):Int))]) (fun _=>[]) (fun k _=>k≤es.length) (fun k=>es.length-k) 0 (Nat.zero_le _) (.cons rfl (.cons rfl (.cons rfl (.cons rfl .nil)))) rfl ?_
 rintro k Gx _ hk
 refine sR<|sy (acj J J) rfl<|zE<|aaj<|?_
 refine abn rfl (fun hc=>?_) (fun hc=>?_) -- slot 15
 ·refine abu<|abI<|abI<|aar<|sR<|sm J J<|sa J J<|sa J J<|zE<|aaL<|?_
  refine zD (.tmp rfl (.tmp rfl .nil)) ?_
  have hk':k=es.length:=by omega
  subst hk'
  simp[abO,h2]
 have hk':k<es.length:=by omega
 have hdk:=hok.get k
 have hdt:=aeK (hok.take k)
 rw[List.length_take,Nat.min_eq_left (by omega)] at hdt
 have hds:=aax es k
 have hd2:=aeK (hok.take (k+1))
 rw[List.length_take,Nat.min_eq_left (by omega)] at hd2
 have hp2:(4294967296:Nat)^(k+1)≤4294967296^2:=Nat.pow_le_pow_right (by omega) (by omega)
 have hpk:(4294967296:Nat)^k=2^(32*k):=by rw[Nat.pow_mul]
 refine zK<|aaj<|aas<|sR<|sm J J<|sy (abU (z:=⟨x.a,es.length,x.c⟩) hxt J J (by omega) (by show(k:Int)<(es.length:Nat);omega)) rfl<|sy (abX hxt rfl (by omega)) rfl<|sa J J<|sa J J<|zE<|aam<|?_
 refine sm J J<|sm J J<|sy (aaN rfl (by omega) (by rw[Int.toNat_natCast];omega)) rfl<|sm J J<|sy (aqU J J (by omega) (by omega)) rfl<|?_
 have hsh:IntKind.u64.wrap (((es.getD (k:Int).toNat 0:Nat):Int)*2^min ((32:Int)*(k:Int)).toNat IntKind.u64.bits)=((es.getD k 0*2^(32*k):Nat):Int):=by
  have e1:((32:Int)*(k:Int)).toNat=32*k:=by omega
  rw[e1,Int.toNat_natCast,Nat.min_eq_left (by show 32*k≤64;omega),abV]
  have e2:((es.getD k 0:Nat):Int)*2^(32*k)=((es.getD k 0*2^(32*k):Nat):Int):=by push_cast;rfl
  rw[e2]
  have e3:es.getD k 0*2^(32*k)<18446744073709551616:=by rw[←hpk,Nat.mul_comm];omega
  omega
 refine sy (aj3 J J (by omega)) rfl<|?_
 rw[hsh]
 refine sy (ab5 J J (ayr (dv (es.take k)) (es.getD k 0) (32*k) (by rw[←hpk];exact hdt) (by rw[←hpk,Nat.mul_comm];omega))) rfl<|sa J J<|zE<|aam<|sy (aaq J J) rfl<|sm J J<|zE<|?_
 refine aaX (k+1) (by omega) (by omega) (.cons rfl (.cons rfl (.cons rfl (.cons ?_ .nil)))) rfl
 rw[hds,hpk,Nat.mul_comm (2^(32*k))]
 rfl
theorem awE{A G:Gh}{x:SV}{ds:List Nat}(hx:IsD A x ds)[GL A G](hb:ds.length≤1125899906842624):Fn Tryz.prog 231 [x.v] G (fun v _=>v= .int .i64 ((bl (dv ds):Nat):Int)):=by
 have htl:=abt ds
 have hdv:=aa9 ds
 have hok:=hx.ok.trimD
 have hnr:=Nrm.trimD ds
 have hxt:=hx.trim
 have hcall:=fun G1 (_:GL A G1)=>aa2 (G:=G1) hx (by omega)
 generalize trimD ds=es at*
 have hlen:=hxt.len
 rw[←hdv]
 refine Fn.intro Tryz.func231 J J Tryz.ntmps231 rfl ?_
 intro C _ _
 refine sR<|sa J J<|zE<|sR<|sm J J<|?_
 refine sc (zC J J (hcall _ inferInstance) rfl ?_)
 rintro _ G1 _ rfl
 refine sa J J<|zE<|aaj<|sR<|sm J J<|adj J J<|sy (ab3 J J) rfl<|zE<|?_
 refine aaH rfl (fun hc=>?_) (fun hc=>?_) -- slot 7
 ·refine sR<|sa J J<|zE<|aaL<|?_
  refine zD (.tmp rfl .nil) ?_
  have:es=[]:=List.eq_nil_of_length_eq_zero (by omega)
  subst this
  rfl
 have hne:0<es.length:=by omega
 have hkt:((es.length:Int)-1).toNat=es.length-1:=by omega
 have hg:=hok.get (es.length-1)
 have hbl:bl (es.getD (es.length-1) 0)≤32:=ahv.2 (by omega)
 refine zK<|sR<|sm J J<|adj J J<|sy (aqU J J (by omega) (by omega)) rfl<|sm J J<|sm J J<|adj J J<|sy (aa7 J J) rfl<|?_
 refine sy (abU (z:=⟨x.a,es.length,x.c⟩) hxt J J (by omega) (by show _<((es.length:Nat):Int);omega)) rfl<|sy (abX hxt rfl (by omega)) rfl<|?_
 rw[hkt]
 refine sc (zC J J (ajB hg) rfl ?_)
 rintro _ G2 _ rfl
 refine sy (aa7 J J) rfl<|sa J J<|zE<|aaL<|?_
 refine zD (.tmp rfl .nil) ?_
 rw[aFD hok hnr (fun e=>by subst e;simp at hne)]
 simp only[abO,Value.int.injEq,true_and]
 omega
def ahF(a b:Nat):Int:=if a<b then-1 else if a=b then 0 else 1
theorem asb{A B G:Gh}{x y:SV}{ds es:List Nat}(hx:IsD A x ds)(hy:IsD B y es)[GL A G][GL B G](hb:ds.length≤1125899906842624)(hb2:es.length≤1125899906842624):
  Fn Tryz.prog 273 [x.v,y.v] G (fun v _=>v= .int .i64 (ahF (dv ds) (dv es))):=by
 have htl:=abt ds
 have htl2:=abt es
 have hcall:=fun G1 (_:GL A G1)=>aa2 (G:=G1) hx (by omega)
 have hcall2:=fun G1 (_:GL B G1)=>aa2 (G:=G1) hy (by omega)
 have hxt:=hx.trim
 have hyt:=hy.trim
 have hok:=hx.ok.trimD
 have hok2:=hy.ok.trimD
 have hnr:=Nrm.trimD ds
 have hnr2:=Nrm.trimD es
 rw[←aa9 ds,←aa9 es]
 generalize trimD ds=a at*
 generalize trimD es=b at*
 refine Fn.intro Tryz.func273 J J Tryz.ntmps273 rfl ?_
 intro C _ _
 refine sR<|sa J J<|zE<|sR<|sm J J<|?_
 refine sc (zC J J (hcall _ inferInstance) rfl ?_)
 rintro _ G1 _ rfl
 refine sm J J<|?_
 refine sc (zC J J (hcall2 _ inferInstance) rfl ?_)
 rintro _ G2 _ rfl
 refine sa J J<|sa J J<|zE<|aaj<|sR<|sm J J<|adj J J<|sm J J<|adj J J<|sy (ahX J J) rfl<|zE<|?_
 refine aaH rfl (fun hc=>?_) (fun hc=>?_) -- slot 14
 ·refine aaj<|sR<|sm J J<|adj J J<|sm J J<|adj J J<|sy (acj J J) rfl<|zE<|?_
  refine aaH rfl (fun hc2=>?_) (fun hc2=>?_) -- slot 19
  ·refine sR<|sa J J<|zE<|aaL<|?_
   refine zD (.tmp rfl .nil) ?_
   have:=acH hok hnr2 (by omega)
   simp[abO,ahF,this]
  refine zK<|sR<|sa J J<|zE<|aaL<|?_
  refine zD (.tmp rfl .nil) ?_
  have:=acH hok2 hnr (by omega)
  have h1: ¬dv a<dv b:=by omega
  have h2: ¬dv a=dv b:=by omega
  simp[abO,ahF,h1,h2]
 have hl:a.length=b.length:=by omega
 refine zK<|aaj<|sR<|sm J J<|adj J J<|sy (aa7 J J) rfl<|sa J J<|zE<|aas<|?_
 refine abZ (X:=Nat) (fun k=>[(5, .int .i64 (k-1)),(0, .slice x.a a.length x.c),(1, .slice y.a b.length y.c)]) (fun _=>[]) (fun k _=>k≤a.length∧a.drop k=b.drop k) (fun k=>k) a.length ⟨Nat.le_refl _,by rw[List.drop_length,hl,List.drop_length]⟩ (.cons rfl (.cons rfl (.cons rfl .nil))) rfl ?_
 rintro k Gx _ ⟨hk,hd⟩
 refine aaj<|sR<|sm J J<|sy (ahR J J) rfl<|zE<|?_
 refine abn rfl (fun hc=>?_) (fun hc=>?_) -- slot 24
 ·refine abu<|abI<|abI<|aar<|sR<|sa J J<|zE<|aaL<|?_
  refine zD (.tmp rfl .nil) ?_
  have:k=0:=by omega
  subst this
  have hab:a=b:=by simpa using hd
  subst hab
  simp[abO,ahF]
 have hk1:0<k:=by omega
 have hkt:((k:Int)-1).toNat=k-1:=by omega
 have hga:=hok.get (k-1)
 have hgb:=hok2.get (k-1)
 have hk2:k-1+1=k:=by omega
 refine zK<|aaj<|aas<|aas<|aaj<|dr (fun _=>false) [(0,true),(1,true),(2,true),(3,true),(4,true),(5,true),(6,true),(7,true),(8,true),(9,true)] follows (by kernel_rfl)<|?_
 refine dM J J J<|dM J J J<|dy rfl (fun _=>abU (z:=⟨x.a,a.length,x.c⟩) hxt J J (by omega) (by show _<((a.length:Nat):Int);omega)) J J<|dy rfl (fun _=>abX hxt rfl (by omega)) J J<|?_
 refine dM J J J<|dM J J J<|dy rfl (fun _=>abU (z:=⟨y.a,b.length,y.c⟩) hyt J J (by omega) (by show _<((b.length:Nat):Int);omega)) J J<|dy rfl (fun _=>abX hyt rfl (by omega)) J J<|?_
 refine dy rfl (fun _=>acj J J) J J<|dA J J J<|dn<|?_
 refine aaH rfl (fun hc2=>?_) (fun hc2=>?_) -- slot 27
 ·refine sR<|sa J J<|zE<|aaL<|?_
  refine zD (.tmp rfl .nil) ?_
  rw[hkt] at hc2
  have:=aqI hok hok2 (k-1) (by omega) (by omega) hl (by rw[hk2];exact hd) (by omega)
  simp[abO,ahF,this]
 refine aaj<|dr (fun _=>false) [(0,true),(1,true),(2,true),(3,true),(4,true),(5,true),(6,true),(7,true),(8,true),(9,true)] follows (by kernel_rfl)<|dM J J J<|?_
 refine dM J J J<|dy rfl (fun _=>abU (z:=⟨x.a,a.length,x.c⟩) hxt J J (by omega) (by show _<((a.length:Nat):Int);omega)) J J<|dy rfl (fun _=>abX hxt rfl (by omega)) J J<|dM J J J<|?_
 refine dM J J J<|dy rfl (fun _=>abU (z:=⟨y.a,b.length,y.c⟩) hyt J J (by omega) (by show _<((b.length:Nat):Int);omega)) J J<|dy rfl (fun _=>abX hyt rfl (by omega)) J J<|dy rfl (fun _=>af8 J J) J J<|?_
 refine dA J J J<|dn<|?_
 rw[hkt] at*
 refine aaH rfl (fun hc3=>?_) (fun hc3=>?_) -- slot 37
 ·refine sR<|sa J J<|zE<|aaL<|?_
  refine zD (.tmp rfl .nil) ?_
  have:=aqI hok2 hok (k-1) (by omega) (by omega) hl.symm (by rw[hk2];exact hd.symm) (by omega)
  have h1: ¬dv a<dv b:=by omega
  have h2: ¬dv a=dv b:=by omega
  simp[abO,ahF,h1,h2]
 refine zK<|aam<|sm J J<|sy (aa7 J J) rfl<|sa J J<|zE<|?_
 refine aaX (k-1) ⟨by omega,?_⟩ (by omega) (.cons (by rw[show((k-1:Nat):Int)=(k:Int)-1 by omega];rfl) (.cons rfl (.cons rfl .nil))) rfl
 have heq:a.getD (k-1) 0=b.getD (k-1) 0:=by omega
 rw[List.getD_eq_getElem?_getD,List.getD_eq_getElem?_getD,List.getElem?_eq_getElem (by omega),List.getElem?_eq_getElem (by omega)] at heq
 rw[List.drop_eq_getElem_cons (by omega:k-1<a.length),List.drop_eq_getElem_cons (by omega:k-1<b.length),hk2,hd]
 congr 1
theorem amp{ds:List Nat}{k:Nat}(h:ds.length≤k):ds.getD k 0=0:=by
 rw[List.getD_eq_getElem?_getD,List.getElem?_eq_none h];rfl
theorem ami(n k:Nat):(List.replicate n 0).getD k 0=0:=by
 rw[List.getD_eq_getElem?_getD]
 by_cases h:k<n
 ·simp[h]
 ·rw[List.getElem?_eq_none (by simpa using h)];rfl
theorem aDN{a b c:Nat}(ha:a<4294967296)(hb:b<4294967296)(hc:c≤1):(c+a+b)/4294967296≤1:=by omega
structure aD7 where
 ws:List Nat
 k:Nat
 c:Nat
theorem aAm{A B G:Gh}{x y:SV}{ds es:List Nat}{kk:Nat}(hx:IsD A x ds)(hy:IsD B y es)[GL A G][GL B G](hk:dv ds+dv es<2^kk)(hb:ds.length≤1125899906842)(hb2:es.length≤1125899906842):
  Fn Tryz.prog 269 [x.v,y.v] G (fun v G'=> ∃z:SV,v=z.v∧IsN kk G' z (dv ds+dv es)):=by
 have hlen:=hx.len
 have hlen2:=hy.len
 refine Fn.intro Tryz.func269 J J Tryz.ntmps269 rfl ?_
 intro C _ _
 refine sR<|sa J J<|zE<|?_
 refine amL ((SV×List Nat)×(SV×List Nat)) (fun q=>[(0, .slice q.1.1.a q.1.1.n q.1.1.c),(1, .slice q.2.1.a q.2.1.n q.2.1.c)]) (fun _=>[])
  (fun q G=>IsD G q.1.1 q.1.2∧IsD G q.2.1 q.2.2∧dv q.1.2+dv q.2.2=dv ds+dv es∧q.2.2.length≤q.1.2.length∧q.1.2.length≤1125899906842) ?_ ?_
 ·refine sR<|sm J J<|adj J J<|sm J J<|adj J J<|sy (acj J J) rfl<|zE<|?_
  refine aaH rfl (fun hc=>?_) (fun hc=>?_) -- slot 13
  ·refine aam<|sm J J<|sm J J<|sa J J<|sa J J<|zE<|?_
   exact ajy ((y,es),(x,ds)) ⟨hy.up,hx.up,by simp;omega,by simp;omega,by simp;omega⟩ (.cons rfl (.cons rfl .nil)) rfl
  refine zK<|?_
  exact ajy ((x,ds),(y,es)) ⟨hx.up,hy.up,rfl,by simp;omega,by simp;omega⟩ (.cons rfl (.cons rfl .nil)) rfl
 rintro ⟨⟨x,a⟩,⟨y,b⟩⟩ Gx _ ⟨hx,hy,hsum,hle,hba⟩
 rw[←hsum] at hk⊢
 clear hlen hlen2 hsum
 have hlen:=hx.len
 have hlen2:=hy.len
 simp only[] at hx hy hle hba hlen hlen2 hk⊢
 refine sR<|sm J J<|adj J J<|sy (aaq J J) rfl<|?_
 refine sc (aeQ J J (by omega) (by omega) (by omega) (by rfl) rfl ?_)
 intro b1
 rw[aee,show((x.n:Int)+1).toNat=a.length+1 by omega]
 refine sa J J<|zE<|sR<|sa J J<|zE<|aaj<|sR<|sm J J<|adj J J<|sm J J<|zE<|aas<|?_
 refine abZ (X:=aD7) (fun q=>[(22, .int .i64 q.k),(21, .int .i64 x.n),(20, .slice x.a x.n x.c),(6, .int .u64 q.c),(0, .slice x.a x.n x.c),(1, .slice y.a y.n y.c),(5, .slice (some ⟨b1,0,none⟩) (a.length+1) (a.length+1))])
  (fun q=>[⟨b1,q.ws.map dI,262,true⟩])
  (fun q _=>q.k≤a.length∧q.ws.length=a.length+1∧DOk q.ws∧q.c≤1∧dv (q.ws.take q.k)+4294967296^q.k*q.c=dv (a.take q.k)+dv (b.take q.k)) (fun q=>a.length-q.k) ⟨List.replicate (a.length+1) 0,0,0⟩
  ⟨Nat.zero_le _,by simp, .replicate _,Nat.zero_le _,by simp[dv]⟩ (.cons rfl (.cons rfl (.cons rfl (.cons rfl (.cons rfl (.cons rfl (.cons rfl .nil))))))) rfl ?_
 rintro ⟨ws,k,c⟩ Gy _ ⟨hka,hwl,hwo,hc1,hinv⟩
 simp only[] at hka hwl hwo hc1 hinv⊢
 refine sR<|sy (acj J J) rfl<|zE<|aaj<|?_
 refine abn rfl (fun hc=>?_) (fun hc=>?_) -- slot 23
 ·have hkn:k=a.length:=by omega
  refine abu<|abI<|abI<|aar<|sR<|sm J J<|sm J J<|adj J J<|sm J J<|sy (abg rfl) rfl<|?_
  refine sy (abf J J (by omega) (by omega)) rfl<|?_
  refine sc (aa8 (d:=c) J J (by omega) (.hd ..) (by omega) rfl ?_)
  rw[show(x.n:Int).toNat=a.length by omega]
  refine zE<|sR<|sm J J<|?_
  refine aci b1 (.hd ..) (fun G1 _ hgb=>?_)
  have hwo2:DOk (ws.set a.length c):=hwo.set _ (by omega)
  have hD:IsD G1 ⟨some ⟨b1,0,none⟩,a.length+1,a.length+1⟩ (ws.set a.length c):= .of_block hwo2 hgb.h (by simp[hwl]) (Nat.le_refl _) (by rw[List.take_of_length_le (by simp)])
  have hdv:dv (ws.set a.length c)=dv a+dv b:=by
   have h1:=abe (ws:=ws) (k:=a.length) (d:=c) (by omega)
   rw[List.take_of_length_le (by simp;omega)] at h1
   rw[h1,←hkn,hinv,hkn,List.take_of_length_le (Nat.le_refl _),List.take_of_length_le hle]
  refine sc (zC J J (aa2 hD (by simp;omega)) rfl ?_)
  rintro _ G2 _ rfl
  refine sa J J<|zE<|aaL<|?_
  refine zD (.tmp rfl .nil) ⟨⟨some ⟨b1,0,none⟩,(trimD (ws.set a.length c)).length,a.length+1⟩,rfl,?_⟩
  have h3:=hD.trim.up (G:=G2)
  rw[←hdv] at hk⊢
  exact⟨by rw[adr hwo2];exact h3,hk⟩
 have hka':k<a.length:=by omega
 have hga:=hx.ok.get k
 have hgb:=hy.ok.get k
 refine zK<|aaj<|aas<|sR<|sm J J<|sy (abU hx J J (by omega) (by omega)) rfl<|sy (abX hx rfl (by omega)) rfl<|sa J J<|sa J J<|zE<|aaj<|?_
 refine aam<|sm J J<|sm J J<|sy (aaN rfl (by omega) (by rw[Int.toNat_natCast];omega)) rfl<|sy (aep J J (by omega) (by rw[Int.toNat_natCast];omega)) rfl<|sa J J<|zE<|?_
 rw[Int.toNat_natCast]
 refine amL Unit (fun _=>[(22, .int .i64 k),(7, .int .i64 k),(21, .int .i64 x.n),(20, .slice x.a x.n x.c),(6, .int .u64 ((c+a.getD k 0+b.getD k 0:Nat):Int)),(0, .slice x.a x.n x.c),(1, .slice y.a y.n y.c),(5, .slice (some ⟨b1,0,none⟩) (a.length+1) (a.length+1))]) (fun _=>[⟨b1,ws.map dI,262,true⟩]) (fun _ _=>True) ?_ ?_
 ·refine sR<|sm J J<|sm J J<|adj J J<|sy (acj J J) rfl<|zE<|?_
  refine aaH rfl (fun hc2=>?_) (fun hc2=>?_) -- slot 34
  ·refine aam<|sm J J<|sm J J<|sm J J<|sy (abU hy J J (by omega) (by omega)) rfl<|sy (abX hy rfl (by omega)) rfl<|sy (aaN rfl (by omega) (by rw[Int.toNat_natCast];omega)) rfl<|?_
   rw[Int.toNat_natCast]
   refine sy (aep J J) rfl<|sa J J<|zE<|?_
   exact ajy () trivial (.cons rfl (.cons rfl (.cons rfl (.cons rfl (.cons (by rw[Int.natCast_add,Int.natCast_add];rfl) (.cons rfl (.cons rfl (.cons rfl .nil)))))))) rfl
  refine zK<|?_
  have h0:b.getD k 0=0:=amp (by omega)
  exact ajy () trivial (.cons rfl (.cons rfl (.cons rfl (.cons rfl (.cons (by rw[h0,Nat.add_zero,Int.natCast_add];rfl) (.cons rfl (.cons rfl (.cons rfl .nil)))))))) rfl
 rintro _ Gz _ _
 generalize hcc:c+a.getD k 0+b.getD k 0=cc
 have hcb:cc/4294967296≤1:=by rw[←hcc];exact aDN hga hgb hc1
 refine sR<|sm J J<|sm J J<|sm J J<|sy (abg rfl) rfl<|sy (abf J J (by omega) (by omega)) rfl<|?_
 rw[Int.toNat_natCast]
 refine sc (aa8 (d:=cc%4294967296) J J (by omega) (.hd ..) (by omega) rfl ?_)
 refine zE<|aam<|sm J J<|sy (adU J J (by decide)) rfl<|sa J J<|zE<|aam<|sy (aaq J J) rfl<|sm J J<|zE<|?_
 have hsh:((cc:Int).fdiv (2^min (32:Int).toNat IntKind.u64.bits))=((cc/4294967296:Nat):Int):=by
  have:(2^min (32:Int).toNat IntKind.u64.bits:Int)=4294967296:=by decide
  rw[this,Int.fdiv_eq_ediv_of_nonneg _ (by omega)];rfl
 rw[hsh]
 refine aaX ⟨ws.set k (cc%4294967296),k+1,cc/4294967296⟩ ⟨by show k+1≤_;omega,by simp[hwl],hwo.set _ (by omega),hcb,?_⟩ (by show a.length-(k+1)<a.length-k;omega) (.cons rfl (.cons rfl (.cons rfl (.cons rfl (.cons rfl (.cons rfl (.cons rfl .nil))))))) rfl
 show dv ((ws.set k (cc%4294967296)).take (k+1))+4294967296^(k+1)*(cc/4294967296)=dv (a.take (k+1))+dv (b.take (k+1))
 rw[abe (by omega),aax a,aax b,←hcc,Nat.pow_succ]
 exact aqL hinv
structure aDs where
 ws:List Nat
 k:Nat
 c:Nat
theorem aC8(p:Int)(h0:0≤p):p.fdiv (2^min (63:Int).toNat IntKind.u64.bits)=p/9223372036854775808:=by
 have:(2^min (63:Int).toNat IntKind.u64.bits:Int)=9223372036854775808:=by decide
 rw[this,Int.fdiv_eq_ediv_of_nonneg _ (by omega)]
theorem aDH(p:Nat):((p:Int).fdiv (2^min (32:Int).toNat IntKind.u64.bits))=((p/4294967296:Nat):Int):=by
 have:(2^min (32:Int).toNat IntKind.u64.bits:Int)=4294967296:=by decide
 rw[this,Int.fdiv_eq_ediv_of_nonneg _ (by omega)];rfl
theorem axB{A B G:Gh}{x y:SV}{a b:List Nat}{kk:Nat}(hx:IsD A x a)(hy:IsD B y b)[GL A G][GL B G](hle:b.length≤a.length)(hge:dv b≤dv a)(hk:dv a<2^kk)(hba:a.length≤1125899906842):
  Fn Tryz.prog 300 [x.v,y.v] G (fun v G'=> ∃z:SV,v=z.v∧IsN kk G' z (dv a-dv b)):=by
 have hlen:=hx.len
 have hlen2:=hy.len
 refine Fn.intro Tryz.func300 J J Tryz.ntmps300 rfl ?_
 intro C _ _
 refine sR<|sa J J<|zE<|sR<|sm J J<|adj J J<|?_
 refine sc (aeQ J J (by omega) (by omega) (by omega) (by rfl) rfl ?_)
 intro b1
 rw[aee,show(x.n:Int).toNat=a.length by omega]
 refine sa J J<|zE<|sR<|sa J J<|zE<|aaj<|sR<|sm J J<|adj J J<|sm J J<|zE<|aas<|?_
 refine abZ (X:=aDs) (fun q=>[(16, .int .i64 q.k),(15, .int .i64 x.n),(14, .slice x.a x.n x.c),(6, .int .u64 q.c),(1, .slice y.a y.n y.c),(5, .slice (some ⟨b1,0,none⟩) a.length a.length)])
  (fun q=>[⟨b1,q.ws.map dI,262,true⟩])
  (fun q _=>q.k≤a.length∧q.ws.length=a.length∧DOk q.ws∧q.c≤1∧dv (q.ws.take q.k)+dv (b.take q.k)=dv (a.take q.k)+4294967296^q.k*q.c) (fun q=>a.length-q.k) ⟨List.replicate a.length 0,0,0⟩
  ⟨Nat.zero_le _,by simp, .replicate _,Nat.zero_le _,by simp[dv]⟩ (.cons rfl (.cons rfl (.cons rfl (.cons rfl (.cons rfl (.cons rfl .nil)))))) rfl ?_
 rintro ⟨ws,k,c⟩ Gy _ ⟨hka,hwl,hwo,hc1,hinv⟩
 simp only[] at hka hwl hwo hc1 hinv⊢
 refine sR<|sy (acj J J) rfl<|zE<|aaj<|?_
 refine abn rfl (fun hc=>?_) (fun hc=>?_) -- slot 17
 ·have hkn:k=a.length:=by omega
  refine abu<|abI<|abI<|aar<|sR<|sm J J<|?_
  refine aci b1 (.hd ..) (fun G1 _ hgb=>?_)
  have hD:IsD G1 ⟨some ⟨b1,0,none⟩,a.length,a.length⟩ ws:= .of_block hwo hgb.h hwl.symm (Nat.le_refl _) (by rw[List.take_of_length_le (by simp)])
  have hdv:dv ws=dv a-dv b:=by
   rw[hkn,List.take_of_length_le (by omega),List.take_of_length_le hle,List.take_of_length_le (Nat.le_refl _)] at hinv
   have h2:=aeK hwo
   rw[hwl] at h2
   rcases Nat.eq_zero_or_pos c with h0|h0
   ·subst h0;omega
   ·have:c=1:=by omega
    subst this;omega
  refine sc (zC J J (aa2 hD (by omega)) rfl ?_)
  rintro _ G2 _ rfl
  refine sa J J<|zE<|aaL<|?_
  refine zD (.tmp rfl .nil) ⟨⟨some ⟨b1,0,none⟩,(trimD ws).length,a.length⟩,rfl,?_⟩
  have h3:=hD.trim.up (G:=G2)
  rw[←hdv]
  exact⟨by rw[adr hwo];exact h3,by omega⟩
 have hka':k<a.length:=by omega
 have hga:=hx.ok.get k
 have hgb:=hy.ok.get k
 refine zK<|aaj<|aas<|sR<|sm J J<|sy (abU hx J J (by omega) (by omega)) rfl<|sy (abX hx rfl (by omega)) rfl<|sa J J<|sa J J<|zE<|aaj<|?_
 rw[Int.toNat_natCast]
 refine aam<|sm J J<|sa J J<|zE<|?_
 refine amL Unit (fun _=>[(16, .int .i64 k),(7, .int .i64 k),(15, .int .i64 x.n),(14, .slice x.a x.n x.c),(8, .int .u32 ((a.getD k 0:Nat):Int)),(9, .int .u64 ((c+b.getD k 0:Nat):Int)),(1, .slice y.a y.n y.c),(5, .slice (some ⟨b1,0,none⟩) a.length a.length)]) (fun _=>[⟨b1,ws.map dI,262,true⟩]) (fun _ _=>True) ?_ ?_
 ·refine sR<|sm J J<|sm J J<|adj J J<|sy (acj J J) rfl<|zE<|?_
  refine aaH rfl (fun hc2=>?_) (fun hc2=>?_) -- slot 25
  ·refine aam<|sm J J<|sm J J<|sm J J<|sy (abU hy J J (by omega) (by omega)) rfl<|sy (abX hy rfl (by omega)) rfl<|sy (aaN rfl (by omega) (by rw[Int.toNat_natCast];omega)) rfl<|?_
   rw[Int.toNat_natCast]
   refine sy (aep J J) rfl<|sa J J<|zE<|?_
   exact ajy () trivial (.cons rfl (.cons rfl (.cons rfl (.cons rfl (.cons rfl (.cons (by rw[Int.natCast_add];rfl) (.cons rfl (.cons rfl .nil)))))))) rfl
  refine zK<|?_
  have h0:b.getD k 0=0:=amp (by omega)
  exact ajy () trivial (.cons rfl (.cons rfl (.cons rfl (.cons rfl (.cons rfl (.cons (by rw[h0,Nat.add_zero];rfl) (.cons rfl (.cons rfl .nil)))))))) rfl
 rintro _ Gz _ _
 generalize htt:c+b.getD k 0=tt
 have htb:tt≤4294967296:=by omega
 refine sR<|sm J J<|sy (aaN rfl) rfl<|sm J J<|sy (agl J J) rfl<|sa J J<|zE<|sR<|sm J J<|sm J J<|sm J J<|?_
 rw[abV]
 refine sy (abg rfl) rfl<|sy (abf J J (by omega) (by omega)) rfl<|?_
 rw[Int.toNat_natCast]
 by_cases hno:tt≤a.getD k 0
 ·refine sc (aa8 (d:=a.getD k 0-tt) J J (by omega) (.hd ..) (by omega) rfl ?_)
  refine zE<|aam<|sm J J<|sy (adU J J (by decide)) rfl<|sa J J<|zE<|aam<|sy (aaq J J) rfl<|sm J J<|zE<|?_
  rw[aC8 _ (by omega),show(((a.getD k 0:Nat):Int)-(tt:Int))%18446744073709551616/9223372036854775808=((0:Nat):Int) by omega]
  refine aaX ⟨ws.set k (a.getD k 0-tt),k+1,0⟩ ⟨by show k+1≤_;omega,by simp[hwl],hwo.set _ (by omega),Nat.zero_le _,?_⟩ (by show a.length-(k+1)<a.length-k;omega) (.cons rfl (.cons rfl (.cons rfl (.cons rfl (.cons rfl (.cons rfl .nil)))))) rfl
  show dv ((ws.set k (a.getD k 0-tt)).take (k+1))+dv (b.take (k+1))=dv (a.take (k+1))+4294967296^(k+1)*0
  rw[abe (by omega),aax a,aax b,←htt,Nat.pow_succ]
  exact ayN hinv (by omega)
 ·refine sc (aa8 (d:=a.getD k 0+4294967296-tt) J J (by omega) (.hd ..) (by omega) rfl ?_)
  refine zE<|aam<|sm J J<|sy (adU J J (by decide)) rfl<|sa J J<|zE<|aam<|sy (aaq J J) rfl<|sm J J<|zE<|?_
  rw[aC8 _ (by omega),show(((a.getD k 0:Nat):Int)-(tt:Int))%18446744073709551616/9223372036854775808=((1:Nat):Int) by omega]
  refine aaX ⟨ws.set k (a.getD k 0+4294967296-tt),k+1,1⟩ ⟨by show k+1≤_;omega,by simp[hwl],hwo.set _ (by omega),Nat.le_refl _,?_⟩ (by show a.length-(k+1)<a.length-k;omega) (.cons rfl (.cons rfl (.cons rfl (.cons rfl (.cons rfl (.cons rfl .nil)))))) rfl
  show dv ((ws.set k (a.getD k 0+4294967296-tt)).take (k+1))+dv (b.take (k+1))=dv (a.take (k+1))+4294967296^(k+1)*1
  rw[abe (by omega),aax a,aax b,←htt,Nat.pow_succ]
  exact avy hinv (by omega) (by omega)
theorem aAE{A B G:Gh}{x y:SV}{ds es:List Nat}{kk:Nat}(hx:IsD A x ds)(hy:IsD B y es)[GL A G][GL B G](hk:dv ds<2^kk)(hb:ds.length≤1125899906842)(hb2:es.length≤1125899906842):
  Fn Tryz.prog 270 [x.v,y.v] G (fun v G'=> ∃z:SV,v= .tuple #[z.v, .bool (decide (dv es≤dv ds))]∧IsN kk G' z (dv ds-dv es)):=by
 refine Fn.intro Tryz.func270 J J Tryz.ntmps270 rfl ?_
 intro C _ _
 refine sR<|sa J J<|sa J J<|zE<|aaj<|sR<|sm J J<|sm J J<|?_
 refine sc (zC J J (asb hx hy (by omega) (by omega)) rfl ?_)
 rintro _ G1 _ rfl
 refine sy (acj J J) rfl<|zE<|?_
 refine aaH rfl (fun hc=>?_) (fun hc=>?_) -- slot 9
 ·have hlt:dv ds<dv es:=by
   unfold ahF at hc
   split at hc
   ·assumption
   ·split at hc<;>omega
  refine sR<|sa J J<|sa J J<|zE<|aaL<|?_
  refine zD (.tmp rfl (.tmp rfl .nil)) ⟨⟨none,0,0⟩,?_,?_⟩
  ·have: ¬dv es≤dv ds:=by omega
   simp[abO,SV.v,this]
  ·rw[Nat.sub_eq_zero_of_le (by omega)]
   exact⟨by unfold dg;exact .nil _,Nat.pow_pos (by omega)⟩
 have hge:dv es≤dv ds:=by
  unfold ahF at hc
  split at hc
  ·omega
  ·omega
 have htl:=abt ds
 have htl2:=abt es
 refine zK<|sR<|sm J J<|?_
 refine sc (zC J J (aa2 hx (by omega)) rfl ?_)
 rintro _ G2 _ rfl
 refine sm J J<|?_
 refine sc (zC J J (aa2 hy (by omega)) rfl ?_)
 rintro _ G3 _ rfl
 have hl:(trimD es).length≤(trimD ds).length:=by
  rcases Nat.lt_or_ge (trimD ds).length (trimD es).length with h|h
  ·have:=acH hx.ok.trimD (Nrm.trimD es) h
   rw[aa9,aa9] at this;omega
  ·exact h
 refine sc (zC J J (axB (kk:=kk) hx.trim hy.trim hl (by rw[aa9,aa9];exact hge) (by rw[aa9];exact hk) (by omega)) rfl ?_)
 rintro _ G4 _ ⟨z,rfl,hz⟩
 refine sa J J<|sa J J<|zE<|aaL<|?_
 refine zD (.tmp rfl (.tmp rfl .nil)) ⟨z,by simp[abO,hge],?_⟩
 rw[aa9,aa9] at hz
 exact hz
structure aAl where
 ws:List Nat
 i:Nat
structure aBd where
 ws:List Nat
 k:Nat
 c:Nat
theorem aFF{x y w c:Nat}(hx:x<4294967296)(hy:y<4294967296)(hw:w<4294967296)(hc:c<4294967296):c+x*y+w<18446744073709551616:=by
 have:x*y≤4294967295*4294967295:=Nat.mul_le_mul (by omega) (by omega)
 omega
theorem ahk{ws:List Nat}{i j d:Nat}(h:i≠j):(ws.set i d).getD j 0=ws.getD j 0:=by
 rw[List.getD_eq_getElem?_getD,List.getD_eq_getElem?_getD,List.getElem?_set_ne h]
theorem azw{A B G:Gh}{x y:SV}{ds es:List Nat}{kk:Nat}(hx:IsD A x ds)(hy:IsD B y es)[GL A G][GL B G](hk:dv ds*dv es<2^kk)(hb:ds.length≤562949953421)(hb2:es.length≤562949953421):
  Fn Tryz.prog 230 [x.v,y.v] G (fun v G'=> ∃z:SV,v=z.v∧IsN kk G' z (dv ds*dv es)):=by
 have htl:=abt ds
 have htl2:=abt es
 have hcall:=fun G1 (_:GL A G1)=>aa2 (G:=G1) hx (by omega)
 have hcall2:=fun G1 (_:GL B G1)=>aa2 (G:=G1) hy (by omega)
 have hxt:=hx.trim
 have hyt:=hy.trim
 rw[←aa9 ds,←aa9 es] at hk⊢
 generalize trimD ds=a at*
 generalize trimD es=b at*
 have hok:=hxt.ok
 have hok2:=hyt.ok
 refine Fn.intro Tryz.func230 J J Tryz.ntmps230 rfl ?_
 intro C _ _
 refine sR<|sa J J<|zE<|sR<|sm J J<|?_
 refine sc (zC J J (hcall _ inferInstance) rfl ?_)
 rintro _ G1 _ rfl
 refine sm J J<|?_
 refine sc (zC J J (hcall2 _ inferInstance) rfl ?_)
 rintro _ G2 _ rfl
 refine sa J J<|sa J J<|zE<|sR<|sm J J<|adj J J<|sm J J<|adj J J<|sy (aaq J J) rfl<|?_
 refine sc (aeQ J J (by omega) (by omega) (by omega) (by rfl) rfl ?_)
 intro b3
 rw[aee,show((a.length:Int)+(b.length:Int)).toNat=a.length+b.length by omega]
 refine sa J J<|zE<|aaj<|sR<|sm J J<|adj J J<|sm J J<|zE<|aas<|?_
 refine abZ (X:=aAl) (fun q=>[(23, .int .i64 q.i),(22, .int .i64 a.length),(21, .slice x.a a.length x.c),(1, .slice y.a b.length y.c),(5, .slice (some ⟨b3,0,none⟩) (a.length+b.length) (a.length+b.length))])
  (fun q=>[⟨b3,q.ws.map dI,262,true⟩])
  (fun q _=>q.i≤a.length∧q.ws.length=a.length+b.length∧DOk q.ws∧(∀j,q.i+b.length≤j→q.ws.getD j 0=0)∧dv q.ws=dv (a.take q.i)*dv b) (fun q=>a.length-q.i) ⟨List.replicate (a.length+b.length) 0,0⟩
  ⟨Nat.zero_le _,by simp, .replicate _,fun j _=>ami _ _,by simp[dv,acB]⟩ (.cons rfl (.cons rfl (.cons rfl (.cons rfl (.cons rfl .nil))))) rfl ?_
 rintro ⟨ws,i⟩ Gy _ ⟨hia,hwl,hwo,hz,hinv⟩
 simp only[] at hia hwl hwo hz hinv⊢
 refine sR<|sy (acj J J) rfl<|zE<|aaj<|?_
 refine abn rfl (fun hc=>?_) (fun hc=>?_) -- slot 24
 ·have hin:i=a.length:=by omega
  refine abu<|abI<|abI<|aar<|sR<|sm J J<|?_
  refine aci b3 (.hd ..) (fun G3 _ hgb=>?_)
  have hD:IsD G3 ⟨some ⟨b3,0,none⟩,a.length+b.length,a.length+b.length⟩ ws:= .of_block hwo hgb.h hwl.symm (Nat.le_refl _) (by rw[List.take_of_length_le (by simp)])
  have hdv:dv ws=dv a*dv b:=by rw[hinv,hin,List.take_of_length_le (Nat.le_refl _)]
  refine sc (zC J J (aa2 hD (by omega)) rfl ?_)
  rintro _ G4 _ rfl
  refine sa J J<|zE<|aaL<|?_
  refine zD (.tmp rfl .nil) ⟨⟨some ⟨b3,0,none⟩,(trimD ws).length,a.length+b.length⟩,rfl,?_⟩
  have h3:=hD.trim.up (G:=G4)
  rw[←hdv] at hk⊢
  exact⟨by rw[adr hwo];exact h3,hk⟩
 have hia':i<a.length:=by omega
 have hga:=hok.get i
 refine zK<|aaj<|aas<|sR<|sm J J<|sy (abU (z:=⟨x.a,a.length,x.c⟩) hxt J J (by omega) (by show(i:Int)<(a.length:Nat);omega)) rfl<|sy (abX hxt rfl (by omega)) rfl<|sa J J<|sa J J<|zE<|aaj<|?_
 rw[Int.toNat_natCast]
 refine aam<|sa J J<|zE<|aaj<|sR<|sm J J<|adj J J<|sm J J<|zE<|aas<|?_
 refine abZ (X:=aBd) (fun q=>[(30, .int .i64 q.k),(29, .int .i64 b.length),(28, .slice y.a b.length y.c),(8, .int .u64 q.c),(7, .int .u32 ((a.getD i 0:Nat):Int)),(5, .slice (some ⟨b3,0,none⟩) (a.length+b.length) (a.length+b.length)),(6, .int .i64 i),(23, .int .i64 i),(22, .int .i64 a.length),(21, .slice x.a a.length x.c),(1, .slice y.a b.length y.c)])
  (fun q=>[⟨b3,q.ws.map dI,262,true⟩])
  (fun q _=>q.k≤b.length∧q.ws.length=a.length+b.length∧DOk q.ws∧q.c<4294967296∧(∀j,i+b.length≤j→q.ws.getD j 0=0)∧dv q.ws+4294967296^(i+q.k)*q.c=dv (a.take i)*dv b+4294967296^i*(a.getD i 0*dv (b.take q.k))) (fun q=>b.length-q.k) ⟨ws,0,0⟩
  ⟨Nat.zero_le _,hwl,hwo,Nat.zero_lt_succ _,hz,by simp[dv,hinv]⟩ (.cons rfl (.cons rfl (.cons rfl (.cons rfl (.cons rfl (.cons rfl (.cons rfl (.cons rfl (.cons rfl (.cons rfl (.cons rfl .nil))))))))))) rfl ?_
 clear hz hwl hwo hinv ws
 rintro ⟨ws,k,c⟩ Gz _ ⟨hkb,hwl,hwo,hcc,hz,hinv⟩
 simp only[] at hkb hwl hwo hcc hz hinv⊢
 refine sR<|sy (acj J J) rfl<|zE<|aaj<|?_
 refine abn rfl (fun hc2=>?_) (fun hc2=>?_) -- slot 31
 ·have hkn:k=b.length:=by omega
  have e1:((i:Int)+(b.length:Int)).toNat=i+b.length:=by omega
  refine abu<|abI<|abI<|aar<|aam<|sm J J<|sm J J<|sm J J<|adj J J<|sy (aaq J J) rfl<|sm J J<|sy (abg rfl) rfl<|?_
  refine sy (abf J J (by omega) (by omega)) rfl<|?_
  rw[e1]
  refine sc (aa8 (d:=c) J J (by omega) (.hd ..) (by omega) rfl ?_)
  refine zE<|aam<|sy (aaq J J) rfl<|sm J J<|zE<|?_
  refine aaX ⟨ws.set (i+b.length) c,i+1⟩ ⟨by show i+1≤_;omega,by simp[hwl],hwo.set _ hcc,fun j hj=>?_,?_⟩ (by show a.length-(i+1)<a.length-i;omega) (.cons rfl (.cons rfl (.cons rfl (.cons rfl (.cons rfl .nil))))) rfl
  ·have hj':i+1+b.length≤j:=hj
   show(ws.set (i+b.length) c).getD j 0=0
   rw[ahk (by omega)];exact hz j (by omega)
  ·show dv (ws.set (i+b.length) c)=dv (a.take (i+1))*dv b
   have h1:=afz ws (i+b.length) c (by omega)
   rw[hz (i+b.length) (Nat.le_refl _),Nat.mul_zero,Nat.add_zero] at h1
   rw[h1,←hkn,hinv,hkn,List.take_of_length_le (Nat.le_refl _),aax,Nat.add_mul,Nat.mul_assoc]
 have hkb':k<b.length:=by omega
 have hgb:=hok2.get k
 have hgw:=hwo.get (i+k)
 have hm:=aFF hga hgb hgw hcc
 have e1:((i:Int)+(k:Int)).toNat=i+k:=by omega
 have e2:((a.getD i 0:Nat):Int)*((b.getD k 0:Nat):Int)=((a.getD i 0*b.getD k 0:Nat):Int):=by rw[Int.natCast_mul]
 refine zK<|aaj<|aas<|sR<|sm J J<|sy (abU (z:=⟨y.a,b.length,y.c⟩) hyt J J (by omega) (by show(k:Int)<(b.length:Nat);omega)) rfl<|sy (abX hyt rfl (by omega)) rfl<|sa J J<|sa J J<|zE<|aaj<|?_
 rw[Int.toNat_natCast]
 refine aam<|sm J J<|sm J J<|sy (aaN rfl) rfl<|sm J J<|sy (aaN rfl) rfl<|sy (aoK J J (by rw[e2];omega) (by rw[e2];omega)) rfl<|?_
 rw[e2]
 refine sm J J<|sm J J<|sm J J<|sy (aaq J J) rfl<|sy (abf J J (by omega) (by omega)) rfl<|?_
 rw[e1]
 refine sy (af9 rfl (by omega)) rfl<|sy (aaN rfl) rfl<|?_
 refine sy (aep J J) rfl<|sy (aep J J) rfl<|sa J J<|zE<|sR<|sm J J<|sm J J<|sm J J<|?_
 rw[show(c:Int)+(((a.getD i 0*b.getD k 0:Nat):Int)+((ws.getD (i+k) 0:Nat):Int))=((c+a.getD i 0*b.getD k 0+ws.getD (i+k) 0:Nat):Int) by omega]
 generalize hcc2:c+a.getD i 0*b.getD k 0+ws.getD (i+k) 0=cc
 rw[hcc2] at hm
 refine sy (aaq J J) rfl<|sm J J<|sy (abg rfl) rfl<|sy (abf J J (by omega) (by omega)) rfl<|?_
 rw[e1]
 refine sc (aa8 (d:=cc%4294967296) J J (by omega) (.hd ..) (by omega) rfl ?_)
 refine zE<|aam<|sm J J<|sy (adU J J (by decide)) rfl<|sa J J<|zE<|aam<|sy (aaq J J) rfl<|sm J J<|zE<|?_
 rw[aDH]
 refine aaX ⟨ws.set (i+k) (cc%4294967296),k+1,cc/4294967296⟩ ⟨by show k+1≤_;omega,by simp[hwl],hwo.set _ (by omega),by show cc/4294967296<_;omega,fun j hj=>?_,?_⟩ (by show b.length-(k+1)<b.length-k;omega) (.cons rfl (.cons rfl (.cons rfl (.cons rfl (.cons rfl (.cons rfl (.cons rfl (.cons rfl (.cons rfl (.cons rfl (.cons rfl .nil))))))))))) rfl
 ·show(ws.set (i+k) (cc%4294967296)).getD j 0=0
  rw[ahk (by omega)];exact hz j hj
 ·show dv (ws.set (i+k) (cc%4294967296))+4294967296^(i+(k+1))*(cc/4294967296)=dv (a.take i)*dv b+4294967296^i*(a.getD i 0*dv (b.take (k+1)))
  have h1:=afz ws (i+k) (cc%4294967296) (by omega)
  rw[←hcc2] at h1⊢
  have h2:=apC h1 hinv
  rw[←Nat.add_assoc,Nat.pow_succ,h2,aax,Nat.mul_add,Nat.mul_add,Nat.pow_add]
  have:4294967296^i*(a.getD i 0*(4294967296^k*b.getD k 0))=4294967296^i*4294967296^k*(a.getD i 0*b.getD k 0):=by
   rw[Nat.mul_left_comm (a.getD i 0),←Nat.mul_assoc]
  rw[this,Nat.add_assoc]
theorem aoV{P:Program}{t:TypeId}(a b k:Nat)(ha:a<2^k)(h:a+b*2^k<18446744073709551616)(w:World):(binOp .or t (.int .u64 ((b*2^k:Nat):Int)) (.int .u64 (a:Int))).run P w= .ok (.int .u64 ((a+b*2^k:Nat):Int)) w:=by
 have h1:(BitVec.ofInt 64 ((b*2^k:Nat):Int) ||| BitVec.ofInt 64 (a:Int)).toNat=a+b*2^k:=by
  rw[BitVec.toNat_or,BitVec.ofInt_natCast,BitVec.ofInt_natCast,BitVec.toNat_ofNat,BitVec.toNat_ofNat,Nat.mod_eq_of_lt (by omega),Nat.mod_eq_of_lt (by omega)]
  rw[←Nat.shiftLeft_eq,←Nat.shiftLeft_add_eq_or_of_lt ha,Nat.shiftLeft_eq]
  omega
 have h2:IntKind.u64.wrap ((a+b*2^k:Nat):Int)=((a+b*2^k:Nat):Int):=by rw[abV];omega
 simp only[binOp]
 show(Op.intBits .or .u64 ((b*2^k:Nat):Int) (a:Int)).run P w=_
 unfold Op.intBits
 show(pure (Value.int .u64 (IntKind.u64.wrap ((BitVec.ofInt 64 ((b*2^k:Nat):Int) ||| BitVec.ofInt 64 (a:Int)).toNat:Int))):Sem Value).run P w=_
 rw[h1,h2,aao]
theorem awC{P:Program}{t:TypeId}(a b k:Nat)(ha:a<2^k)(h:a+b*2^k<4294967296)(w:World):(binOp .or t (.int .u32 (a:Int)) (.int .u32 ((b*2^k:Nat):Int))).run P w= .ok (.int .u32 ((a+b*2^k:Nat):Int)) w:=by
 have h1:(BitVec.ofInt 32 (a:Int) ||| BitVec.ofInt 32 ((b*2^k:Nat):Int)).toNat=a+b*2^k:=by
  rw[BitVec.toNat_or,BitVec.ofInt_natCast,BitVec.ofInt_natCast,BitVec.toNat_ofNat,BitVec.toNat_ofNat,Nat.mod_eq_of_lt (by omega),Nat.mod_eq_of_lt (by omega)]
  rw[←Nat.shiftLeft_eq,Nat.or_comm,←Nat.shiftLeft_add_eq_or_of_lt ha,Nat.shiftLeft_eq]
  omega
 have h2:IntKind.u32.wrap ((a+b*2^k:Nat):Int)=((a+b*2^k:Nat):Int):=by rw[acL];omega
 simp only[binOp]
 show(Op.intBits .or .u32 (a:Int) ((b*2^k:Nat):Int)).run P w=_
 unfold Op.intBits
 show(pure (Value.int .u32 (IntKind.u32.wrap ((BitVec.ofInt 32 (a:Int) ||| BitVec.ofInt 32 ((b*2^k:Nat):Int)).toNat:Int))):Sem Value).run P w=_
 rw[h1,h2,aao]
theorem aem(d k:Nat)(hk:k<64)(h:d*2^k<18446744073709551616){q:Int}(hq:q.toNat=k):IntKind.u64.wrap ((d:Int)*2^min q.toNat IntKind.u64.bits)=((d*2^k:Nat):Int):=by
 rw[hq,Nat.min_eq_left (by show k≤64;omega),abV]
 have e2:(d:Int)*2^k=((d*2^k:Nat):Int):=by push_cast;rfl
 rw[e2];omega
theorem aeX(d k:Nat)(hk:k<64){q:Int}(hq:q.toNat=k):(d:Int).fdiv (2^min q.toNat IntKind.u64.bits)=((d/2^k:Nat):Int):=by
 rw[hq,Nat.min_eq_left (by show k≤64;omega),Int.fdiv_eq_ediv_of_nonneg _ (Int.le_of_lt (Int.pow_pos (by decide)))]
 push_cast;rfl
theorem ayU(q:Nat)(h:q<4294967296):(q:Int)%4294967296=q:=by omega
structure awi where
 ws:List Nat
 k:Nat
 r:Nat
theorem asi{A G:Gh}{x:SV}{a:List Nat}{d kk:Nat}(hx:IsD A x a)[GL A G](hd0:0<d)(hd:d<4294967296)(hk:dv a/d<2^kk)(hb:a.length≤1125899906842):
  Fn Tryz.prog 275 [x.v, .int .u32 (d:Int)] G (fun v G'=> ∃z:SV,v= .tuple #[z.v, .int .u32 ((dv a%d:Nat):Int)]∧IsN kk G' z (dv a/d)):=by
 have hlen:=hx.len
 refine Fn.intro Tryz.func275 J J Tryz.ntmps275 rfl ?_
 intro C _ _
 refine sR<|sa J J<|sa J J<|zE<|sR<|sm J J<|adj J J<|?_
 refine sc (aeQ J J (by omega) (by omega) (by omega) (by rfl) rfl ?_)
 intro b1
 rw[aee,show(x.n:Int).toNat=a.length by omega]
 refine sa J J<|zE<|sR<|sa J J<|zE<|aaj<|sR<|sm J J<|adj J J<|sy (aa7 J J) rfl<|?_
 refine sa J J<|zE<|aas<|?_
 refine abZ (X:=awi) (fun q=>[(8, .int .i64 (q.k-1)),(7, .int .u64 q.r),(0, .slice x.a x.n x.c),(6, .slice (some ⟨b1,0,none⟩) a.length a.length),(1, .int .u32 d)])
  (fun q=>[⟨b1,q.ws.map dI,262,true⟩])
  (fun q _=>q.k≤a.length∧q.ws.length=a.length∧DOk q.ws∧q.r<d∧dv (a.drop q.k)=d*dv (q.ws.drop q.k)+q.r) (fun q=>q.k) ⟨List.replicate a.length 0,a.length,0⟩
  ⟨Nat.le_refl _,by simp, .replicate _,hd0,by simp[dv]⟩ (.cons (by rw[hlen];rfl) (.cons rfl (.cons rfl (.cons rfl (.cons rfl .nil))))) rfl ?_
 rintro ⟨ws,k,r⟩ Gy _ ⟨hka,hwl,hwo,hr,hinv⟩
 simp only[] at hka hwl hwo hr hinv⊢
 refine aaj<|sR<|sm J J<|sy (ahR J J) rfl<|zE<|?_
 refine abn rfl (fun hc=>?_) (fun hc=>?_) -- slot 17
 ·have hk0:k=0:=by omega
  refine abu<|abI<|abI<|aar<|sR<|sm J J<|?_
  refine aci b1 (.hd ..) (fun G1 _ hgb=>?_)
  have hD:IsD G1 ⟨some ⟨b1,0,none⟩,a.length,a.length⟩ ws:= .of_block hwo hgb.h hwl.symm (Nat.le_refl _) (by rw[List.take_of_length_le (by simp)])
  subst hk0
  simp only[List.drop_zero] at hinv
  have hdv:dv a/d=dv ws:=by rw[hinv,Nat.mul_add_div hd0,Nat.div_eq_of_lt hr,Nat.add_zero]
  have hdm:dv a%d=r:=by rw[hinv,Nat.mul_add_mod,Nat.mod_eq_of_lt hr]
  refine sc (zC J J (aa2 hD (by omega)) rfl ?_)
  rintro _ G2 _ rfl
  refine sm J J<|sy (abg rfl) rfl<|sa J J<|sa J J<|zE<|aaL<|?_
  refine zD (.tmp rfl (.tmp rfl .nil)) ⟨⟨some ⟨b1,0,none⟩,(trimD ws).length,a.length⟩,?_,?_⟩
  ·rw[hdm,show(r:Int)%4294967296=r by omega];rfl
  have h3:=hD.trim.up (G:=G2)
  exact⟨by rw[hdv,adr hwo];exact h3,hk⟩
 have hk1:0<k:=by omega
 have hkt:((k:Int)-1).toNat=k-1:=by omega
 have hga:=hx.ok.get (k-1)
 have hv:a.getD (k-1) 0+r*2^32<d*4294967296:=by
  have:(r+1)*4294967296≤d*4294967296:=Nat.mul_le_mul_right _ hr
  rw[Nat.add_mul] at this
  omega
 have hv2:a.getD (k-1) 0+r*2^32<18446744073709551616:=by omega
 refine zK<|aaj<|aas<|sR<|sm J J<|sy (aj3 J J (by decide)) rfl<|sm J J<|sm J J<|sy (abU hx J J (by omega) (by omega)) rfl<|?_
 rw[aem r 32 (by decide) (by omega) rfl]
 refine sy (abX hx rfl (by omega)) rfl<|sy (aaN rfl (by omega) (by rw[hkt];omega)) rfl<|?_
 rw[hkt]
 refine sy (ab5 J J (aoV (a.getD (k-1) 0) r 32 (by omega) hv2)) rfl<|?_
 generalize hvv:a.getD (k-1) 0+r*2^32=vv at*
 have hq:vv/d<4294967296:=Nat.div_lt_of_lt_mul hv
 have hrr:=Nat.mod_lt vv hd0
 refine sa J J<|zE<|sR<|sm J J<|sm J J<|sm J J<|sm J J<|?_
 refine sy (aaN rfl) rfl<|sy (ahq J J (by omega) (by omega) (by omega)) rfl<|sy (abg rfl) rfl<|sy (abf J J (by omega) (by omega)) rfl<|?_
 rw[hkt]
 have e1:(vv:Int)/(d:Int)%4294967296=((vv/d:Nat):Int):=by
  have e0:(vv:Int)/(d:Int)=((vv/d:Nat):Int):=(Int.natCast_ediv vv d).symm
  rw[e0];exact ayU _ hq
 refine sc (aa8 (d:=vv/d) J J e1 (.hd ..) (by omega) rfl ?_)
 refine zE<|aam<|sm J J<|sm J J<|sy (aaN rfl) rfl<|sy (ahC J J (by omega) (by omega)) rfl<|sa J J<|zE<|aam<|sm J J<|?_
 refine sy (aa7 J J) rfl<|sa J J<|zE<|?_
 refine aaX ⟨ws.set (k-1) (vv/d),k-1,vv%d⟩ ⟨by show k-1≤_;omega,by simp[hwl],hwo.set _ hq,hrr,?_⟩ (by show k-1<k;omega) (.cons (by rw[show((k-1:Nat):Int)=(k:Int)-1 by omega];rfl) (.cons (by rw[Int.natCast_emod];rfl) (.cons rfl (.cons rfl (.cons rfl .nil))))) rfl
 show dv (a.drop (k-1))=d*dv ((ws.set (k-1) (vv/d)).drop (k-1))+vv%d
 have hk2:k-1+1=k:=by omega
 rw[List.drop_eq_getElem_cons (by omega:k-1<a.length),List.drop_eq_getElem_cons (by simp;omega:k-1<(ws.set (k-1) (vv/d)).length),hk2,List.getElem_set_self,List.drop_set_of_lt (by omega)]
 have e3:a[k-1]'(by omega)=a.getD (k-1) 0:=by rw[List.getD_eq_getElem?_getD,List.getElem?_eq_getElem (by omega)];rfl
 simp only[dv,e3,hinv]
 have h1:=Nat.div_add_mod vv d
 have h2:d*(vv/d+4294967296*dv (ws.drop k))=d*(vv/d)+4294967296*(d*dv (ws.drop k)):=by rw[Nat.mul_add,Nat.mul_left_comm]
 rw[h2,Nat.mul_add]
 omega
section
variable {P:Program} {C:Ctx} {n:Nat} {fr:Fr} {own:List Own} {G:Gh} {dst:Option Nat} {t t1 t2 ty':TypeId} {pos:String} {af:Array Edge} {gd:Option (Nat×Bool)} {x y:Operand}
theorem aDz{k:IntKind}{p q:Int}(hx:opv fr x=some (.int k p))(hy:opv fr y=some (.int k q)):
  Yd P C fr own G ⟨dst, .call ⟨.builtin .min, #[x,y], #[t1,t2]⟩,ty',pos,af,gd⟩ (.int k (if q<p then q else p)):=by
 intro a w hf hh
 simp only[execOp,resolve,List.map_toArray,List.map_cons,List.map_nil,aac hf hx,aac hf hy]
 have h1:(Builtin.min_ #[t1,t2] ty' #[.int k p, .int k q]).run P w= .ok (.int k (if q<p then q else p)) w:=by
  simp[Builtin.min_,Builtin.min2,aao]
 exact aan h1
end
structure ap0 where
 ws:List Nat
 i:Nat
theorem avq{A G:Gh}{x:SV}{ds:List Nat}{k kk:Nat}(hx:IsD A x ds)[GL A G](hk32:k<32)(hk:dv ds*2^k<2^kk)(hb:ds.length≤1125899906842):
  Fn Tryz.prog 301 [x.v, .int .u64 (k:Int)] G (fun v G'=> ∃z:SV,v=z.v∧IsN kk G' z (dv ds*2^k)∧z.c≤(trimD ds).length+1):=by
 have htl:=abt ds
 have hcall:=fun G1 (_:GL A G1)=>aa2 (G:=G1) hx (by omega)
 have hxt:=hx.trim
 rw[←aa9 ds] at hk⊢
 generalize trimD ds=a at*
 have hok:=hxt.ok
 refine Fn.intro Tryz.func301 J J Tryz.ntmps301 rfl ?_
 intro C _ _
 refine sR<|sa J J<|zE<|sR<|sm J J<|?_
 refine sc (zC J J (hcall _ inferInstance) rfl ?_)
 rintro _ G1 _ rfl
 refine sm J J<|sy (aDz J J) rfl<|?_
 rw[if_neg (by omega: ¬(1048576:Int)<(k:Int))]
 refine sa J J<|sa J J<|zE<|aaj<|sR<|sm J J<|adj J J<|sy (ab3 J J) rfl<|zE<|?_
 refine aaH rfl (fun hc=>?_) (fun hc=>?_) -- slot 17
 ·refine sR<|sa J J<|zE<|aaL<|?_
  have:a=[]:=List.eq_nil_of_length_eq_zero (by omega)
  subst this
  refine zD (.tmp rfl .nil) ⟨⟨none,0,0⟩,rfl,?_⟩
  have e0:dv []*2^k=0:=by simp[dv]
  rw[e0]
  exact⟨⟨by unfold dg;exact .nil _,Nat.pow_pos (by omega)⟩,Nat.zero_le _⟩
 refine zK<|sR<|sm J J<|sy (ahq J J (by omega) (by omega) (by decide)) rfl<|sy (aqS rfl) rfl<|sm J J<|sy (ahC J J (by omega) (by decide)) rfl<|?_
 rw[show(k:Int)/32=0 by omega,show(k:Int)%32=k by omega]
 refine sa J J<|sa J J<|zE<|sR<|sm J J<|adj J J<|sm J J<|sy (aaq J J) rfl<|sy (aaq J J) rfl<|?_
 refine sc (aeQ J J (by omega) (by omega) (by omega) (by rfl) rfl ?_)
 intro b2
 rw[aee,show((a.length:Int)+0+1).toNat=a.length+1 by omega]
 refine sa J J<|zE<|aaj<|sR<|sm J J<|adj J J<|sm J J<|zE<|aas<|?_
 refine abZ (X:=ap0) (fun q=>[(31, .int .i64 q.i),(30, .int .i64 a.length),(29, .slice x.a a.length x.c),(6, .int .u64 k),(7, .slice (some ⟨b2,0,none⟩) (a.length+1) (a.length+1)),(5, .int .i64 0)])
  (fun q=>[⟨b2,q.ws.map dI,262,true⟩])
  (fun q _=>q.i≤a.length∧q.ws.length=a.length+1∧DOk q.ws∧(∀j,q.i<j→q.ws.getD j 0=0)∧q.ws.getD q.i 0<2^k∧dv q.ws=dv (a.take q.i)*2^k) (fun q=>a.length-q.i) ⟨List.replicate (a.length+1) 0,0⟩
  ⟨Nat.zero_le _,by simp, .replicate _,fun j _=>ami _ _,by rw[ami];exact Nat.pow_pos (by omega),by simp[dv,acB]⟩ (.cons rfl (.cons rfl (.cons rfl (.cons rfl (.cons rfl (.cons rfl .nil)))))) rfl ?_
 rintro ⟨ws,i⟩ Gy _ ⟨hia,hwl,hwo,hz,hwi,hinv⟩
 simp only[] at hia hwl hwo hz hwi hinv⊢
 refine sR<|sy (acj J J) rfl<|zE<|aaj<|?_
 refine abn rfl (fun hc=>?_) (fun hc=>?_) -- slot 32
 ·have hin:i=a.length:=by omega
  refine abu<|abI<|abI<|aar<|sR<|sm J J<|?_
  refine aci b2 (.hd ..) (fun G3 _ hgb=>?_)
  have hD:IsD G3 ⟨some ⟨b2,0,none⟩,a.length+1,a.length+1⟩ ws:= .of_block hwo hgb.h hwl.symm (Nat.le_refl _) (by rw[List.take_of_length_le (by simp)])
  have hdv:dv a*2^k=dv ws:=by rw[hinv,hin,List.take_of_length_le (Nat.le_refl _)]
  refine sc (zC J J (aa2 hD (by omega)) rfl ?_)
  rintro _ G4 _ rfl
  refine sa J J<|zE<|aaL<|?_
  refine zD (.tmp rfl .nil) ⟨⟨some ⟨b2,0,none⟩,(trimD ws).length,a.length+1⟩,rfl,?_⟩
  have h3:=hD.trim.up (G:=G4)
  rw[hdv] at hk⊢
  exact⟨⟨by rw[adr hwo];exact h3,hk⟩,Nat.le_refl _⟩
 have hia':i<a.length:=by omega
 have hga:=hok.get i
 have hp32:(2:Nat)^k≤2^31:=Nat.pow_le_pow_right (by omega) (by omega)
 have hp0:0<(2:Nat)^k:=Nat.pow_pos (by omega)
 have hvb:a.getD i 0*2^k<4294967296*2^k:=Nat.mul_lt_mul_of_pos_right hga hp0
 have hv64:a.getD i 0*2^k<18446744073709551616:=by omega
 refine zK<|aaj<|aas<|sR<|sm J J<|sy (abU (z:=⟨x.a,a.length,x.c⟩) hxt J J (by omega) (by show(i:Int)<(a.length:Nat);omega)) rfl<|sy (abX hxt rfl (by omega)) rfl<|sa J J<|sa J J<|zE<|aaj<|?_
 rw[Int.toNat_natCast]
 refine aam<|sm J J<|sy (aaN rfl) rfl<|sm J J<|sy (aj3 J J (by omega)) rfl<|?_
 rw[aem (a.getD i 0) k (by omega) hv64 (Int.toNat_natCast k)]
 -- the low digit is a multiple of 2^k
 have hlow:a.getD i 0*2^k%4294967296=a.getD i 0%2^(32-k)*2^k:=by
  have:4294967296=2^(32-k)*2^k:=by rw[←Nat.pow_add,show 32-k+k=32 by omega]
  rw[this,Nat.mul_mod_mul_right]
 have hlt:a.getD i 0*2^k%4294967296<4294967296:=Nat.mod_lt _ (by decide)
 have hsum:ws.getD i 0+a.getD i 0%2^(32-k)*2^k<4294967296:=by
  have h1:a.getD i 0%2^(32-k)<2^(32-k):=Nat.mod_lt _ (Nat.pow_pos (by omega))
  have h2:(a.getD i 0%2^(32-k)+1)*2^k≤2^(32-k)*2^k:=Nat.mul_le_mul_right _ h1
  rw[←Nat.pow_add,show 32-k+k=32 by omega,Nat.add_mul] at h2
  omega
 refine sa J J<|zE<|sR<|sm J J<|?_
 refine sm J J<|sm J J<|sy (aaq J J) rfl<|sy (abf J J (by omega) (by omega)) rfl<|?_
 rw[show((i:Int)+0).toNat=i by omega]
 refine sy (af9 rfl (by omega)) rfl<|sm J J<|sy (abg rfl) rfl<|?_
 rw[show((a.getD i 0*2^k:Nat):Int)%4294967296=((a.getD i 0%2^(32-k)*2^k:Nat):Int) by rw[←hlow];rfl]
 refine sy (ab5 J J (awC (ws.getD i 0) (a.getD i 0%2^(32-k)) k hwi hsum)) rfl<|sy (abf J J (by omega) (by omega)) rfl<|?_
 rw[show((i:Int)+0).toNat=i by omega]
 refine sc (aa8 (d:=ws.getD i 0+a.getD i 0%2^(32-k)*2^k) J J J (.hd ..) (by omega) rfl ?_)
 refine zE<|aam<|sm J J<|sm J J<|sm J J<|sy (aaq J J) rfl<|sy (aaq J J) rfl<|sm J J<|sy (adU J J (by decide)) rfl<|?_
 rw[aDH]
 have hhi:a.getD i 0*2^k/4294967296<2^k:=Nat.div_lt_of_lt_mul hvb
 refine sy (abg rfl) rfl<|sy (abf J J (by omega) (by omega)) rfl<|?_
 rw[show((i:Int)+0+1).toNat=i+1 by omega]
 refine sc (aa8 (d:=a.getD i 0*2^k/4294967296) J J (by omega) (.hd ..) (by simp;omega) rfl ?_)
 refine zE<|aam<|sy (aaq J J) rfl<|sm J J<|zE<|?_
 refine aaX ⟨(ws.set i (ws.getD i 0+a.getD i 0%2^(32-k)*2^k)).set (i+1) (a.getD i 0*2^k/4294967296),i+1⟩ ⟨by show i+1≤_;omega,by simp[hwl],(hwo.set _ hsum).set _ (by omega),fun j hj=>?_,?_,?_⟩ (by show a.length-(i+1)<a.length-i;omega) (.cons rfl (.cons rfl (.cons rfl (.cons rfl (.cons rfl (.cons rfl .nil)))))) rfl
 ·have hj':i+1<j:=hj
  show((ws.set i _).set (i+1) _).getD j 0=0
  rw[ahk (by omega),ahk (by omega)];exact hz j (by omega)
 ·show((ws.set i _).set (i+1) (a.getD i 0*2^k/4294967296)).getD (i+1) 0<2^k
  rw[List.getD_eq_getElem?_getD,List.getElem?_set_self (by simp;omega)]
  exact hhi
 ·show dv ((ws.set i (ws.getD i 0+a.getD i 0%2^(32-k)*2^k)).set (i+1) (a.getD i 0*2^k/4294967296))=dv (a.take (i+1))*2^k
  have h1:=afz (ws.set i (ws.getD i 0+a.getD i 0%2^(32-k)*2^k)) (i+1) (a.getD i 0*2^k/4294967296) (by simp;omega)
  rw[ahk (by omega),hz (i+1) (by omega),Nat.mul_zero,Nat.add_zero] at h1
  have h2:=afz ws i (ws.getD i 0+a.getD i 0%2^(32-k)*2^k) (by omega)
  rw[Nat.mul_add] at h2
  rw[h1,aax,Nat.add_mul,←hinv,Nat.mul_assoc,ajM (4294967296^i) (a.getD i 0*2^k),←hlow] at*
  rw[Nat.pow_succ]
  omega
end Go.Sx
end
section
namespace Go.Sx
theorem ayz(i:Nat):(4294967296:Nat)^(i+1)=4294967296^i*4294967296:=Nat.pow_succ ..
theorem aBF{U p V T S first third:Nat}(hU:U<(first*4294967296+third+1)*p)(h3:third<4294967296)(hV:(T*4294967296+S)*p≤V)(hT:0<T):
  U<(first/T+1)*V:=by
 have h1:first+1≤(first/T+1)*T:=by
  have:=Nat.lt_mul_div_succ first hT
  rw[Nat.mul_comm];omega
 calc U<(first*4294967296+third+1)*p:=hU
  _≤((first+1)*4294967296)*p:=Nat.mul_le_mul_right _ (by omega)
  _≤(((first/T+1)*T)*4294967296)*p:=Nat.mul_le_mul_right _ (Nat.mul_le_mul_right _ h1)
  _=(first/T+1)*((T*4294967296)*p):=by rw[Nat.mul_assoc (first/T+1),Nat.mul_assoc (first/T+1)]
  _≤(first/T+1)*V:=Nat.mul_le_mul_left _ (Nat.le_trans (Nat.mul_le_mul_right _ (Nat.le_add_right _ _)) hV)
theorem aHi{U p V T S first third v0:Nat}(hU:(first*4294967296+third)*p≤U)(hV:V=(T*4294967296+S)*p+v0)(hv:v0<p)(hlt:U<V*4294967296):first≤T*4294967296+S:=by
 rcases Nat.lt_or_ge (T*4294967296+S) first with h|h
 ·exfalso
  have h1:(T*4294967296+S+1)*p≤first*p:=Nat.mul_le_mul_right p h
  rw[Nat.add_mul _ 1,Nat.one_mul] at h1
  rw[Nat.add_mul,Nat.mul_right_comm] at hU
  have:0≤third*p:=Nat.zero_le _
  omega
 ·exact h
theorem aB6{U p V T S first third g r:Nat}(hU:U<(first*4294967296+third+1)*p)(hV:(T*4294967296+S)*p≤V)(hg:first=g*T+r)(hc:r*4294967296+third<g*S):U<g*V:=by
 refine Nat.lt_of_lt_of_le hU (Nat.le_trans (Nat.mul_le_mul_right p (m:=g*(T*4294967296+S)) ?_) ?_)
 ·rw[Nat.mul_add,←Nat.mul_assoc,hg,Nat.add_mul];omega
 ·rw[Nat.mul_assoc];exact Nat.mul_le_mul_left _ hV
theorem aA1{U p V T S first third g r v0:Nat}(hU:(first*4294967296+third)*p≤U)(hV:V=(T*4294967296+S)*p+v0)(hv:v0<p)(hT:0<T)(hg:first=g*T+r)(hgB:g<4294967296)(hc:g*S≤r*4294967296+third):g*V<U+V:=by
 have h1:g*((T*4294967296+S)*p)≤U:=by
  rw[←Nat.mul_assoc]
  refine Nat.le_trans (Nat.mul_le_mul_right p ?_) hU
  rw[Nat.mul_add,←Nat.mul_assoc,hg,Nat.add_mul];omega
 have h2:g*v0≤4294967295*v0:=Nat.mul_le_mul_right _ (by omega)
 have h3:4294967296*p≤V:=by
  rw[hV]
  refine Nat.le_trans (Nat.mul_le_mul_right p ?_) (Nat.le_add_right _ _)
  omega
 have h4:g*V=g*((T*4294967296+S)*p)+g*v0:=by rw[←Nat.mul_add,←hV]
 omega
theorem aBy{U V R g:Nat}(h:U<(g+1)*V)(hr:R+g*V=U):R<V:=by
 rw[Nat.add_mul,Nat.one_mul] at h
 omega
theorem azR{U V R R' g w M:Nat}(h2:g*V<U+V)(hr:R+g*V=U+M)(hb:R'+w*M=R+V)(hR:R<M)(hR':R'<M)(hw:w≤1)(hg:0<g):R'+(g-1)*V=U∧R'<V:=by
 have hgv:g*V=(g-1)*V+V:=by
  conv=>lhs;rw[show g=(g-1)+1 by omega,Nat.add_mul,Nat.one_mul]
 have:w=1:=by
  rcases Nat.lt_or_ge w 1 with h|h
  ·have:w=0:=by omega
   subst this
   omega
  ·omega
 subst this
 omega
theorem afL(us:List Nat)(i:Nat):dv (us.drop i)=us.getD i 0+4294967296*dv (us.drop (i+1)):=by
 rcases Nat.lt_or_ge i us.length with h|h
 ·rw[List.drop_eq_getElem_cons h];simp[dv,List.getD,List.getElem?_eq_getElem h]
 ·rw[List.drop_of_length_le h,List.drop_of_length_le (by omega)]
  simp[dv,List.getElem?_eq_none h,List.getD]
theorem aeE(us:List Nat)(i:Nat):dv us=dv (us.take i)+4294967296^i*dv (us.drop i):=by
 rcases Nat.lt_or_ge us.length i with h|h
 ·rw[List.take_of_length_le (by omega),List.drop_of_length_le (by omega)];simp[dv]
 ·exact aiE us i h
theorem afH{us:List Nat}(h:DOk us)(i:Nat):dv (us.take i)<4294967296^i:=by
 refine Nat.lt_of_lt_of_le (aeK (h.take i)) (Nat.pow_le_pow_right (by decide) ?_)
 simp[List.length_take];omega
theorem aiw{us:List Nat}{i:Nat}(hd:dv us<4294967296^i):dv (us.drop i)=0:=by
 have h:=aeE us i
 rcases Nat.eq_zero_or_pos (dv (us.drop i)) with h0|h0
 ·exact h0
 ·have:=Nat.mul_le_mul_left (4294967296^i) h0
  omega
theorem aBj{W W' U E p u x bo b c c1 g d:Nat}(hs:W'+p*u=W+p*x)(hw:W+E=U+(bo+c)*p)(hc:c1=c+g*d)(hx:x+(c1%4294967296+bo)=u+b*4294967296):
  W'+(E+g*d*p)=U+(b+c1/4294967296)*(p*4294967296):=by
 have h1:=congrArg (p* ·) hx
 simp only[Nat.mul_add] at h1
 have h2:p*c1=p*(c1%4294967296)+p*(c1/4294967296)*4294967296:=by
  rw[Nat.mul_assoc,←Nat.mul_add,Nat.mod_add_div']
 have h3:p*c1=p*c+p*(g*d):=by rw[hc,Nat.mul_add]
 rw[Nat.add_mul,Nat.mul_comm bo,Nat.mul_comm c] at hw
 rw[Nat.mul_comm (g*d),Nat.add_mul,←Nat.mul_assoc b,←Nat.mul_assoc (c1/4294967296),Nat.mul_comm b,Nat.mul_comm (c1/4294967296)]
 rw[←Nat.mul_assoc] at h1
 omega
theorem aBn{W W' U E p u x bo b c:Nat}(hs:W'+p*u=W+p*x)(hw:W+E=U+(bo+c)*p)(hx:x+(c+bo)=u+b*4294967296):W'+E=U+b*(p*4294967296):=by
 have h1:=congrArg (p* ·) hx
 simp only[Nat.mul_add] at h1
 rw[Nat.add_mul,Nat.mul_comm bo,Nat.mul_comm c] at hw
 rw[←Nat.mul_assoc b,Nat.mul_comm b]
 rw[←Nat.mul_assoc] at h1
 omega
theorem aAM{W W' R E p u d c:Nat}(hs:W'+p*u=W+p*((c+(u+d))%4294967296))(hw:W+c*p=R+E):W'+(c+(u+d))/4294967296*(p*4294967296)=R+(E+d*p):=by
 have h2:p*(c+(u+d))=p*((c+(u+d))%4294967296)+p*((c+(u+d))/4294967296)*4294967296:=by
  rw[Nat.mul_assoc,←Nat.mul_add,Nat.mod_add_div']
 rw[Nat.mul_add p c,Nat.mul_add p u] at h2
 rw[Nat.mul_comm c] at hw
 rw[Nat.mul_comm d,←Nat.mul_assoc,Nat.mul_comm _ p]
 omega
theorem aAJ{W W' R p u c:Nat}(hs:W'+p*u=W+p*((u+c)%4294967296))(hw:W+c*p=R):W'+(u+c)/4294967296*(p*4294967296)=R:=by
 have h2:p*(u+c)=p*((u+c)%4294967296)+p*((u+c)/4294967296)*4294967296:=by
  rw[Nat.mul_assoc,←Nat.mul_add,Nat.mod_add_div']
 rw[Nat.mul_add p u] at h2
 rw[Nat.mul_comm c] at hw
 rw[←Nat.mul_assoc,Nat.mul_comm _ p]
 omega
theorem aFo{us:List Nat}(h:DOk us)(i:Nat)(hd:dv us<4294967296^(i+3)):
  dv us=((us.getD (i+2) 0*4294967296+us.getD (i+1) 0)*4294967296+us.getD i 0)*4294967296^i+dv (us.take i):=by
 have h0:=aiw hd
 rw[aeE us i,afL us i,afL us (i+1),afL us (i+2),h0,Nat.add_comm,Nat.mul_comm]
 congr 2
 omega
theorem aF5{us:List Nat}(h:DOk us)(i:Nat)(hd:dv us<4294967296^(i+2)):
  dv us=(us.getD (i+1) 0*4294967296+us.getD i 0)*4294967296^i+dv (us.take i):=by
 have h0:=aiw hd
 rw[aeE us i,afL us i,afL us (i+1),h0,Nat.add_comm,Nat.mul_comm]
 congr 2
 omega
theorem ahc{us:List Nat}{k i d:Nat}(h:DOk us)(hd:d<4294967296)(hk:dv us<4294967296^k)(hi:i<k):dv (us.set i d)<4294967296^k:=by
 rw[aeE _ k,List.drop_set,if_pos hi,aiw hk,Nat.mul_zero,Nat.add_zero]
 exact afH (h.set i hd) k
end Go.Sx
end
