/-
  The abstract machine: functions whose result is one of a family. The abstract machine: calls whose outcome is one of a family (borrowed variables, new variables, rows handed back). The abstract machine: calls that borrow a variable and hand back a row. The abstract machine: functions that hand back a new variable. The abstract machine: calls that take a row over and hand one back in a tuple. The abstract machine: rows lent to a call that reads, rows with room, calls that take such a row over. The abstract machine: the steps for rows with room. The abstract machine: calls of functions that the model itself answers, over plain values. The abstract machine: words of 32 bits. Zero values of the program's types as deep values. Package nat: the functions without a loop over two numbers. DERIVED: THE SHELF's CONTRACTS AT THIS DUMP, IN PLAIN WORDS (tools/lay-plain.mjs out of 'TryzShelf.lean', which tools/lay-shelf.mjs wrote): THE SAME DECLARATIONS UNDER THE SAME NAMES: 'import', 'namespace', 'open', 'def', 'theorem' AND NOTHING ELSE: no command of the shelf's: FOR A HAND-IN. Each laying: the table of numbers ('.._ren') and one theorem, a field a fact of the dump's own or the kernel's comparison; each contract: ONE APPLICATION. Package nat: words, the number of digits, comparison.
-/
import Derived.Test.YtlnphbkcelfboaaGreatDoorMn6
import Derived.Shelf.Small.Bits
import Derived.Shelf.Bits.Mul64
import Derived.Test.YtlnphbkcelfboaaGreatDoorProg
set_option linter.unusedSimpArgs false
set_option linter.unusedVariables false
section
set_option maxRecDepth 100000
namespace Go.Sx
open Go Go.Proofs
section
variable {GB:Gh} {C:Ctx} {n:Nat} {fr1 fr2:FrX} {own1 own2:OwX} {cf1 cf2:Cf} {vc1 vc2:List Prop} {Q0:Exit→Act→World→Prop} {fr fr':FrX} {own own':OwX} {cf cf':Cf} {vc:List Prop} {ops:Array Oper} {o:Oper} {K:List Kt} {r:List Oper}
theorem csd[fu1:Fu][fu2:Fu](d:Nat){p:Prop}{hp:Decidable p}(hl:lookX fr d=some (.d (.v (.bool (@decide p hp)))))(g1:go tt n fu1.n [] ((d, .tt)::fr) own (.ops ops r K)=⟨vc1,fr1,own1,cf1⟩)(g2:go tt n fu2.n [] ((d, .ff)::fr) own (.ops ops r K)=⟨vc2,fr2,own2,cf2⟩)
  (k1:p→CfS Tryz.prog GB C n Q0 fr1 own1 cf1)(k2: ¬p→CfS Tryz.prog GB C n Q0 fr2 own2 cf2)
  (v1:p→allP vc1:=by intro;first|exact trivial|(simp only[allP];omega)|(simp only[allP,List.length_map,List.length_set,List.length_replicate];omega))(v2: ¬p→allP vc2:=by intro;first|exact trivial|(simp only[allP];omega)|(simp only[allP,List.length_map,List.length_set,List.length_replicate];omega)):CfS Tryz.prog GB C n Q0 fr own (.ops ops r K):=
 csb (fu1:=fu1) (fu2:=fu2) d hl g1 g2 (fun h=>k1 (of_decide_eq_true h)) (fun h=>k2 (of_decide_eq_false h)) (fun h=>v1 (of_decide_eq_true h)) (fun h=>v2 (of_decide_eq_false h))
theorem nlC(d:Nat)(hl:lookX fr d=some .nl){c:Code}(h:CfS Tryz.prog GB C n Q0 ((d, .d (.sl []))::fr) own (.code c K)):CfS Tryz.prog GB C n Q0 fr own (.code c K):=
 lookX_same (g:= .d (.sl [])) hl (fun ρ G y hy=>(show Is G (.sl []) y from toDX_is (ρ:=ρ) (f:= .nl) hy rfl)) h
theorem OpR.to{lk:LK}{bk:BM}{o:Oper}{f g:FX}(h:OpR Tryz.prog GB C n lk bk o f [] [])(e: ∀ρ G y,IsX ρ G f y→IsX ρ G g y):OpR Tryz.prog GB C n lk bk o g [] []:=fun hd tl tb Q h1 h2 hf hk=>
 h hd tl tb Q h1 h2 hf ⟨fun ρ G ov a w r=>hk.run ρ G ov a w ⟨r.gb,r.h,r.sz,r.df,fun k f' e'=>by
  cases ho:o.dst with
  |none=>exact r.fx k f' (by simpa only[ho,upL] using e')
  |some d=>
   have hr:=r.fx
   simp only[ho,upL] at e' hr
   by_cases q:k=d
   ·rw[if_pos q] at e';cases e'
    obtain⟨y,h3,h4⟩:=hr k f (by rw[if_pos q])
    exact⟨y,h3,e _ _ _ h4⟩
   ·rw[if_neg q] at e'
    exact hr k f' (by rw[if_neg q];exact e'),r.bx,r.dj⟩⟩
def opS(fr:FrX)(own:OwX)(cf:Cf):Option (Oper×FX):=match opC fr cf with
 |some o=>match core tt (lkC fr cf) (bkC fr own cf) o.dst o.op with
  |some ⟨none,f,[],[]⟩=>some (o,f)
  |_=>none
 |none=>none
theorem csS[fu1:Fu][fu2:Fu]{f:FX}{p:Prop}{hp:Decidable p}(hs:opS fr own cf=some (o,f))(hb:toB f=some (@decide p hp))(g1:goA tt n fu1.n fr own cf .tt [] []=⟨vc1,fr1,own1,cf1⟩)(g2:goA tt n fu2.n fr own cf .ff [] []=⟨vc2,fr2,own2,cf2⟩)
  (k1:p→CfS Tryz.prog GB C n Q0 fr1 own1 cf1)(k2: ¬p→CfS Tryz.prog GB C n Q0 fr2 own2 cf2)
  (v1:p→allP vc1:=by intro;first|exact trivial|(simp only[allP];kernel_rfl)|(simp only[allP];omega)|(simp only[allP,List.length_map,List.length_set,List.length_replicate];omega))(v2: ¬p→allP vc2:=by intro;first|exact trivial|(simp only[allP];kernel_rfl)|(simp only[allP];omega)|(simp only[allP,List.length_map,List.length_set,List.length_replicate];omega)):CfS Tryz.prog GB C n Q0 fr own cf:=by
 unfold opS at hs
 split at hs<;>try (cases hs;done)
 rename_i o' hh
 split at hs<;>cases hs
 rename_i hc
 obtain⟨dst,op,ty,pos,af,gd⟩:=o
 have h0:=core_ok (P:=Tryz.prog) (GB:=GB) (C:=C) (n:=n) (ty':=ty) (pos:=pos) (af:=af) (gd:=gd) tt_ok hc (fun p e=>by cases e)
 by_cases h:p
 ·exact us hh (OpR.to h0 fun ρ G y hy=>by rw[toB_is hy hb,decide_eq_true h];exact rfl) g1 (v1 h) (k1 h)
 ·exact us hh (OpR.to h0 fun ρ G y hy=>by rw[toB_is hy hb,decide_eq_false h];exact rfl) g2 (v2 h) (k2 h)
theorem frz_sx{tl:LK}{tb:BM}{Ψ:Act→World→Prop}{d:Nat}{B:Bk}{f:FX}{v:DV}
  (hz: ∀lk bk ρ G ov a w,RlX GB C n lk bk ρ G ov a w→bk d=some B→ ∃G' ov',GLe G G'∧HRel C ov' G' w∧(∀o∈ov,(ρ d).a≠some ⟨o.b,0,none⟩→o∈ov')∧ ∀y,IsX ρ G f y→Is G' v y)(hk:SX GB C n (upL tl (some d) (.d v)) (Sx.upB tb [(d,none)]) Ψ):SX GB C n (upL tl (some d) f) (Sx.upB tb [(d,some B)]) Ψ:=by
 refine⟨fun ρ G ov a w r=>?_⟩
 have hbd:Sx.upB tb [(d,some B)] d=some B:=by simp[Sx.upB]
 obtain⟨G',ov',h1,h2,h3,h4⟩:=hz _ _ ρ G ov a w r hbd
 refine hk.run ρ G' ov' a w ⟨r.gb.trans h1,h2,r.sz,r.df,fun k g e=>?_,fun m B' e=>?_,fun m m' B1 B2 e e'=>?_⟩
 ·by_cases hk:k=d
  ·subst hk
   simp only[upL,if_true] at e;cases e
   obtain⟨y,g1,g2⟩:=r.fx k f (by simp[upL])
   exact⟨y,g1,h4 y g2⟩
  ·simp only[upL,hk,if_false] at e
   obtain⟨y,g1,g2⟩:=r.fx k g (by simp[upL,hk,e])
   exact⟨y,g1,g2.up h1⟩
 ·simp only[Sx.upB] at e
  split at e
  ·cases e
  ·rename_i hm
   have e':Sx.upB tb [(d,some B)] m=some B':=by simp[Sx.upB,hm,e]
   obtain⟨os,g1,g2⟩:=r.bx m B' e'
   exact⟨os,g1.up h1,fun o ho=>h3 o (g2 o ho) fun hc=>r.dj m d B' B e' hbd hm _ (g1.blk ho) hc⟩
 ·simp only[Sx.upB] at e e'
  split at e
  ·cases e
  ·rename_i hm
   split at e'
   ·cases e'
   ·rename_i hm'
    exact r.dj m m' B1 B2 (by simp[Sx.upB,hm,e]) (by simp[Sx.upB,hm',e'])
theorem OpR.frz2{lk:LK}{bk:BM}{o:Oper}{d nm:Nat}{B:Bk}{f:FX}{v:DV}(hd:o.dst=some d)(h:OpR Tryz.prog GB C n lk bk o f [(nm,none),(d,some B)] [d])
  (hz: ∀lk bk ρ G ov a w,RlX GB C n lk bk ρ G ov a w→bk d=some B→ ∃G' ov',GLe G G'∧HRel C ov' G' w∧(∀o∈ov,(ρ d).a≠some ⟨o.b,0,none⟩→o∈ov')∧ ∀y,IsX ρ G f y→Is G' v y):OpR Tryz.prog GB C n lk bk o (.d v) [(nm,none),(d,none)] [d]:=by
 intro hd' tl tb K s1 s2 hf hk
 refine h hd' tl tb K s1 s2 hf ?_
 rw[hd] at hk⊢
 exact frz_sx (tb:=Sx.upB tb [(nm,none)]) hz hk
def aBlN(d:Nat)(nm:Option Nat):List (Nat×Option Bk):=match nm with
 |some nm=>[(nm,none),(d,none)]
 |none=>[(d,none)]
theorem apf[fu:Fu]{d:Nat}{nm:Option Nat}{e s b:Nat}{ds ds2:List DV}(ds':List DV)(h:appA fr own cf=some ⟨d,nm,e,s,b,ds,ds2⟩)(hds:ds++ds2=ds')(ho2:slOk s ds2)(hgo:goA tt n fu.n fr own cf (.d (.sl ds')) (aBlN d nm) [d]=⟨vc,fr',own',cf'⟩)(k:CfS Tryz.prog GB C n Q0 fr' own' cf')
  (ho:nm.isNone=true→slOk s ds∧0<ds2.length:=by intro h;first|(cases h;done)|exact⟨okRow_spec rfl,by simp⟩)(hbd:(ds.length+ds2.length)*b≤140737488355328:=by simp;omega)
  (hv:allP vc:=by first|exact trivial|(simp only[allP];kernel_rfl)|(simp only[allP];omega)|(simp only[allP,List.length_map,List.length_set,List.length_replicate];omega)):CfS Tryz.prog GB C n Q0 fr own cf:=by
 obtain⟨o,h1,h2,h3⟩:=appA_ok (GB:=GB) (C:=C) (n:=n) h ds' hds ho ho2 hbd
 cases nm with
 |none=>exact us h1 (h3.frzRow h2) hgo hv k
 |some nm=>exact us h1 (OpR.frz2 h2 h3 fun _ _ _ _ _ _ _ r hb=>r.frzRow hb) hgo hv k
theorem knT[fu:Fu]{f:FX}(hs:opS fr own cf=some (o,f))(hb:toB f=some true)(hgo:goA tt n fu.n fr own cf .tt [] []=⟨vc,fr',own',cf'⟩)(k:CfS Tryz.prog GB C n Q0 fr' own' cf')
  (hv:allP vc:=by first|exact trivial|(simp only[allP];kernel_rfl)|(simp only[allP];omega)|(simp only[allP,List.length_map,List.length_set,List.length_replicate];omega)):CfS Tryz.prog GB C n Q0 fr own cf:=by
 unfold opS at hs
 split at hs<;>try (cases hs;done)
 rename_i o' hh
 split at hs<;>cases hs
 rename_i hc
 obtain⟨dst,op,ty,pos,af,gd⟩:=o
 have h0:=core_ok (P:=Tryz.prog) (GB:=GB) (C:=C) (n:=n) (ty':=ty) (pos:=pos) (af:=af) (gd:=gd) tt_ok hc (fun p e=>by cases e)
 exact us hh (OpR.to h0 fun ρ G y hy=>by rw[toB_is hy hb];exact rfl) hgo hv k
theorem knF[fu:Fu]{f:FX}(hs:opS fr own cf=some (o,f))(hb:toB f=some false)(hgo:goA tt n fu.n fr own cf .ff [] []=⟨vc,fr',own',cf'⟩)(k:CfS Tryz.prog GB C n Q0 fr' own' cf')
  (hv:allP vc:=by first|exact trivial|(simp only[allP];kernel_rfl)|(simp only[allP];omega)|(simp only[allP,List.length_map,List.length_set,List.length_replicate];omega)):CfS Tryz.prog GB C n Q0 fr own cf:=by
 unfold opS at hs
 split at hs<;>try (cases hs;done)
 rename_i o' hh
 split at hs<;>cases hs
 rename_i hc
 obtain⟨dst,op,ty,pos,af,gd⟩:=o
 have h0:=core_ok (P:=Tryz.prog) (GB:=GB) (C:=C) (n:=n) (ty':=ty) (pos:=pos) (af:=af) (gd:=gd) tt_ok hc (fun p e=>by cases e)
 exact us hh (OpR.to h0 fun ρ G y hy=>by rw[toB_is hy hb];exact rfl) hgo hv k
theorem dpE(nm:Nat){ty:TypeId}{cs:List FX}{lo:Bool}{ds:List DV}{own1:OwX}{e:Exit}(hb:lookO own nm=some (.o ty cs lo))(hc:toDXs cs=some ds)(ho:(nm,some (.o ty (ds.map .d) lo))::own=own1)(k:CfS Tryz.prog GB C n Q0 fr own1 (.ex e K)):CfS Tryz.prog GB C n Q0 fr own (.ex e K):=by
 subst ho
 have old: ∀m B,lookO ((nm,some (.o ty (ds.map .d) lo))::own) m=some B→ ∃B0,lookO own m=some B0:=fun m B e=>by
  rw[lookO_cons] at e
  split at e
  ·rename_i h;subst h;exact⟨_,hb⟩
  ·exact⟨_,e⟩
 refine⟨fun ρ G ov a w r=>k.run ρ G ov a w ⟨r.gb,r.h,r.sz,r.df,r.fx,fun m B e=>?_,fun m m' B B' e e'=>?_⟩⟩
 ·rw[lookO_cons] at e
  split at e
  ·rename_i h;subst h;cases e
   obtain⟨os,⟨b,m,h1,rfl,h2⟩,h3⟩:=r.bx _ _ hb
   exact⟨_,⟨b,m,h1,rfl,isXs_d (toDXs_is h2 hc)⟩,h3⟩
  ·exact r.bx _ _ e
 ·obtain⟨B0,h0⟩:=old _ _ e
  obtain⟨B1,h1⟩:=old _ _ e'
  exact r.dj m m' B0 B1 h0 h1
end
end Go.Sx
end

section
set_option maxRecDepth 100000
namespace Go.Sx
open Go Go.Proofs
section
variable {GB:Gh} {C:Ctx} {n:Nat} {Q0:Exit→Act→World→Prop} {fr fr':FrX} {own own':OwX} {cf cf':Cf} {vc:List Prop} {ops:Array Oper} {o:Oper} {K:List Kt} {r:List Oper}
def OpF(GB:Gh)(C:Ctx)(n:Nat)(lk:LK)(bk:BM)(o:Oper)(ι:Type)(f:ι→FX)(bl:ι→List (Nat×Option Bk))(nw:List Nat):Prop:=
 dstOk n o.dst=true→ ∀(tl:LK) (tb:BM) (K:Act→World→Prop),SubX lk tl→SubX bk tb→FreshX nw o.dst tl tb→(∀x,SX GB C n (upL tl o.dst (f x)) (Sx.upB tb (bl x)) K)→SX GB C n tl tb (fun a w=> ∀Q,o.wp Tryz.prog a w K Q)
def hdO:Cf→Option (Array Oper×Oper×List Oper×List Kt)
 | .ops ops (o::r) K=>some (ops,o,r,K)
 |_=>none
def goF(n q:Nat)(fr:FrX)(own:OwX)(cf:Cf)(f:FX)(bl:List (Nat×Option Bk)):Res:=match cf with
 | .ops ops (o::r) K=>setsK own bl fun own'=>putK fr o.dst f fun fr'=>go tt n q [] fr' own' (.ops ops r K)
 |_=>bad
def okF(n:Nat)(fr:FrX)(own:OwX)(cf:Cf)(nw:List Nat):Bool:=match cf with
 | .ops ops (o::_) _=>freshL nw o.dst fr own&&dstOk n o.dst&&grd ops (lookX fr) o.guard
 |_=>false
theorem usF{q:Nat}{ι:Type}{f:ι→FX}{bl:ι→List (Nat×Option Bk)}{nw:List Nat}{vc:ι→List Prop}{fr':ι→FrX}{own':ι→OwX}{cf':ι→Cf}(hh:opC fr cf=some o)(ho:okF n fr own cf nw=true)(h:OpF GB C n (lkC fr cf) (bkC fr own cf) o ι f bl nw)
  (hgo: ∀x,goF n q fr own cf (f x) (bl x)=⟨vc x,fr' x,own' x,cf' x⟩)(hv: ∀x,allP (vc x))(k: ∀x,CfS Tryz.prog GB C n Q0 (fr' x) (own' x) (cf' x)):CfS Tryz.prog GB C n Q0 fr own cf:=by
 obtain⟨ops,h1,h2⟩:=opC_ok hh
 cases cf with
 |ops ops' r K=>
  cases r with
  |nil=>cases h1
  |cons o' r=>
   cases h1
   simp only[okF,Bool.and_eq_true] at ho
   refine⟨fun ρ G ov a w rl=>?_⟩
   show wpL _ _ _ (o::r) a w
   unfold wpL
   rw[if_pos (grd_ok ho.2 ρ G ov a w rl)]
   refine(h ho.1.2 _ _ (wpL Tryz.prog ops (cQ Tryz.prog Q0 K) r) (SubX.refl _) (SubX.refl _) (freshL_ok ho.1.1) (fun x=>?_)).run ρ G ov a w rl _
   have hx:=hgo x
   unfold goF at hx
   simp only[setsK_eq,putK_eq] at hx
   have:=gx' (GB:=GB) (C:=C) (Q0:=Q0) hx (hv x) (k x)
   show SX GB C n (upL (lookX fr) o.dst (f x)) (Sx.upB (lookO own) (bl x)) _
   rw[←lookX_put,←lookO_sets]
   exact this
 |_=>cases ho
theorem ok_callN{lk:LK}{bk:BM}{fo:Operand}{args:Array Operand}{tys:Array TypeId}{f:FuncId}{d:Nat}{ds:List DV}{ι:Type}{ty ty0:TypeId}{pos:String}{af:Array Edge}{gd:Option (Nat×Bool)}{cs':ι→List DV}
  (ha:cargs lk fo args=some (f,ds))(hF:PN GB Tryz.prog f ds ty0 ι cs'):OpF GB C n lk bk ⟨some d, .call ⟨.value fo,args,tys⟩,ty,pos,af,gd⟩ ι (fun _=> .ov d 0) (fun x=>[(d,some (.o ty0 ((cs' x).map .d) true))]) [d]:=by
 intro hd tl tb K' s1 s2 hf hk
 refine⟨fun ρ G ov a w r Q=>?_⟩
 have r1:=r.mono s1 s2
 obtain⟨h1,h2⟩:=cargs_ok ha
 obtain⟨y,hy,hy'⟩:=r1.ev h1
 rw[(is_v (G:=G)).1 hy'] at hy
 obtain⟨vs,h3,h4⟩:=r1.evDs h2
 refine ch_callO (M:=[]) (rest:=ov) hy h3 (List.Perm.refl _) (hF G vs r.gb h4) hd (fun v own1 G' hG hK a' w' rl=>?_) a w Q ⟨r.h,r.sz,frA_ok a,r.df⟩
 obtain⟨x,b,m,rfl,rfl,hm⟩:=hK
 have rl':Rel C n (Sx.put (frA a) (some d) (.pointer (some ⟨b,0,none⟩))) (⟨b,m,ty0,true⟩::ov) G' a' w':=by simpa[relo,flM] using rl
 have hnd:=(List.pairwise_cons.1 rl'.h.nd).1
 exact(hk x).run _ G' _ a' w' (r.new (x:=⟨some ⟨b,0,none⟩,0,0⟩) (B':= .o ty0 ((cs' x).map .d) true) (os:=[⟨b,m,ty0,true⟩]) hf hG.le rl'.h ⟨b,m,by simp,rfl,isXs_d hm⟩ (fun o ho=>by rw[List.mem_singleton.1 ho];exact List.mem_cons_self)
  (fun o ho=>List.mem_cons_of_mem _ ho) (fun o ho e=>by cases e;exact hnd o ho rfl) (f:= .ov d 0) (y:= .pointer (some ⟨b,0,none⟩)) ⟨b,by simp,rfl⟩ (putA_rel rl'))
def calN(fr:FrX)(cf:Cf):Option (FuncId×List DV×Nat):=match opC fr cf with
 |some ⟨some d, .call ⟨.value fo,args,_⟩,_,_,_,_⟩=>match cargs (lkC fr cf) fo args with
  |some (f,ds)=>some (f,ds,d)
  |none=>none
 |_=>none
theorem cn[fu:Fu]{f:FuncId}{d:Nat}{ds:List DV}{ty:TypeId}{ι:Type}{cs':ι→List DV}{vc:ι→List Prop}{fr':ι→FrX}{own':ι→OwX}{cf':ι→Cf}(ha:calN fr cf=some (f,ds,d))(hF:PN GB Tryz.prog f ds ty ι cs')
  (hgo: ∀x,(mapD (cs' x) fun csx=>goF n fu.n fr own cf (.ov d 0) [(d,some (.o ty csx true))])=⟨vc x,fr' x,own' x,cf' x⟩)(k: ∀x,CfS Tryz.prog GB C n Q0 (fr' x) (own' x) (cf' x))(ho:okF n fr own cf [d]=true:=by rfl)
  (hv: ∀x,allP (vc x):=by intro;first|exact trivial|(simp only[allP];kernel_rfl)|(simp only[allP];omega)|(simp only[allP,List.length_map,List.length_set,List.length_replicate];omega)):CfS Tryz.prog GB C n Q0 fr own cf:=by
 unfold calN at ha
 split at ha<;>try (cases ha;done)
 rename_i hh
 split at ha<;>cases ha
 rename_i h1
 simp only[mapD_eq] at hgo
 exact usF hh ho (ok_callN h1 hF) hgo hv k
def PMXpost(C:Ctx)(b:Nat)(m:List Value)(ty:TypeId)(lo:Bool)(ι:Type)(rv:ι→DV)(cs':ι→List DV):Ending→World→Prop:=RPostM C [⟨b,m,ty,lo⟩] (fun v css G'=> ∃x,Is G' (rv x) v∧ ∃m',css=[m']∧IsLs G' (cs' x) m')
end
end Go.Sx
end

section
set_option maxRecDepth 100000
namespace Go.Sx
open Go Go.Proofs
section
variable {GB:Gh} {C:Ctx} {n:Nat} {Q0:Exit→Act→World→Prop} {fr fr':FrX} {own own':OwX} {cf cf':Cf} {vc:List Prop} {ops:Array Oper} {o:Oper} {K:List Kt} {r:List Oper}
/-! ### a row handed back beside the borrowed variable -/
def dstC(fr:FrX)(cf:Cf):Option Nat:=match opC fr cf with
 |some o=>o.dst
 |none=>none
def PMRpost(C:Ctx)(b:Nat)(ty:TypeId)(s:Nat)(ty2:TypeId)(ι:Type)(rows cs':ι→List DV):Ending→World→Prop:=RPostO C (fun v own' G'=> ∃x w m' B,v= .slice w.a w.n w.c∧own'=⟨b,m',ty,false⟩::B∧IsLs G' (cs' x) m'∧BufIs G' ⟨w,s,ty2,rows x,true⟩ B∧ ∀o∈B,b≠o.b)
end
end Go.Sx
end

section
set_option maxRecDepth 100000
namespace Go.Sx
open Go Go.Proofs
section
variable {GB:Gh} {C:Ctx} {n:Nat} {Q0:Exit→Act→World→Prop} {fr fr':FrX} {own own':OwX} {cf cf':Cf} {vc:List Prop} {ops:Array Oper} {o:Oper} {K:List Kt} {r:List Oper}
def PNpost(C:Ctx)(ty:TypeId)(ι:Type)(cs:ι→List DV):Ending→World→Prop:=RPostO C (fun v own' G'=> ∃x b m,v= .pointer (some ⟨b,0,none⟩)∧own'=[⟨b,m,ty,true⟩]∧IsLs G' (cs x) m)
theorem fnN[fu:Fu]{f:FuncId}{fb:Func}{c:Code}{m:Nat}{ds:List DV}{ty:TypeId}{ι:Type}{cs:ι→List DV}(hf:Tryz.prog.funcs[f]? =some fb)(hb:fb.body=some c)(hn:(fb.name== "runtime.NumGoroutine")=false)(hm:fb.ntmps=m)(hlen:Nat.ble ds.length m=true)
  (hgo:go tt m fu.n [] (args0X 0 ds) [] (.code c [])=⟨vc,fr,own,cf⟩)(k: ∀C:Ctx,C.mb=[]→CfS Tryz.prog GB C m (bodyPost Tryz.prog fb (PNpost C ty ι cs)) fr own cf)
  (hv:allP vc:=by first|exact trivial|(simp only[allP];kernel_rfl)|(simp only[allP];omega)|(simp only[allP,List.length_map,List.length_set,List.length_replicate];omega)):PN GB Tryz.prog f ds ty ι cs:=by
 intro G vs hg hvs
 refine FnO.intro hf hb hn hm (by rw[hvs.len];exact hlen) fun C _ hmb=>?_
 intro a w rl
 have h:=gx' (GB:=GB) (C:=C) (Q0:=bodyPost Tryz.prog fb (PNpost C ty ι cs)) hgo hv (k C (by simpa using hmb))
 exact h.run (fun _=>⟨none,0,0⟩) G [] a w ⟨hg,rl.h,rl.sz,rl.df,(fun k f e=>args_fr hvs rl.fr k f e),(fun nm B e=>by cases e),(fun nm nm' B B' e=>by cases e)⟩
theorem rzN{fb:Func}{t d:Nat}{ty:TypeId}{ι:Type}{cs:ι→List DV}{cs1:List FX}{l:List DV}(x:ι)(hr:fb.results.toList=[.tmp t])(hl:lookX fr t=some (.ov d 0))(hw:lookO own d=some (.o ty cs1 true))(hc:toDXs cs1=some l)(hd:l=cs x):
  CfS Tryz.prog GB C n (bodyPost Tryz.prog fb (PNpost C ty ι cs)) fr own (.ex .ret []):=by
 refine⟨fun ρ G ov a w r=>?_⟩
 subst hd
 obtain⟨b,m,rest,h3,h4,h5,h6⟩:=r.lend hw hc
 obtain⟨y,hy,b',hb',hy'⟩:=r.ev (x:= .tmp t) (f:= .ov d 0) hl
 rw[h3] at hb';cases hb';subst hy'
 exact st_doneO' (C:=C) (n:=n) (fr:=frA a) (own:=ov) (G:=G) (vs:=[.pointer (some ⟨b,0,none⟩)]) (by rw[hr];exact .tmp hy .nil) (⟨b,m,ty,true⟩::rest) [⟨b,m,ty,true⟩] (by simpa using h5) (.cons_cons _ (List.nil_sublist _)) (fun _=>⟨x,b,m,rfl,rfl,h4⟩) a w ⟨r.h,r.sz,frA_ok a,r.df⟩
theorem bxf[fu:Fu]{d:Nat}{l:List DV}(h:boxA fr cf=some (d,l))(hgo:goA tt n fu.n fr own cf (.d (.pt l)) [(d,none)] [d]=⟨vc,fr',own',cf'⟩)(k:CfS Tryz.prog GB C n Q0 fr' own' cf')
  (hv:allP vc:=by first|exact trivial|(simp only[allP];kernel_rfl)|(simp only[allP];omega)|(simp only[allP,List.length_map,List.length_set,List.length_replicate];omega)):CfS Tryz.prog GB C n Q0 fr own cf:=by
 unfold boxA at h
 split at h<;>try (cases h;done)
 rename_i hh
 split at h<;>try (cases h;done)
 rename_i g hx
 rw[cond_eq_ite] at h
 split at h<;>try (cases h;done)
 rename_i hc
 simp only[Bool.and_eq_true] at hc
 split at h<;>cases h
 rename_i hl
 exact us hh (ok_boxF hx hc.1 hc.2 hl) hgo hv k
end
end Go.Sx
end

section
set_option maxRecDepth 100000
namespace Go.Sx
open Go Go.Proofs
section
variable {GB:Gh} {C:Ctx} {n:Nat} {Q0:Exit→Act→World→Prop} {fr fr':FrX} {own own':OwX} {cf cf':Cf} {vc:List Prop} {ops:Array Oper} {o:Oper} {K:List Kt} {r:List Oper}
def mkB:List (Option DV)→SV→List DV
 |[],_=>[]
 |some d::t,w=>d::mkB t w
 |none::t,w=> .v (.slice w.a w.n w.c)::mkB t w
def evBs(lk:LK):List Operand→Option (Option Nat×List (Option DV))
 |[]=>some (none,[])
 |x::t=>match evX lk x,evBs lk t with
  |some (.rw nm),some (none,l)=>some (some nm,none::l)
  |some f,some (q,l)=>match toDX f with
   |some d=>some (q,some d::l)
   |none=>none
  |_,_=>none
def cargB(lk:LK)(fo:Operand)(args:Array Operand):Option (FuncId×Nat×List (Option DV)):=match evX lk fo with
 |some (.d (.v (.func (.func f) ⟨[]⟩ ⟨[]⟩)))=>match evBs lk args.toList with
  |some (some nm,l)=>some (f,nm,l)
  |_=>none
 |_=>none
theorem evBs_ok{lk:LK}{bk:BM}{ρ:NE}{G:Gh}{ov:List Own}{a:Act}{w:World}(r:RlX GB C n lk bk ρ G ov a w){z:SV}: ∀{x:List Operand} {q:Option Nat} {l:List (Option DV)},evBs lk x=some (q,l)→(∀nm,q=some nm→ρ nm=z)→
  ∃y,opvs (frA a) x=some y∧IsLs G (mkB l z) y
 |[],q,l,e,_=>by cases e;exact⟨[],rfl, .nil⟩
 |x::t,q,l,e,hb=>by
  simp only[evBs] at e
  split at e
  ·rename_i nm l' h1 h2
   cases e
   obtain⟨y,h3,h4⟩:=r.ev h1
   cases (show y=_ from h4)
   obtain⟨ys,h5,h6⟩:=evBs_ok r (z:=z) h2 (fun nm e=>by cases e)
   have hz:=hb nm rfl
   subst hz
   exact⟨Value.slice (ρ nm).a (ρ nm).n (ρ nm).c::ys,by simp only[opvs,h3,h5], .cons ((is_v (G:=G)).2 rfl) h6⟩
  ·rename_i f q' l' _ h1 h2
   cases hd:toDX f with
   |none=>rw[hd] at e;cases e
   |some d=>
   rw[hd] at e;cases e
   obtain⟨y,h3,h4⟩:=r.ev h1
   obtain⟨ys,h5,h6⟩:=evBs_ok r (z:=z) h2 hb
   exact⟨y::ys,by simp only[opvs,h3,h5], .cons (toDX_is h4 hd) h6⟩
  ·cases e
theorem ok_callB{lk:LK}{bk:BM}{fo:Operand}{args:Array Operand}{tys:Array TypeId}{f:FuncId}{nm d:Nat}{l:List (Option DV)}{s:Nat}{ty ty0:TypeId}{pos:String}{af:Array Edge}{gd:Option (Nat×Bool)}{dsi dso pre post:List DV}{lo:Bool}(hne:Nat.beq nm d=false)
  (ha:cargB lk fo args=some (f,nm,l))(hb:bk nm=some (.b ty0 s dsi lo))(hF:PB GB Tryz.prog f (mkB l) s ty0 dsi (fun w=> .tp (pre++ .v (.slice w.a w.n w.c)::post)) dso):OpR Tryz.prog GB C n lk bk ⟨some d, .call ⟨.value fo,args,tys⟩,ty,pos,af,gd⟩ (.bx true pre d post) [(nm,none),(d,some (.b ty0 s dso lo))] [d]:=by
 intro hd tl tb K' s1 s2 hf hk
 refine⟨fun ρ G ov a w r Q=>?_⟩
 have r1:=r.mono s1 s2
 unfold cargB at ha
 split at ha<;>try (cases ha;done)
 rename_i h1
 split at ha<;>cases ha
 rename_i h2
 obtain⟨y,hy,hy'⟩:=r1.ev h1
 rw[(is_v (G:=G)).1 hy'] at hy
 obtain⟨B,g1,g2⟩:=r1.bx _ _ hb
 have hB:BufIs G ⟨ρ nm,s,ty0,dsi,lo⟩ B:=g1
 obtain⟨vs,h7,h8⟩:=evBs_ok r1 (z:=ρ nm) h2 (fun nm e=>by cases e;rfl)
 have hp: ∃rest,ov.Perm (B++rest)∧ ∀o∈ov,(∀o'∈B,o.b≠o'.b)→o∈rest:=by
  rcases hB with⟨vs',⟨_,_,e⟩|⟨b0,r0,lo0,_,e,_⟩,_⟩
  ·rw[e];exact⟨ov,List.Perm.refl _,fun o ho _=>ho⟩
  ·rw[e] at g2⊢
   obtain⟨l1,l2,e2⟩:=List.append_of_mem (g2 _ List.mem_cons_self)
   rw[e2]
   refine⟨l1++l2,List.perm_middle,fun o ho hno=>?_⟩
   rcases List.mem_append.1 ho with ho|ho
   ·exact List.mem_append_left _ ho
   ·rcases List.mem_cons.1 ho with rfl|ho
    ·exact absurd rfl (hno _ List.mem_cons_self)
    ·exact List.mem_append_right _ ho
 obtain⟨rest,h5,h6⟩:=hp
 refine ch_callO (M:=B) (rest:=rest) hy h7 h5 (hF G (ρ nm) vs B r.gb hB.weak h8) hd (fun v own1 G' hG hK a' w' rl=>?_) a w Q ⟨r.h,r.sz,frA_ok a,r.df⟩
 obtain⟨z,hr,vs',k1,k2,k3,k4⟩:=hK
 have k1':=k1.relo (flM B)
 have e2:lo=true→ ∀o∈own1.map (relo (flM B)),o.lo=true:=fun hl o ho=>by
  obtain⟨o',_,rfl⟩:=List.mem_map.1 ho
  obtain⟨_,_,_,_,hlo⟩:=hB
  exact flM_true _ (hlo hl)
 generalize own1.map (relo (flM B))=B' at rl e2 k1'
 have rl':Rel C n (Sx.put (frA a) (some d) v) (B'++rest) G' a' w':=rl
 have hdis:=(List.pairwise_append.1 rl'.h.nd).2.2
 have r2:=r.dropB nm
 have hnn:nm≠d:=fun e=>by subst e;rw[Nat.beq_refl] at hne;cases hne
 have hf2:FreshX [d] (some d) tl (Sx.upB tb [(nm,none)]):=fun q hq=>by
  obtain⟨f1,f2⟩:=hf q hq
  refine⟨f1,fun k B e1 e=>?_⟩
  simp only[Sx.upB] at e
  split at e
  ·cases e
  ·exact f2 k B e1 e
 have hsep: ∀q B0,Sx.upB tb [(nm,none)] q=some B0→ ∀o∈ov,(ρ q).a=some ⟨o.b,0,none⟩→o∈rest:=fun q B0 e o ho hbq=>by
  simp only[Sx.upB] at e
  split at e
  ·cases e
  ·rename_i hqn
   refine h6 o ho fun o' ho' he=>?_
   exact r.dj nm q _ _ (s2 _ _ hb) e (Ne.symm hqn) o'.b (g1.blk ho') (by rw[hbq,he])
 obtain⟨m,rfl,hm⟩:=is_tp.1 hr
 obtain⟨m1,m2',rfl,c1,c2⟩: ∃m1 m2',m=m1++m2'∧IsLs G' pre m1∧IsLs G' (.v (.slice z.a z.n z.c)::post) m2':=hm.unapp
 obtain⟨u,m2,rfl,c3,c4⟩:=isl_cons.1 c2
 rw[is_v.1 c3] at rl'
 have r3:=r2.new' (x:=z) (B':= .b ty0 s dso lo) (os:=B') (ov':=B'++rest) (f:= .bx true pre d post) (y:= .tuple ⟨m1++Value.slice z.a z.n z.c::m2⟩) hf2 hG.le rl'.h ⟨vs',by simpa using k1',k2,k3,e2⟩ (fun o ho=>List.mem_append_left _ ho)
  (fun q B0 hq e o ho hbq=>⟨List.mem_append_right _ (hsep q B0 e o ho hbq),fun hc=>by
   have hx: ∃o1∈B',o1.b=o.b:=by
    rcases k1' with⟨_,h,_⟩|⟨b0,rest0,lo0,h,hB,_⟩
    ·rw[show z=_ from h] at hc;cases hc
    ·rw[show z=_ from h] at hc;cases hc;exact⟨⟨_,flatL vs'++rest0,_,lo0⟩,by rw[hB];exact List.mem_cons_self,rfl⟩
   obtain⟨o1,ho1,he1⟩:=hx
   exact hdis o1 ho1 o (hsep q B0 e o ho hbq) he1⟩) ⟨m1,m2,by simp,c1,c4⟩ (putA_rel rl')
 exact hk.run _ G' _ a' w' r3
structure CbA where
 f:FuncId
 nm:Nat
 l:List (Option DV)
 ty:TypeId
 s:Nat
 ds:List DV
 lo:Bool
 d:Nat
def calB(fr:FrX)(own:OwX)(cf:Cf):Option CbA:=match opC fr cf with
 |some ⟨some d, .call ⟨.value fo,args,_⟩,_,_,_,_⟩=>match cargB (lkC fr cf) fo args with
  |some (f,nm,l)=>match bkC fr own cf nm with
   |some (.b ty s ds lo)=>bif Nat.beq nm d then none else some ⟨f,nm,l,ty,s,ds,lo,d⟩
   |_=>none
  |none=>none
 |_=>none
theorem cb[fu:Fu]{f:FuncId}{nm d:Nat}{l:List (Option DV)}{ty:TypeId}{s:Nat}{dsi dso pre post:List DV}{lo:Bool}(dso':List DV)(ha:calB fr own cf=some ⟨f,nm,l,ty,s,dsi,lo,d⟩)(hF:PB GB Tryz.prog f (mkB l) s ty dsi (fun w=> .tp (pre++ .v (.slice w.a w.n w.c)::post)) dso)(he:dso=dso')
  (hgo:goA tt n fu.n fr own cf (.bx true pre d post) [(nm,none),(d,some (.b ty s dso' lo))] [d]=⟨vc,fr',own',cf'⟩)(k:CfS Tryz.prog GB C n Q0 fr' own' cf')
  (hv:allP vc:=by first|exact trivial|(simp only[allP];kernel_rfl)|(simp only[allP];omega)|(simp only[allP,List.length_map,List.length_set,List.length_replicate];omega)):CfS Tryz.prog GB C n Q0 fr own cf:=by
 subst he
 unfold calB at ha
 split at ha<;>try (cases ha;done)
 rename_i hh
 split at ha<;>try (cases ha;done)
 rename_i h1
 split at ha<;>try (cases ha;done)
 rename_i h2
 rw[cond_eq_ite] at ha
 split at ha<;>cases ha
 rename_i h3
 exact us hh (ok_callB (by cases hq:Nat.beq nm d with|false=>rfl|true=>exact absurd hq h3) h1 h2 hF) hgo hv k
def args0B:Nat→List (Option DV)→FrX
 |_,[]=>[]
 |i,some v::t=>(i, .d v)::args0B (i+1) t
 |i,none::t=>(i, .rw NM)::args0B (i+1) t
def PBpost(C:Ctx)(s:Nat)(ty:TypeId)(pre post dso:List DV):Ending→World→Prop:=RPostO C (fun v own' G'=> ∃w',Is G' (.tp (pre++ .v (.slice w'.a w'.n w'.c)::post)) v∧BufIs G' ⟨w',s,ty,dso,false⟩ own')
/-! the same with nil as the row of nothing -/
def evBn(lk:LK):List Operand→Option (List (Option DV))
 |[]=>some []
 |x::t=>match evX lk x,evBn lk t with
  |some .nl,some l=>some (none::l)
  |some f,some l=>match toDX f with
   |some d=>some (some d::l)
   |none=>none
  |_,_=>none
def cargN(lk:LK)(fo:Operand)(args:Array Operand):Option (FuncId×List (Option DV)):=match evX lk fo with
 |some (.d (.v (.func (.func f) ⟨[]⟩ ⟨[]⟩)))=>match evBn lk args.toList with
  |some l=>some (f,l)
  |_=>none
 |_=>none
def calBn(fr:FrX)(cf:Cf):Option (FuncId×List (Option DV)×Nat):=match opC fr cf with
 |some ⟨some d, .call ⟨.value fo,args,_⟩,_,_,_,_⟩=>match cargN (lkC fr cf) fo args with
  |some (f,l)=>some (f,l,d)
  |none=>none
 |_=>none
end
end Go.Sx
end

section
set_option maxRecDepth 100000
namespace Go.Sx
open Go Go.Proofs
section
variable {P:Program} {C:Ctx} {n:Nat} {fr:Fr} {own own':List Own} {G:Gh} {Φ:Act→World→Prop}
variable {dst:Option Nat} {t t' ty':TypeId} {pos:String} {af:Array Edge} {gd:Option (Nat×Bool)} {x y:Operand} {e s by_:Nat}
theorem ch_mkR[hT:TySl P t e s by_]{z:Value}[hz:TyZ P e z]{k k':IntKind}{l:Int}(hx:opv fr x=some (.int k 0))(hy:opv fr y=some (.int k' l))(h0:0≤l)(hb:by_*l≤2^47)(hl:l≤2^60)(hs:(cellsL z).length=s)(hd:dstOk n dst=true)
  (h: ∀b,St C n (put fr dst (.slice (some ⟨b,0,none⟩) 0 l.toNat)) (⟨b,zeros z l.toNat,e,true⟩::own) G Φ):
  Ch P C n fr own G ⟨dst, .makeSlice t x y,ty',pos,af,gd⟩ Φ:=by
 intro a w Q rl
 have h1:(Instr.makeSlice t (a.eval x) (a.eval y)).run P w= .ok (.slice (some ⟨w.heap.size,0,none⟩) 0 l.toNat) (w.alloc (.cells ⟨zeros z l.toNat⟩ e)):=by
  obtain⟨i,hi,hib⟩:=run_bytes (P:=P) (t:=t) (e:=e) (s:=s) (by_:=by_) w
  rw[opv_eval rl.fr hx,opv_eval rl.fr hy]
  unfold Instr.makeSlice
  rw[run_ok_bind (hT.u w)]
  simp only[asInt,asIntOf]
  rw[run_ok_bind (a:=0) (w':=w) rfl,run_ok_bind (a:=l) (w':=w) rfl,run_ok_bind hi,hib]
  have hw:IntKind.i64.wrap l=l:=wrap_in (by simp[IntKind.min,IntKind.max,IntKind.signed,IntKind.bits];omega)
  have hw0:IntKind.i64.wrap 0=0:=rfl
  simp only[hw,hw0]
  have c1: ¬((by_:Int)*l>2^48):=by
   have:(2:Int)^47≤2^48:=by decide
   omega
  have c5:decide ((by_:Int)*l>2^48)=false:=decide_eq_false c1
  have c2:decide (l<0)=false:=decide_eq_false (by omega)
  have c4:decide ((0:Int)>l)=false:=by simp;omega
  simp only[c2,c4,c5,Bool.false_or,Int.lt_irrefl,decide_false,Bool.or_false,Bool.false_eq_true,if_false]
  have hr: ¬(l.toNat*by_>roomBytes):=by
   unfold roomBytes
   have:((l.toNat*by_:Nat):Int)=by_*l:=by rw[Int.natCast_mul,Int.toNat_of_nonneg h0,Int.mul_comm]
   have h47:((2^47:Nat):Int)=2^47:=by decide
   omega
  unfold askRoom
  simp only[hr,if_false]
  rw[run_ok_bind (run_pure _ _ _),run_ok_bind (hT.siz w)]
  have hn:l.toNat*s=l.toNat*(cellsL z).length:=by rw[hs]
  by_cases h00:l.toNat*s=0
  ·rw[if_pos h00,run_ok_bind (run_pure _ _ _)]
   have e0:zeros z l.toNat=[]:=List.eq_nil_of_length_eq_zero (by rw[zeros_len,hs];exact h00)
   rw[h00,e0,show(Array.range 0)= #[] from rfl,Array.map_empty]
   rfl
  ·rw[if_neg h00,run_ok_bind (hz.zero w),cells_eq]
   rw[run_ok_bind (run_pure _ _ _),range_zeros hn]
   rfl
 refine ch_value (v:= .slice (some ⟨w.heap.size,0,none⟩) 0 l.toNat) (value_of h1) (h w.heap.size _ _ ((rl.heap (rl.h.alloc _ _)).put _ hd))
def lendG(G:Gh)(ov:List Own):Gh:=fun b=>match G b with
 |some cs=>some cs
 |none=>(ov.find? fun o=>Nat.beq o.b b).map (·.cs)
theorem lend_le{ov:List Own}:GLe G (lendG G ov):=fun b cs h=>by unfold lendG;rw[h]
theorem find_own{o:Own}: ∀{ov:List Own},o∈ov→ov.Pairwise (fun x y=>x.b≠y.b)→ov.find? (fun u=>Nat.beq u.b o.b)=some o
 |u::t,ho,nd=>by
  rcases List.mem_cons.1 ho with rfl|ho
  ·rw[List.find?_cons_of_pos (by simp)]
  ·have:=(List.pairwise_cons.1 nd).1 o ho
   rw[List.find?_cons_of_neg (by simpa using this)]
   exact find_own ho (List.pairwise_cons.1 nd).2
theorem lend_own{ov:List Own}{o:Own}(ho:o∈ov)(hn:G o.b=none)(nd:ov.Pairwise (fun x y=>x.b≠y.b)):lendG G ov o.b=some o.cs:=by
 unfold lendG;rw[hn,find_own ho nd];rfl
theorem HRel.lendSub{ov:List Own}{w:World}(h:HRel C ov G w)(b:Nat)(cs:List Value)(hb:lendG G ov b=some cs): ∃ty fz,w.heap[b]? =some (.cells ⟨cs⟩ ty fz):=by
 unfold lendG at hb
 split at hb
 ·rename_i hg;cases hb;exact h.sub _ _ hg
 ·cases hf:ov.find? (fun o=>Nat.beq o.b b) with
  |none=>rw[hf] at hb;cases hb
  |some o=>
   rw[hf] at hb;cases hb
   have e:o.b=b:=Nat.eq_of_beq_eq_true (by simpa using List.find?_some hf)
   subst e
   exact⟨_,_,(h.hown o (List.mem_of_find?_eq_some hf)).1⟩
theorem HRel.lent{ov:List Own}{G':Gh}{w w':World}(h:HRel C ov G w)(k:HRel ⟨w,lendG G ov,[]⟩ [] G' w'):HRel C ov G w':=by
 have same: ∀b o,w.heap[b]? =some o→w'.heap[b]? =some o:=fun b o hb=>by rw[k.keep b (blk_lt hb) (by simp)];exact hb
 have hsz:w.heap.size≤w'.heap.size:=k.size
 refine⟨k.os.trans h.os,k.tape.trans h.tape,k.output.trans h.output,Nat.le_trans h.size hsz,fun b hb hm=>?_,fun b cs hb=>?_,h.gle,h.gold,fun o ho=>?_,h.nd⟩
 ·have:=h.size;rw[k.keep b (by show b<w.heap.size;omega) (by simp)];exact h.keep b hb hm
 ·obtain⟨ty,fz,h1⟩:=h.sub b cs hb;exact⟨ty,fz,same _ _ h1⟩
 ·obtain⟨h1,h2⟩:=h.hown o ho;exact⟨same _ _ h1,h2⟩
theorem ch_callL{f:FuncId}{fo:Operand}{args:Array Operand}{tys:Array TypeId}{vs:List Value}{K:Value→Gh→Prop}(ho:opv fr fo=some (.func (.func f) #[] #[]))(hv:opvs fr args.toList=some vs)
  (hF:Fn P f vs (lendG G own) K)(hd:dstOk n dst=true)(h: ∀v (G':Gh),K v G'→St C n (put fr dst v) own G Φ):Ch P C n fr own G ⟨dst, .call ⟨.value fo,args,tys⟩,ty',pos,af,gd⟩ Φ:=by
 intro a w Q rl
 have h2:=run_call (c1:=[]) (c2:=[]) (P:=P) (dst:=dst) (ty':=ty') (pos:=pos) (af:=af) (gd:=gd) (tys:=tys) (w:=w) hF.able rl.fr ho hv
 rw[List.nil_append,List.append_nil] at h2
 simp only[Oper.wp,h2,Oper.upon]
 refine(hF.run w rl.h.lendSub).mono ?_
 rintro e w' ⟨v,G',rfl,hh,hK⟩
 exact h v G' hK _ _ ((rl.heap (rl.h.lent hh)).put _ hd)
end
def DV.np:DV→Bool
 | .v _=>true
 | .tp l=>l.all fun d=>match d with
  | .v _=>true
  |_=>false
 |_=>false
theorem isl_np{A G:Gh}: ∀{l:List DV} {m:List Value},(l.all fun d=>match d with| .v _=>true|_=>false)=true→IsLs A l m→IsLs G l m
 |[],m,_,k=>isl_nil.2 (isl_nil.1 k)
 |d::t,m,h,k=>by
  obtain⟨y,n,rfl,k1,k2⟩:=isl_cons.1 k
  simp only[List.all_cons,Bool.and_eq_true] at h
  refine .cons ?_ (isl_np h.2 k2)
  cases d with
  |v x=>exact is_v.2 (is_v.1 k1)
  |_=>simp at h
theorem Is.np{A G:Gh}{d:DV}{y:Value}(h:d.np=true)(k:Is A d y):Is G d y:=by
 cases d with
 |v x=>exact is_v.2 (is_v.1 k)
 |tp l=>obtain⟨m,e,k⟩:=is_tp.1 k;exact is_tp.2 ⟨m,e,isl_np h k⟩
 |_=>cases h
section
variable {GB:Gh} {C:Ctx} {n:Nat} {Q0:Exit→Act→World→Prop} {fr fr':FrX} {own own':OwX} {cf cf':Cf} {vc:List Prop} {lk:LK} {bk:BM} {ρ:NE} {G:Gh} {ov:List Own} {a:Act} {w:World}
variable {dst:Option Nat} {t t' ty':TypeId} {pos:String} {af:Array Edge} {gd:Option (Nat×Bool)} {x y:Operand} {e s by_:Nat}
/-! ### rows lent -/
def rowDs:Option Bk→Option (List DV)
 |some (.b _ _ ds _)=>some ds
 |some (.c _ _ ds _)=>some ds
 |_=>none
def evL1(lk:LK)(bk:BM)(x:Operand):Option DV:=match evX lk x with
 |some (.rw nm)=>match rowDs (bk nm) with
  |some ds=>some (.sl ds)
  |none=>none
 |some f=>toDX f
 |none=>none
def evLs(lk:LK)(bk:BM):List Operand→Option (List DV)
 |[]=>some []
 |x::t=>match evL1 lk bk x,evLs lk bk t with
  |some d,some l=>some (d::l)
  |_,_=>none
theorem evL1_ok(r:RlX GB C n lk bk ρ G ov a w){d:DV}(h:evL1 lk bk x=some d): ∃y,opv (frA a) x=some y∧Is (lendG G ov) d y:=by
 unfold evL1 at h
 split at h
 ·rename_i nm h1
  obtain⟨y,h2,h3⟩:=r.ev h1
  cases (show y=_ from h3)
  refine⟨_,h2,?_⟩
  split at h<;>cases h
  rename_i ds hr
  obtain⟨ty,s,vs,B,hB,hv,hs,hBo⟩: ∃ty s vs B,Buf s ty (ρ nm) vs B∧IsLs G ds vs∧(∀v∈vs,(cellsL v).length=s)∧ ∀o∈B,o∈ov:=by
   unfold rowDs at hr
   split at hr<;>cases hr
   ·rename_i hb;obtain⟨B,⟨vs,h4,h5,h6,_⟩,h7⟩:=r.bx _ _ hb;exact⟨_,_,vs,B,h4,h5,h6,h7⟩
   ·rename_i hb;obtain⟨B,⟨vs,h4,h5,h6,_⟩,h7⟩:=r.bx _ _ hb;exact⟨_,_,vs,B,h4,h5,h6,h7⟩
  rcases hB with⟨e1,e2,e3⟩|⟨b,rest,lo',e2,e3,h5,h6,h7⟩
  ·subst e1
   have ed:ds=[]:=List.eq_nil_of_length_eq_zero (by rw[←hv.len];rfl)
   subst ed
   rw[e2]
   exact is_sl.2 ⟨0,⟨none,0,0⟩,[],rfl, .nil _ 0, .nil⟩
  ·subst e3
   have ho:=hBo _ List.mem_cons_self
   have hg:=lend_own ho (r.h.hown _ ho).2.1 r.h.nd
   rw[e2]
   exact is_sl.2 ⟨s,⟨some ⟨b,0,none⟩,vs.length,_⟩,vs,rfl,IsSl.of_flat hs hg h7,hv.up lend_le⟩
 ·rename_i h1
  obtain⟨y,h2,h3⟩:=r.ev h1
  exact⟨y,h2,(toDX_is h3 h).up lend_le⟩
 ·cases h
theorem evLs_ok(r:RlX GB C n lk bk ρ G ov a w): ∀{l:List Operand} {ds:List DV},evLs lk bk l=some ds→ ∃vs,opvs (frA a) l=some vs∧IsLs (lendG G ov) ds vs
 |[],ds,e=>by cases e;exact⟨[],rfl, .nil⟩
 |x::t,ds,e=>by
  simp only[evLs] at e
  split at e<;>cases e
  rename_i h1 h2
  obtain⟨y,h3,h4⟩:=evL1_ok r h1
  obtain⟨vs,h5,h6⟩:=evLs_ok r h2
  exact⟨y::vs,by simp only[opvs,h3,h5], .cons h4 h6⟩
def cargL(lk:LK)(bk:BM)(fo:Operand)(args:Array Operand):Option (FuncId×List DV):=match evX lk fo with
 |some (.d (.v (.func (.func f) ⟨[]⟩ ⟨[]⟩)))=>match evLs lk bk args.toList with
  |some ds=>some (f,ds)
  |none=>none
 |_=>none
theorem ok_callL{fo:Operand}{args:Array Operand}{tys:Array TypeId}{f:FuncId}{ds:List DV}{rv:DV}(ha:cargL lk bk fo args=some (f,ds))(hnp:rv.np=true)(hF:PF GB Tryz.prog f ds rv):OpR Tryz.prog GB C n lk bk ⟨dst, .call ⟨.value fo,args,tys⟩,ty',pos,af,gd⟩ (.d rv) [] []:=by
 intro hd tl tb K' s1 s2 hf hk
 refine⟨fun ρ G ov a w r Q=>?_⟩
 have r1:=r.mono s1 s2
 unfold cargL at ha
 split at ha<;>try (cases ha;done)
 rename_i h1
 split at ha<;>cases ha
 rename_i h2
 obtain⟨y,hy,hy'⟩:=r1.ev h1
 rw[(is_v (G:=G)).1 hy'] at hy
 obtain⟨vs,h3,h4⟩:=evLs_ok r1 h2
 refine ch_callL hy h3 (hF _ vs (r.gb.trans lend_le) h4) hd (fun v G' hK a' w' rl=>?_) a w Q ⟨r.h,r.sz,frA_ok a,r.df⟩
 exact hk.run ρ G ov a' w' ⟨r.gb,rl.h,rl.sz,rl.df,(putA_rel rl).fx (fun k g _ e=>r.fx k g e) (Is.np hnp hK),r.bx,r.dj⟩
def calL(fr:FrX)(own:OwX)(cf:Cf):Option (FuncId×List DV):=match opC fr cf with
 |some ⟨_, .call ⟨.value fo,args,_⟩,_,_,_,_⟩=>cargL (lkC fr cf) (bkC fr own cf) fo args
 |_=>none
theorem cL[fu:Fu]{f:FuncId}{ds:List DV}{rv:DV}(ha:calL fr own cf=some (f,ds))(hF:PF GB Tryz.prog f ds rv)(hnp:rv.np=true)(hgo:goA tt n fu.n fr own cf (.d rv) [] []=⟨vc,fr',own',cf'⟩)(k:CfS Tryz.prog GB C n Q0 fr' own' cf')
  (hv:allP vc:=by first|exact trivial|(simp only[allP];kernel_rfl)|(simp only[allP];omega)):CfS Tryz.prog GB C n Q0 fr own cf:=by
 unfold calL at ha
 split at ha<;>try (cases ha;done)
 rename_i hh
 exact us hh (ok_callL ha hnp hF) hgo hv k
/-! ### rows with room -/
theorem ok_mkc{d cap:Nat}{i:TI}{z:DV}{k k':IntKind}[hT:TySl Tryz.prog t e s by_](hi:tiOf Tryz.prog e=some i)(hz:zeE i=some z)(hs:Nat.beq z.cells.length s=true)(hx:evX lk x=some (.d (.v (.int k 0))))(hy:evX lk y=some (.d (.v (.int k' (cap:Nat)))))(hb:by_*cap≤140737488355328)(hl:cap≤1152921504606846976):
  OpR Tryz.prog GB C n lk bk ⟨some d, .makeSlice t x y,ty',pos,af,gd⟩ (.rw d) [(d,some (.c e s [] cap))] [d]:=by
 intro hd tl tb K s1 s2 hf hk
 refine⟨fun ρ G ov a w r Q=>?_⟩
 obtain⟨v,hz1,hz2,hz3⟩:=zeE_ok hi hz
 obtain⟨q1,p1,p2⟩:=(r.mono s1 s2).ev hx
 obtain⟨q2,p3,p4⟩:=(r.mono s1 s2).ev hy
 rw[isX_int] at p2 p4;subst p2 p4
 have c1:=((hz2 G).cells hz3).1.len
 replace hs:=Nat.eq_of_beq_eq_true hs
 refine ch_mkR p1 p3 (by omega) (by have:((by_*cap:Nat):Int)=by_*cap:=Int.natCast_mul ..;omega) (by omega) (by rw[c1,hs]) hd (fun b a' w' rl=>?_) a w Q ⟨r.h,r.sz,frA_ok a,r.df⟩
 rw[Int.toNat_natCast] at rl
 have hnd:=(List.pairwise_cons.1 rl.h.nd).1
 refine hk.run _ _ _ a' w' (r.new' (x:=⟨some ⟨b,0,none⟩,0,cap⟩) (B':= .c e s [] cap) (os:=[⟨b,zeros v cap,e,true⟩]) (f:= .rw d) (y:= .slice (some ⟨b,0,none⟩) 0 cap) hf (GLe.refl _) rl.h ⟨[], .inr ⟨b,zeros v cap,true,by simp,rfl,by simp[flatL],?_,by simp⟩, .nil,by simp,fun o ho=>by rw[List.mem_singleton.1 ho],by simp⟩
  (fun o ho=>by rw[List.mem_singleton.1 ho];exact List.mem_cons_self) (fun m B' _ _ o ho _=>⟨List.mem_cons_of_mem _ ho,fun e'=>by cases e';exact hnd o ho rfl⟩) (by show _=_;simp) (putA_rel rl))
 rw[zeros_len,c1,hs];simp[flatL]
theorem ok_apc{d nm cap:Nat}{ds ds2:List DV}[hT:TySl Tryz.prog t e s by_][hN:TyN Tryz.prog t'](hx:evX lk x=some (.rw nm))(hb:bk nm=some (.c e s ds cap))(hy:srcX lk bk s y=some ds2)(hk2:slOk s ds2)(hc:ds.length+ds2.length≤cap)(hp:0<ds2.length)(hnd:Nat.beq nm d=false):
  OpR Tryz.prog GB C n lk bk ⟨some d, .call ⟨.builtin .append, #[x,y], #[t,t']⟩,ty',pos,af,gd⟩ (.rw d) [(nm,none),(d,some (.c e s (ds++ds2) cap))] [d]:=by
 intro hd tl tb K s1 s2 hf hk
 refine⟨fun ρ G ov a w r Q=>?_⟩
 have r1:=r.mono s1 s2
 have hne:nm≠d:=fun e=>by subst e;simp at hnd
 obtain⟨u,hx',hx2⟩:=r1.ev hx
 cases hx2
 obtain⟨B,⟨vs,hB,hv,hvs,hlo,hcap⟩,hBo⟩:=r1.bx _ _ hb
 obtain⟨w2,us,hy',h2,h3,h4,h5,h6⟩:=src_ok (P:=Tryz.prog) (C:=C) r1 hy hk2
 have hus:(flatL us).length=us.length*s:=flatL_len us h4
 have hl1:=hv.len
 have hl2:=h3.len
 have rd:=r.dropB nm
 have hf':FreshX [d] (some d) tl (Sx.upB tb [(nm,none)]):=fun m hm=>by
  obtain⟨g1,g2⟩:=hf m hm
  refine⟨g1,fun k B' hk e=>g2 k B' hk ?_⟩
  simp only[Sx.upB] at e
  split at e
  ·cases e
  ·exact e
 rcases hB with⟨e1,e2,e3⟩|⟨b,rest,lo',k3,k4,k5,k6,k7⟩
 ·rw[e2] at hcap;simp at hcap;omega
 subst k4
 have hl':=hlo _ List.mem_cons_self
 simp only at hl';subst hl'
 have ha:(ρ nm).a=some ⟨b,0,none⟩:=by rw[k3]
 have hn:(ρ nm).n=vs.length:=by rw[k3]
 rw[ha,hn] at hx'
 rw[h2] at hy' h6
 have hin:=hBo _ List.mem_cons_self
 obtain⟨l1,l2,e5⟩:=List.append_of_mem hin
 have hperm:ov.Perm (⟨b,flatL vs++rest,e,true⟩::(l1++l2)):=by rw[e5];exact List.perm_middle
 have hall: ∀v∈vs++us,(cellsL v).length=s:=fun v hv=>by
  rcases List.mem_append.1 hv with hv|hv
  ·exact hvs v hv
  ·exact h4 v hv
 have hcs:(flatL vs++rest).length=(ρ nm).c*s:=by rw[List.length_append];exact k6
 have hroom:vs.length+us.length≤(ρ nm).c:=by omega
 have hmul:(vs.length+us.length)*s≤(ρ nm).c*s:=Nat.mul_le_mul_right _ hroom
 rw[Nat.add_mul] at hmul
 have hrest:us.length*s≤rest.length:=by rw[k5] at k6;omega
 have hovw:ovw (flatL vs++rest) (vs.length*s) (flatL us)=flatL (vs++us)++rest.drop (us.length*s):=by
  rw[ovw_spec _ _ _ (by rw[hus,List.length_append];omega),flatL_app,←k5]
  simp[hus,List.drop_append,List.append_assoc]
 refine ch_append_room (P:=Tryz.prog) (own:=⟨b,flatL vs++rest,e,true⟩::(l1++l2)) (m:=us.length) (ys:=flatL us) hx' hy' (.hd ..) hcs (fun w hh=>h6 w (hh.perm hperm.symm)) hus h5 hroom hd (fun a' w' rl=>?_) a w Q ⟨r.h.perm hperm,r.sz,frA_ok a,r.df⟩
 rw[hovw] at rl
 have hnd':=(List.pairwise_cons.1 rl.h.nd).1
 refine hk.run _ _ _ a' w' (rd.new' (x:=⟨some ⟨b,0,none⟩,vs.length+us.length,(ρ nm).c⟩) (B':= .c e s (ds++ds2) cap) (os:=[⟨b,flatL (vs++us)++rest.drop (us.length*s),e,true⟩]) (f:= .rw d) (y:= .slice (some ⟨b,0,none⟩) (vs.length+us.length) (ρ nm).c) hf' (GLe.refl _) rl.h
  ⟨vs++us, .inr ⟨b,rest.drop (us.length*s),true,by simp,rfl,flatL_len _ hall,?_,by simpa using hroom⟩,hv.app h3,hall,fun o ho=>by rw[List.mem_singleton.1 ho],by simpa using hcap⟩ (fun o ho=>by rw[List.mem_singleton.1 ho];exact List.mem_cons_self)
  (fun m B' hm e' o ho hmo=>?_) (by show _=_;simp) (putA_rel rl))
 ·rw[flatL_len _ hall,List.length_append,List.length_drop,Nat.add_mul]
  simp only[if_true]
  rw[k5] at k6;omega
 ·have hmn:m≠nm∧tb m=some B':=by
   simp only[Sx.upB] at e'
   split at e'
   ·cases e'
   ·exact⟨by assumption,e'⟩
  have hob:o.b≠b:=fun e6=>r.dj m nm B' _ hmn.2 (s2 _ _ hb) hmn.1 b (by rw[hmo,e6]) ha
  refine⟨?_,fun e6=>by cases e6;exact hob rfl⟩
  rcases List.mem_cons.1 (hperm.mem_iff.1 ho) with rfl|ho
  ·exact absurd rfl hob
  ·exact List.mem_cons_of_mem _ ho
end
end Go.Sx
end

section
set_option maxRecDepth 100000
namespace Go.Sx
open Go Go.Proofs
section
variable {GB:Gh} {C:Ctx} {n:Nat} {Q0:Exit→Act→World→Prop} {fr fr':FrX} {own own':OwX} {cf cf':Cf} {vc:List Prop}
theorem mkc[fu:Fu]{d e s b:Nat}{z:DV}{k':IntKind}(cap:Nat)(h:mkA fr cf=some ⟨d,e,s,b,z,0⟩)(hy:(match opC fr cf with|some ⟨_, .makeSlice _ _ y,_,_,_,_⟩=>evX (lkC fr cf) y|_=>none)=some (.d (.v (.int k' (cap:Nat)))))
  (hgo:goA tt n fu.n fr own cf (.rw d) [(d,some (.c e s [] cap))] [d]=⟨vc,fr',own',cf'⟩)(k:CfS Tryz.prog GB C n Q0 fr' own' cf')(hb:b*cap≤140737488355328:=by omega)(hl:cap≤1152921504606846976:=by omega)
  (hv:allP vc:=by first|exact trivial|(simp only[allP];kernel_rfl)|(simp only[allP];omega)):CfS Tryz.prog GB C n Q0 fr own cf:=by
 unfold mkA at h
 split at h<;>try (cases h;done)
 rename_i hh
 split at h<;>try (cases h;done)
 rename_i hx
 split at h<;>try (cases h;done)
 rename_i hT
 split at h<;>try (cases h;done)
 rename_i hi
 split at h<;>try (cases h;done)
 rename_i hz
 rw[cond_eq_ite] at h
 split at h<;>cases h
 rename_i hs
 rw[hh] at hy
 have:=ti_sl (tt_ok _ _ hT) rfl
 exact us hh (ok_mkc (tt_ok _ _ hi) hz hs hx hy hb hl) hgo hv k
structure ApcA where
 d:Nat
 nm:Nat
 e:Nat
 s:Nat
 ds:List DV
 ds2:List DV
 cap:Nat
def apcA(fr:FrX)(own:OwX)(cf:Cf):Option ApcA:=match opC fr cf with
 |some ⟨some d, .call ⟨.builtin .append,⟨[x,y]⟩,⟨[t,t']⟩⟩,_,_,_,_⟩=>match lookT tt t,lookT tt t' with
  |some ⟨.sl e s _,_,_,_⟩,some ⟨.sl _ _ _,_,_,_⟩=>match evX (lkC fr cf) x with
   |some (.rw nm)=>match bkC fr own cf nm,srcX (lkC fr cf) (bkC fr own cf) s y with
    |some (.c e' s' ds cap),some ds2=>bif (Nat.beq e' e&&Nat.beq s' s)&&!Nat.beq nm d then some ⟨d,nm,e,s,ds,ds2,cap⟩ else none
    |_,_=>none
   |_=>none
  |_,_=>none
 |_=>none
theorem apc[fu:Fu]{d nm e s cap:Nat}{ds ds2:List DV}(ds':List DV)(h:apcA fr own cf=some ⟨d,nm,e,s,ds,ds2,cap⟩)(hds:ds++ds2=ds')(ho2:slOk s ds2)(hc:ds.length+ds2.length≤cap)(hgo:goA tt n fu.n fr own cf (.rw d) [(nm,none),(d,some (.c e s ds' cap))] [d]=⟨vc,fr',own',cf'⟩)(k:CfS Tryz.prog GB C n Q0 fr' own' cf')
  (hp:0<ds2.length:=by simp)(hv:allP vc:=by first|exact trivial|(simp only[allP];kernel_rfl)|(simp only[allP];omega)):CfS Tryz.prog GB C n Q0 fr own cf:=by
 subst hds
 unfold apcA at h
 split at h<;>try (cases h;done)
 rename_i hh
 split at h<;>try (cases h;done)
 rename_i hT hT'
 split at h<;>try (cases h;done)
 rename_i hx
 split at h<;>try (cases h;done)
 rename_i hb hy
 rw[cond_eq_ite] at h
 split at h<;>cases h
 rename_i h2
 simp only[Bool.and_eq_true,Bool.not_eq_true'] at h2
 cases Nat.eq_of_beq_eq_true h2.1.1
 cases Nat.eq_of_beq_eq_true h2.1.2
 have:=ti_sl (tt_ok _ _ hT) rfl
 have hN:TyN Tryz.prog _:=⟨_,(ti_sl (tt_ok _ _ hT') rfl).un⟩
 exact us hh (ok_apc hx hb hy ho2 hc hp h2.2) hgo hv k
def PI(GB:Gh)(P:Program)(f:FuncId)(i:Int)(s:Nat)(ty ty2:TypeId)(ds:List DV)(x:DV)(cap:Nat)(dso:List DV):Prop:=
 ∀G w w2 B B2,GLe GB G→BufIs G ⟨w,s,ty,ds,false⟩ B→cap≤w.c→BufIs G ⟨w2,s,ty2,[x],false⟩ B2→FnO P f [.slice w.a w.n w.c, .int .i64 i, .slice w2.a w2.n w2.c] (B++B2) G fun v own' G'=> ∃w',v= .slice w'.a w'.n w'.c∧BufIs G' ⟨w',s,ty,dso,false⟩ own'
structure CiA where
 f:FuncId
 nm:Nat
 nm2:Nat
 i:Int
 ty:TypeId
 ty2:TypeId
 s:Nat
 ds:List DV
 x:DV
 cap:Nat
 d:Nat
def calI(fr:FrX)(own:OwX)(cf:Cf):Option CiA:=match opC fr cf with
 |some ⟨some d, .call ⟨.value fo,⟨[x1,x2,x3]⟩,_⟩,_,_,_,_⟩=>match evX (lkC fr cf) fo,evX (lkC fr cf) x1 with
  |some (.d (.v (.func (.func f) ⟨[]⟩ ⟨[]⟩))),some (.rw nm)=>match evX (lkC fr cf) x2,evX (lkC fr cf) x3 with
   |some (.d (.v (.int .i64 i))),some (.rw nm2)=>match bkC fr own cf nm,bkC fr own cf nm2 with
    |some (.c ty s ds cap),some (.b ty2 s2 [x] true)=>bif (!Nat.beq nm d&&!Nat.beq nm2 d)&&(!Nat.beq nm nm2&&(Nat.beq s2 s&&Nat.blt 0 cap)) then some ⟨f,nm,nm2,i,ty,ty2,s,ds,x,cap,d⟩ else none
    |_,_=>none
   |_,_=>none
  |_,_=>none
 |_=>none
theorem ok_callI{lk:LK}{bk:BM}{fo x1 x2 x3:Operand}{tys:Array TypeId}{f:FuncId}{nm nm2 d cap s:Nat}{i:Int}{ty0 ty2:TypeId}{ty:TypeId}{pos:String}{af:Array Edge}{gd:Option (Nat×Bool)}{ds dso:List DV}{x:DV}(hne:Nat.beq nm d=false)(hne2:Nat.beq nm2 d=false)(hn2:Nat.beq nm nm2=false)(hcp:0<cap)
  (h0:evX lk fo=some (.d (.v (.func (.func f) ⟨[]⟩ ⟨[]⟩))))(h1:evX lk x1=some (.rw nm))(h2:evX lk x2=some (.d (.v (.int .i64 i))))(h3:evX lk x3=some (.rw nm2))(hb:bk nm=some (.c ty0 s ds cap))(hb2:bk nm2=some (.b ty2 s [x] true))(hF:PI GB Tryz.prog f i s ty0 ty2 ds x cap dso):
  OpR Tryz.prog GB C n lk bk ⟨some d, .call ⟨.value fo,⟨[x1,x2,x3]⟩,tys⟩,ty,pos,af,gd⟩ (.rw d) [(nm,none),(nm2,none),(d,some (.b ty0 s dso true))] [d]:=by
 intro hd tl tb K' s1 s2 hf hk
 refine⟨fun ρ G ov a w r Q=>?_⟩
 have r1:=r.mono s1 s2
 obtain⟨y,hy,hy'⟩:=r1.ev h0
 rw[(is_v (G:=G)).1 hy'] at hy
 obtain⟨y1,p1,p1'⟩:=r1.ev h1
 cases (show y1=_ from p1')
 obtain⟨y2,p2,p2'⟩:=r1.ev h2
 rw[isX_int] at p2';subst p2'
 obtain⟨y3,p3,p3'⟩:=r1.ev h3
 cases (show y3=_ from p3')
 have hnn:nm≠d:=fun e=>by subst e;rw[Nat.beq_refl] at hne;cases hne
 have hnn2:nm2≠d:=fun e=>by subst e;rw[Nat.beq_refl] at hne2;cases hne2
 have hnm:nm≠nm2:=fun e=>by subst e;rw[Nat.beq_refl] at hn2;cases hn2
 obtain⟨B,g1,g2⟩:=r1.bx _ _ hb
 obtain⟨B2,k1,k2⟩:=r1.bx _ _ hb2
 obtain⟨vs,q1,q2,q3,q4,q5⟩:=g1
 have hB:BufIs G ⟨ρ nm,s,ty0,ds,false⟩ B:=⟨vs,q1,q2,q3,fun h=>by cases h⟩
 have hB2:BufIs G ⟨ρ nm2,s,ty2,[x],false⟩ B2:=BufIs.weak (lo:=true) k1
 have e1: ∃o,B=[o]∧(ρ nm).a=some ⟨o.b,0,none⟩:=by
  rcases q1 with⟨_,e,_⟩|⟨b,rest,lo',e,rfl,_⟩
  ·rw[e] at q5;simp at q5;omega
  ·exact⟨_,rfl,by rw[e]⟩
 have e2: ∃o,B2=[o]∧(ρ nm2).a=some ⟨o.b,0,none⟩:=by
  obtain⟨vs2,c1,c2,_⟩:=k1
  rcases c1 with⟨e,_,_⟩|⟨b,rest,lo',e,rfl,_⟩
  ·subst e;have:=c2.len;simp at this
  ·exact⟨_,rfl,by rw[e]⟩
 obtain⟨o1,rfl,a1⟩:=e1
 obtain⟨o2,rfl,a2⟩:=e2
 have hob:o1.b≠o2.b:=fun e=>r.dj nm nm2 _ _ (s2 _ _ hb) (s2 _ _ hb2) hnm _ a1 (by rw[a2,e])
 have hp: ∃rest,ov.Perm ([o1]++[o2]++rest):=by
  obtain⟨l1,l2,e3⟩:=List.append_of_mem (g2 _ List.mem_cons_self)
  have hm:=k2 _ List.mem_cons_self
  rw[e3] at hm⊢
  have hm2:o2∈l1++l2:=by
   rcases List.mem_append.1 hm with h|h
   ·exact List.mem_append_left _ h
   ·rcases List.mem_cons.1 h with h|h
    ·exact absurd (by rw[h]) hob
    ·exact List.mem_append_right _ h
  obtain⟨l3,l4,e4⟩:=List.append_of_mem hm2
  refine⟨l3++l4,List.perm_middle.trans ?_⟩
  rw[e4]
  exact(List.perm_middle (l₁:=l3) (l₂:=l4) (a:=o2)).cons o1
 obtain⟨rest,h5⟩:=hp
 have h6: ∀o∈ov,o.b≠o1.b→o.b≠o2.b→o∈rest:=fun o ho n1 n2=>by
  have:=h5.mem_iff.1 ho
  simp only[List.cons_append,List.nil_append,List.mem_cons] at this
  rcases this with rfl|rfl|h
  ·exact absurd rfl n1
  ·exact absurd rfl n2
  ·exact h
 have hlo2: ∀o∈[o2],o.lo=true:=by obtain⟨_,_,_,_,h⟩:=k1;exact h rfl
 have hall: ∀o∈[o1]++[o2],o.lo=true:=fun o ho=>by
  rcases List.mem_append.1 ho with h|h
  ·exact q4 o h
  ·exact hlo2 o h
 refine ch_callO (M:=[o1]++[o2]) (rest:=rest) (vs:=[.slice (ρ nm).a (ρ nm).n (ρ nm).c, .int .i64 i, .slice (ρ nm2).a (ρ nm2).n (ρ nm2).c]) hy (by simp only[opvs,p1,p2,p3]) h5 (hF G (ρ nm) (ρ nm2) [o1] [o2] r.gb hB q5 hB2) hd (fun v own1 G' hG hK a' w' rl=>?_) a w Q ⟨r.h,r.sz,frA_ok a,r.df⟩
 obtain⟨z,rfl,vs',k1',k2',k3',k4'⟩:=hK
 have hs1:=k1'.relo (flM ([o1]++[o2]))
 have e3: ∀o∈own1.map (relo (flM ([o1]++[o2]))),o.lo=true:=fun o ho=>by
  obtain⟨o',_,rfl⟩:=List.mem_map.1 ho
  exact flM_true _ hall
 generalize own1.map (relo (flM ([o1]++[o2])))=B' at rl e3 hs1
 have rl':Rel C n (Sx.put (frA a) (some d) (.slice z.a z.n z.c)) (B'++rest) G' a' w':=rl
 have hdis:=(List.pairwise_append.1 rl'.h.nd).2.2
 have rd:=(r.dropB nm).dropB nm2
 have hin: ∀q B0,Sx.upB (Sx.upB tb [(nm,none)]) [(nm2,none)] q=some B0→q≠nm∧q≠nm2∧tb q=some B0:=fun q B0 e=>by
  simp only[Sx.upB] at e
  split at e
  ·cases e
  ·split at e
   ·cases e
   ·exact⟨by assumption,by assumption,e⟩
 have hf2:FreshX [d] (some d) tl (Sx.upB (Sx.upB tb [(nm,none)]) [(nm2,none)]):=fun q hq=>by
  obtain⟨f1,f2⟩:=hf q hq
  exact⟨f1,fun k B e1 e=>f2 k B e1 (hin k B e).2.2⟩
 have hsep: ∀q B0,Sx.upB (Sx.upB tb [(nm,none)]) [(nm2,none)] q=some B0→ ∀o∈ov,(ρ q).a=some ⟨o.b,0,none⟩→o∈rest:=fun q B0 e o ho hbq=>by
  obtain⟨n1,n2,n3⟩:=hin q B0 e
  exact h6 o ho (fun e'=>r.dj nm q _ _ (s2 _ _ hb) n3 (Ne.symm n1) _ a1 (by rw[hbq,e'])) (fun e'=>r.dj nm2 q _ _ (s2 _ _ hb2) n3 (Ne.symm n2) _ a2 (by rw[hbq,e']))
 have r3:=rd.new' (x:=z) (B':= .b ty0 s dso true) (os:=B') (ov':=B'++rest) (f:= .rw d) (y:= .slice z.a z.n z.c) hf2 hG.le rl'.h ⟨vs',by simpa using hs1,k2',k3',fun _=>e3⟩ (fun o ho=>List.mem_append_left _ ho)
  (fun q B0 hq e o ho hbq=>⟨List.mem_append_right _ (hsep q B0 e o ho hbq),fun hc=>by
   have hx: ∃o1∈B',o1.b=o.b:=by
    rcases hs1 with⟨_,h,_⟩|⟨b0,rest0,lo0,h,hB,_⟩
    ·rw[show z=_ from h] at hc;cases hc
    ·rw[show z=_ from h] at hc;cases hc;exact⟨⟨_,flatL vs'++rest0,_,lo0⟩,by rw[hB];exact List.mem_cons_self,rfl⟩
   obtain⟨o3,ho3,he3⟩:=hx
   exact hdis o3 ho3 o (hsep q B0 e o ho hbq) he3⟩) (by show _=_;simp) (putA_rel rl')
 exact hk.run _ G' _ a' w' r3
theorem ci[fu:Fu]{f:FuncId}{nm nm2 d cap s:Nat}{i:Int}{ty ty2:TypeId}{ds dso:List DV}{x:DV}(dso':List DV)(ha:calI fr own cf=some ⟨f,nm,nm2,i,ty,ty2,s,ds,x,cap,d⟩)(hF:PI GB Tryz.prog f i s ty ty2 ds x cap dso)(he:dso=dso')
  (hgo:goA tt n fu.n fr own cf (.rw d) [(nm,none),(nm2,none),(d,some (.b ty s dso' true))] [d]=⟨vc,fr',own',cf'⟩)(k:CfS Tryz.prog GB C n Q0 fr' own' cf')
  (hv:allP vc:=by first|exact trivial|(simp only[allP];kernel_rfl)|(simp only[allP];omega)):CfS Tryz.prog GB C n Q0 fr own cf:=by
 subst he
 unfold calI at ha
 split at ha<;>try (cases ha;done)
 rename_i hh
 split at ha<;>try (cases ha;done)
 rename_i h0 h1
 split at ha<;>try (cases ha;done)
 rename_i h2 h3
 split at ha<;>try (cases ha;done)
 rename_i hb hb2
 rw[cond_eq_ite] at ha
 split at ha<;>cases ha
 rename_i hc
 simp only[Bool.and_eq_true,Bool.not_eq_true',Nat.blt_eq] at hc
 obtain⟨⟨c1,c2⟩,c3,c4,c5⟩:=hc
 cases Nat.eq_of_beq_eq_true c4
 exact us hh (ok_callI c1 c2 c3 c5 h0 h1 h2 h3 hb hb2 hF) hgo hv k
theorem kbT(d:Nat){ops:Array Oper}{r:List Oper}{K:List Kt}(hl:lookX fr d=some (.d (.v (.bool true))))(k:CfS Tryz.prog GB C n Q0 ((d, .tt)::fr) own (.ops ops r K)):CfS Tryz.prog GB C n Q0 fr own (.ops ops r K):=lookX_same (g:= .tt) hl (fun _ G _ e=>(is_v (G:=G)).1 e) k
theorem kbF(d:Nat){ops:Array Oper}{r:List Oper}{K:List Kt}(hl:lookX fr d=some (.d (.v (.bool false))))(k:CfS Tryz.prog GB C n Q0 ((d, .ff)::fr) own (.ops ops r K)):CfS Tryz.prog GB C n Q0 fr own (.ops ops r K):=lookX_same (g:= .ff) hl (fun _ G _ e=>(is_v (G:=G)).1 e) k
end
end Go.Sx
end

section
set_option maxRecDepth 100000
namespace Go.Sx
open Go Go.Proofs
section
variable {GB:Gh} {C:Ctx} {n:Nat} {Q0:Exit→Act→World→Prop} {fr fr':FrX} {own own':OwX} {cf cf':Cf} {vc:List Prop}
theorem ok_xtn{lk:LK}{bk:BM}{fo:Operand}{args:Array Operand}{tys:Array TypeId}{f:FuncId}{ds:List DV}{rv:DV}{v:Value}{fn:Func}{entry:Array Value→Sem Value}{dst:Option Nat}{ty:TypeId}{pos:String}{af:Array Edge}{gd:Option (Nat×Bool)}(ha:cargs lk fo args=some (f,ds))
  (hf:Tryz.prog.funcs[f]? =some fn)(hname:(fn.name== "runtime.NumGoroutine")=false)(hb:fn.body.isNone=true)(hn:Extern.findNext fn=none)(he:Extern.find fn=some entry)
  (hrun: ∀G vs w,IsLs G ds vs→(entry ⟨vs⟩).run Tryz.prog w= .ok v w)(hv: ∀G,Is G rv v):
  OpR Tryz.prog GB C n lk bk ⟨dst, .call ⟨.value fo,args,tys⟩,ty,pos,af,gd⟩ (.d rv) [] []:=by
 refine OpR.yd fun ρ G ov a w r=>⟨v,hv G,?_⟩
 obtain⟨h1,h2⟩:=cargs_ok ha
 obtain⟨y,hy,hy'⟩:=r.ev h1
 rw[(is_v (G:=G)).1 hy'] at hy
 obtain⟨vs,h3,h4⟩:=r.evDs h2
 intro a' w' hfr hh
 have ev:args.map a'.eval=⟨vs⟩:=by apply Array.ext';simpa using opvs_eval hfr h3
 simp only[execOp,resolve,opv_eval hfr hy,ev,Deferred.ofValue]
 show(invoke (.fn (.func f) #[]) _).run Tryz.prog w'=_
 simp only[invoke]
 have h5:=run_callFunc_extern (P:=Tryz.prog) hf hname hb hn he
 rw[h5]
 simp[hrun G vs w' h4,Result.andThen]
theorem xc[fu:Fu]{f:FuncId}{ds:List DV}{rv:DV}{v:Value}{fn:Func}{entry:Array Value→Sem Value}(ha:calA fr cf=some (f,ds))(hf:Tryz.prog.funcs[f]? =some fn)(hname:(fn.name== "runtime.NumGoroutine")=false)(hb:fn.body.isNone=true)(hn:Extern.findNext fn=none)(he:Extern.find fn=some entry)
  (hrun: ∀G vs w,IsLs G ds vs→(entry ⟨vs⟩).run Tryz.prog w= .ok v w)(hv': ∀G,Is G rv v)(hgo:goA tt n fu.n fr own cf (.d rv) [] []=⟨vc,fr',own',cf'⟩)(k:CfS Tryz.prog GB C n Q0 fr' own' cf')
  (hv:allP vc:=by first|exact trivial|(simp only[allP];kernel_rfl)|(simp only[allP];omega)|(simp only[allP,List.length_map,List.length_set,List.length_replicate];omega)):CfS Tryz.prog GB C n Q0 fr own cf:=by
 unfold calA at ha
 split at ha<;>try (cases ha;done)
 rename_i hh
 exact us hh (ok_xtn ha hf hname hb hn he hrun hv') hgo hv k
end
end Go.Sx
end

section
set_option maxRecDepth 100000
namespace Go.Sx
open Go Go.Proofs
section
variable {GB:Gh} {C:Ctx} {n:Nat} {Q0:Exit→Act→World→Prop} {fr fr':FrX} {own own':OwX} {cf cf':Cf} {vc:List Prop}
def xrA(fr:FrX)(cf:Cf):Option (Int×Int):=match opC fr cf with
 |some ⟨_, .binOp .xor _ x y _,_,_,_,_⟩=>match evX (lkC fr cf) x,evX (lkC fr cf) y with
  |some (.d (.v (.int .u32 p))),some (.d (.v (.int .u32 q)))=>some (p,q)
  |_,_=>none
 |_=>none
theorem xr[fu:Fu]{p q:Int}(u:Int)(h:xrA fr cf=some (p,q))(e:(((BitVec.ofInt 32 p^^^BitVec.ofInt 32 q).toNat:Nat):Int)=u)(hgo:goA tt n fu.n fr own cf (.d (.v (.int .u32 u))) [] []=⟨vc,fr',own',cf'⟩)(k:CfS Tryz.prog GB C n Q0 fr' own' cf')
  (hv:allP vc:=by first|exact trivial|(simp only[allP];kernel_rfl)|(simp only[allP];omega)):CfS Tryz.prog GB C n Q0 fr own cf:=by
 unfold xrA at h
 split at h<;>try (cases h;done)
 rename_i hh
 split at h<;>cases h
 rename_i h1 h2
 subst e
 exact us hh (.yd fun ρ G ov a w r=>by
  obtain⟨y1,h3,h4⟩:=r.ev h1
  obtain⟨y2,h5,h6⟩:=r.ev h2
  rw[isX_int] at h4 h6;subst h4 h6
  exact⟨_,isX_int.2 rfl,yd_int h3 h5 fun w=>by
   show(pure (Value.int .u32 (IntKind.u32.wrap ((BitVec.ofInt 32 p^^^BitVec.ofInt 32 q).toNat:Int))):Sem Value).run Tryz.prog w=_
   rw[wrapB32];rfl⟩) hgo hv k
def swA(fr:FrX)(cf:Cf):Option (Int×Int):=match opC fr cf with
 |some ⟨_, .binOp .sub _ x y _,_,_,_,_⟩=>match evX (lkC fr cf) x,evX (lkC fr cf) y with
  |some (.d (.v (.int .u32 p))),some (.d (.v (.int .u32 q)))=>some (p,q)
  |_,_=>none
 |_=>none
theorem sw[fu:Fu]{p q:Int}(u:Int)(h:swA fr cf=some (p,q))(e:(p-q)%4294967296=u)(hgo:goA tt n fu.n fr own cf (.d (.v (.int .u32 u))) [] []=⟨vc,fr',own',cf'⟩)(k:CfS Tryz.prog GB C n Q0 fr' own' cf')
  (hv:allP vc:=by first|exact trivial|(simp only[allP];kernel_rfl)|(simp only[allP];omega)):CfS Tryz.prog GB C n Q0 fr own cf:=by
 unfold swA at h
 split at h<;>try (cases h;done)
 rename_i hh
 split at h<;>cases h
 rename_i h1 h2
 subst e
 exact us hh (.yd fun ρ G ov a w r=>by
  obtain⟨y1,h3,h4⟩:=r.ev h1
  obtain⟨y2,h5,h6⟩:=r.ev h2
  rw[isX_int] at h4 h6;subst h4 h6
  exact⟨_,isX_int.2 rfl,by rw[←wrap_u32];exact yd_subw h3 h5⟩) hgo hv k
def ntA(fr:FrX)(cf:Cf):Option Int:=match opC fr cf with
 |some ⟨_, .unOp .xor _ x,_,_,_,_⟩=>match evX (lkC fr cf) x with
  |some (.d (.v (.int .u32 p)))=>some p
  |_=>none
 |_=>none
theorem nt[fu:Fu]{p:Int}(u:Int)(h:ntA fr cf=some p)(e:(((BitVec.ofInt 32 IntKind.u32.max^^^BitVec.ofInt 32 p).toNat:Nat):Int)=u)(hgo:goA tt n fu.n fr own cf (.d (.v (.int .u32 u))) [] []=⟨vc,fr',own',cf'⟩)(k:CfS Tryz.prog GB C n Q0 fr' own' cf')
  (hv:allP vc:=by first|exact trivial|(simp only[allP];kernel_rfl)|(simp only[allP];omega)):CfS Tryz.prog GB C n Q0 fr own cf:=by
 unfold ntA at h
 split at h<;>try (cases h;done)
 rename_i hh
 split at h<;>cases h
 rename_i hx
 subst e
 refine us hh (.x1 hx fun ρ G ov a w y _ r h1 h2=>?_) hgo hv k
 rw[isX_int] at h2;subst h2
 refine⟨_,isX_int.2 rfl,fun a w hf hh=>?_⟩
 simp only[execOp,opv_eval hf h1]
 refine value_of (w':=w) ?_
 show(pure (Value.int .u32 (IntKind.u32.wrap ((BitVec.ofInt 32 IntKind.u32.max^^^BitVec.ofInt 32 p).toNat:Int))):Sem Value).run Tryz.prog w=_
 rw[wrapB32];rfl
end
end Go.Sx
end

section
set_option maxRecDepth 100000
namespace Go.Sx
open Go Go.Proofs
theorem isNilS(G:Gh):Is G (.sl []) (.slice none 0 0):=is_sl.2 ⟨0,⟨none,0,0⟩,[],rfl,IsSl.nil G 0, .nil⟩
instance:TyZD Tryz.prog 27 (.agg ⟨[.int .i64 0, .slice none 0 0]⟩) [.v (.int .i64 0), .sl []]:=⟨inferInstance,(.cons ((is_v.2 rfl)) (.cons (isNilS _) .nil))⟩
instance:TyZD Tryz.prog 141 (.agg ⟨[.bool false, .slice none 0 0, .bool false, .slice none 0 0, .bool false, .slice none 0 0, .int .i64 0, .int .i64 0]⟩) [.v (.bool false), .sl [], .v (.bool false), .sl [], .v (.bool false), .sl [], .v (.int .i64 0), .v (.int .i64 0)]:=⟨inferInstance,(.cons ((is_v.2 rfl)) (.cons (isNilS _) (.cons ((is_v.2 rfl)) (.cons (isNilS _) (.cons ((is_v.2 rfl)) (.cons (isNilS _) (.cons ((is_v.2 rfl)) (.cons ((is_v.2 rfl)) .nil))))))))⟩
instance:TyZE Tryz.prog 141 (.ag [.v (.bool false), .sl [], .v (.bool false), .sl [], .v (.bool false), .sl [], .v (.int .i64 0), .v (.int .i64 0)]):=⟨⟨_,inferInstance,is_ag.2 ⟨_,rfl,(.cons ((is_v.2 rfl)) (.cons (isNilS _) (.cons ((is_v.2 rfl)) (.cons (isNilS _) (.cons ((is_v.2 rfl)) (.cons (isNilS _) (.cons ((is_v.2 rfl)) (.cons ((is_v.2 rfl)) .nil))))))))⟩,rfl⟩⟩
end Go.Sx
end

section
set_option maxRecDepth 100000
namespace Go.Sx
open Go Go.Proofs
theorem trimD_step{ds:List Nat}{k:Nat}(hk:k<ds.length)(h:trimD ds=trimD (ds.take (k+1)))(h0:ds.getD k 0=0):trimD ds=trimD (ds.take k):=by
 rw[h,List.take_succ_eq_append_getElem hk]
 have:ds[k]=0:=by rw[List.getD_eq_getElem?_getD,List.getElem?_eq_getElem hk] at h0;simpa using h0
 rw[this,trimD_snoc0]
theorem trimD_stop{ds:List Nat}{k:Nat}(hk:k<ds.length)(h:trimD ds=trimD (ds.take (k+1)))(h0:ds.getD k 0≠0):trimD ds=ds.take (k+1):=by
 rw[h,List.take_succ_eq_append_getElem hk]
 have:ds[k]≠0:=by rw[List.getD_eq_getElem?_getD,List.getElem?_eq_getElem hk] at h0;simpa using h0
 exact trimD_snoc this
theorem nat_trim{A G:Gh}{x:SV}{ds:List Nat}(hx:IsD A x ds)[GL A G](hb:ds.length≤1125899906842624):Fn Tryz.prog 281 [x.v] G (fun v _=>v= .slice x.a (trimD ds).length x.c):=by
 have hlen:=hx.len
 have hcap:=hx.sl.cap
 refine Fn.intro Tryz.func281 rfl rfl Tryz.ntmps281 rfl ?_
 intro C _ _
 refine sR<|sa rfl rfl<|zE<|st_seq<|st_block<|?_
 refine st_loop (X:=Nat) (fun k=>[(0, .slice x.a k x.c)]) (fun _=>[]) (fun k _=>k≤ds.length∧trimD ds=trimD (ds.take k)) (fun k=>k) ds.length ⟨Nat.le_refl _,by simp⟩ (hlen▸ .cons rfl .nil) rfl ?_
 rintro k Gx _ ⟨hk,ht⟩
 refine st_seq<|sR<|sm rfl rfl<|slen rfl rfl<|sy (yd_gtr rfl rfl) rfl<|sm rfl rfl<|?_
 refine st_caseP 6 rfl (fun hg=>?_) (fun hg=>?_)
 ·have hk1:k-1<ds.length:=by omega
  have hkt:((k:Int)-1).toNat=k-1:=by omega
  have hk2:k=k-1+1:=by omega
  refine syg rfl rfl (yd_move rfl) rfl<|syg rfl rfl (yd_move rfl) rfl<|syg rfl rfl (yd_len rfl) rfl<|syg rfl rfl (yd_sub64 rfl rfl) rfl<|?_
  refine syg rfl rfl (yd_ixD (z:=⟨x.a,k,x.c⟩) (hx.take k hk) rfl rfl (by omega) (by show _<(k:Int);omega)) rfl<|syg rfl rfl (yd_ldD hx rfl (by omega)) rfl<|syg rfl rfl (yd_eql rfl rfl) rfl<|sy (yd_pickT rfl rfl) rfl<|zE<|?_
  rw[hkt]
  refine st_condE rfl (fun hc=>?_) (fun hc=>?_) -- slot 14
  ·refine st_exit<|st_te<|st_te<|st_inBlock_eq<|sR<|sm rfl rfl<|sa rfl rfl<|zE<|st_ret<|?_
   have hs:=trimD_stop hk1 (hk2▸ht) (fun e=>hc (by rw[e];rfl))
   refine zD (.tmp rfl .nil) ?_
   rw[hs,←hk2]
   simp[tupled,hk]
  refine zK<|st_block<|st_region<|sm rfl rfl<|sm rfl rfl<|slen rfl rfl<|sy (yd_sub64 rfl rfl) rfl<|sy (yd_slice_hi rfl rfl (by omega) (by omega)) rfl<|?_
  refine sa rfl rfl<|zE<|?_
  exact st_again (k-1) ⟨by omega,trimD_step hk1 (hk2▸ht) (by omega)⟩ (by omega) (.cons (by rw[←hkt];rfl) .nil) rfl
 refine ss rfl rfl rfl rfl<|ss rfl rfl rfl rfl<|ss rfl rfl rfl rfl<|ss rfl rfl rfl rfl<|ss rfl rfl rfl rfl<|ss rfl rfl rfl rfl<|?_
 refine ss rfl rfl rfl rfl<|sy (yd_pickF rfl rfl) rfl<|zE<|st_condF rfl<|st_exit<|st_te<|st_te<|st_inBlock_eq<|sR<|sm rfl rfl<|sa rfl rfl<|zE<|st_ret<|?_
 have hk0:k=0:=by omega
 subst hk0
 refine zD (.tmp rfl .nil) ?_
 rw[ht]
 rfl
/-! ### Normal, Clone, Norm -/
theorem nat_Normal{A G:Gh}{x:SV}{ds:List Nat}(hx:IsD A x ds)[GL A G](hb:ds.length≤1125899906842624):Fn Tryz.prog 262 [x.v] G (fun v _=>v= .bool (decide (Nrm ds))):=by
 have hlen:=hx.len
 refine Fn.intro Tryz.func262 rfl rfl Tryz.ntmps262 rfl ?_
 intro C _ _
 refine sR<|sa rfl rfl<|zE<|sR<|sm rfl rfl<|slen rfl rfl<|sy (yd_eql rfl rfl) rfl<|sm rfl rfl<|?_
 refine st_caseP 6 rfl (fun hg=>?_) (fun hg=>?_)
 ·refine ss rfl rfl rfl rfl<|ss rfl rfl rfl rfl<|ss rfl rfl rfl rfl<|ss rfl rfl rfl rfl<|ss rfl rfl rfl rfl<|ss rfl rfl rfl rfl<|ss rfl rfl rfl rfl<|sy (yd_pickT rfl rfl) rfl<|sa rfl rfl<|?_
  refine zE<|st_ret<|?_
  refine zD (.tmp rfl .nil) ?_
  have:ds=[]:=List.eq_nil_of_length_eq_zero (by omega)
  subst this
  simp[tupled,Nrm]
 have hne:0<ds.length:=by omega
 have hkt:((x.n:Int)-1).toNat=ds.length-1:=by omega
 refine syg rfl rfl (yd_move rfl) rfl<|syg rfl rfl (yd_move rfl) rfl<|syg rfl rfl (yd_len rfl) rfl<|syg rfl rfl (yd_sub64 rfl rfl) rfl<|syg rfl rfl (yd_ixD hx rfl rfl (by omega) (by omega)) rfl<|?_
 refine syg rfl rfl (yd_ldD hx rfl (by omega)) rfl<|syg rfl rfl (yd_neq rfl rfl) rfl<|sy (yd_pickF rfl rfl) rfl<|sa rfl rfl<|zE<|st_ret<|?_
 refine zD (.tmp rfl .nil) ?_
 rw[hkt]
 simp only[tupled,Value.bool.injEq,decide_eq_decide,Nrm,List.getLast?_eq_getElem?,List.getD_eq_getElem?_getD,List.getElem?_eq_getElem (show ds.length-1<ds.length by omega),Option.getD_some,ne_eq,Option.some.injEq]
 exact not_congr (by omega)
theorem dI_flat(ds:List Nat): ∀v∈ds.map dI,flat v=true:=fun v hv=>by
 obtain⟨d,_,rfl⟩:=List.mem_map.1 hv;rfl
theorem nat_Clone{A G:Gh}{x:SV}{ds:List Nat}(hx:IsD A x ds)[GL A G](hb:ds.length≤1125899906842):Fn Tryz.prog 283 [x.v] G (fun v G'=> ∃z:SV,v=z.v∧IsD G' z ds):=by
 have hlen:=hx.len
 refine Fn.intro Tryz.func283 rfl rfl Tryz.ntmps283 rfl ?_
 intro C _ _
 refine sR<|sa rfl rfl<|zE<|st_seq<|sR<|sm rfl rfl<|sy (yd_eqS rfl rfl) rfl<|zE<|?_
 refine st_condB rfl (fun hc=>?_) (fun hc=>?_)
 ·refine sR<|sa rfl rfl<|zE<|st_ret<|?_
  refine zD (.tmp rfl .nil) ⟨⟨none,0,0⟩,rfl,?_⟩
  rcases hx.sl.mem with h|⟨b,off,cs,ha,_⟩
  ·have:ds=[]:=by simpa using h
   subst this;exact .nil _
  ·rw[ha] at hc;cases hc
 refine zK<|sR<|?_
 refine sc (ch_slice0 rfl ?_)
 intro b1
 refine sm rfl rfl<|?_
 refine sc (ch_append_own (xs:=[]) (rest:=[]) (ys:=ds.map dI) rfl rfl (.hd ..) rfl rfl (Nat.le_refl _) (src_D hx) (by simp[hlen]) (dI_flat ds) (by decide) (by omega) rfl rfl ?_)
 intro b cap rest h1 h2
 refine sa rfl rfl<|zE<|st_freeze b (.hd ..) (fun G' _ hgb=>?_)
 refine st_ret<|?_
 refine zD (.tmp rfl .nil) ⟨⟨some ⟨b,0,none⟩,x.n,cap⟩,by simp[tupled,SV.v],?_⟩
 exact .of_block hx.ok hgb.h hlen (by omega) (by simp)
theorem nat_Norm{A G:Gh}{x:SV}{ds:List Nat}{k:Nat}(hx:IsD A x ds)[GL A G](hk:dv ds<2^k)(hb:ds.length≤1125899906842):Fn Tryz.prog 255 [x.v] G (fun v G'=> ∃z:SV,v=z.v∧IsN k G' z (dv ds)):=by
 have htl:=trimD_len ds
 refine Fn.intro Tryz.func255 rfl rfl Tryz.ntmps255 rfl ?_
 intro C _ _
 refine sR<|sa rfl rfl<|zE<|sR<|sm rfl rfl<|?_
 refine sc (zC rfl rfl (nat_trim hx (by omega)) rfl ?_)
 rintro _ G1 _ rfl
 refine sc (zC rfl rfl (nat_Clone hx.trim (by omega)) rfl ?_)
 rintro _ G2 _ ⟨z,rfl,hz⟩
 refine sa rfl rfl<|zE<|st_ret<|?_
 refine zD (.tmp rfl .nil) ⟨z,rfl,?_⟩
 exact⟨by rw[dg_trim hx.ok];exact hz,hk⟩
end Go.Sx
end

section
namespace Go.Proofs
open Go.Shelf
def Tryz.lays128_ren:Go.Shelf.Ren:=⟨fun|128=>287|n=>n,fun|51=>279|3=>3|4=>4|46=>238|5=>5|9=>9|n=>n,fun|n=>n⟩
def Tryz.lays133_ren:Go.Shelf.Ren:=⟨fun|133=>268|128=>287|n=>n,fun|51=>279|3=>3|4=>4|46=>238|5=>5|9=>9|n=>n,fun|n=>n⟩
theorem Tryz.lays133:Go.Proofs.Lays.n133 Tryz.prog Tryz.lays133_ren:={
 mixed:=by kernel_rfl
 f128:=Tryz.func287.trans (congrArg some (by kernel_rfl))
 f133:=Tryz.func268.trans (congrArg some (by kernel_rfl))
 t3:=Tryz.underlying3
 a3:=Tryz.isAgg3
 z3:=Tryz.sizeOf3
 v3:=Tryz.zeroValue3
 t4:=Tryz.underlying4
 a4:=Tryz.isAgg4
 z4:=Tryz.sizeOf4
 v4:=Tryz.zeroValue4
 t5:=Tryz.underlying5
 a5:=Tryz.isAgg5
 z5:=Tryz.sizeOf5
 v5:=Tryz.zeroValue5
 t9:=Tryz.underlying9
 a9:=Tryz.isAgg9
 z9:=Tryz.sizeOf9
 v9:=Tryz.zeroValue9
 t46:=Tryz.underlying238
 a46:=Tryz.isAgg238
 z46:=Tryz.sizeOf238
 v46:=Tryz.zeroValue238
 t51:=Tryz.underlying279
 a51:=Tryz.isAgg279
 z51:=Tryz.sizeOf279
 v51:=Tryz.zeroValue279}
theorem Tryz.bits_LeadingZeros32(x:Int)(w:World)(h0:0≤x)(h1:x≤4294967295):
  Calls Tryz.prog 268 #[.int .u32 x] w fun e w'=>e= .returned (.int .i64 (32-(Lib.bitLen x.toNat:Int)))∧w'=w:=Any.bits_LeadingZeros32 Tryz.lays133 x w h0 h1
def Tryz.lays264_ren:Go.Shelf.Ren:=⟨fun|264=>89|n=>n,fun|53=>154|46=>238|n=>n,fun|n=>n⟩
theorem Tryz.lays264:Go.Proofs.Lays.n264 Tryz.prog Tryz.lays264_ren:={
 mixed:=by kernel_rfl
 f264:=Tryz.func89.trans (congrArg some (by kernel_rfl))
 t46:=Tryz.underlying238
 a46:=Tryz.isAgg238
 z46:=Tryz.sizeOf238
 v46:=Tryz.zeroValue238
 t53:=Tryz.underlying154
 a53:=Tryz.isAgg154
 z53:=Tryz.sizeOf154
 v53:=Tryz.zeroValue154}
open Go.RowKit Go.Lib in
theorem Tryz.bits_Mul64(x y:Nat)(hx:x<18446744073709551616)(hy:y<18446744073709551616)(w:World):
  Calls Tryz.prog 89 #[.int .u64 x, .int .u64 y] w fun e w'=>e= .returned (.tuple #[.int .u64 ((x*y/18446744073709551616:Nat):Int), .int .u64 ((x*y%18446744073709551616:Nat):Int)])∧w'=w:=Any.bits_Mul64 Tryz.lays264 x y hx hy w
end Go.Proofs
end

section
set_option maxRecDepth 100000
namespace Go.Sx
open Go Go.Proofs
/-! ### the number of binary digits -/
def bl(x:Nat):Nat:=if x=0 then 0 else Nat.log2 x+1
theorem lt_bl(x:Nat):x<2^bl x:=by
 unfold bl
 split
 ·rename_i h;subst h;decide
 ·exact Nat.lt_log2_self
theorem bl_le{x k:Nat}:bl x≤k↔x<2^k:=by
 constructor
 ·intro h;exact Nat.lt_of_lt_of_le (lt_bl x) (Nat.pow_le_pow_right (by omega) h)
 ·intro h
  unfold bl
  split
  ·omega
  ·rename_i h0
   have:=(Nat.log2_lt h0).2 h
   omega
theorem bl_half{x:Nat}(h:x≠0):bl x=1+bl (x/2):=by
 have h1: ∀k,bl x≤k+1↔bl (x/2)≤k:=fun k=>by
  rw[bl_le,bl_le,Nat.pow_succ];omega
 have h2:bl x≠0:=fun e=>by
  have:=lt_bl x;rw[e] at this;simp at this;exact h this
 have h3:=(h1 (bl (x/2))).2 (Nat.le_refl _)
 have h4:=(h1 (bl x-1)).1 (by omega)
 omega
theorem bitLenAux_eq: ∀(f x:Nat),x<2^f→Lib.bitLenAux f x=bl x
 |0,x,h=>by
  have:x=0:=by simpa using h
  subst this;rfl
 |f+1,x,h=>by
  unfold Lib.bitLenAux
  split
  ·rename_i h0;subst h0;rfl
  ·rename_i h0
   rw[bitLenAux_eq f (x/2) (by rw[Nat.pow_succ] at h;omega),bl_half h0]
theorem bitLen_eq{x:Nat}(h:x<2^64):Lib.bitLen x=bl x:=bitLenAux_eq 64 x h
theorem bl_shift{x k:Nat}(d:Nat)(h:x<2^k)(hd:d≠0):bl (x+2^k*d)=k+bl d:=by
 have h1: ∀j,bl (x+2^k*d)≤k+j↔bl d≤j:=fun j=>by
  rw[bl_le,bl_le,Nat.pow_add]
  constructor
  ·intro h'
   exact Nat.lt_of_mul_lt_mul_left (a:=2^k) (by omega)
  ·intro h'
   have:2^k*(d+1)≤2^k*2^j:=Nat.mul_le_mul_left _ h'
   rw[Nat.mul_add] at this
   omega
 have h2:k<bl (x+2^k*d):=by
  rcases Nat.lt_or_ge k (bl (x+2^k*d)) with h'|h'
  ·exact h'
  ·have:=bl_le.1 h'
   have h3:2^k*1≤2^k*d:=Nat.mul_le_mul_left _ (by omega)
   omega
 have h3:=(h1 (bl d)).2 (Nat.le_refl _)
 have h4:=(h1 (bl (x+2^k*d)-k)).1 (by omega)
 omega
theorem bl_dv{ds:List Nat}(h:DOk ds)(hn:Nrm ds)(hne:ds≠[]):bl (dv ds)=32*(ds.length-1)+bl (ds.getD (ds.length-1) 0):=by
 rcases List.eq_nil_or_concat ds with rfl|⟨l,d,rfl⟩
 ·exact absurd rfl hne
 ·rw[List.concat_eq_append] at*
  have hd:d≠0:=fun e=>by subst e;simp[Nrm] at hn
  have hl:DOk l:=fun x hx=>h x (List.mem_append_left _ hx)
  have h1:=dv_lt hl
  rw[dv_append]
  have h2:(4294967296:Nat)^l.length=2^(32*l.length):=by rw[Nat.pow_mul]
  rw[h2] at h1⊢
  have h3:dv [d]=d:=by simp[dv]
  rw[h3,bl_shift d h1 hd]
  have h4:(l++[d]).length-1=l.length:=by simp
  rw[h4,List.getD_eq_getElem?_getD,List.getElem?_append_right (Nat.le_refl _)]
  simp
theorem callable_of{P:Program}{f:FuncId}{fn:Func}{c:Code}(h:P.funcs[f]? =some fn)(hb:fn.body=some c)(hn:(fn.name== "runtime.NumGoroutine")=false):Callable P f:=⟨fn,h,hn,by rw[hb];rfl⟩
theorem bits_lz32{G:Gh}{x:Nat}(hx:x<4294967296):Fn Tryz.prog 268 [.int .u32 (x:Int)] G (fun v _=>v= .int .i64 (32-(bl x:Int))):=by
 have h:=Fn.of_calls (G:=G) (callable_of Tryz.func268 rfl rfl) (fun w=>Tryz.bits_LeadingZeros32 (x:Int) w (by omega) (by omega))
 rw[Int.toNat_natCast,bitLen_eq (Nat.lt_trans hx (by decide))] at h
 exact h
/-! ### FromUint, Uint, Bits -/
theorem nat_FromUint{G:Gh}{u:Nat}(hu:u<18446744073709551616):Fn Tryz.prog 256 [.int .u64 (u:Int)] G (fun v G'=> ∃z:SV,v=z.v∧IsN 64 G' z u):=by
 refine Fn.intro Tryz.func256 rfl rfl Tryz.ntmps256 rfl ?_
 intro C _ _
 refine sR<|sa rfl rfl<|zE<|sR<|sm rfl rfl<|sy (yd_toU32 rfl) rfl<|sm rfl rfl<|?_
 refine sy (yd_shr rfl rfl (by decide)) rfl<|sy (yd_toU32 rfl) rfl<|?_
 refine sc (ch_slice (by rfl) (by rfl) (by rfl) (by rfl) rfl ?_)
 intro b1
 refine st_freeze b1 (.hd ..) (fun G1 _ hgb=>?_)
 have h1:((u:Int)%4294967296)=((u%4294967296:Nat):Int):=by omega
 have h2:((u:Int).fdiv (2^min (32:Int).toNat IntKind.u64.bits)%4294967296)=((u/4294967296:Nat):Int):=by
  have:(2^min (32:Int).toNat IntKind.u64.bits:Int)=4294967296:=by decide
  rw[this,Int.fdiv_eq_ediv_of_nonneg _ (by omega)]
  omega
 have hok:DOk [u%4294967296,u/4294967296]:= .cons (by omega) (.cons (by omega) .nil)
 have hd:IsD G1 ⟨some ⟨b1,0,none⟩,2,2⟩ [u%4294967296,u/4294967296]:= .of_block hok hgb.h rfl (Nat.le_refl _) (by rw[h1,h2];rfl)
 have hv:dv [u%4294967296,u/4294967296]=u:=by simp only[dv];omega
 refine sc (zC rfl rfl (nat_trim hd (by simp)) rfl ?_)
 rintro _ G2 _ rfl
 refine sa rfl rfl<|zE<|st_ret<|?_
 refine zD (.tmp rfl .nil) ⟨⟨some ⟨b1,0,none⟩,(trimD [u%4294967296,u/4294967296]).length,2⟩,rfl,?_⟩
 have:=hd.trim.up (G:=G2)
 rw[←dg_trim hok,hv] at this
 exact⟨by rw[←dg_trim hok,hv];exact this,Nat.lt_of_lt_of_le hu (by decide)⟩
theorem or_add{P:Program}{t:TypeId}(a b k:Nat)(ha:a<2^k)(h:a+b*2^k<18446744073709551616)(w:World):(binOp .or t (.int .u64 (a:Int)) (.int .u64 ((b*2^k:Nat):Int))).run P w= .ok (.int .u64 ((a+b*2^k:Nat):Int)) w:=by
 have h1:(BitVec.ofInt 64 (a:Int) ||| BitVec.ofInt 64 ((b*2^k:Nat):Int)).toNat=a+b*2^k:=by
  rw[BitVec.toNat_or,BitVec.ofInt_natCast,BitVec.ofInt_natCast,BitVec.toNat_ofNat,BitVec.toNat_ofNat,Nat.mod_eq_of_lt (by omega),Nat.mod_eq_of_lt (by omega)]
  rw[←Nat.shiftLeft_eq,Nat.or_comm,←Nat.shiftLeft_add_eq_or_of_lt ha,Nat.shiftLeft_eq]
  omega
 have h2:IntKind.u64.wrap ((a+b*2^k:Nat):Int)=((a+b*2^k:Nat):Int):=by rw[wrap_u64];omega
 simp only[binOp]
 show(Op.intBits .or .u64 (a:Int) ((b*2^k:Nat):Int)).run P w=_
 unfold Op.intBits
 show(pure (Value.int .u64 (IntKind.u64.wrap ((BitVec.ofInt 64 (a:Int) ||| BitVec.ofInt 64 ((b*2^k:Nat):Int)).toNat:Int))):Sem Value).run P w=_
 rw[h1,h2,run_pure]
theorem nat_Uint{A G:Gh}{x:SV}{ds:List Nat}(hx:IsD A x ds)[GL A G](hb:ds.length≤1125899906842624):Fn Tryz.prog 254 [x.v] G (fun v _=>v= .tuple #[.int .u64 ((if dv ds<18446744073709551616 then dv ds else 0:Nat):Int), .bool (decide (dv ds<18446744073709551616))]):=by
 have htl:=trimD_len ds
 have hdv:=dv_trimD ds
 have hok:=hx.ok.trimD
 have hnr:=Nrm.trimD ds
 have hxt:=hx.trim
 have hcall:=fun G1 (_:GL A G1)=>nat_trim (G:=G1) hx (by omega)
 generalize trimD ds=es at*
 have hlen:=hxt.len
 rw[←hdv]
 have hbig:(if dv es<18446744073709551616 then dv es else 0)=if es.length≤2 then dv es else 0:=by
  by_cases h2:es.length≤2
  ·have h3:=dv_lt hok
   have h4:(4294967296:Nat)^es.length≤4294967296^2:=Nat.pow_le_pow_right (by omega) h2
   rw[if_pos h2,if_pos (by omega)]
  ·have h3:=nrm_ge hnr (fun e=>by subst e;simp at h2)
   have h4:(4294967296:Nat)^2≤4294967296^(es.length-1):=Nat.pow_le_pow_right (by omega) (by omega)
   rw[if_neg h2,if_neg (by omega)]
 have hbig2:decide (dv es<18446744073709551616)=decide (es.length≤2):=by
  rw[decide_eq_decide]
  by_cases h2:es.length≤2
  ·have h3:=dv_lt hok
   have h4:(4294967296:Nat)^es.length≤4294967296^2:=Nat.pow_le_pow_right (by omega) h2
   exact⟨fun _=>h2,fun _=>by omega⟩
  ·have h3:=nrm_ge hnr (fun e=>by subst e;simp at h2)
   have h4:(4294967296:Nat)^2≤4294967296^(es.length-1):=Nat.pow_le_pow_right (by omega) (by omega)
   exact⟨fun _=>by omega,fun h=>absurd h h2⟩
 rw[hbig,hbig2]
 refine Fn.intro Tryz.func254 rfl rfl Tryz.ntmps254 rfl ?_
 intro C _ _
 refine sR<|sa rfl rfl<|sa rfl rfl<|zE<|sR<|sm rfl rfl<|?_
 refine sc (zC rfl rfl (hcall _ inferInstance) rfl ?_)
 rintro _ G1 _ rfl
 refine sa rfl rfl<|zE<|st_seq<|sR<|sm rfl rfl<|slen rfl rfl<|sy (yd_gtr rfl rfl) rfl<|zE<|?_
 refine st_condP rfl (fun hc=>?_) (fun hc=>?_) -- slot 11
 ·refine sR<|sa rfl rfl<|sa rfl rfl<|zE<|st_ret<|?_
  refine zD (.tmp rfl (.tmp rfl .nil)) ?_
  have: ¬es.length≤2:=by omega
  simp[tupled,this]
 have h2:es.length≤2:=by omega
 refine zK<|sR<|sa rfl rfl<|zE<|st_seq<|sR<|sm rfl rfl<|slen rfl rfl<|sm rfl rfl<|zE<|st_block<|?_
 refine st_loop (X:=Nat) (fun k=>[(14, .int .i64 k),(13, .int .i64 es.length),(12, .slice x.a es.length x.c),(4, .int .u64 ((dv (es.take k):Nat):Int))]) (fun _=>[]) (fun k _=>k≤es.length) (fun k=>es.length-k) 0 (Nat.zero_le _) (.cons rfl (.cons rfl (.cons rfl (.cons rfl .nil)))) rfl ?_
 rintro k Gx _ hk
 refine sR<|sy (yd_lss rfl rfl) rfl<|zE<|st_seq<|?_
 refine st_condE rfl (fun hc=>?_) (fun hc=>?_) -- slot 15
 ·refine st_exit<|st_te<|st_te<|st_inBlock_eq<|sR<|sm rfl rfl<|sa rfl rfl<|sa rfl rfl<|zE<|st_ret<|?_
  refine zD (.tmp rfl (.tmp rfl .nil)) ?_
  have hk':k=es.length:=by omega
  subst hk'
  simp[tupled,h2]
 have hk':k<es.length:=by omega
 have hdk:=hok.get k
 have hdt:=dv_lt (hok.take k)
 rw[List.length_take,Nat.min_eq_left (by omega)] at hdt
 have hds:=dv_take_succ es k
 have hd2:=dv_lt (hok.take (k+1))
 rw[List.length_take,Nat.min_eq_left (by omega)] at hd2
 have hp2:(4294967296:Nat)^(k+1)≤4294967296^2:=Nat.pow_le_pow_right (by omega) (by omega)
 have hpk:(4294967296:Nat)^k=2^(32*k):=by rw[Nat.pow_mul]
 refine zK<|st_seq<|st_block<|sR<|sm rfl rfl<|sy (yd_ixD (z:=⟨x.a,es.length,x.c⟩) hxt rfl rfl (by omega) (by show(k:Int)<(es.length:Nat);omega)) rfl<|sy (yd_ldD hxt rfl (by omega)) rfl<|sa rfl rfl<|sa rfl rfl<|zE<|st_region<|?_
 refine sm rfl rfl<|sm rfl rfl<|sy (yd_toU64 rfl (by omega) (by rw[Int.toNat_natCast];omega)) rfl<|sm rfl rfl<|sy (yd_mul64 rfl rfl (by omega) (by omega)) rfl<|?_
 have hsh:IntKind.u64.wrap (((es.getD (k:Int).toNat 0:Nat):Int)*2^min ((32:Int)*(k:Int)).toNat IntKind.u64.bits)=((es.getD k 0*2^(32*k):Nat):Int):=by
  have e1:((32:Int)*(k:Int)).toNat=32*k:=by omega
  rw[e1,Int.toNat_natCast,Nat.min_eq_left (by show 32*k≤64;omega),wrap_u64]
  have e2:((es.getD k 0:Nat):Int)*2^(32*k)=((es.getD k 0*2^(32*k):Nat):Int):=by push_cast;rfl
  rw[e2]
  have e3:es.getD k 0*2^(32*k)<18446744073709551616:=by rw[←hpk,Nat.mul_comm];omega
  omega
 refine sy (yd_shl rfl rfl (by omega)) rfl<|?_
 rw[hsh]
 refine sy (yd_int rfl rfl (or_add (dv (es.take k)) (es.getD k 0) (32*k) (by rw[←hpk];exact hdt) (by rw[←hpk,Nat.mul_comm];omega))) rfl<|sa rfl rfl<|zE<|st_region<|sy (yd_add64 rfl rfl) rfl<|sm rfl rfl<|zE<|?_
 refine st_again (k+1) (by omega) (by omega) (.cons rfl (.cons rfl (.cons rfl (.cons ?_ .nil)))) rfl
 rw[hds,hpk,Nat.mul_comm (2^(32*k))]
 rfl
theorem nat_Bits{A G:Gh}{x:SV}{ds:List Nat}(hx:IsD A x ds)[GL A G](hb:ds.length≤1125899906842624):Fn Tryz.prog 250 [x.v] G (fun v _=>v= .int .i64 ((bl (dv ds):Nat):Int)):=by
 have htl:=trimD_len ds
 have hdv:=dv_trimD ds
 have hok:=hx.ok.trimD
 have hnr:=Nrm.trimD ds
 have hxt:=hx.trim
 have hcall:=fun G1 (_:GL A G1)=>nat_trim (G:=G1) hx (by omega)
 generalize trimD ds=es at*
 have hlen:=hxt.len
 rw[←hdv]
 refine Fn.intro Tryz.func250 rfl rfl Tryz.ntmps250 rfl ?_
 intro C _ _
 refine sR<|sa rfl rfl<|zE<|sR<|sm rfl rfl<|?_
 refine sc (zC rfl rfl (hcall _ inferInstance) rfl ?_)
 rintro _ G1 _ rfl
 refine sa rfl rfl<|zE<|st_seq<|sR<|sm rfl rfl<|slen rfl rfl<|sy (yd_eql rfl rfl) rfl<|zE<|?_
 refine st_condP rfl (fun hc=>?_) (fun hc=>?_) -- slot 7
 ·refine sR<|sa rfl rfl<|zE<|st_ret<|?_
  refine zD (.tmp rfl .nil) ?_
  have:es=[]:=List.eq_nil_of_length_eq_zero (by omega)
  subst this
  rfl
 have hne:0<es.length:=by omega
 have hkt:((es.length:Int)-1).toNat=es.length-1:=by omega
 have hg:=hok.get (es.length-1)
 have hbl:bl (es.getD (es.length-1) 0)≤32:=bl_le.2 (by omega)
 refine zK<|sR<|sm rfl rfl<|slen rfl rfl<|sy (yd_mul64 rfl rfl (by omega) (by omega)) rfl<|sm rfl rfl<|sm rfl rfl<|slen rfl rfl<|sy (yd_sub64 rfl rfl) rfl<|?_
 refine sy (yd_ixD (z:=⟨x.a,es.length,x.c⟩) hxt rfl rfl (by omega) (by show _<((es.length:Nat):Int);omega)) rfl<|sy (yd_ldD hxt rfl (by omega)) rfl<|?_
 rw[hkt]
 refine sc (zC rfl rfl (bits_lz32 hg) rfl ?_)
 rintro _ G2 _ rfl
 refine sy (yd_sub64 rfl rfl) rfl<|sa rfl rfl<|zE<|st_ret<|?_
 refine zD (.tmp rfl .nil) ?_
 rw[bl_dv hok hnr (fun e=>by subst e;simp at hne)]
 simp only[tupled,Value.int.injEq,true_and]
 omega
def cmpN(a b:Nat):Int:=if a<b then-1 else if a=b then 0 else 1
theorem nat_Cmp{A B G:Gh}{x y:SV}{ds es:List Nat}(hx:IsD A x ds)(hy:IsD B y es)[GL A G][GL B G](hb:ds.length≤1125899906842624)(hb2:es.length≤1125899906842624):
  Fn Tryz.prog 282 [x.v,y.v] G (fun v _=>v= .int .i64 (cmpN (dv ds) (dv es))):=by
 have htl:=trimD_len ds
 have htl2:=trimD_len es
 have hcall:=fun G1 (_:GL A G1)=>nat_trim (G:=G1) hx (by omega)
 have hcall2:=fun G1 (_:GL B G1)=>nat_trim (G:=G1) hy (by omega)
 have hxt:=hx.trim
 have hyt:=hy.trim
 have hok:=hx.ok.trimD
 have hok2:=hy.ok.trimD
 have hnr:=Nrm.trimD ds
 have hnr2:=Nrm.trimD es
 rw[←dv_trimD ds,←dv_trimD es]
 generalize trimD ds=a at*
 generalize trimD es=b at*
 refine Fn.intro Tryz.func282 rfl rfl Tryz.ntmps282 rfl ?_
 intro C _ _
 refine sR<|sa rfl rfl<|zE<|sR<|sm rfl rfl<|?_
 refine sc (zC rfl rfl (hcall _ inferInstance) rfl ?_)
 rintro _ G1 _ rfl
 refine sm rfl rfl<|?_
 refine sc (zC rfl rfl (hcall2 _ inferInstance) rfl ?_)
 rintro _ G2 _ rfl
 refine sa rfl rfl<|sa rfl rfl<|zE<|st_seq<|sR<|sm rfl rfl<|slen rfl rfl<|sm rfl rfl<|slen rfl rfl<|sy (yd_neq rfl rfl) rfl<|zE<|?_
 refine st_condP rfl (fun hc=>?_) (fun hc=>?_) -- slot 14
 ·refine st_seq<|sR<|sm rfl rfl<|slen rfl rfl<|sm rfl rfl<|slen rfl rfl<|sy (yd_lss rfl rfl) rfl<|zE<|?_
  refine st_condP rfl (fun hc2=>?_) (fun hc2=>?_) -- slot 19
  ·refine sR<|sa rfl rfl<|zE<|st_ret<|?_
   refine zD (.tmp rfl .nil) ?_
   have:=dv_len_lt hok hnr2 (by omega)
   simp[tupled,cmpN,this]
  refine zK<|sR<|sa rfl rfl<|zE<|st_ret<|?_
  refine zD (.tmp rfl .nil) ?_
  have:=dv_len_lt hok2 hnr (by omega)
  have h1: ¬dv a<dv b:=by omega
  have h2: ¬dv a=dv b:=by omega
  simp[tupled,cmpN,h1,h2]
 have hl:a.length=b.length:=by omega
 refine zK<|st_seq<|sR<|sm rfl rfl<|slen rfl rfl<|sy (yd_sub64 rfl rfl) rfl<|sa rfl rfl<|zE<|st_block<|?_
 refine st_loop (X:=Nat) (fun k=>[(5, .int .i64 (k-1)),(0, .slice x.a a.length x.c),(1, .slice y.a b.length y.c)]) (fun _=>[]) (fun k _=>k≤a.length∧a.drop k=b.drop k) (fun k=>k) a.length ⟨Nat.le_refl _,by rw[List.drop_length,hl,List.drop_length]⟩ (.cons rfl (.cons rfl (.cons rfl .nil))) rfl ?_
 rintro k Gx _ ⟨hk,hd⟩
 refine st_seq<|sR<|sm rfl rfl<|sy (yd_geq rfl rfl) rfl<|zE<|?_
 refine st_condE rfl (fun hc=>?_) (fun hc=>?_) -- slot 24
 ·refine st_exit<|st_te<|st_te<|st_inBlock_eq<|sR<|sa rfl rfl<|zE<|st_ret<|?_
  refine zD (.tmp rfl .nil) ?_
  have:k=0:=by omega
  subst this
  have hab:a=b:=by simpa using hd
  subst hab
  simp[tupled,cmpN]
 have hk1:0<k:=by omega
 have hkt:((k:Int)-1).toNat=k-1:=by omega
 have hga:=hok.get (k-1)
 have hgb:=hok2.get (k-1)
 have hk2:k-1+1=k:=by omega
 refine zK<|st_seq<|st_block<|st_block<|st_seq<|dr (fun _=>false) [(0,true),(1,true),(2,true),(3,true),(4,true),(5,true),(6,true),(7,true),(8,true),(9,true)] follows (by kernel_rfl)<|?_
 refine dM rfl rfl rfl<|dM rfl rfl rfl<|dy rfl (fun _=>yd_ixD (z:=⟨x.a,a.length,x.c⟩) hxt rfl rfl (by omega) (by show _<((a.length:Nat):Int);omega)) rfl rfl<|dy rfl (fun _=>yd_ldD hxt rfl (by omega)) rfl rfl<|?_
 refine dM rfl rfl rfl<|dM rfl rfl rfl<|dy rfl (fun _=>yd_ixD (z:=⟨y.a,b.length,y.c⟩) hyt rfl rfl (by omega) (by show _<((b.length:Nat):Int);omega)) rfl rfl<|dy rfl (fun _=>yd_ldD hyt rfl (by omega)) rfl rfl<|?_
 refine dy rfl (fun _=>yd_lss rfl rfl) rfl rfl<|dA rfl rfl rfl<|dn<|?_
 refine st_condP rfl (fun hc2=>?_) (fun hc2=>?_) -- slot 27
 ·refine sR<|sa rfl rfl<|zE<|st_ret<|?_
  refine zD (.tmp rfl .nil) ?_
  rw[hkt] at hc2
  have:=dv_cmp hok hok2 (k-1) (by omega) (by omega) hl (by rw[hk2];exact hd) (by omega)
  simp[tupled,cmpN,this]
 refine st_seq<|dr (fun _=>false) [(0,true),(1,true),(2,true),(3,true),(4,true),(5,true),(6,true),(7,true),(8,true),(9,true)] follows (by kernel_rfl)<|dM rfl rfl rfl<|?_
 refine dM rfl rfl rfl<|dy rfl (fun _=>yd_ixD (z:=⟨x.a,a.length,x.c⟩) hxt rfl rfl (by omega) (by show _<((a.length:Nat):Int);omega)) rfl rfl<|dy rfl (fun _=>yd_ldD hxt rfl (by omega)) rfl rfl<|dM rfl rfl rfl<|?_
 refine dM rfl rfl rfl<|dy rfl (fun _=>yd_ixD (z:=⟨y.a,b.length,y.c⟩) hyt rfl rfl (by omega) (by show _<((b.length:Nat):Int);omega)) rfl rfl<|dy rfl (fun _=>yd_ldD hyt rfl (by omega)) rfl rfl<|dy rfl (fun _=>yd_gtr rfl rfl) rfl rfl<|?_
 refine dA rfl rfl rfl<|dn<|?_
 rw[hkt] at*
 refine st_condP rfl (fun hc3=>?_) (fun hc3=>?_) -- slot 37
 ·refine sR<|sa rfl rfl<|zE<|st_ret<|?_
  refine zD (.tmp rfl .nil) ?_
  have:=dv_cmp hok2 hok (k-1) (by omega) (by omega) hl.symm (by rw[hk2];exact hd.symm) (by omega)
  have h1: ¬dv a<dv b:=by omega
  have h2: ¬dv a=dv b:=by omega
  simp[tupled,cmpN,h1,h2]
 refine zK<|st_region<|sm rfl rfl<|sy (yd_sub64 rfl rfl) rfl<|sa rfl rfl<|zE<|?_
 refine st_again (k-1) ⟨by omega,?_⟩ (by omega) (.cons (by rw[show((k-1:Nat):Int)=(k:Int)-1 by omega];rfl) (.cons rfl (.cons rfl .nil))) rfl
 have heq:a.getD (k-1) 0=b.getD (k-1) 0:=by omega
 rw[List.getD_eq_getElem?_getD,List.getD_eq_getElem?_getD,List.getElem?_eq_getElem (by omega),List.getElem?_eq_getElem (by omega)] at heq
 rw[List.drop_eq_getElem_cons (by omega:k-1<a.length),List.drop_eq_getElem_cons (by omega:k-1<b.length),hk2,hd]
 congr 1
end Go.Sx
end
