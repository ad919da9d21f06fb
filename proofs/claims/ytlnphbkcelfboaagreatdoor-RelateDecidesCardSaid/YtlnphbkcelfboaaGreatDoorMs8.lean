/-
  The abstract machine's steps that a proof spells out: calls, branches, loops, results. Integers, calls, allocs, stores and rows over deep values. The abstract machine: loops, ways that meet, blocks that are written no more, rows. Regions that draw their order, over deep values. Rows handed over to calls and back, over deep values. Blocks frozen at once; calls that tell of a family of results; new blocks handed back. Rounds and merges from inside other loops; families of results of a function that borrows a variable: how they are shown.
-/
import Derived.Test.YtlnphbkcelfboaaGreatDoorMs7
set_option linter.unusedSimpArgs false
set_option linter.unusedVariables false
section
set_option maxRecDepth 100000
namespace Go.Sx
open Go Go.Proofs
def args0X:Nat→List DV→FrX
 |_,[]=>[]
 |i,v::t=>(i, .d v)::args0X (i+1) t
class Fu where n:Nat
instance fu0:Fu:=⟨400⟩
section
variable {GB:Gh} {C:Ctx} {n:Nat} {Q0:Exit→Act→World→Prop} {fr fr':FrX} {own own':OwX} {cf cf':Cf} {vc vc':List Prop} {ops:Array Oper} {r:List Oper} {o:Oper} {K:List Kt}
theorem gx'{q:Nat}(h:go tt n q [] fr own cf=⟨vc,fr',own',cf'⟩)(hv:allP vc)(k:CfS Tryz.prog GB C n Q0 fr' own' cf'):CfS Tryz.prog GB C n Q0 fr own cf:=by
 have:=(go_ok (GB:=GB) (C:=C) (Q0:=Q0) tt_ok follows q [] fr own cf (by rw[h];exact hv)).2
 rw[h] at this
 exact this k
theorem gx[fu:Fu](h:go tt n fu.n [] fr own cf=⟨vc,fr',own',cf'⟩)(k:CfS Tryz.prog GB C n Q0 fr' own' cf')(hv:allP vc:=by first|exact trivial|(simp only[allP];kernel_rfl)|(simp only[allP];omega)|(simp only[allP,List.length_map,List.length_set,List.length_replicate];omega)):CfS Tryz.prog GB C n Q0 fr own cf:=gx' h hv k
/-! ### functions -/
theorem look_args0X: ∀{ds:List DV} {vs:List Value} {ρ:NE} {G:Gh} (i:Nat),IsLs G ds vs→ ∀k f,lookX (args0X i ds) k=some f→ ∃y,(∃j,k=i+j∧vs[j]? =some y)∧IsX ρ G f y
 |[],vs,ρ,G,i,h,k,f,e=>by cases e
 |d::t,vs,ρ,G,i,h,k,f,e=>by
  obtain⟨y,m,rfl,h1,h2⟩:=isl_cons.1 h
  simp only[args0X] at e
  rw[lookX_cons] at e
  split at e
  ·cases e;rename_i hk;exact⟨y,⟨0,hk,rfl⟩,h1⟩
  ·obtain⟨u,⟨j,hj,hu⟩,h3⟩:=look_args0X (i+1) h2 k f e
   exact⟨u,⟨j+1,by omega,by simpa using hu⟩,h3⟩
theorem args_fr{ds:List DV}{vs:List Value}{ρ:NE}{G:Gh}{a:Act}(h:IsLs G ds vs)(hf:FrOk (args0 0 vs) a)(k:Nat)(f:FX)(e:lookX (args0X 0 ds) k=some f): ∃y,a.tmps[k]? =some y∧IsX ρ G f y:=by
 obtain⟨y,⟨j,hj,hy⟩,h1⟩:=look_args0X (ρ:=ρ) 0 h k f e
 refine⟨y,hf k y ?_,h1⟩
 rw[hj];exact look_args0' vs 0 j y hy
theorem fn[fu:Fu]{f:FuncId}{fb:Func}{c:Code}{m:Nat}{ds:List DV}{rv:DV}(hf:Tryz.prog.funcs[f]? =some fb)(hb:fb.body=some c)(hn:(fb.name== "runtime.NumGoroutine")=false)(hm:fb.ntmps=m)(hlen:Nat.ble ds.length m=true)
  (hgo:go tt m fu.n [] (args0X 0 ds) [] (.code c [])=⟨vc,fr,own,cf⟩)(k: ∀C:Ctx,CfS Tryz.prog GB C m (bodyPost Tryz.prog fb (RPost C (fun v G'=>Is G' rv v))) fr own cf)
  (hv:allP vc:=by first|exact trivial|(simp only[allP];kernel_rfl)|(simp only[allP];omega)|(simp only[allP,List.length_map,List.length_set,List.length_replicate];omega)):PF GB Tryz.prog f ds rv:=by
 intro G vs hg hvs
 refine Fn.intro hf hb hn hm (by rw[hvs.len];exact hlen) fun C _ _=>?_
 intro a w rl
 have h:=gx' (GB:=GB) (C:=C) (Q0:=bodyPost Tryz.prog fb (RPost C (fun v G'=>Is G' rv v))) hgo hv (k C)
 exact h.run (fun _=>⟨none,0,0⟩) G [] a w ⟨hg,rl.h,rl.sz,rl.df,(fun k f e=>args_fr hvs rl.fr k f e),(fun nm B e=>by cases e),(fun nm nm' B B' e=>by cases e)⟩
/-! ### branches -/
theorem CfS.cond{c:Operand}{x y:Code}{b:Bool}{f:FX}(hc:evX (lookX fr) c=some f)(hb:toB f=some b)(h1:b=true→CfS Tryz.prog GB C n Q0 fr own (.code x K))(h2:b=false→CfS Tryz.prog GB C n Q0 fr own (.code y K)):CfS Tryz.prog GB C n Q0 fr own (.code (.cond c x y) K):=SX.cond hc hb h1 h2
variable {fr1 fr2:FrX} {own1 own2:OwX} {cf1 cf2:Cf} {vc1 vc2:List Prop}
theorem br[fu1:Fu][fu2:Fu]{p:Prop}{hp:Decidable p}{c:Operand}{x y:Code}(hc:evX (lookX fr) c=some (.pr p hp))(g1:go tt n fu1.n [] fr own (.code x K)=⟨vc1,fr1,own1,cf1⟩)(g2:go tt n fu2.n [] fr own (.code y K)=⟨vc2,fr2,own2,cf2⟩)
  (k1:p→CfS Tryz.prog GB C n Q0 fr1 own1 cf1)(k2: ¬p→CfS Tryz.prog GB C n Q0 fr2 own2 cf2)
  (v1:p→allP vc1:=by intro;first|exact trivial|(simp only[allP];omega)|(simp only[allP,List.length_map,List.length_set,List.length_replicate];omega))(v2: ¬p→allP vc2:=by intro;first|exact trivial|(simp only[allP];omega)|(simp only[allP,List.length_map,List.length_set,List.length_replicate];omega)):CfS Tryz.prog GB C n Q0 fr own (.code (.cond c x y) K):=
 .cond hc rfl (fun h=>gx' g1 (v1 (of_decide_eq_true h)) (k1 (of_decide_eq_true h))) (fun h=>gx' g2 (v2 (of_decide_eq_false h)) (k2 (of_decide_eq_false h)))
theorem bd[fu1:Fu][fu2:Fu]{p:Prop}{hp:Decidable p}{c:Operand}{x y:Code}(hc:evX (lookX fr) c=some (.d (.v (.bool (@decide p hp)))))(g1:go tt n fu1.n [] fr own (.code x K)=⟨vc1,fr1,own1,cf1⟩)(g2:go tt n fu2.n [] fr own (.code y K)=⟨vc2,fr2,own2,cf2⟩)
  (k1:p→CfS Tryz.prog GB C n Q0 fr1 own1 cf1)(k2: ¬p→CfS Tryz.prog GB C n Q0 fr2 own2 cf2)
  (v1:p→allP vc1:=by intro;first|exact trivial|(simp only[allP];omega)|(simp only[allP,List.length_map,List.length_set,List.length_replicate];omega))(v2: ¬p→allP vc2:=by intro;first|exact trivial|(simp only[allP];omega)|(simp only[allP,List.length_map,List.length_set,List.length_replicate];omega)):CfS Tryz.prog GB C n Q0 fr own (.code (.cond c x y) K):=
 .cond hc rfl (fun h=>gx' g1 (v1 (of_decide_eq_true h)) (k1 (of_decide_eq_true h))) (fun h=>gx' g2 (v2 (of_decide_eq_false h)) (k2 (of_decide_eq_false h)))
theorem bb[fu1:Fu][fu2:Fu]{b:Bool}{c:Operand}{x y:Code}(hc:evX (lookX fr) c=some (.d (.v (.bool b))))(g1:go tt n fu1.n [] fr own (.code x K)=⟨vc1,fr1,own1,cf1⟩)(g2:go tt n fu2.n [] fr own (.code y K)=⟨vc2,fr2,own2,cf2⟩)
  (k1:b=true→CfS Tryz.prog GB C n Q0 fr1 own1 cf1)(k2:b=false→CfS Tryz.prog GB C n Q0 fr2 own2 cf2)
  (v1:b=true→allP vc1:=by intro;first|exact trivial|(simp only[allP];omega)|(simp only[allP,List.length_map,List.length_set,List.length_replicate];omega))(v2:b=false→allP vc2:=by intro;first|exact trivial|(simp only[allP];omega)|(simp only[allP,List.length_map,List.length_set,List.length_replicate];omega)):CfS Tryz.prog GB C n Q0 fr own (.code (.cond c x y) K):=
 .cond hc rfl (fun h=>gx' g1 (v1 h) (k1 h)) (fun h=>gx' g2 (v2 h) (k2 h))
theorem lookX_same{d:Nat}{f g:FX}(hl:lookX fr d=some f)(hi: ∀ρ G y,IsX ρ G f y→IsX ρ G g y){Φ:Act→World→Prop}(h:SX GB C n (lookX ((d,g)::fr)) (lookO own) Φ):SX GB C n (lookX fr) (lookO own) Φ:=by
 refine⟨fun ρ G ov a w r=>h.run ρ G ov a w ⟨r.gb,r.h,r.sz,r.df,fun k f' e=>?_,r.bx,r.dj⟩⟩
 rw[lookX_cons] at e
 split at e
 ·cases e;rename_i hk;subst hk
  obtain⟨y,h1,h2⟩:=r.fx _ _ hl
  exact⟨y,h1,hi _ _ _ h2⟩
 ·exact r.fx k f' e
theorem eqF(d:Nat){f:FX}(g:FX)(hl:lookX fr d=some f)(e:f=g)(h:CfS Tryz.prog GB C n Q0 ((d,g)::fr) own cf):CfS Tryz.prog GB C n Q0 fr own cf:=by
 have hs:lookX ((d,g)::fr)=lookX fr:=by
  funext k
  rw[lookX_cons]
  split
  ·rename_i hk;rw[hk,hl,e]
  ·rfl
 cases cf with
 |dr id ops fr0 own0 us r K=>exact fun D=>h ⟨D.pre,by rw[hs];exact D.st,D.snd⟩
 |_=>unfold CfS at h⊢;rw[hs] at h;exact h
theorem kT(d:Nat){p:Prop}{hp:Decidable p}(hl:lookX fr d=some (.pr p hp))(h:p)(k:CfS Tryz.prog GB C n Q0 ((d, .tt)::fr) own (.ops ops r K)):CfS Tryz.prog GB C n Q0 fr own (.ops ops r K):=
 lookX_same hl (fun _ _ _ e=>by rw[show _=_ from e,decide_eq_true h];exact rfl) k
theorem kF(d:Nat){p:Prop}{hp:Decidable p}(hl:lookX fr d=some (.pr p hp))(h: ¬p)(k:CfS Tryz.prog GB C n Q0 ((d, .ff)::fr) own (.ops ops r K)):CfS Tryz.prog GB C n Q0 fr own (.ops ops r K):=
 lookX_same hl (fun _ _ _ e=>by rw[show _=_ from e,decide_eq_false h];exact rfl) k
theorem nlD(d:Nat)(hl:lookX fr d=some .nl){e:Exit}(h:CfS Tryz.prog GB C n Q0 ((d, .d (.sl []))::fr) own (.ex e K)):CfS Tryz.prog GB C n Q0 fr own (.ex e K):=
 lookX_same (g:= .d (.sl [])) hl (fun ρ G y hy=>(show Is G (.sl []) y from toDX_is (ρ:=ρ) (f:= .nl) hy rfl)) h
theorem PF.to{f:FuncId}{ds:List DV}{r1 r2:DV}{P:Program}(h:PF GB P f ds r1)(e:r1=r2):PF GB P f ds r2:=e▸h
theorem cs[fu1:Fu][fu2:Fu](d:Nat){p:Prop}{hp:Decidable p}(hl:lookX fr d=some (.pr p hp))(g1:go tt n fu1.n [] ((d, .tt)::fr) own (.ops ops r K)=⟨vc1,fr1,own1,cf1⟩)(g2:go tt n fu2.n [] ((d, .ff)::fr) own (.ops ops r K)=⟨vc2,fr2,own2,cf2⟩)
  (k1:p→CfS Tryz.prog GB C n Q0 fr1 own1 cf1)(k2: ¬p→CfS Tryz.prog GB C n Q0 fr2 own2 cf2)
  (v1:p→allP vc1:=by intro;first|exact trivial|(simp only[allP];omega)|(simp only[allP,List.length_map,List.length_set,List.length_replicate];omega))(v2: ¬p→allP vc2:=by intro;first|exact trivial|(simp only[allP];omega)|(simp only[allP,List.length_map,List.length_set,List.length_replicate];omega)):CfS Tryz.prog GB C n Q0 fr own (.ops ops r K):=by
 by_cases h:p
 ·exact lookX_same hl (fun _ _ _ e=>by rw[show _=_ from e,decide_eq_true h];exact rfl) (gx' g1 (v1 h) (k1 h))
 ·exact lookX_same hl (fun _ _ _ e=>by rw[show _=_ from e,decide_eq_false h];exact rfl) (gx' g2 (v2 h) (k2 h))
theorem csb[fu1:Fu][fu2:Fu](d:Nat){b:Bool}(hl:lookX fr d=some (.d (.v (.bool b))))(g1:go tt n fu1.n [] ((d, .tt)::fr) own (.ops ops r K)=⟨vc1,fr1,own1,cf1⟩)(g2:go tt n fu2.n [] ((d, .ff)::fr) own (.ops ops r K)=⟨vc2,fr2,own2,cf2⟩)
  (k1:b=true→CfS Tryz.prog GB C n Q0 fr1 own1 cf1)(k2:b=false→CfS Tryz.prog GB C n Q0 fr2 own2 cf2)
  (v1:b=true→allP vc1:=by intro;first|exact trivial|(simp only[allP];omega)|(simp only[allP,List.length_map,List.length_set,List.length_replicate];omega))(v2:b=false→allP vc2:=by intro;first|exact trivial|(simp only[allP];omega)|(simp only[allP,List.length_map,List.length_set,List.length_replicate];omega)):CfS Tryz.prog GB C n Q0 fr own (.ops ops r K):=by
 cases h:b with
 |true=>exact lookX_same hl (fun _ G _ e=>by rw[(is_v (G:=G)).1 e,h];exact rfl) (gx' g1 (v1 h) (k1 h))
 |false=>exact lookX_same hl (fun _ G _ e=>by rw[(is_v (G:=G)).1 e,h];exact rfl) (gx' g2 (v2 h) (k2 h))
/-! ### an operation that the run does not reckon -/
def hdC:Cf→Option (Array Oper×Oper)
 | .ops ops (o::_) _=>some (ops,o)
 | .dr _ ops _ _ _ (o::_) _=>some (ops,o)
 |_=>none
def lkC(fr:FrX):Cf→LK
 | .dr _ ops _ _ _ (o::_) _=>rsX (slotsOf ops o) (lookX fr)
 |_=>lookX fr
def bkC(fr:FrX)(own:OwX):Cf→BM
 | .dr _ ops _ _ _ (o::_) _=>rsX (namesM o fr (slotsOf ops o)) (lookO own)
 |_=>lookO own
def bad:Res:=⟨[False],[],[], .ex .normal []⟩
def goA(T:TT)(n q:Nat)(fr:FrX)(own:OwX)(cf:Cf)(f:FX)(bl:List (Nat×Option Bk))(nw:List Nat):Res:=match cf with
 | .ops ops (o::r) K=>bif freshL nw o.dst fr own&&dstOk n o.dst then setsK own bl fun own'=>putK fr o.dst f fun fr'=>go T n q [] fr' own' (.ops ops r K) else bad
 | .dr id ops fr0 own0 us (o::r) K=>bif dstOk n o.dst then fcL (slotsOf ops o) fun rs=>fcL (namesM o fr rs) fun rn=>setsK own bl fun own'=>fcL (us++[⟨rs,o.dst,f,rn,bl,nw⟩]) fun us'=>putK fr o.dst f fun fr'=>go T n q [] fr' own' (.dr id ops fr0 own0 us' r K) else bad
 |_=>bad
def grd(ops:Array Oper)(lk:LK):Option (Nat×Bool)→Bool
 |none=>true
 |some (j,b)=>match ops[j]? with
  |some oj=>match oj.dst with
   |some d=>match lk d with
    |some .tt=>b
    |some .ff=>!b
    |_=>false
   |none=>false
  |none=>false
theorem grd_ok{lk:LK}{bk:BM}{o:Oper}(h:grd ops lk o.guard=true): ∀ρ G ov a w,RlX GB C n lk bk ρ G ov a w→Region.wanted o (yielded ops a.tmps)=true:=fun ρ G ov a w r=>by
 unfold Region.wanted
 unfold grd at h
 split at h
 ·rename_i e;rw[e]
 ·rename_i j b e
  rw[e]
  split at h<;>try (cases h;done)
  rename_i oj hj
  split at h<;>try (cases h;done)
  rename_i d hd
  split at h<;>try (cases h;done)
  ·rename_i hl
   obtain⟨y,h1,h2⟩:=yielded_x r hj hd hl
   cases h1;simp only[h2];subst h;rfl
  ·rename_i hl
   obtain⟨y,h1,h2⟩:=yielded_x r hj hd hl
   cases h1;simp only[h2];cases b<;>first|rfl|(simp at h)
theorem uo{q:Nat}{f:FX}{bl:List (Nat×Option Bk)}{nw:List Nat}(hh:hdC cf=some (ops,o))(hg:grd ops (lkC fr cf) o.guard=true)(h:OpR Tryz.prog GB C n (lkC fr cf) (bkC fr own cf) o f bl nw)
  (hgo:goA tt n q fr own cf f bl nw=⟨vc,fr',own',cf'⟩)(hv:allP vc)(k:CfS Tryz.prog GB C n Q0 fr' own' cf'):CfS Tryz.prog GB C n Q0 fr own cf:=by
 obtain⟨dst,op,ty,pos,af,gd⟩:=o
 cases cf with
 |ops ops' r K=>
  cases r with
  |nil=>cases hh
  |cons o' r=>
   cases hh
   unfold goA at hgo
   cases hc:(freshL nw dst fr own&&dstOk n dst) with
   |false=>simp only[hc,cond_false,bad] at hgo;cases hgo;exact absurd hv (fun x=>x)
   |true=>
    simp only[hc,cond_true] at hgo
    simp only[setsK_eq,putK_eq] at hgo
    simp only[Bool.and_eq_true] at hc
    exact SX.op (h.toS hc.2 (grd_ok hg)) (freshL_ok hc.1) (gx' hgo hv k)
 |dr id ops' fr0 own0 us r K=>
  cases r with
  |nil=>cases hh
  |cons o' r=>
   cases hh
   unfold goA at hgo
   cases hc:dstOk n dst with
   |false=>simp only[hc,cond_false,bad] at hgo;cases hgo;exact absurd hv (fun x=>x)
   |true=>
    simp only[hc,cond_true,fcL_eq] at hgo
    simp only[setsK_eq,putK_eq] at hgo
    intro D
    exact gx' hgo hv k (D.push (h.toS hc (grd_ok hg)))
 |_=>cases hh
def cargs(lk:LK)(fo:Operand)(args:Array Operand):Option (FuncId×List DV):=match evX lk fo with
 |some (.d (.v (.func (.func f) ⟨[]⟩ ⟨[]⟩)))=>match evDs lk args.toList with
  |some ds=>some (f,ds)
  |none=>none
 |_=>none
theorem cargs_ok{lk:LK}{fo:Operand}{args:Array Operand}{f:FuncId}{ds:List DV}(h:cargs lk fo args=some (f,ds)):evX lk fo=some (.d (.v (.func (.func f) #[] #[])))∧evDs lk args.toList=some ds:=by
 unfold cargs at h
 split at h<;>try (cases h;done)
 rename_i h1
 split at h<;>cases h
 rename_i h2
 exact⟨h1,h2⟩
theorem ok_call{lk:LK}{bk:BM}{fo:Operand}{args:Array Operand}{tys:Array TypeId}{f:FuncId}{ds:List DV}{rv:DV}{dst:Option Nat}{ty:TypeId}{pos:String}{af:Array Edge}{gd:Option (Nat×Bool)}(ha:cargs lk fo args=some (f,ds))(hF:PF GB Tryz.prog f ds rv):
  OpR Tryz.prog GB C n lk bk ⟨dst, .call ⟨.value fo,args,tys⟩,ty,pos,af,gd⟩ (.d rv) [] []:=by
 intro hd tl tb K' s1 s2 hf hk
 refine⟨fun ρ G ov a w r Q=>?_⟩
 obtain⟨h1,h2⟩:=cargs_ok ha
 obtain⟨y,hy,hy'⟩:=(r.mono s1 s2).ev h1
 rw[(is_v (G:=G)).1 hy'] at hy
 obtain⟨vs,h3,h4⟩:=(r.mono s1 s2).evDs h2
 refine zC hy h3 (hF G vs r.gb h4) hd (fun v G' hG hK a' w' rl=>?_) a w Q ⟨r.h,r.sz,frA_ok a,r.df⟩
 exact hk.run ρ G' ov a' w' ⟨r.gb.trans hG.le,rl.h,rl.sz,rl.df,(putA_rel rl).fx (fun k g _ e=>by obtain⟨u,h5,h6⟩:=r.fx k g e;exact⟨u,h5,h6.up hG.le⟩) hK,
  fun nm B e=>by obtain⟨os,h5,h6⟩:=r.bx nm B e;exact⟨os,h5.up hG.le,h6⟩,r.dj⟩
theorem ca[fu:Fu]{fo:Operand}{args:Array Operand}{tys:Array TypeId}{f:FuncId}{ds:List DV}{rv:DV}{dst:Option Nat}{ty:TypeId}{pos:String}{af:Array Edge}{gd:Option (Nat×Bool)}(hh:hdC cf=some (ops,⟨dst, .call ⟨.value fo,args,tys⟩,ty,pos,af,gd⟩))
  (hg:grd ops (lkC fr cf) gd=true)(ha:cargs (lkC fr cf) fo args=some (f,ds))(hF:PF GB Tryz.prog f ds rv)(hgo:goA tt n fu.n fr own cf (.d rv) [] []=⟨vc,fr',own',cf'⟩)(k:CfS Tryz.prog GB C n Q0 fr' own' cf')(hv:allP vc:=by first|exact trivial|(simp only[allP];kernel_rfl)|(simp only[allP];omega)|(simp only[allP,List.length_map,List.length_set,List.length_replicate];omega)):CfS Tryz.prog GB C n Q0 fr own cf:=
 uo hh hg (ok_call ha hF) hgo hv k
/-! ### results -/
def resX(T:TT)(fr:FrX)(own:OwX):List ResultVar→Option (List DV)
 |[]=>some []
 | .tmp t::rs=>match lookX fr t with
  |some f=>match toDX f with
   |some d=>match resX T fr own rs with
    |some l=>some (d::l)
    |none=>none
   |none=>none
  |none=>none
 | .cell a t::rs=>match lookX fr a with
  |some (.ov nm 0)=>match lookT T t with
   |some i=>match lookO own nm with
    |some (.o _ cs _)=>match i.ag with
     |some (some k)=>match takeX cs 0 k with
      |some c=>match toDXs c with
       |some d=>match resX T fr own rs with
        |some l=>some (.ag d::l)
        |none=>none
       |none=>none
      |none=>none
     |some none=>match cs[0]? with
      |some c=>match toDX c with
       |some d=>match resX T fr own rs with
        |some l=>some (d::l)
        |none=>none
       |none=>none
      |none=>none
     |none=>none
    |_=>none
   |none=>none
  |_=>none
theorem resX_ok{ρ:NE}{G:Gh}{ov:List Own}{a:Act}{w:World}(h:RlX GB C n (lookX fr) (lookO own) ρ G ov a w): ∀{rs:List ResultVar} {ds:List DV},resX tt fr own rs=some ds→ ∃vs,RVs Tryz.prog (frA a) ov rs vs∧IsLs G ds vs:=by
 intro rs
 induction rs with
 |nil=>intro ds e;cases e;exact⟨[], .nil, .nil⟩
 |cons x rs ih=>
  intro ds e
  cases x with
  |tmp t=>
   simp only[resX] at e
   split at e<;>try (cases e;done)
   rename_i f hf
   split at e<;>try (cases e;done)
   rename_i d hd
   split at e<;>cases e
   rename_i l hl
   obtain⟨vs,h1,h2⟩:=ih hl
   obtain⟨y,h3,h4⟩:=h.fx t f hf
   exact⟨y::vs, .tmp (look_frA h3) h1, .cons (toDX_is h4 hd) h2⟩
  |cell t ty=>
   simp only[resX] at e
   split at e<;>try (cases e;done)
   rename_i nm hf
   split at e<;>try (cases e;done)
   rename_i i hi
   split at e<;>try (cases e;done)
   rename_i hb
   obtain⟨y,h3,h4⟩:=h.fx t _ hf
   obtain⟨b,m,rfl,h5,h6,h7⟩:=h.own h4 hb
   have oat:OAt ov b m _ _:=⟨h7⟩
   split at e<;>try (cases e;done)
   ·rename_i k ha
    split at e<;>try (cases e;done)
    rename_i c hc
    split at e<;>try (cases e;done)
    rename_i d hd
    split at e<;>cases e
    rename_i l hl
    obtain⟨vs,h1,h2⟩:=ih hl
    obtain⟨l',h8,h9⟩:=h6.takeX hc
    exact⟨.agg ⟨l'⟩::vs, .agg (look_frA h3) oat (ti_agA (tt_ok _ _ hi) ha) h8 h1, .cons (is_ag.2 ⟨l',rfl,toDXs_is h9 hd⟩) h2⟩
   ·rename_i ha
    split at e<;>try (cases e;done)
    rename_i c hc
    split at e<;>try (cases e;done)
    rename_i d hd
    split at e<;>cases e
    rename_i l hl
    obtain⟨vs,h1,h2⟩:=ih hl
    obtain⟨l',h8,h9⟩:=h6.get hc
    exact⟨l'::vs, .sc (look_frA h3) oat (ti_agS (tt_ok _ _ hi) ha) h8 h1, .cons (toDX_is h9 hd) h2⟩
def isEnd:Exit→Bool
 | .ret=>true
 | .normal=>true
 |_=>false
theorem rz{fb:Func}{e:Exit}{ds:List DV}{rv:DV}(hr:resX tt fr own fb.results.toList=some ds)(hd:tupD ds=rv)(he:isEnd e=true:=by rfl):CfS Tryz.prog GB C n (bodyPost Tryz.prog fb (RPost C (fun v G'=>Is G' rv v))) fr own (.ex e []):=by
 refine⟨fun ρ G ov a w r=>?_⟩
 obtain⟨vs,h1,h2⟩:=resX_ok r hr
 have hk:Is G rv (tupled vs):=hd▸tupD_is h2
 cases e with
 |ret=>exact zD (C:=C) (n:=n) (fr:=frA a) (own:=ov) (G:=G) (K:=fun v G'=>Is G' rv v) h1 hk a w ⟨r.h,r.sz,frA_ok a,r.df⟩
 |normal=>exact st_doneN (C:=C) (n:=n) (fr:=frA a) (own:=ov) (G:=G) (K:=fun v G'=>Is G' rv v) h1 hk a w ⟨r.h,r.sz,frA_ok a,r.df⟩
 |_=>cases he
end
end Go.Sx
end

section
set_option maxRecDepth 100000
namespace Go.Sx
open Go
section
variable {P:Program} {GB:Gh} {C:Ctx} {n:Nat} {E:Ext} {fr fr':FrF} {own own':List OwnD} {bs bs' bs1:List BufD} {ops:Array Oper} {Q:Exit→Act→World→Prop} {r:List Oper} {Φ:Act→World→Prop}
variable {dst:Option Nat} {t t' ty':TypeId} {pos:String} {af:Array Edge} {gd:Option (Nat×Bool)} {x y z:Operand} {e s by_:Nat}
/-! integers and bools -/
/-! calls -/
theorem td_call{f:FuncId}{fo:Operand}{args:Array Operand}{tys:Array TypeId}{ds:List DV}{r:DV}(ho:opF fr fo=some (.d (.v (.func (.func f) #[] #[]))))(hv:opFs fr args.toList=some ds)(hF:PF GB P f ds r)(hd:dstOk n dst=true):
  TD P GB C n fr own bs ⟨dst, .call ⟨.value fo,args,tys⟩,ty',pos,af,gd⟩ (putF fr dst (.d r)) own bs:=by
 intro GB' E Φ hgb h G frv ov s
 obtain⟨vs,h1,h2⟩:=s.fr.ops hv
 refine zC (opv_app (s.fr.opv ho)) (opvs_app h1) (hF G vs (hgb.trans s.gb) h2) hd ?_
 intro v G' hG hK
 rw[put_app]
 exact h G' _ ov ⟨s.gb.trans hG.le,(s.fr.up hG.le).put (f:= .d r) hK _,s.ob.up hG.le⟩
/-! variables -/
theorem tf_alloc{z:Value}{cs:List DV}[hz:TyZD P t z cs](hd:dstOk n dst=true):TF P GB C n fr own bs ⟨dst, .alloc t,ty',pos,af,gd⟩ Nat (fun b=>putF fr dst (.d (.v (.pointer (some ⟨b,0,none⟩))))) (fun b=>⟨b,cs,t,true⟩::own) (fun _=>bs):=by
 intro GB' E Φ hgb h G frv ov s
 have hz1:=hz.tz
 have hz2:=hz.iz
 obtain⟨p,q,rfl,hp,hq⟩:=s.ob
 refine ch_alloc hd fun b=>?_
 rw[put_app]
 exact h b G _ (⟨b,cellsL z,t,true⟩::(p++q)) ⟨s.gb,s.fr.put (isF_v.2 rfl) _,⟨b,cellsL z,t,true⟩::p,q,rfl,⟨_,_,rfl,hz2.up (GLe.bot G),hp⟩,hq⟩
theorem OUpd.app{own own':List Own}{b:Nat}{cs cs':List Value}{ty:TypeId}{lo:Bool}(h:OUpd own b cs ty lo cs' own')(x:List Own):OUpd (own++x) b cs ty lo cs' (own'++x):=by
 induction h with
 |hd=>exact .hd ..
 |tl o t t' b cs cs' ty lo h ih=>exact .tl _ _ _ _ _ _ _ _ ih
theorem td_store{d:DV}{b off k:Nat}{cs cs':List DV}{ty:TypeId}{lo:Bool}(hx:opF fr x=some (.d (.v (.pointer (some ⟨b,off,none⟩)))))(hy:opD fr y=some d)[hs:TyA P t k][ho:OAtD own b cs ty lo]
  (hc:ovD cs off d.cells=cs')(hu:OUpdD own b cs ty lo cs' own')(hk:Nat.beq d.cells.length k=true)(hl:Nat.ble (off+k) cs.length=true)(hf:d.okc=true)(hd:dstOk n dst=true):
  TD P GB C n fr own bs ⟨dst, .store t x y,ty',pos,af,gd⟩ (putF fr dst (.d (.v undef))) own' bs:=by
 intro GB' E Φ hgb h G frv ov s
 obtain⟨u,h1,h2⟩:=s.fr.opD hy
 obtain⟨p,q,rfl,hp,hq⟩:=s.ob
 obtain⟨m,a1,a2,rfl,hm,hkk⟩:=hu.lens hp
 obtain⟨c1,c2⟩:=h2.cells hf
 replace hk:=Nat.eq_of_beq_eq_true hk
 rw[Nat.ble_eq] at hl
 subst hc
 refine ch_store (cs:=m) (own':=((a1++⟨b,ovw m off (cellsL u),ty,lo⟩::a2)++q)++E.own) (opv_app (s.fr.opv hx)) (opv_app h1) (((OUpd.mid a1).app q).app E.own) (by rw[c1.len,hk]) (by rw[hm.len];exact hl) (by rw[List.all_eq_true];exact c2) hd ?_
 rw[put_app]
 exact h G _ _ ⟨s.gb,s.fr.put (isF_v.2 rfl) _,_,_,rfl,hkk G _ (GLe.refl _) (hm.ov c1),hq⟩
theorem tdS{d:DV}{b off k:Nat}{cs cs':List DV}{ty:TypeId}{lo:Bool}(hx:opF fr x=some (.d (.v (.pointer (some ⟨b,off,none⟩)))))(hy:opD fr y=some d)[hs:TyA P t k][ho:OAtD own b cs ty lo]
  (hk:Nat.beq d.cells.length k=true)(hl:Nat.ble (off+k) cs.length=true)(hf:d.okc=true)(hd:dstOk n dst=true)
  (hc:ovD cs off d.cells=cs':=by first|(dsimp only[DV.cells,ovD,List.set_cons_zero,List.set_cons_succ,Nat.reduceAdd,List.drop_succ_cons,List.drop_zero];done)|exact rfl)(hu:OUpdD own b cs ty lo cs' own':=by repeat (first|exact .hd .. |apply OUpdD.tl)):
  TD P GB C n fr own bs ⟨dst, .store t x y,ty',pos,af,gd⟩ (putF fr dst (.d (.v undef))) own' bs:=td_store hx hy hc hu hk hl hf hd
theorem td_store1{d:DV}{b off:Nat}{cs cs':List DV}{ty:TypeId}{lo:Bool}(hx:opF fr x=some (.d (.v (.pointer (some ⟨b,off,none⟩)))))(hy:opD fr y=some d)[hs:TyS P t][ho:OAtD own b cs ty lo]
  (hc:cs.set off d=cs')(hu:OUpdD own b cs ty lo cs' own')(hl:Nat.blt off cs.length=true)(hf:d.flat=true)(hd:dstOk n dst=true):
  TD P GB C n fr own bs ⟨dst, .store t x y,ty',pos,af,gd⟩ (putF fr dst (.d (.v undef))) own' bs:=by
 intro GB' E Φ hgb h G frv ov s
 obtain⟨u,h1,h2⟩:=s.fr.opD hy
 obtain⟨p,q,rfl,hp,hq⟩:=s.ob
 obtain⟨m,a1,a2,rfl,hm,hkk⟩:=hu.lens hp
 have c2:=h2.flat hf
 rw[Nat.blt_eq] at hl
 subst hc
 refine ch_store1 (cs:=m) (own':=((a1++⟨b,m.set off u,ty,lo⟩::a2)++q)++E.own) (opv_app (s.fr.opv hx)) (opv_app h1) (((OUpd.mid a1).app q).app E.own) (by rw[hm.len];exact hl) c2 hd ?_
 rw[put_app]
 exact h G _ _ ⟨s.gb,s.fr.put (isF_v.2 rfl) _,_,_,rfl,hkk G _ (GLe.refl _) (hm.set off h2),hq⟩
/-! rows -/
class TyZE (P:Program) (t:TypeId) (d:outParam DV):Prop where
 z: ∃z,TyZ P t z∧Is (fun _=>none) d z∧d.okc=true
abbrev SV.f (w:SV):FV:= .d (.v (.slice w.a w.n w.c))
theorem flatL_replicate(z:Value)(k:Nat):flatL (List.replicate k z)=zeros z k:=by unfold flatL zeros;rw[List.map_replicate]
theorem isL_replicate{G:Gh}{d:DV}{y:Value}(h:Is G d y): ∀k:Nat,IsLs G (List.replicate k d) (List.replicate k y)
 |0=> .nil
 |k+1=> .cons h (isL_replicate h k)
def rowD(fr:FrF):Nat→List (Nat×Operand)→Option (List DV)
 |_,[]=>some []
 |j,(i,x)::r=>match opD fr x,rowD fr (j+1) r with
  |some d,some l=>bif Nat.beq i j then some (d::l) else none
  |_,_=>none
theorem ovw_app(pre mid post vs:List Value)(h:vs.length=mid.length):ovw (pre++(mid++post)) pre.length vs=pre++(vs++post):=by
 rw[ovw_spec _ _ _ (by simp;omega)]
 simp[h]
theorem zeros_succ(z:Value)(k:Nat):zeros z (k+1)=cellsL z++zeros z k:=by simp[zeros,List.replicate_succ]
theorem row_bldS{G:Gh}{frv:Fr}{xf:Fr}(h:FrIs G fr frv){zv:Value}(hz:(cellsL zv).length=s): ∀(ps:List (Nat×Operand)) (j:Nat) (pre:List Value) (ds:List DV),rowD fr j ps=some ds→pre.length=j*s→(∀d∈ds,d.okc=true∧d.cells.length=s)→
  ∃vs,bldS (frv++xf) s (pre++zeros zv ps.length) ps=some (pre++flatL vs)∧IsLs G ds vs∧ ∀v∈vs,(cellsL v).length=s
 |[],j,pre,ds,e,hp,hd=>by
  simp only[rowD] at e;cases e
  exact⟨[],by simp[bldS,zeros,flatL], .nil,by simp⟩
 |(i,x)::ps,j,pre,ds,e,hp,hd=>by
  simp only[rowD] at e
  split at e
  ·rename_i d l hx hl
   cases hb:Nat.beq i j with
   |false=>rw[hb] at e;cases e
   |true=>
    rw[hb] at e
    cases e
    have:=Nat.eq_of_beq_eq_true hb
    subst this
    obtain⟨y,hy,hy'⟩:=h.opD hx
    obtain⟨k1,k2⟩:=hd d List.mem_cons_self
    have c1:=(hy'.cells k1).1.len
    have hov:ovw (pre++zeros zv (ps.length+1)) (i*s) (cellsL y)=(pre++cellsL y)++zeros zv ps.length:=by
     rw[zeros_succ,←hp,ovw_app _ _ _ _ (by rw[c1,k2,hz]),List.append_assoc]
    obtain⟨vs,h1,h2,h3⟩:=row_bldS (xf:=xf) h hz ps (i+1) (pre++cellsL y) l hl (by rw[List.length_append,c1,k2,hp,Nat.succ_mul]) (fun d hd'=>hd d (List.mem_cons_of_mem _ hd'))
    refine⟨y::vs,?_, .cons hy' h2,fun v hv=>?_⟩
    ·simp only[bldS,opv_app hy,List.length_cons]
     rw[if_pos ⟨by rw[c1,k2],by rw[List.length_append,zeros_len,hz,hp,Nat.succ_mul];omega⟩,hov,h1]
     simp[flatL]
    ·rcases List.mem_cons.1 hv with rfl|hv
     ·rw[c1,k2]
     ·exact h3 v hv
  ·cases e
theorem rowD_len{fr:FrF}: ∀(ps:List (Nat×Operand)) (j:Nat) (ds:List DV),rowD fr j ps=some ds→ds.length=ps.length
 |[],j,ds,e=>by simp only[rowD] at e;cases e;rfl
 |(i,x)::ps,j,ds,e=>by
  simp only[rowD] at e
  split at e
  ·rename_i d l hx hl
   cases hb:Nat.beq i j with
   |false=>rw[hb] at e;cases e
   |true=>rw[hb] at e;cases e;simp[rowD_len ps _ _ hl]
  ·cases e
def okRow(s:Nat)(ds:List DV):Bool:=ds.all fun d=>d.okc&&Nat.beq d.cells.length s
theorem okRow_spec{ds:List DV}(h:okRow s ds=true):slOk s ds:=fun d hd=>by
 have:=List.all_eq_true.1 h d hd
 simp only[Bool.and_eq_true] at this
 exact⟨this.1,Nat.eq_of_beq_eq_true this.2⟩
theorem tf_row[hT:TySl P t e s by_]{d0:DV}[hz:TyZE P e d0]{len:Nat}{parts:Array (Nat×Operand)}{ds:List DV}(hs:Nat.beq d0.cells.length s=true)(hb:rowD fr 0 parts.toList=some ds)(hok:okRow s ds=true)(hlen:Nat.beq parts.toList.length len=true)(hsm:Nat.ble (len*s) 1000=true)(hs0:Nat.blt 0 (len*s)=true)(hd:dstOk n dst=true):
  TF P GB C n fr own bs ⟨dst, .buildSlice t len parts,ty',pos,af,gd⟩ SV (fun w=>putF fr dst w.f) (fun _=>own) (fun w=>⟨w,s,e,ds,true⟩::bs):=by
 intro GB' E Φ hgb h G frv ov st
 obtain⟨z,hz1,hz2,hz3⟩:=hz.z
 obtain⟨p,q,rfl,hp,hq⟩:=st.ob
 have c1:=(hz2.cells hz3).1.len
 replace hs:=Nat.eq_of_beq_eq_true hs
 have hlen':=Nat.eq_of_beq_eq_true hlen
 obtain⟨vs,h1,h2,h3⟩:=row_bldS (xf:=E.fr) (s:=s) st.fr (by rw[c1,hs]) parts.toList 0 [] ds hb (by simp) (okRow_spec hok)
 rw[List.nil_append,List.nil_append] at h1
 have hvl:vs.length=len:=by rw[h2.len,rowD_len _ _ _ hb,hlen']
 refine ch_slice (z:=z) (out:=flatL vs) (by rw[c1,hs]) (by rw[←hlen'];exact h1) hsm hs0 hd fun b=>?_
 rw[put_app]
 refine st_perm ((p++([⟨b,flatL vs,e,true⟩]++q))++E.own) ?_ (h ⟨some ⟨b,0,none⟩,len,len⟩ G _ _ ⟨st.gb,st.fr.put (isF_v.2 rfl) _,p,_,rfl,hp,?_⟩)
 ·simp only[List.append_assoc,List.cons_append,List.nil_append]
  exact List.perm_middle.symm
 ·exact⟨_,_,rfl,⟨vs, .inr ⟨b,[],true,by rw[hvl],by rw[List.append_nil],flatL_len _ h3,by rw[flatL_len _ h3,hvl];simp,by rw[hvl];exact Nat.le_refl _⟩,h2,h3,fun _ o ho=>by rw[List.mem_singleton.1 ho]⟩,hq⟩
/-! what is appended -/
theorem takeL_cat{cs:List Value}{off s:Nat}: ∀(es:List Value),(∀i (h:i<es.length),takeL cs (off+i*s) s=some (cellsL es[i]))→off≤cs.length→takeL cs off (es.length*s)=some (flatL es)
 |[],_,ho=>by
  rw[takeL_of _ _ _ (by simpa using ho)];simp[flatL]
 |v::t,h,ho=>by
  have h0:=h 0 (by simp)
  simp only[Nat.zero_mul,Nat.add_zero,List.getElem_cons_zero] at h0
  obtain⟨k1,k2⟩:=takeL_eq h0
  have ih:=takeL_cat (off:=off+s) t (fun i hi=>by
   have:=h (i+1) (by simpa using hi)
   rw[Nat.succ_mul,show off+(i*s+s)=off+s+i*s by omega] at this
   simpa using this) (by omega)
  obtain⟨k3,k4⟩:=takeL_eq ih
  rw[takeL_of _ _ _ (by simp only[List.length_cons,Nat.succ_mul];omega)]
  congr 1
  have e1:flatL (v::t)=cellsL v++flatL t:=by simp[flatL]
  rw[e1,k2,k4,List.length_cons,Nat.succ_mul,Nat.add_comm (t.length*s) s,List.take_add,List.drop_drop]
theorem src_sl{ov:List Own}{G:Gh}{w:SV}{es:List Value}(h:IsSl G s w es):Src P C ov G s w.n (.slice w.a w.n w.c) (flatL es):=by
 rcases h.mem with he|⟨b,off,cs,ha,hg,hc⟩
 ·subst he
  rw[h.len]
  exact src_zero
 ·rw[ha]
  by_cases he:es=[]
  ·subst he;rw[h.len];exact src_zero
  ·have hp:0<es.length:=List.length_pos_iff.2 he
   have h0:=hc 0 hp
   have:=(takeL_eq h0).1
   rw[h.len]
   exact src_gh hg (takeL_cat es hc (by omega))
def SrcD(fr:FrF)(bs:List BufD)(s:Nat)(y:Operand)(ds:List DV):Prop:=
 (∃l,opD fr y=some (.sl l)∧l=ds∧slOk s l)∨ ∃w ty lo,opF fr y=some w.f∧(⟨w,s,ty,ds,lo⟩:BufD)∈bs∧slOk s ds
theorem SrcD.bf{w:SV}{ty:TypeId}{ds:List DV}{lo:Bool}(h:opF fr y=some w.f)[hb:BAtD bs w s ty ds lo](k:slOk s ds):SrcD fr bs s y ds:= .inr ⟨w,ty,lo,h,hb.mem,k⟩
theorem SrcD.src{G:Gh}{frv:Fr}{q:List Own}{ds:List DV}(h:SrcD fr bs s y ds)(hf:FrIs G fr frv)(hq:BufsIs G bs q)(ov:List Own)(hov: ∀o∈q,o∈ov):
  ∃(w:SV) (vs:List Value),opv frv y=some (.slice w.a w.n w.c)∧w.n=vs.length∧IsLs G ds vs∧(∀v∈vs,(cellsL v).length=s)∧(∀v∈flatL vs,Sx.flat v=true)∧Src P C ov G s w.n (.slice w.a w.n w.c) (flatL vs):=by
 have hfl: ∀(ds:List DV) (vs:List Value),slOk s ds→IsLs G ds vs→(∀v∈vs,(cellsL v).length=s)∧ ∀v∈flatL vs,Sx.flat v=true:=by
  intro ds vs hk hl
  refine⟨fun v hv=>?_,fun v hv=>?_⟩
  ·obtain⟨d,hd,h3⟩:=hl.all v hv
   obtain⟨k1,k2⟩:=hk d hd
   rw[(h3.cells k1).1.len,k2]
  ·simp only[flatL,List.mem_flatten,List.mem_map] at hv
   obtain⟨l,⟨u,hu,rfl⟩,hv⟩:=hv
   obtain⟨d,hd,h3⟩:=hl.all u hu
   exact(h3.cells (hk d hd).1).2 v hv
 rcases h with⟨l,h1,rfl,hk⟩|⟨w,ty,lo,h1,h2,hk⟩
 ·obtain⟨u,h3,h4⟩:=hf.opD h1
  obtain⟨s',w,es,rfl,hsl,hl⟩:=is_sl.1 h4
  obtain⟨f1,f2⟩:=hfl _ _ hk hl
  refine⟨w,es,h3,hsl.len,hl,f1,f2,?_⟩
  rcases sl_stride hsl hl hk with he|he
  ·subst he
   rw[hsl.len]
   exact src_zero
  ·subst he;exact src_sl hsl
 ·obtain⟨B,⟨vs,hB,hv,hs,_⟩,hmem⟩:=hq.mem h2
  obtain⟨f1,f2⟩:=hfl _ _ hk hv
  refine⟨w,vs,hf.opv h1,hB.len,hv,f1,f2,?_⟩
  rcases hB with⟨e1,e2,e3⟩|⟨b,rest,lo',h3,h4,h5,h6,h7⟩
  ·simp only[] at e2
   subst e1 e2
   exact src_zero
  ·simp only[] at h3 h4 h5 h6 h7
   have ha:w.a=some ⟨b,0,none⟩:=by rw[h3]
   have hn:w.n=vs.length:=by rw[h3]
   have:OAt ov b (flatL vs++rest) ty lo':=⟨hov _ (hmem _ (by rw[h4];exact List.mem_cons_self))⟩
   rw[ha,hn]
   refine src_own this ?_
   rw[takeL_of _ _ _ (by rw[List.length_append];omega),List.drop_zero,List.take_append_of_le_length (by omega),List.take_of_length_le (by omega)]
theorem run_append_nil[hT:TySl P t e s by_][hN:TyN P t']{w:World}{ad2:Option Addr}{cap2:Nat}:(Builtin.append_ #[t,t'] ty' #[.slice none 0 0, .slice ad2 0 cap2]).run P w= .ok (.slice none 0 0) w:=by
 obtain⟨d,hd1⟩:=hN.un
 obtain⟨i,hi,his,hib⟩:=hT.info
 have h0:(Builtin.firstCells i.size 0 (.slice ad2 0 cap2)).run P w= .ok #[] w:=by
  cases ad2 with
  |none=>rfl
  |some a=>unfold Builtin.firstCells loadCells;simp[loadCellsFrom,run_pure]
 simp[Builtin.append_,run_underlying hT.un,run_underlying hd1,sizeOf,typeInfo,hi,Builtin.lenOf,h0]
theorem ch_append_nil[hT:TySl P t e s by_][hN:TyN P t']{fr:Fr}{own:List Own}{G:Gh}{ad2:Option Addr}{cap2:Nat}(hx:opv fr x=some (.slice none 0 0))(hy:opv fr y=some (.slice ad2 0 cap2))(hd:dstOk n dst=true)
  (h:St C n (put fr dst (.slice none 0 0)) own G Φ):Ch P C n fr own G ⟨dst, .call ⟨.builtin .append, #[x,y], #[t,t']⟩,ty',pos,af,gd⟩ Φ:=by
 intro a w Q rl
 refine ch_value (v:= .slice none 0 0) (w':=w) ?_ (h _ _ (rl.put _ hd))
 simp only[execOp,resolve,List.map_toArray,List.map_cons,List.map_nil,opv_eval rl.fr hx,opv_eval rl.fr hy]
 exact value_of run_append_nil
/-! stores to elements -/
theorem BufIs.upd{G:Gh}{w:SV}{s:Nat}{ty:TypeId}{ds:List DV}{lo:Bool}{B:List Own}(h:BufIs G ⟨w,s,ty,ds,lo⟩ B){i:Nat}{d:DV}(hi:ds[i]? =some d):
  ∃b vs rest lo',w.a=some ⟨b,0,none⟩∧B=[⟨b,flatL vs++rest,ty,lo'⟩]∧IsLs G ds vs∧(∀v∈vs,(cellsL v).length=s)∧i<vs.length∧
   ∀u d',Is G d' u→(cellsL u).length=s→BufIs G ⟨w,s,ty,ds.set i d',lo⟩ [⟨b,flatL (vs.set i u)++rest,ty,lo'⟩]:=by
 obtain⟨vs,hB,hv,hs,hlo⟩:=h
 obtain⟨v,h1,h2⟩:=hv.get hi
 obtain⟨hi',_⟩:=List.getElem?_eq_some_iff.1 h1
 rcases hB with⟨e,_,_⟩|⟨b,rest,lo',h3,h4,h5,h6,h7⟩
 ·rw[e] at h1;simp at h1
 ·refine⟨b,vs,rest,lo',by simp only[] at h3;rw[h3],h4,hv,hs,hi',fun u d' hu hul=>?_⟩
  have hall: ∀x∈vs.set i u,(cellsL x).length=s:=fun x hx=>by
   rcases List.mem_or_eq_of_mem_set hx with h'|rfl
   ·exact hs x h'
   ·exact hul
  refine⟨vs.set i u, .inr ⟨b,rest,lo',by simpa using h3,rfl,flatL_len _ hall,?_,by simpa using h7⟩,hv.set i hu,hall,fun hl o ho=>?_⟩
  ·rw[flatL_len _ hall,List.length_set,←h5];exact h6
  ·have:=hlo hl
   rw[h4] at this
   rw[List.mem_singleton.1 ho]
   have h9:=this ⟨b,flatL vs++rest,ty,lo'⟩ List.mem_cons_self
   exact h9
theorem flatL_set{s:Nat}{rest:List Value}{u:Value}(vs:List Value)(i:Nat)(h:i<vs.length)(hs: ∀v∈vs,(cellsL v).length=s)(hu:(cellsL u).length=s):ovw (flatL vs++rest) (i*s) (cellsL u)=flatL (vs.set i u)++rest:=by
 have hl:=flatL_len vs hs
 have hle:i*s+s≤vs.length*s:=by rw[←Nat.succ_mul];exact Nat.mul_le_mul_right _ h
 rw[ovw_spec _ _ _ (by rw[hu,List.length_append];omega),hu,List.take_append_of_le_length (by omega),List.drop_append_of_le_length (by omega),flatL_take vs i hs (by omega),←Nat.succ_mul,flatL_drop vs (i+1) hs h,
  List.set_eq_take_append_cons_drop,if_pos h,show vs.take i++u::vs.drop (i+1)=vs.take i++([u]++vs.drop (i+1)) from rfl,flatL_app,flatL_app,flatL_one]
 simp
/-! ### what is written no more; what is forgotten; spelled otherwise -/
theorem sd_re(k:Nat){f f':FV}(hl:lookF fr k=some f)(hE:E.fr=[])(hf: ∀G y,IsF G f y→IsF G f' y)(h:SD GB C n E ((k,f')::fr) own bs Φ):SD GB C n E fr own bs Φ:=by
 refine⟨fun G frv ov s=>?_⟩
 obtain⟨u,hu,hu'⟩:=s.fr.look hl
 refine st_frame ((k,u)::(frv++E.fr)) (FrLe.cons (look_appS hu) (fun _ _ h=>h)) (h G ((k,u)::frv) ov ⟨s.gb,⟨u,frv,rfl,hf G u hu',s.fr⟩,s.ob⟩)
theorem sd_newB(s ty:Nat)(h:SD GB C n E fr own (⟨⟨none,0,0⟩,s,ty,[],true⟩::bs) Φ):SD GB C n E fr own bs Φ:=by
 refine⟨fun G frv ov st=>?_⟩
 obtain⟨p,q,rfl,hp,hq⟩:=st.ob
 exact h G frv _ ⟨st.gb,st.fr,p,q,rfl,hp,⟨[],q,rfl,⟨[], .inl ⟨rfl,rfl,rfl⟩, .nil,by simp,fun _ o ho=>by cases ho⟩,hq⟩⟩
def reF(ks:List Nat)(f:FV)(fr:FrF):FrF:=ks.map (fun k=>(k,f))++fr
theorem sd_freezeB(ks:List Nat){w:SV}{s:Nat}{ty:TypeId}{ds:List DV}(hb:BRemD bs ⟨w,s,ty,ds,true⟩ bs1)(hk: ∀k∈ks,lookF fr k=some w.f)(h:SD GB C n E0 (reF ks (.d (.sl ds)) fr) own bs1 Φ):SD GB C n E0 fr own bs Φ:=by
 refine⟨fun G frv ov st=>?_⟩
 obtain⟨p,q,rfl,hp,hq⟩:=st.ob
 obtain⟨B,a1,a2,rfl,⟨vs,hB,hv,hvs,hlo⟩,hq1⟩:=hb.lens hq
 simp only[] at hB hv hvs
 simp only[E0,List.append_nil]
 have hks: ∀k∈ks,look frv k=some (.slice w.a w.n w.c):=fun k hk'=>st.fr.opv (x:= .tmp k) (hk k hk')
 have fin: ∀G',GLe G G'→IsSl G' s w vs→St C n frv (p++(a1++a2)) G' Φ:=by
  intro G' hg hsl
  have hF: ∀ks:List Nat,(∀k∈ks,look frv k=some (.slice w.a w.n w.c))→ ∃m,FrIs G' (reF ks (.d (.sl ds)) fr) m∧FrLe m frv:=by
   intro ks
   induction ks with
   |nil=>exact fun _=>⟨frv,st.fr.up hg,fun _ _ h=>h⟩
   |cons k ks ih=>
    intro hk'
    obtain⟨m,h1,h2⟩:=ih (fun j hj=>hk' j (List.mem_cons_of_mem _ hj))
    exact⟨(k,_)::m,⟨_,m,rfl,(show IsF G' (.d (.sl ds)) (.slice w.a w.n w.c) from is_sl.2 ⟨s,w,vs,rfl,hsl,hv.up hg⟩),h1⟩,FrLe.cons (hk' k List.mem_cons_self) h2⟩
  obtain⟨m,h1,h2⟩:=hF ks hks
  have:=h G' m (p++(a1++a2)) ⟨st.gb.trans hg,h1,p,_,rfl,hp.up hg,hq1.up hg⟩
  simp only[E0,List.append_nil] at this
  exact st_frame _ h2 this
 rcases hB with⟨e1,e2,e3⟩|⟨b,rest,lo',h3,h4,h5,h6,h7⟩
 ·subst e1 e2 e3
  exact fin G (GLe.refl _) (IsSl.nil _ _)
 ·subst h4
  have hl:lo'=true:=hlo rfl _ List.mem_cons_self
  subst hl
  refine st_freeze b (cs:=flatL vs++rest) (ty:=ty) (own':=p++(a1++a2)) ?_ ?_
  ·have:=(ORem.mid (o:=(⟨b,flatL vs++rest,ty,true⟩:Own)) (r:=a2) (p++a1))
   simpa[List.append_assoc] using this
  ·intro G' hG hg
   refine fin G' hG.le ?_
   rw[h3]
   exact IsSl.of_flat hvs hg.h h7
end
end Go.Sx
end

section
set_option maxRecDepth 100000
namespace Go.Sx
open Go Go.Proofs
section
variable {GB:Gh} {C:Ctx} {n:Nat} {Q0:Exit→Act→World→Prop} {fr fr':FrX} {own own':OwX} {cf cf':Cf} {vc vc':List Prop} {ops:Array Oper} {r:List Oper} {o:Oper} {K:List Kt}
/-! ### a block that is written no more -/
def subX(row:Bool)(nm:Nat)(l:List DV):FX→FX
 | .rw m=>bif Nat.beq m nm then(bif row then .d (.sl l) else .no) else .rw m
 | .ov m off=>bif Nat.beq m nm then(bif row then .no else(match off with
  |0=> .d (.pt l)
  |_+1=> .no)) else .ov m off
 | .be m s i j=>bif Nat.beq m nm then .no else .be m s i j
 | .bx tp pre m post=>bif Nat.beq m nm then(bif row then(match tp with
  |true=> .d (.tp (pre++ .sl l::post))
  |false=> .d (.ag (pre++ .sl l::post))) else .no) else .bx tp pre m post
 |f=>f
def fcX{α:Type}(f:FX)(k:FX→α):α:=match f with
 | .d x=>k (.d x)
 | .rw m=>k (.rw m)
 | .ov a b=>k (.ov a b)
 | .be a b c d=>k (.be a b c d)
 |f=>k f
theorem fcX_eq{α:Type}{f:FX}{k:FX→α}:fcX f k=k f:=by cases f<;>rfl
def subF{α:Type}(row:Bool)(nm:Nat)(l:List DV):FrX→(FrX→α)→α
 |[],k=>k []
 |(j,f)::t,k=>subF row nm l t fun t'=>fcX (subX row nm l f) fun f'=>k ((j,f')::t')
def subC{α:Type}(row:Bool)(nm:Nat)(l:List DV):List FX→(List FX→α)→α
 |[],k=>k []
 |f::t,k=>subC row nm l t fun t'=>fcX (subX row nm l f) fun f'=>k (f'::t')
def subO{α:Type}(row:Bool)(nm:Nat)(l:List DV):OwX→(OwX→α)→α
 |[],k=>k []
 |(j,B)::t,k=>subO row nm l t fun t'=>bif Nat.beq j nm then k ((j,none)::t') else match B with
  |some (.o ty cs lo)=>subC row nm l cs fun cs'=>k ((j,some (.o ty cs' lo))::t')
  |B=>k ((j,B)::t')
def subBk(row:Bool)(nm:Nat)(l:List DV):Option Bk→Option Bk
 |some (.o ty cs lo)=>some (.o ty (cs.map (subX row nm l)) lo)
 |B=>B
theorem subC_eq{α:Type}{row:Bool}{nm:Nat}{l:List DV}: ∀{cs:List FX} {k:List FX→α},subC row nm l cs k=k (cs.map (subX row nm l))
 |[],k=>rfl
 |f::t,k=>by simp only[subC,fcX_eq];rw[subC_eq];rfl
theorem subF_eq{α:Type}{row:Bool}{nm:Nat}{l:List DV}: ∀{fr:FrX} {k:FrX→α},subF row nm l fr k=k (fr.map fun e=>(e.1,subX row nm l e.2))
 |[],k=>rfl
 |(j,f)::t,k=>by simp only[subF,fcX_eq];rw[subF_eq];rfl
theorem subO_eq{α:Type}{row:Bool}{nm:Nat}{l:List DV}: ∀{own:OwX} {k:OwX→α},subO row nm l own k=k (own.map fun e=>(e.1,bif Nat.beq e.1 nm then none else subBk row nm l e.2))
 |[],k=>rfl
 |(j,B)::t,k=>by
  simp only[subO,subO_eq (own:=t),List.map_cons]
  cases Nat.beq j nm with
  |true=>rfl
  |false=>
   cases B with
   |none=>rfl
   |some B=>cases B<;>simp only[cond_false,subC_eq,subBk]
theorem look_map{g:FX→FX}: ∀{fr:FrX} {k:Nat},lookX (fr.map fun e=>(e.1,g e.2)) k=(lookX fr k).map g
 |[],k=>rfl
 |(j,f)::t,k=>by
  simp only[List.map_cons]
  rw[lookX_cons,lookX_cons,look_map (fr:=t)]
  split<;>rfl
theorem lookO_map{row:Bool}{nm:Nat}{l:List DV}: ∀{own:OwX} {k:Nat},lookO (own.map fun e=>(e.1,bif Nat.beq e.1 nm then none else subBk row nm l e.2)) k=if k=nm then none else subBk row nm l (lookO own k)
 |[],k=>by simp[lookO,subBk]
 |(j,B)::t,k=>by
  simp only[List.map_cons]
  rw[lookO_cons,lookO_cons,lookO_map (own:=t)]
  by_cases h:k=j
  ·subst h
   simp only[if_true]
   by_cases e:k=nm
   ·subst e;simp
   ·have:Nat.beq k nm=false:=by
     cases hb:Nat.beq k nm with
     |false=>rfl
     |true=>exact absurd (Nat.eq_of_beq_eq_true hb) e
    simp[this,e]
  ·simp[h]
structure FzR where
 fr:FrX
 own:OwX
def fzA(fr:FrX)(own:OwX)(nm:Nat):Option FzR:=match lookO own nm with
 |some (.b _ _ ds true)=>subF true nm ds fr fun fr'=>subO true nm ds own fun own'=>some ⟨fr',own'⟩
 |some (.o _ cs true)=>match toDXs cs with
  |some l=>subF false nm l fr fun fr'=>subO false nm l own fun own'=>some ⟨fr',own'⟩
  |none=>none
 |_=>none
theorem ORem.of_mem{o:Own}: ∀{own:List Own},o∈own→ ∃own',ORem own o own'∧ ∀x∈own,x.b≠o.b→x∈own'
 |[],h=>by cases h
 |x::t,h=>by
  rcases List.mem_cons.1 h with rfl|h
  ·exact⟨t, .hd ..,fun y hy hb=>(List.mem_cons.1 hy).elim (fun e=>absurd (by rw[e]) hb) id⟩
  ·obtain⟨own',h1,h2⟩:=ORem.of_mem h
   exact⟨x::own', .tl _ _ _ _ h1,fun y hy hb=>(List.mem_cons.1 hy).elim (fun e=>by rw[e];exact List.mem_cons_self) (fun e=>List.mem_cons_of_mem _ (h2 y e hb))⟩
theorem subX_is{row:Bool}{nm:Nat}{l:List DV}{ρ:NE}{G G':Gh}{f:FX}{y:Value}(hg:GLe G G')(h:IsX ρ G f y)(hr:row=true→ ∀y,IsX ρ G (.rw nm) y→Is G' (.sl l) y)(ho:row=false→ ∀y,IsX ρ G (.ov nm 0) y→Is G' (.pt l) y):IsX ρ G' (subX row nm l f) y:=by
 cases f with
 |rw m=>
  simp only[subX]
  cases hb:Nat.beq m nm with
  |false=>exact h.up hg
  |true=>
   cases Nat.eq_of_beq_eq_true hb
   cases row with
   |true=>exact hr rfl y h
   |false=>trivial
 |ov m off=>
  simp only[subX]
  cases hb:Nat.beq m nm with
  |false=>exact h.up hg
  |true=>
   cases Nat.eq_of_beq_eq_true hb
   cases row with
   |true=>trivial
   |false=>cases off with
    |zero=>exact ho rfl y h
    |succ=>trivial
 |be m s i j=>
  simp only[subX]
  cases hb:Nat.beq m nm with
  |false=>exact h.up hg
  |true=>trivial
 |bx tp pre m post=>
  simp only[subX]
  cases hb:Nat.beq m nm with
  |false=>exact h.up hg
  |true=>
   cases Nat.eq_of_beq_eq_true hb
   cases row with
   |false=>trivial
   |true=>
    obtain⟨m1,m2,e,h1,h2⟩:=h
    have hl:=(h1.up hg).app (.cons (hr rfl _ rfl) (h2.up hg))
    cases tp with
    |true=>exact is_tp.2 ⟨_,e,hl⟩
    |false=>exact is_ag.2 ⟨_,e,hl⟩
 |_=>exact h.up hg
theorem subC_is{row:Bool}{nm:Nat}{l:List DV}{ρ:NE}{G G':Gh}(hg:GLe G G')(hr:row=true→ ∀y,IsX ρ G (.rw nm) y→Is G' (.sl l) y)(ho:row=false→ ∀y,IsX ρ G (.ov nm 0) y→Is G' (.pt l) y): ∀{cs:List FX} {m:List Value},IsXs ρ G cs m→IsXs ρ G' (cs.map (subX row nm l)) m
 |[],m,h=>h
 |f::t,m,⟨y,q,e,h1,h2⟩=>⟨y,q,e,subX_is hg h1 hr ho,subC_is hg hr ho h2⟩
theorem RlX.frz{ρ:NE}{G G':Gh}{ov ov':List Own}{a:Act}{w:World}{row:Bool}{nm:Nat}{l:List DV}(h:RlX GB C n (lookX fr) (lookO own) ρ G ov a w)(hg:GLe G G')(hh:HRel C ov' G' w)(hv: ∀o∈ov,(ρ nm).a≠some ⟨o.b,0,none⟩→o∈ov'){B0:Bk}(hb:lookO own nm=some B0)
  (hr:row=true→ ∀y,IsX ρ G (.rw nm) y→Is G' (.sl l) y)(ho:row=false→ ∀y,IsX ρ G (.ov nm 0) y→Is G' (.pt l) y):
  RlX GB C n (lookX (fr.map fun e=>(e.1,subX row nm l e.2))) (lookO (own.map fun e=>(e.1,bif Nat.beq e.1 nm then none else subBk row nm l e.2))) ρ G' ov' a w:=by
 have inv: ∀m B,lookO (own.map fun e=>(e.1,bif Nat.beq e.1 nm then none else subBk row nm l e.2)) m=some B→m≠nm∧ ∃B1,lookO own m=some B1∧subBk row nm l (some B1)=some B:=fun m B e=>by
  rw[lookO_map] at e
  split at e
  ·cases e
  ·rename_i hm
   refine⟨hm,?_⟩
   cases hl:lookO own m with
   |none=>rw[hl] at e;cases e
   |some B1=>rw[hl] at e;exact⟨B1,rfl,e⟩
 refine⟨h.gb.trans hg,hh,h.sz,h.df,fun k f e=>?_,fun m B e=>?_,fun m m' B B' e e'=>?_⟩
 ·rw[look_map] at e
  cases hf:lookX fr k with
  |none=>rw[hf] at e;cases e
  |some g=>
   rw[hf] at e;cases e
   obtain⟨y,h1,h2⟩:=h.fx k g hf
   exact⟨y,h1,subX_is hg h2 hr ho⟩
 ·obtain⟨hm,B1,h1,h2⟩:=inv m B e
  obtain⟨os,h3,h4⟩:=h.bx m B1 h1
  refine⟨os,?_,fun o ho'=>hv o (h4 o ho') fun hc=>h.dj m nm B1 B0 h1 hb hm _ (h3.blk ho') hc⟩
  cases B1 with
  |b=>cases h2;exact h3.up hg
  |c=>cases h2;exact h3.up hg
  |o ty cs lo=>cases h2;obtain⟨b,q,h5,h6,h7⟩:=h3;exact⟨b,q,h5,h6,subC_is hg hr ho h7⟩
 ·obtain⟨_,B1,h1,_⟩:=inv m B e
  obtain⟨_,B2,h2,_⟩:=inv m' B' e'
  exact h.dj m m' B1 B2 h1 h2
theorem RlX.frzRow{lk:LK}{bk:BM}{ρ:NE}{G:Gh}{ov:List Own}{a:Act}{w:World}{nm:Nat}{ty:TypeId}{s:Nat}{ds:List DV}(r:RlX GB C n lk bk ρ G ov a w)(hb:bk nm=some (.b ty s ds true)):
  ∃G' ov',GLe G G'∧HRel C ov' G' w∧(∀o∈ov,(ρ nm).a≠some ⟨o.b,0,none⟩→o∈ov')∧ ∀y,IsX ρ G (.rw nm) y→Is G' (.sl ds) y:=by
 obtain⟨B,⟨vs,hB,hv,hs,hlo⟩,hBo⟩:=r.row (y:= .nilFunc) hb
 rcases hB with⟨e1,e2,e3⟩|⟨b,rest,lo',e2,e3,h5,h6,h7⟩
 ·subst e1
  have ed:ds=[]:=List.eq_nil_of_length_eq_zero (by rw[←hv.len];rfl)
  subst ed
  simp only at e2
  refine⟨G,ov,GLe.refl _,r.h,fun o ho _=>ho,fun y hy=>?_⟩
  rw[show y=_ from hy,e2]
  exact is_sl.2 ⟨0,⟨none,0,0⟩,[],rfl, .nil G 0, .nil⟩
 ·subst e3
  have hl:=hlo rfl _ List.mem_cons_self
  simp only at hl;subst hl
  obtain⟨ov',o1,o2⟩:=ORem.of_mem (hBo _ List.mem_cons_self)
  obtain⟨f1,f2⟩:=r.h.freeze o1
  simp only at e2
  refine⟨_,ov',f2,f1,fun o ho hne=>o2 o ho fun e=>hne (by rw[e2,e]),fun y hy=>?_⟩
  rw[show y=_ from hy,e2]
  exact is_sl.2 ⟨s,⟨some ⟨b,0,none⟩,vs.length,_⟩,vs,rfl,IsSl.of_flat hs (if_pos rfl) h7,hv.up f2⟩
theorem RlX.frzVar{lk:LK}{bk:BM}{ρ:NE}{G:Gh}{ov:List Own}{a:Act}{w:World}{nm:Nat}{ty:TypeId}{cs:List FX}{l:List DV}(r:RlX GB C n lk bk ρ G ov a w)(hb:bk nm=some (.o ty cs true))(hl:toDXs cs=some l):
  ∃G' ov',GLe G G'∧HRel C ov' G' w∧(∀o∈ov,(ρ nm).a≠some ⟨o.b,0,none⟩→o∈ov')∧ ∀y,IsX ρ G (.ov nm 0) y→Is G' (.pt l) y:=by
 obtain⟨os,⟨b,m,h3,rfl,h4⟩,h5⟩:=r.bx _ _ hb
 obtain⟨ov',o1,o2⟩:=ORem.of_mem (h5 _ List.mem_cons_self)
 obtain⟨f1,f2⟩:=r.h.freeze o1
 refine⟨_,ov',f2,f1,fun o ho hne=>o2 o ho fun e=>hne (by rw[h3,e]),fun y hy=>?_⟩
 obtain⟨b',h6,rfl⟩:=hy
 rw[h3] at h6;cases h6
 exact is_pt.2 ⟨b,m,rfl,if_pos rfl,(toDXs_is h4 hl).up f2⟩
theorem fzA_ok{nm:Nat}{Φ:Act→World→Prop}{R:FzR}(h:fzA fr own nm=some R)(hk:SX GB C n (lookX R.fr) (lookO R.own) Φ):SX GB C n (lookX fr) (lookO own) Φ:=by
 refine⟨fun ρ G ov a w r=>?_⟩
 unfold fzA at h
 split at h<;>try (cases h;done)
 ·rename_i ty s ds hb
  rw[subF_eq,subO_eq] at h;cases h
  obtain⟨G',ov',h1,h2,h3,h4⟩:=r.frzRow hb
  exact hk.run ρ G' ov' a w (r.frz (row:=true) h1 h2 h3 hb (fun _=>h4) (fun e=>by cases e))
 ·rename_i ty cs hb
  split at h<;>try (cases h;done)
  rename_i l hl
  rw[subF_eq,subO_eq] at h;cases h
  obtain⟨G',ov',h1,h2,h3,h4⟩:=r.frzVar hb hl
  exact hk.run ρ G' ov' a w (r.frz (row:=false) h1 h2 h3 hb (fun e=>by cases e) (fun _=>h4))
theorem fz[fu:Fu](nm:Nat){fr1:FrX}{own1:OwX}(h:fzA fr own nm=some ⟨fr1,own1⟩)(hgo:go tt n fu.n [] fr1 own1 (.ops ops r K)=⟨vc,fr',own',cf'⟩)(k:CfS Tryz.prog GB C n Q0 fr' own' cf')(hv:allP vc:=by first|exact trivial|(simp only[allP];kernel_rfl)|(simp only[allP];omega)|(simp only[allP,List.length_map,List.length_set,List.length_replicate];omega)):CfS Tryz.prog GB C n Q0 fr own (.ops ops r K):=
 fzA_ok h (gx' hgo hv k)
theorem fzE(nm:Nat){fr1:FrX}{own1:OwX}{e:Exit}(h:fzA fr own nm=some ⟨fr1,own1⟩)(k:CfS Tryz.prog GB C n Q0 fr1 own1 (.ex e K)):CfS Tryz.prog GB C n Q0 fr own (.ex e K):=fzA_ok h k
theorem fzC(nm:Nat){fr1:FrX}{own1:OwX}{c:Code}(h:fzA fr own nm=some ⟨fr1,own1⟩)(k:CfS Tryz.prog GB C n Q0 fr1 own1 (.code c K)):CfS Tryz.prog GB C n Q0 fr own (.code c K):=fzA_ok h k
/-! ### loops, ways that meet -/
def leF:FrX→FrX→Prop
 |[],_=>True
 |(k,v)::t,fr=>lookX fr k=some v∧leF t fr
def leO:OwX→OwX→Prop
 |[],_=>True
 |(k,v)::t,own=>lookO own k=v∧leO t own
theorem leF_ok: ∀{f:FrX},leF f fr→SubX (lookX f) (lookX fr)
 |[],_,k,x,h=>by cases h
 |(j,v)::t,h,k,x,e=>by
  rw[lookX_cons] at e
  split at e
  ·cases e;rename_i hk;rw[hk];exact h.1
  ·exact leF_ok h.2 k x e
theorem leO_ok: ∀{f:OwX},leO f own→SubX (lookO f) (lookO own)
 |[],_,k,x,h=>by cases h
 |(j,v)::t,h,k,x,e=>by
  rw[lookO_cons] at e
  split at e
  ·rename_i hk;rw[hk,h.1,e]
  ·exact leO_ok h.2 k x e
theorem leI{k:Nat}{q:IntKind}{a b:Int}(h:lookX fr k=some (.d (.v (.int q a))))(e:a=b):lookX fr k=some (.d (.v (.int q b))):=e▸h
def AtX(GB:Gh)(C:Ctx)(n:Nat){X:Type}(F:X→FrX)(O:X→OwX)(I:X→Prop)(a:Act)(w:World):Prop:=
 ∃x ρ G ov,I x∧RlX GB C n (lookX (F x)) (lookO (O x)) ρ G ov a w
def dstsO:List Oper→List Nat→List Nat
 |[],l=>l
 |o::r,l=>match o.dst with
  |some d=>d::dstsO r l
  |none=>dstsO r l
def dsts:Code→List Nat→List Nat
 | .region _ ops _,l=>dstsO ops.toList l
 | .seq a b,l=>dsts a (dsts b l)
 | .cond _ a b,l=>dsts a (dsts b l)
 | .block _ a,l=>dsts a l
 | .loop a,l=>dsts a l
 | .scope a,l=>dsts a l
 |_,l=>l
def keepF{α:Type}:List Nat→FrX→(FrX→α)→α
 |_,[],k=>k []
 |l,(j,f)::t,k=>bif memN l j then keepF l t k else keepF (j::l) t fun t'=>k ((j,f)::t')
def keepO{α:Type}:List Nat→OwX→(OwX→α)→α
 |_,[],k=>k []
 |l,(j,B)::t,k=>bif memN l j then keepO l t k else match B with
  |some B=>keepO l t fun t'=>k ((j,some B)::t')
  |none=>keepO l t k
structure Kp where
 fr:FrX
 own:OwX
def keep(c:Code)(uf uo:List Nat)(fr:FrX)(own:OwX):Kp:=fcL (dsts c uo) fun m=>fcL (uf++m) fun m'=>keepF m' fr fun fr'=>keepO m own fun own'=>⟨fr',own'⟩
theorem lp[fu:Fu]{c:Code}{X:Type}(U:X→FrX)(V:X→OwX)(I:X→Prop)(μ:X→Nat)(x0:X){kf:FrX}{ko:OwX}{cf':X→Cf}{fr':X→FrX}{own':X→OwX}{vc:X→List Prop}(hkp:keep c ((U x0).map (·.1)) ((V x0).map (·.1)) fr own=⟨kf,ko⟩)(hI:I x0)
  (hgo: ∀x,go tt n fu.n [] (U x++kf) (V x++ko) (.code c (.ag (AtX GB C n (fun y=>U y++kf) (fun y=>V y++ko) (fun y=>I y∧μ y<μ x))::K))=⟨vc x,fr' x,own' x,cf' x⟩)
  (round: ∀x,I x→CfS Tryz.prog GB C n Q0 (fr' x) (own' x) (cf' x))(hF:leF (U x0++kf) fr:=by repeat (first|exact trivial|refine And.intro rfl ?_|refine And.intro (leI rfl (by first|omega|(dsimp only;omega))) ?_|refine And.intro (leI rfl (by simp)) ?_))(hO:leO (V x0++ko) own:=by repeat (first|exact trivial|refine And.intro rfl ?_))
  (hv: ∀x,I x→allP (vc x):=by intros;first|exact trivial|(simp only[allP];kernel_rfl)|(simp only[allP];omega)|(simp only[allP,List.length_map,List.length_set,List.length_replicate];omega)):CfS Tryz.prog GB C n Q0 fr own (.code (.loop c) K):=by
 refine⟨fun ρ G ov a w r=>?_⟩
 have r0:=r.mono (leF_ok hF) (leO_ok hO)
 intro b k cs
 have key: ∀m a w,(∃x ρ G ov,I x∧μ x=m∧RlX GB C n (lookX (U x++kf)) (lookO (V x++ko)) ρ G ov a w)→
   ∃e a' w',cQ Tryz.prog Q0 K e a' w'∧Arrives Tryz.prog (lone (b.at a (.code c:: .inLoop c::k)) cs w) b k cs e a' w':=by
  intro m
  induction m using Nat.strongRecOn with
  |_ m ih=>
   intro a w ⟨x,ρ,G,ov,hx,hm,hr⟩
   have h1:=gx' (GB:=GB) (C:=C) (Q0:=Q0) (hgo x) (hv x hx) (round x hx)
   obtain⟨e,a₁,w₁,hq,harr⟩:=h1.run ρ G ov a w hr b (.inLoop c::k) cs
   cases e with
   |normal=>
    obtain⟨x',ρ',G',ov',⟨hx',hlt⟩,hr'⟩:=hq
    obtain⟨e₂,a₂,w₂,hq₂,harr₂⟩:=ih (μ x') (hm▸hlt) a₁ w₁ ⟨x',ρ',G',ov',hx',rfl,hr'⟩
    exact⟨e₂,a₂,w₂,hq₂, .of_steps (Steps.trans harr (.one step_inLoop)) harr₂⟩
   |exit id=>exact⟨_,a₁,w₁,hq, .pass (x:= .inLoop c) rfl (fun _ _=> .inl (by simp)) harr⟩
   |goto l=>exact⟨_,a₁,w₁,hq, .pass (x:= .inLoop c) rfl (fun _ _=> .inl (by simp)) harr⟩
   |ret=>exact⟨_,a₁,w₁,hq, .pass (x:= .inLoop c) rfl (fun _ _=> .inl (by simp)) harr⟩
   |panic ch=>exact⟨_,a₁,w₁,hq, .pass (x:= .inLoop c) rfl (fun _ _=> .inl (by simp)) harr⟩
   |outgrown=>exact⟨_,a₁,w₁,hq, .pass (x:= .inLoop c) rfl (fun _ _=> .inl (by simp)) harr⟩
 obtain⟨e,a',w',q,rr⟩:=key (μ x0) a w ⟨x0,ρ,G,ov,hI,rfl,r0⟩
 exact⟨e,a',w',q, .of_steps (.one step_loop) rr⟩
theorem at_{X:Type}{F:X→FrX}{O:X→OwX}{I:X→Prop}(x:X)(hI:I x)(hF:leF (F x) fr:=by repeat (first|exact trivial|refine And.intro rfl ?_|refine And.intro (leI rfl (by first|omega|(dsimp only;omega))) ?_|refine And.intro (leI rfl (by simp)) ?_))(hO:leO (O x) own:=by repeat (first|exact trivial|refine And.intro rfl ?_)):CfS Tryz.prog GB C n Q0 fr own (.ex .normal (.ag (AtX GB C n F O I)::K)):=
 ⟨fun ρ G ov a w r=>⟨x,ρ,G,ov,hI,r.mono (leF_ok hF) (leO_ok hO)⟩⟩
theorem mg[fu:Fu]{c d:Code}{X:Type}(U:X→FrX)(V:X→OwX)(I:X→Prop){kf:FrX}{ko:OwX}{cf':X→Cf}{fr':X→FrX}{own':X→OwX}{vc:X→List Prop}(u0 v0:List Nat)(hkp:keep c u0 v0 fr own=⟨kf,ko⟩)
  (h1:CfS Tryz.prog GB C n Q0 fr own (.code c (.ag (AtX GB C n (fun y=>U y++kf) (fun y=>V y++ko) I)::K)))
  (hgo: ∀x,go tt n fu.n [] (U x++kf) (V x++ko) (.code d K)=⟨vc x,fr' x,own' x,cf' x⟩)(k: ∀x,I x→CfS Tryz.prog GB C n Q0 (fr' x) (own' x) (cf' x))(hv: ∀x,I x→allP (vc x):=by intros;first|exact trivial|(simp only[allP];kernel_rfl)|(simp only[allP];omega)|(simp only[allP,List.length_map,List.length_set,List.length_replicate];omega)):CfS Tryz.prog GB C n Q0 fr own (.code c (.sq d::K)):=by
 refine SX.imp h1 fun a w h=>wp_mono h ?_
 intro e a w h
 cases e with
 |normal=>
  obtain⟨x,ρ,G,ov,hI,hr⟩:=h
  have:=gx' (GB:=GB) (C:=C) (Q0:=Q0) (hgo x) (hv x hI) (k x hI)
  exact this.run ρ G ov a w hr
 |_=>exact h
end
end Go.Sx
end

section
set_option maxRecDepth 100000
namespace Go.Sx
open Go
section
variable {P:Program} {ops:Array Oper} {Q:Exit→Act→World→Prop} {S:World→Prop} {π₂:List (Nat×Bool)}
abbrev fin0:Nat→Bool:=fun _=>false
def grS(S:World→Prop)(K:(World→Prop)→Act→World→Prop)(a:Act)(w:World):Prop:= ∃S':World→Prop,(∀w,S' w→S w)∧S' w∧K S' a w
def dwT(P:Program)(ops:Array Oper)(Q:Exit→Act→World→Prop)(K:(World→Prop)→Act→World→Prop):List Nat→List (Nat×Bool)→(World→Prop)→Act→World→Prop
 |[],[],S,a,w=>K S a w
 |k::ks,[],S,a,w=> ∀j,(h:j∈k::ks)→wpOp P ops Q j (grS S (dwT P ops Q K (without (k::ks) j) [])) a w
 |ks,(i,true)::r,S,a,w=> ∃o v,ops[i]? =some o∧S w∧YieldsIf P ops S o v a∧dwT P ops Q K ks r S (a.put o.dst v) w
 |ks,(i,false)::r,S,a,w=>wpOp P ops Q i (grS S (dwT P ops Q K ks r)) a w∧
   ∀j,(h:j∈ks)→wpOp P ops Q j (grS S (dwT P ops Q K (without ks j) ((i,false)::r))) a w
termination_by ks π=>ks.length+π.length
decreasing_by
 all_goals (first|(have:=without_lt h;simp only[List.length_cons,List.length_nil] at*;omega)|(simp only[List.length_cons];omega))
def endN(Q:Exit→Act→World→Prop):(World→Prop)→Act→World→Prop:=fun _ a w=>Q .normal a w
end
section
variable {P:Program} {GB:Gh} {C:Ctx} {n:Nat} {fr fr':FrF} {own own' own0 own1 own1':List OwnD} {bs bs0 bs1 bs1':List BufD} {ops:Array Oper} {Q:Exit→Act→World→Prop} {fd:List FD} {π π₂:List (Nat×Bool)}
structure SR (GB:Gh) (C:Ctx) (n:Nat) (fr:FrF) (own0:List OwnD) (bs0:List BufD) (own1:List OwnD) (bs1:List BufD) (fd:List FD) (K:List Nat→(World→Prop)→Act→World→Prop):Prop where
 run: ∀G frv o0 o1,GLe GB G→FrIs G fr frv→OB G own0 bs0 o0→OB G own1 bs1 o1→ ∀fs:Fs,St C n (frv++fFs fd fs) (o1++(o0++fOs fd fs)) G (K (pend fd fs) (HS C o0 G))
instance {GB:Gh} {C:Ctx} {n:Nat} {fr:FrF} {own0:List OwnD} {bs0:List BufD} {own1:List OwnD} {bs1:List BufD} {fd:List FD} {K:List Nat→(World→Prop)→Act→World→Prop}:CoeFun (SR GB C n fr own0 bs0 own1 bs1 fd K) (fun _=> ∀G frv o0 o1,GLe GB G→FrIs G fr frv→OB G own0 bs0 o0→OB G own1 bs1 o1→ ∀fs:Fs,St C n (frv++fFs fd fs) (o1++(o0++fOs fd fs)) G (K (pend fd fs) (HS C o0 G))):=⟨SR.run⟩
abbrev dwK (P:Program) (ops:Array Oper) (Q:Exit→Act→World→Prop) (K:(World→Prop)→Act→World→Prop) (π:List (Nat×Bool)):List Nat→(World→Prop)→Act→World→Prop:=fun ks S=>dwT P ops (NoPan Q) K ks π S
def frB:List FD→List Nat→FrF
 |f::fd,b::bl=>(f.d, .d (.v (.pointer (some ⟨b,0,none⟩))))::frB fd bl
 |_,_=>[]
def owB:List FD→List (List DV)→List Nat→List OwnD
 |f::fd,c::cl,b::bl=>⟨b,c,f.t,true⟩::owB fd cl bl
 |_,_,_=>[]
def ZsOk:List FD→List (List DV)→Prop
 |f::fd,c::cl=>IsLs (fun _=>none) c (cellsL f.z)∧ZsOk fd cl
 |[],[]=>True
 |_,_=>False
end
/-! ### a choice of the blocks -/
def pickL{α:Type}(idx:List Nat)(l:List α):List α:=idx.filterMap (l[·]?)
end Go.Sx
end

section
set_option maxRecDepth 100000
namespace Go.Sx
open Go
section
variable {P:Program} {GB:Gh} {C:Ctx} {n:Nat} {E:Ext} {fr fr':FrF} {own own':List OwnD} {bs bs' bs1:List BufD} {ops:Array Oper} {Q:Exit→Act→World→Prop} {r:List Oper} {Φ:Act→World→Prop}
variable {dst:Option Nat} {t t' ty':TypeId} {pos:String} {af:Array Edge} {gd:Option (Nat×Bool)} {x y z:Operand} {e s by_:Nat}
theorem tf_appendF[hT:TySl P t e s by_][hN:TyN P t']{d0:DV}[hz:TyZE P e d0]{w:SV}{ds ds2:List DV}(hx:opF fr x=some w.f)(hb:BRemD bs ⟨w,s,e,ds,false⟩ bs1)(hy:SrcD fr bs1 s y ds2)
  (hby:Nat.blt 0 by_=true)(hbd:(ds.length+ds2.length)*by_≤140737488355328)(hzs:Nat.beq d0.cells.length s=true)(hd:dstOk n dst=true):
  TF P GB C n fr own bs ⟨dst, .call ⟨.builtin .append, #[x,y], #[t,t']⟩,ty',pos,af,gd⟩ SV (fun w'=>putF fr dst w'.f) (fun _=>own) (fun w'=>⟨w',s,e,ds++ds2,false⟩::bs1):=by
 intro GB' E Φ hgb h G frv ov st
 obtain⟨z,hz1,hz2,hz3⟩:=hz.z
 obtain⟨p,q,rfl,hp,hq⟩:=st.ob
 have cz:=(hz2.cells hz3).1.len
 replace hzs:=Nat.eq_of_beq_eq_true hzs
 rw[Nat.blt_eq] at hby
 obtain⟨B,a1,a2,rfl,⟨vs,hB,hv,hvs,hlo⟩,hq1⟩:=hb.lens hq
 simp only[] at hB hv hvs
 obtain⟨w2,us,h1,h2,h3,h4,h5,h6⟩:=hy.src (P:=P) (C:=C) st.fr hq1 ((p++(a1++(B++a2)))++E.own) (fun o ho=>by
  simp only[List.mem_append] at ho⊢;rcases ho with h|h<;>simp[h])
 have hx':=opv_app (y:=E.fr) (st.fr.opv hx)
 have hy':=opv_app (y:=E.fr) h1
 have hus:(flatL us).length=us.length*s:=flatL_len us h4
 have hbd':(vs.length+us.length)*by_≤140737488355328:=by rw[hv.len,h3.len];exact hbd
 have hall: ∀v∈vs++us,(cellsL v).length=s:=fun v hv=>by
  rcases List.mem_append.1 hv with hv|hv
  ·exact hvs v hv
  ·exact h4 v hv
 have hfin: ∀(b:Nat) (lo':Bool) (cap':Nat) (rest':List Value),vs.length+us.length≤cap'→rest'.length+(vs.length+us.length)*s=cap'*s→
   St C n (put (frv++E.fr) dst (.slice (some ⟨b,0,none⟩) (vs.length+us.length) cap')) (⟨b,flatL (vs++us)++rest',e,lo'⟩::((p++(a1++a2))++E.own)) G Φ:=by
  intro b lo' cap' rest' hc hr
  rw[put_app]
  refine st_perm ((p++([⟨b,flatL (vs++us)++rest',e,lo'⟩]++(a1++a2)))++E.own) ?_ (h ⟨some ⟨b,0,none⟩,vs.length+us.length,cap'⟩ G _ _ ⟨st.gb,st.fr.put (isF_v.2 rfl) _,p,_,rfl,hp,?_⟩)
  ·simp only[List.append_assoc,List.cons_append,List.nil_append]
   exact List.perm_middle.symm
  ·refine⟨_,_,rfl,⟨vs++us, .inr ⟨b,rest',lo',by simp,rfl,flatL_len _ hall,?_,by simpa using hc⟩,hv.app h3,hall,fun h=>by cases h⟩,hq1⟩
   rw[flatL_len _ hall,List.length_append]
   simp only[]
   omega
 rcases hB with⟨e1,e2,e3⟩|⟨b,rest,lo',k3,k4,k5,k6,k7⟩
 ·subst e1 e2 e3
  by_cases hne:us=[]
  ·subst hne
   have:ds2=[]:=List.eq_nil_of_length_eq_zero (by rw[←h3.len];rfl)
   subst this
   rw[h2] at hy'
   refine ch_append_nil hx' hy' hd ?_
   rw[put_app]
   refine h ⟨none,0,0⟩ G _ _ ⟨st.gb,st.fr.put (isF_v.2 rfl) _,p,_,rfl,hp,?_⟩
   rw[List.append_nil]
   refine⟨[],_,by simp,⟨[], .inl ⟨rfl,rfl,rfl⟩,hv,by simp,fun h=>by cases h⟩,hq1⟩
  ·have hup:0<us.length:=List.length_pos_iff.2 hne
   rw[h2] at hy' h6
   refine ch_append_grow (z:=z) (xs:=[]) (ys:=flatL us) hx' hy' src_zero h6 (by show(0:Nat)<0+us.length;omega) hby (by simpa using hbd') hd (fun b cap' hc=>?_)
   have:=hfin b true cap' (zeros z (cap'-us.length)) (by simpa using hc) (by rw[zeros_len,cz,hzs,←Nat.add_mul];simp at hc⊢;congr 1;omega)
   simpa using this
 ·subst k4
  have ha:w.a=some ⟨b,0,none⟩:=by rw[k3]
  have hn:w.n=vs.length:=by rw[k3]
  rw[ha,hn] at hx'
  rw[h2] at hy' h6
  refine ch_append_any (z:=z) (xs:=flatL vs) (ys:=flatL us) (rest:=rest) (own1:=(p++(a1++a2))++E.own) (lo:=lo') hx' hy' ?_ k5 k6 k7 h6 hus h5 hby hbd' (by rw[cz,hzs]) hd (fun b' lo2 cap' rest' hc hr=>?_)
  ·have:=(ORem.mid (o:=(⟨b,flatL vs++rest,e,lo'⟩:Own)) (r:=a2++E.own) (p++a1))
   simpa[List.append_assoc] using this
  ·rw[←flatL_app]
   exact hfin b' lo2 cap' rest' hc hr
theorem td_storeBs{w:SV}{i j sz:Nat}{ty:TypeId}{ds:List DV}{d u:DV}{lo:Bool}(hx:opF fr x=some (.be w sz i j))(hy:opD fr y=some u)[hs:TyS P t](hb:BRemD bs ⟨w,sz,ty,ds,lo⟩ bs1)
  (hi:ds[i]? =some (.ag d.cells))(hj:Nat.blt j d.cells.length=true)(hf:u.flat=true)(hd:dstOk n dst=true):
  TD P GB C n fr own bs ⟨dst, .store t x y,ty',pos,af,gd⟩ (putF fr dst (.d (.v undef))) own (⟨w,sz,ty,ds.set i (.ag (d.cells.set j u)),lo⟩::bs1):=by
 intro GB' E Φ hgb h G frv ov st
 obtain⟨y',h1,h2⟩:=st.fr.opD hy
 obtain⟨x',h3,b,hwb,rfl⟩:=st.fr.op hx
 obtain⟨p,q,rfl,hp,hq⟩:=st.ob
 obtain⟨B,a1,a2,rfl,hB,hq1⟩:=hb.lens hq
 obtain⟨b',vs,rest,lo',e1,rfl,hv,hvs,hil,hup⟩:=hB.upd hi
 rw[hwb] at e1;cases e1
 have hfl:=h2.flat hf
 rw[Nat.blt_eq] at hj
 obtain⟨v,g1,g2⟩:=hv.get hi
 obtain⟨m,rfl,hm⟩:=is_ag.1 g2
 obtain⟨g3,g4⟩:=List.getElem?_eq_some_iff.1 g1
 have hml:m.length=sz:=hvs _ (List.mem_of_getElem? g1)
 have hmd:=hm.len
 have key:=hup (.agg ⟨m.set j y'⟩) (.ag (d.cells.set j u)) (is_ag.2 ⟨_,rfl,hm.set j h2⟩) (by show(m.set j y').length=sz;simpa using hml)
 have hset:=flatL_set (rest:=rest) (u:= .agg ⟨m.set j y'⟩) vs i hil hvs (by show(m.set j y').length=sz;simpa using hml)
 have hlv:=flatL_len vs hvs
 have hle:i*sz+sz≤vs.length*sz:=by rw[←Nat.succ_mul];exact Nat.mul_le_mul_right _ hil
 have hst:(flatL vs++rest).set (i*sz+j) y'=flatL (vs.set i (.agg ⟨m.set j y'⟩))++rest:=by
  rw[←hset,flat_set (by omega) vs i hil hvs]
  show _=ovw _ _ (m.set j y')
  rw[ovw_spec _ _ _ (by simp only[List.length_set,List.length_append];omega),g4]
  rw[List.take_append_of_le_length (by omega),flatL_take vs i hvs (by omega),List.length_set,hml,List.drop_append_of_le_length (by omega),←Nat.succ_mul,flatL_drop vs (i+1) hvs hil]
  simp[cellsL,List.append_assoc]
 refine ch_store1 (ty:=ty) (lo:=lo') (cs:=flatL vs++rest) (own':=(p++(a1++([⟨b,flatL (vs.set i (.agg ⟨m.set j y'⟩))++rest,ty,lo'⟩]++a2)))++E.own) (opv_app h3) (opv_app h1) ?_ ?_ hfl hd ?_
 ·rw[hst]
  have:=(OUpd.mid (b:=b) (cs:=flatL vs++rest) (cs':=flatL (vs.set i (.agg ⟨m.set j y'⟩))++rest) (ty:=ty) (lo:=lo') (r:=a2++E.own) (p++a1))
  simpa[List.append_assoc] using this
 ·rw[List.length_append];omega
 ·rw[put_app]
  refine st_perm ((p++([⟨b,flatL (vs.set i (.agg ⟨m.set j y'⟩))++rest,ty,lo'⟩]++(a1++a2)))++E.own) ?_ (h G _ _ ⟨st.gb,st.fr.put (isF_v.2 rfl) _,p,_,rfl,hp,⟨_,_,rfl,key,hq1⟩⟩)
  simp only[List.append_assoc,List.cons_append,List.nil_append]
  exact List.perm_middle.append_left _
def PB(GB:Gh)(P:Program)(f:FuncId)(mk:SV→List DV)(s:Nat)(ty:TypeId)(dsi:List DV)(mkr:SV→DV)(dso:List DV):Prop:=
 ∀G w vs B,GLe GB G→BufIs G ⟨w,s,ty,dsi,false⟩ B→IsLs G (mk w) vs→FnO P f vs B G (fun v own' G'=> ∃w',Is G' (mkr w') v∧BufIs G' ⟨w',s,ty,dso,false⟩ own')
def opXs(fr:FrF):List Operand→Option (List DV)
 |[]=>some []
 |x::t=>match opF fr x,opXs fr t with
  |some (.d d),some l=>some (d::l)
  |_,_=>none
theorem FrIs.opx{G:Gh}{fr:FrF}{m:Fr}(h:FrIs G fr m): ∀{x:List Operand} {l:List DV},opXs fr x=some l→ ∃y,opvs m x=some y∧IsLs G l y
 |[],l,e=>by simp only[opXs] at e;cases e;exact⟨[],rfl, .nil⟩
 |x::t,l,e=>by
  simp only[opXs] at e
  split at e
  ·rename_i d l' hd hl'
   cases e
   obtain⟨y,h1,h2⟩:=h.op hd
   obtain⟨ys,h3,h4⟩:=h.opx hl'
   exact⟨y::ys,by simp only[opvs,h1,h3], .cons h2 h4⟩
  ·cases e
theorem BufIs.asB{G:Gh}{w:SV}{ty:TypeId}{ds:List DV}{lo:Bool}{B:List Own}(h:BufIs G ⟨w,s,ty,ds,lo⟩ B):BufIs G ⟨w,s,ty,ds,false⟩ (Sx.asB B):=by
 obtain⟨vs,h1,h2,h3,h4⟩:=h
 exact⟨vs,h1.asB,h2,h3,fun h=>by cases h⟩
theorem BufIs.weak{G:Gh}{w:SV}{ty:TypeId}{ds:List DV}{lo:Bool}{B:List Own}(h:BufIs G ⟨w,s,ty,ds,lo⟩ B):BufIs G ⟨w,s,ty,ds,false⟩ B:=by
 obtain⟨vs,h1,h2,h3,h4⟩:=h
 exact⟨vs,h1,h2,h3,fun h=>by cases h⟩
theorem tf_callB{f:FuncId}{fo:Operand}{args:Array Operand}{tys:Array TypeId}{mk:SV→List DV}{ty:TypeId}{dsi dso:List DV}{mkr:SV→DV}{w:SV}{lo:Bool}(ho:opF fr fo=some (.d (.v (.func (.func f) #[] #[]))))(hv:opXs fr args.toList=some (mk w))(hF:PB GB P f mk s ty dsi mkr dso)(hb:BRemD bs ⟨w,s,ty,dsi,lo⟩ bs1)(hd:dstOk n dst=true):
  TF P GB C n fr own bs ⟨dst, .call ⟨.value fo,args,tys⟩,ty',pos,af,gd⟩ SV (fun w'=>putF fr dst (.d (mkr w'))) (fun _=>own) (fun w'=>⟨w',s,ty,dso,lo⟩::bs1):=by
 intro GB' E Φ hgb h G frv ov st
 obtain⟨vs,h1,h2⟩:=st.fr.opx hv
 obtain⟨p,q,rfl,hp,hq⟩:=st.ob
 obtain⟨B,a1,a2,rfl,hB,hq1⟩:=hb.lens hq
 refine ch_callcO (c1:=[]) (c2:=[]) (M:=B) (rest:=p++(a1++(a2++E.own))) (opv_app (st.fr.opv ho)) (opvs_app h1) ?_ (by simpa using hF G w vs B (hgb.trans st.gb) hB.weak h2) hd ?_
 ·simp only[List.append_assoc]
  have e1:(p++(a1++(B++(a2++E.own)))).Perm (B++(p++(a1++(a2++E.own)))):=by
   rw[←List.append_assoc p,←List.append_assoc p a1 (a2++E.own),←List.append_assoc,←List.append_assoc B]
   exact(List.perm_append_comm).append_right _
  exact e1
 ·rintro v own1 G' hG ⟨w',hr,vs',k1,k2,k3,k4⟩
  rw[put_app]
  refine st_perm ((p++(own1.map (relo (flM B))++(a1++a2)))++E.own) ?_ (h w' G' _ _ ⟨st.gb.trans hG.le,(st.fr.up hG.le).put (f:= .d (mkr w')) hr _,p,_,rfl,hp.up hG.le,⟨_,_,rfl,⟨vs',k1.relo _,k2,k3,?_⟩,hq1.up hG.le⟩⟩)
  ·simp only[List.append_assoc]
   rw[←List.append_assoc,←List.append_assoc p]
   exact(List.perm_append_comm).append_right _
  ·intro hl o ho
   simp only[] at hl
   obtain⟨o',_,rfl⟩:=List.mem_map.1 ho
   obtain⟨_,_,_,_,hlo⟩:=hB
   exact flM_true _ (hlo hl)
theorem PB.intro{f:FuncId}{fn:Func}{c:Code}{k:Nat}{mk:SV→List DV}{dsi dso:List DV}{ty:TypeId}{mkr:SV→DV}(hf:P.funcs[f]? =some fn)(hb:fn.body=some c)(hn:(fn.name== "runtime.NumGoroutine")=false)(hm:fn.ntmps=k)(hlen: ∀w,Nat.ble (mk w).length k=true)
  (h: ∀(C:Ctx) (w:SV),SD GB C k E0 (args0F 0 (mk w)) [] [⟨w,s,ty,dsi,false⟩] (c.wp P (bodyPost P fn (RPostO C (fun v own' G'=> ∃w',Is G' (mkr w') v∧BufIs G' ⟨w',s,ty,dso,false⟩ own'))))):PB GB P f mk s ty dsi mkr dso:=by
 intro G w vs B hg hB hv
 refine FnO.intro hf hb hn hm (by rw[hv.len];exact hlen w) fun C _ _=>?_
 have:=h C w G _ (asB B) ⟨hg,FrIs.args0 0 hv,[],_,rfl,rfl,⟨asB B,[],(List.append_nil _).symm,hB.asB,rfl⟩⟩
 simpa only[E0,List.append_nil] using this
inductive RVX (fr:FrF):List ResultVar→List DV→Prop
 |nil:RVX fr [] []
 |tmp {t:Nat} {v:DV} {rs:List ResultVar} {vs:List DV} (h:lookF fr t=some (.d v)) (k:RVX fr rs vs):RVX fr (.tmp t::rs) (v::vs)
theorem sd_doneB{fn:Func}{w:SV}{ty:TypeId}{dso ds:List DV}{mkr:SV→DV}(hr:RVX fr fn.results.toList ds)(e:tupD ds=mkr w)(hb:BRemD bs ⟨w,s,ty,dso,false⟩ bs1):
  SD GB C n E0 fr own bs (bodyPost P fn (RPostO C (fun v own' G'=> ∃w',Is G' (mkr w') v∧BufIs G' ⟨w',s,ty,dso,false⟩ own')) .ret):=by
 refine⟨fun G frv ov st=>?_⟩
 obtain⟨p,q,rfl,hp,hq⟩:=st.ob
 obtain⟨B,a1,a2,rfl,hB,hq1⟩:=hb.lens hq
 have: ∃vs,RVs P frv (p++(a1++(B++a2))) fn.results.toList vs∧IsLs G ds vs:=by
  clear e
  generalize fn.results.toList=rs at hr
  induction hr with
  |nil=>exact⟨[], .nil, .nil⟩
  |tmp h k ih=>
   obtain⟨vs,h1,h2⟩:=ih
   obtain⟨y,hy,hy'⟩:=st.fr.look h
   exact⟨y::vs, .tmp hy h1, .cons hy' h2⟩
 obtain⟨vs,h1,h2⟩:=this
 simp only[E0,List.append_nil]
 refine st_doneO h1 (B++(p++(a1++a2))) B ?_ (List.sublist_append_left _ _) ⟨w,e▸tupD_is h2,hB⟩
 rw[←List.append_assoc p,←List.append_assoc,←List.append_assoc p a1 a2,←List.append_assoc B]
 exact(List.perm_append_comm).append_right _
end
end Go.Sx
end

section
set_option maxRecDepth 100000
namespace Go.Sx
open Go
section
variable {P:Program} {GB:Gh} {C:Ctx} {n:Nat} {E:Ext} {fr fr':FrF} {own own':List OwnD} {bs bs' bs1:List BufD} {ops:Array Oper} {Q:Exit→Act→World→Prop} {r:List Oper} {Φ:Act→World→Prop}
variable {dst:Option Nat} {t t' ty':TypeId} {pos:String} {af:Array Edge} {gd:Option (Nat×Bool)} {x y z:Operand} {e s by_:Nat}
/-! ### families of results -/
def PX(GB:Gh)(P:Program)(f:FuncId)(ds:List DV)(ι:Type)(r:ι→DV):Prop:=
 ∀G vs,GLe GB G→IsLs G ds vs→Fn P f vs G (fun v G'=> ∃x,Is G' (r x) v)
def PMX(GB:Gh)(P:Program)(f:FuncId)(ds:List DV)(b:Nat)(ty:TypeId)(cs:List DV)(ι:Type)(r:ι→DV)(cs':ι→List DV):Prop:=
 ∀G vs m lo,GLe GB G→IsLs G ds vs→IsLs G cs m→FnM P f vs [⟨b,m,ty,lo⟩] G (fun v css G'=> ∃x,Is G' (r x) v∧ ∃m',css=[m']∧IsLs G' (cs' x) m')
def PN(GB:Gh)(P:Program)(f:FuncId)(ds:List DV)(ty:TypeId)(ι:Type)(cs:ι→List DV):Prop:=
 ∀G vs,GLe GB G→IsLs G ds vs→FnO P f vs [] G (fun v own' G'=> ∃x b m,v= .pointer (some ⟨b,0,none⟩)∧own'=[⟨b,m,ty,true⟩]∧IsLs G' (cs x) m)
inductive OSp:List OwnD→Nat→List DV→TypeId→Bool→List OwnD→List OwnD→Prop
 |hd (b:Nat) (cs:List DV) (ty:TypeId) (lo:Bool) (t:List OwnD):OSp (⟨b,cs,ty,lo⟩::t) b cs ty lo [] t
 |tl (o:OwnD) (t:List OwnD) (b:Nat) (cs:List DV) (ty:TypeId) (lo:Bool) (L R:List OwnD) (h:OSp t b cs ty lo L R):OSp (o::t) b cs ty lo (o::L) R
end
end Go.Sx
end

section
set_option maxRecDepth 100000
namespace Go.Sx
open Go
section
variable {P:Program} {GB:Gh} {C:Ctx} {n:Nat} {fr:FrF} {own:List OwnD} {bs:List BufD}
/-! ### a borrowed variable, and a row handed back -/
def PMR(GB:Gh)(P:Program)(f:FuncId)(ds:List DV)(b:Nat)(ty:TypeId)(cs:List DV)(s:Nat)(ty2:TypeId)(ι:Type)(rows:ι→List DV)(cs':ι→List DV):Prop:=
 ∀G vs m lo,GLe GB G→IsLs G ds vs→IsLs G cs m→FnO P f vs [⟨b,m,ty,lo⟩] G (fun v own' G'=> ∃x w m' B,v= .slice w.a w.n w.c∧own'=⟨b,m',ty,false⟩::B∧IsLs G' (cs' x) m'∧BufIs G' ⟨w,s,ty2,rows x,true⟩ B∧ ∀o∈B,b≠o.b)
variable {dst:Option Nat} {t t' ty':TypeId} {pos:String} {af:Array Edge} {gd:Option (Nat×Bool)} {x y z:Operand}
theorem st_doneO'{fr:Fr}{own:List Own}{G:Gh}{fn:Func}{K:Value→List Own→Gh→Prop}{vs:List Value}(hr:RVs P fr own fn.results.toList vs)(own2 own3:List Own)(hp:own.Perm own2)(hs:own3.Sublist own2)(hk:own3.Pairwise (fun x y=>x.b≠y.b)→K (tupled vs) own3 G):St C n fr own G (bodyPost P fn (RPostO C K) .ret):=
 fun a w rl=>⟨rl.df,_,run_results hr rl.fr rl.h,_,own3,G,rfl,(rl.h.perm hp).drop hs,hk ((rl.h.perm hp).drop hs).nd⟩
variable {e s by_:Nat}
theorem slice_key{G:Gh}{l:List DV}{w:SV}{es:List Value}{s' nhi mx':Nat}(hsl:IsSl G s' w es)(hl:IsLs G l es)(ho:slOk s l)(h2:nhi≤l.length)(hm1:nhi≤mx')(hm2:mx'≤w.c):Is G (.sl (l.take nhi)) (.slice w.a nhi mx'):=by
 have hn:=hsl.len
 have hcap:=hsl.cap
 have hll:=hl.len
 have e9: ∀s,slTo w.a w.n w.c 0 nhi mx' s= .slice w.a nhi mx':=by
  intro s
  unfold slTo
  cases w.a with
  |none=>simp
  |some ad=>simp[Addr.add]
 rcases sl_stride hsl hl ho with he|he
 ·subst he
  have:l=[]:=List.eq_nil_of_length_eq_zero (by rw[←hll];rfl)
  subst this
  have e1:nhi=0:=by simp at h2;exact h2
  subst e1
  refine is_sl.2 ⟨s,⟨_,0,mx'⟩,[],rfl,⟨rfl,Nat.zero_le _, .inl rfl⟩,by simpa using IsLs.nil⟩
 ·subst he
  have k:=hsl.sub 0 nhi mx' (Nat.zero_le _) (by omega) hm1 hm2
  have k2:=is_sl.2 ⟨s',⟨_,_,_⟩,_,rfl,k,(hl.take nhi).drop 0⟩
  rw[List.drop_zero] at k2
  have e:=e9 s'
  unfold slTo at e
  revert k2
  simp only[] at*
  intro k2
  first|exact e▸k2|(simp at e k2⊢;first|exact k2|(cases hw:w.a<;>simp_all [Addr.add]))
end
end Go.Sx
end
