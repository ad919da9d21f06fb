/- Part 8 of a proof. -/
import Derived.Test.YtopfgminkdfpkaaGreatDoorMp7
set_option linter.unusedSimpArgs false
set_option maxRecDepth 100000
set_option linter.unusedVariables false
section
namespace Go.Sx
open Go Go.Proofs Tryz
def ajm:Nat→List DV→FrX
 |_,[]=>[]
 |i,v::t=>(i, .d v)::ajm (i+1) t
class Fu where n:Nat
instance fu0:Fu:=⟨400⟩
section
variable {GB:Gh} {C:Ctx} {n:Nat} {Q0:Exit→Act→World→Prop} {fr fr':FrX} {own own':OwX} {cf cf':Cf} {vc vc':List Prop} {ops:Array Oper} {r:List Oper} {o:Oper} {K:List Kt}
theorem gx'{q:Nat}(h:go tt n q [] fr own cf=⟨vc,fr',own',cf'⟩)(hv:aag vc)(k:CfS prog GB C n Q0 fr' own' cf'):CfS prog GB C n Q0 fr own cf:=by
 have:=(ad0 (GB:=GB) (C:=C) (Q0:=Q0) abK follows q [] fr own cf (by rw[h];exact hv)).2
 rw[h] at this
 exact this k
theorem gx[fu:Fu](h:go tt n fu.n [] fr own cf=⟨vc,fr',own',cf'⟩)(k:CfS prog GB C n Q0 fr' own' cf')(hv:aag vc:=by first|exact trivial|(simp only[aag];kernel_rfl)|(simp only[aag];omega)|(simp only[aag,aJ,aN,aY];omega)):CfS prog GB C n Q0 fr own cf:=gx' h hv k
/-! ### functions -/
theorem ajd: ∀{ds:List DV} {vs:List Value} {ρ:NE} {G:Gh} (i:Nat),IsLs G ds vs→ ∀k f,aay (ajm i ds) k=some f→ ∃y,(∃j,k=i+j∧vs[j]? =some y)∧IsX ρ G f y
 |[],vs,ρ,G,i,h,k,f,e=>by cases e
 |d::t,vs,ρ,G,i,h,k,f,e=>by
  obtain⟨y,m,rfl,h1,h2⟩:=aac.1 h
  simp only[ajm] at e
  rw[abd] at e
  split at e
  ·cases e;rename_i hk;exact⟨y,⟨0,hk,rfl⟩,h1⟩
  ·obtain⟨u,⟨j,hj,hu⟩,h3⟩:=ajd (i+1) h2 k f e
   exact⟨u,⟨j+1,by omega,by simpa using hu⟩,h3⟩
theorem aoF{ds:List DV}{vs:List Value}{ρ:NE}{G:Gh}{a:Act}(h:IsLs G ds vs)(hf:aox (ajE 0 vs) a)(k:Nat)(f:FX)(e:aay (ajm 0 ds) k=some f): ∃y,a.tmps[k]? =some y∧IsX ρ G f y:=by
 obtain⟨y,⟨j,hj,hy⟩,h1⟩:=ajd (ρ:=ρ) 0 h k f e
 refine⟨y,hf k y ?_,h1⟩
 rw[hj];exact acz vs 0 j y hy
theorem fn[fu:Fu]{f:FuncId}{fb:Func}{c:Code}{m:Nat}{ds:List DV}{rv:DV}(hf:prog.funcs[f]? =some fb)(hb:fb.body=some c)(hn:(fb.name== "runtime.NumGoroutine")=false)(hm:fb.ntmps=m)(hlen:Nat.ble ds.length m=true)
  (hgo:go tt m fu.n [] (ajm 0 ds) [] (.code c [])=⟨vc,fr,own,cf⟩)(k: ∀C:Ctx,CfS prog GB C m (bodyPost prog fb (amy C (fun v G'=>Is G' rv v))) fr own cf)
  (hv:aag vc:=by first|exact trivial|(simp only[aag];kernel_rfl)|(simp only[aag];omega)|(simp only[aag,aJ,aN,aY];omega)):PF GB prog f ds rv:=by
 intro G vs hg hvs
 refine Fn.intro hf hb hn hm (by rw[hvs.len];exact hlen) fun C _ _=>?_
 intro a w rl
 have h:=gx' (GB:=GB) (C:=C) (Q0:=bodyPost prog fb (amy C (fun v G'=>Is G' rv v))) hgo hv (k C)
 exact h.run (fun _=>⟨none,0,0⟩) G [] a w ⟨hg,rl.h,rl.sz,rl.df,(fun k f e=>aoF hvs rl.fr k f e),(fun nm B e=>by cases e),(fun nm nm' B B' e=>by cases e)⟩
/-! ### branches -/
theorem CfS.cond{c:Operand}{x y:Code}{b:Bool}{f:FX}(hc:evX (aay fr) c=some f)(hb:toB f=some b)(h1:b=true→CfS prog GB C n Q0 fr own (.code x K))(h2:b=false→CfS prog GB C n Q0 fr own (.code y K)):CfS prog GB C n Q0 fr own (.code (.cond c x y) K):=SX.cond hc hb h1 h2
variable {fr1 fr2:FrX} {own1 own2:OwX} {cf1 cf2:Cf} {vc1 vc2:List Prop}
theorem br[fu1:Fu][fu2:Fu]{p:Prop}{hp:Decidable p}{c:Operand}{x y:Code}(hc:evX (aay fr) c=some (.pr p hp))(g1:go tt n fu1.n [] fr own (.code x K)=⟨vc1,fr1,own1,cf1⟩)(g2:go tt n fu2.n [] fr own (.code y K)=⟨vc2,fr2,own2,cf2⟩)
  (k1:p→CfS prog GB C n Q0 fr1 own1 cf1)(k2: ¬p→CfS prog GB C n Q0 fr2 own2 cf2)
  (v1:p→aag vc1:=by intro;first|exact trivial|(simp only[aag];omega)|(simp only[aag,aJ,aN,aY];omega))(v2: ¬p→aag vc2:=by intro;first|exact trivial|(simp only[aag];omega)|(simp only[aag,aJ,aN,aY];omega)):CfS prog GB C n Q0 fr own (.code (.cond c x y) K):=
 .cond hc rfl (fun h=>gx' g1 (v1 (of_decide_eq_true h)) (k1 (of_decide_eq_true h))) (fun h=>gx' g2 (v2 (of_decide_eq_false h)) (k2 (of_decide_eq_false h)))
theorem bd[fu1:Fu][fu2:Fu]{p:Prop}{hp:Decidable p}{c:Operand}{x y:Code}(hc:evX (aay fr) c=some (.d (.v (.bool (@decide p hp)))))(g1:go tt n fu1.n [] fr own (.code x K)=⟨vc1,fr1,own1,cf1⟩)(g2:go tt n fu2.n [] fr own (.code y K)=⟨vc2,fr2,own2,cf2⟩)
  (k1:p→CfS prog GB C n Q0 fr1 own1 cf1)(k2: ¬p→CfS prog GB C n Q0 fr2 own2 cf2)
  (v1:p→aag vc1:=by intro;first|exact trivial|(simp only[aag];omega)|(simp only[aag,aJ,aN,aY];omega))(v2: ¬p→aag vc2:=by intro;first|exact trivial|(simp only[aag];omega)|(simp only[aag,aJ,aN,aY];omega)):CfS prog GB C n Q0 fr own (.code (.cond c x y) K):=
 .cond hc rfl (fun h=>gx' g1 (v1 (of_decide_eq_true h)) (k1 (of_decide_eq_true h))) (fun h=>gx' g2 (v2 (of_decide_eq_false h)) (k2 (of_decide_eq_false h)))
theorem bb[fu1:Fu][fu2:Fu]{b:Bool}{c:Operand}{x y:Code}(hc:evX (aay fr) c=some (.d (.v (.bool b))))(g1:go tt n fu1.n [] fr own (.code x K)=⟨vc1,fr1,own1,cf1⟩)(g2:go tt n fu2.n [] fr own (.code y K)=⟨vc2,fr2,own2,cf2⟩)
  (k1:b=true→CfS prog GB C n Q0 fr1 own1 cf1)(k2:b=false→CfS prog GB C n Q0 fr2 own2 cf2)
  (v1:b=true→aag vc1:=by intro;first|exact trivial|(simp only[aag];omega)|(simp only[aag,aJ,aN,aY];omega))(v2:b=false→aag vc2:=by intro;first|exact trivial|(simp only[aag];omega)|(simp only[aag,aJ,aN,aY];omega)):CfS prog GB C n Q0 fr own (.code (.cond c x y) K):=
 .cond hc rfl (fun h=>gx' g1 (v1 h) (k1 h)) (fun h=>gx' g2 (v2 h) (k2 h))
theorem abH{d:Nat}{f g:FX}(hl:aay fr d=some f)(hi: ∀ρ G y,IsX ρ G f y→IsX ρ G g y){Φ:Act→World→Prop}(h:SX GB C n (aay ((d,g)::fr)) (aaB own) Φ):SX GB C n (aay fr) (aaB own) Φ:=by
 refine⟨fun ρ G ov a w r=>h.run ρ G ov a w ⟨r.gb,r.h,r.sz,r.df,fun k f' e=>?_,r.bx,r.dj⟩⟩
 rw[abd] at e
 split at e
 ·cases e;rename_i hk;subst hk
  obtain⟨y,h1,h2⟩:=r.fx _ _ hl
  exact⟨y,h1,hi _ _ _ h2⟩
 ·exact r.fx k f' e
theorem eqF(d:Nat){f:FX}(g:FX)(hl:aay fr d=some f)(e:f=g)(h:CfS prog GB C n Q0 ((d,g)::fr) own cf):CfS prog GB C n Q0 fr own cf:=by
 have hs:aay ((d,g)::fr)=aay fr:=by
  funext k
  rw[abd]
  split
  ·rename_i hk;rw[hk,hl,e]
  ·rfl
 cases cf with
 |dr id ops fr0 own0 us r K=>exact fun D=>h ⟨D.pre,by rw[hs];exact D.st,D.snd⟩
 |_=>unfold CfS at h⊢;rw[hs] at h;exact h
theorem kT(d:Nat){p:Prop}{hp:Decidable p}(hl:aay fr d=some (.pr p hp))(h:p)(k:CfS prog GB C n Q0 ((d, .tt)::fr) own (.ops ops r K)):CfS prog GB C n Q0 fr own (.ops ops r K):=
 abH hl (fun _ _ _ e=>by rw[show _=_ from e,decide_eq_true h];exact rfl) k
theorem kF(d:Nat){p:Prop}{hp:Decidable p}(hl:aay fr d=some (.pr p hp))(h: ¬p)(k:CfS prog GB C n Q0 ((d, .ff)::fr) own (.ops ops r K)):CfS prog GB C n Q0 fr own (.ops ops r K):=
 abH hl (fun _ _ _ e=>by rw[show _=_ from e,decide_eq_false h];exact rfl) k
theorem nlD(d:Nat)(hl:aay fr d=some .nl){e:Exit}(h:CfS prog GB C n Q0 ((d, .d (.sl []))::fr) own (.ex e K)):CfS prog GB C n Q0 fr own (.ex e K):=
 abH (g:= .d (.sl [])) hl (fun ρ G y hy=>(show Is G (.sl []) y from acx (ρ:=ρ) (f:= .nl) hy rfl)) h
theorem PF.to{f:FuncId}{ds:List DV}{r1 r2:DV}{P:Program}(h:PF GB P f ds r1)(e:r1=r2):PF GB P f ds r2:=e▸h
theorem cs[fu1:Fu][fu2:Fu](d:Nat){p:Prop}{hp:Decidable p}(hl:aay fr d=some (.pr p hp))(g1:go tt n fu1.n [] ((d, .tt)::fr) own (.ops ops r K)=⟨vc1,fr1,own1,cf1⟩)(g2:go tt n fu2.n [] ((d, .ff)::fr) own (.ops ops r K)=⟨vc2,fr2,own2,cf2⟩)
  (k1:p→CfS prog GB C n Q0 fr1 own1 cf1)(k2: ¬p→CfS prog GB C n Q0 fr2 own2 cf2)
  (v1:p→aag vc1:=by intro;first|exact trivial|(simp only[aag];omega)|(simp only[aag,aJ,aN,aY];omega))(v2: ¬p→aag vc2:=by intro;first|exact trivial|(simp only[aag];omega)|(simp only[aag,aJ,aN,aY];omega)):CfS prog GB C n Q0 fr own (.ops ops r K):=by
 by_cases h:p
 ·exact abH hl (fun _ _ _ e=>by rw[show _=_ from e,decide_eq_true h];exact rfl) (gx' g1 (v1 h) (k1 h))
 ·exact abH hl (fun _ _ _ e=>by rw[show _=_ from e,decide_eq_false h];exact rfl) (gx' g2 (v2 h) (k2 h))
theorem csb[fu1:Fu][fu2:Fu](d:Nat){b:Bool}(hl:aay fr d=some (.d (.v (.bool b))))(g1:go tt n fu1.n [] ((d, .tt)::fr) own (.ops ops r K)=⟨vc1,fr1,own1,cf1⟩)(g2:go tt n fu2.n [] ((d, .ff)::fr) own (.ops ops r K)=⟨vc2,fr2,own2,cf2⟩)
  (k1:b=true→CfS prog GB C n Q0 fr1 own1 cf1)(k2:b=false→CfS prog GB C n Q0 fr2 own2 cf2)
  (v1:b=true→aag vc1:=by intro;first|exact trivial|(simp only[aag];omega)|(simp only[aag,aJ,aN,aY];omega))(v2:b=false→aag vc2:=by intro;first|exact trivial|(simp only[aag];omega)|(simp only[aag,aJ,aN,aY];omega)):CfS prog GB C n Q0 fr own (.ops ops r K):=by
 cases h:b with
 |true=>exact abH hl (fun _ G _ e=>by rw[(aaZ (G:=G)).1 e,h];exact rfl) (gx' g1 (v1 h) (k1 h))
 |false=>exact abH hl (fun _ G _ e=>by rw[(aaZ (G:=G)).1 e,h];exact rfl) (gx' g2 (v2 h) (k2 h))
/-! ### an operation that the run does not reckon -/
def hdC:Cf→Option (Array Oper×Oper)
 | .ops ops (o::_) _=>some (ops,o)
 | .dr _ ops _ _ _ (o::_) _=>some (ops,o)
 |_=>none
def lkC(fr:FrX):Cf→LK
 | .dr _ ops _ _ _ (o::_) _=>rsX (ajR ops o) (aay fr)
 |_=>aay fr
def bkC(fr:FrX)(own:OwX):Cf→BM
 | .dr _ ops _ _ _ (o::_) _=>rsX (ao7 o fr (ajR ops o)) (aaB own)
 |_=>aaB own
def bad:Res:=⟨[False],[],[], .ex .normal []⟩
def goA(T:TT)(n q:Nat)(fr:FrX)(own:OwX)(cf:Cf)(f:FX)(bl:List (Nat×Option Bk))(nw:List Nat):Res:=match cf with
 | .ops ops (o::r) K=>bif ahU nw o.dst fr own&&aaQ n o.dst then aka own bl fun own'=>aAX fr o.dst f fun fr'=>go T n q [] fr' own' (.ops ops r K) else bad
 | .dr id ops fr0 own0 us (o::r) K=>bif aaQ n o.dst then fcL (ajR ops o) fun rs=>fcL (ao7 o fr rs) fun rn=>aka own bl fun own'=>fcL (us++[⟨rs,o.dst,f,rn,bl,nw⟩]) fun us'=>aAX fr o.dst f fun fr'=>go T n q [] fr' own' (.dr id ops fr0 own0 us' r K) else bad
 |_=>bad
def grd(ops:Array Oper)(lk:LK):Option (Nat×Bool)→Bool
 |none=>true
 |some (j,b)=>match ops[j]? with
  |some oj=>match oj.dst with
   |some d=>match lk d with
    |some .tt=>b
    |some .ff=>!b
    |_=>false
   |none=>false
  |none=>false
theorem atc{lk:LK}{bk:BM}{o:Oper}(h:grd ops lk o.guard=true): ∀ρ G ov a w,RlX GB C n lk bk ρ G ov a w→Region.wanted o (yielded ops a.tmps)=true:=fun ρ G ov a w r=>by
 unfold Region.wanted
 unfold grd at h
 split at h
 ·rename_i e;rw[e]
 ·rename_i j b e
  rw[e]
  split at h<;>try (cases h;done)
  rename_i oj hj
  split at h<;>try (cases h;done)
  rename_i d hd
  split at h<;>try (cases h;done)
  ·rename_i hl
   obtain⟨y,h1,h2⟩:=afq r hj hd hl
   cases h1;simp only[h2];subst h;rfl
  ·rename_i hl
   obtain⟨y,h1,h2⟩:=afq r hj hd hl
   cases h1;simp only[h2];cases b<;>first|rfl|(simp at h)
theorem uo{q:Nat}{f:FX}{bl:List (Nat×Option Bk)}{nw:List Nat}(hh:hdC cf=some (ops,o))(hg:grd ops (lkC fr cf) o.guard=true)(h:OpR prog GB C n (lkC fr cf) (bkC fr own cf) o f bl nw)
  (hgo:goA tt n q fr own cf f bl nw=⟨vc,fr',own',cf'⟩)(hv:aag vc)(k:CfS prog GB C n Q0 fr' own' cf'):CfS prog GB C n Q0 fr own cf:=by
 obtain⟨dst,op,ty,pos,af,gd⟩:=o
 cases cf with
 |ops ops' r K=>
  cases r with
  |nil=>cases hh
  |cons o' r=>
   cases hh
   unfold goA at hgo
   cases hc:(ahU nw dst fr own&&aaQ n dst) with
   |false=>simp only[hc,cond_false,bad] at hgo;cases hgo;exact absurd hv (fun x=>x)
   |true=>
    simp only[hc,cond_true] at hgo
    simp only[aeL,ajA] at hgo
    simp only[cJ] at hc
    exact SX.op (h.toS hc.2 (atc hg)) (afn hc.1) (gx' hgo hv k)
 |dr id ops' fr0 own0 us r K=>
  cases r with
  |nil=>cases hh
  |cons o' r=>
   cases hh
   unfold goA at hgo
   cases hc:aaQ n dst with
   |false=>simp only[hc,cond_false,bad] at hgo;cases hgo;exact absurd hv (fun x=>x)
   |true=>
    simp only[hc,cond_true,agx] at hgo
    simp only[aeL,ajA] at hgo
    intro D
    exact gx' hgo hv k (D.push (h.toS hc (atc hg)))
 |_=>cases hh
def alf(lk:LK)(fo:Operand)(args:Array Operand):Option (FuncId×List DV):=match evX lk fo with
 |some (.d (.v (.func (.func f) ⟨[]⟩ ⟨[]⟩)))=>match evDs lk args.toList with
  |some ds=>some (f,ds)
  |none=>none
 |_=>none
theorem ak4{lk:LK}{fo:Operand}{args:Array Operand}{f:FuncId}{ds:List DV}(h:alf lk fo args=some (f,ds)):evX lk fo=some (.d (.v (.func (.func f) #[] #[])))∧evDs lk args.toList=some ds:=by
 unfold alf at h
 split at h<;>try (cases h;done)
 rename_i h1
 split at h<;>cases h
 rename_i h2
 exact⟨h1,h2⟩
theorem atk{lk:LK}{bk:BM}{fo:Operand}{args:Array Operand}{tys:Array TypeId}{f:FuncId}{ds:List DV}{rv:DV}{dst:Option Nat}{ty:TypeId}{pos:String}{af:Array Edge}{gd:Option (Nat×Bool)}(ha:alf lk fo args=some (f,ds))(hF:PF GB prog f ds rv):
  OpR prog GB C n lk bk ⟨dst, .call ⟨.value fo,args,tys⟩,ty,pos,af,gd⟩ (.d rv) [] []:=by
 intro hd tl tb K' s1 s2 hf hk
 refine⟨fun ρ G ov a w r Q=>?_⟩
 obtain⟨h1,h2⟩:=ak4 ha
 obtain⟨y,hy,hy'⟩:=(r.mono s1 s2).ev h1
 rw[(aaZ (G:=G)).1 hy'] at hy
 obtain⟨vs,h3,h4⟩:=(r.mono s1 s2).evDs h2
 refine zC hy h3 (hF G vs r.gb h4) hd (fun v G' hG hK a' w' rl=>?_) a w Q ⟨r.h,r.sz,aaN a,r.df⟩
 exact hk.run ρ G' ov a' w' ⟨r.gb.trans hG.le,rl.h,rl.sz,rl.df,(abj rl).fx (fun k g _ e=>by obtain⟨u,h5,h6⟩:=r.fx k g e;exact⟨u,h5,h6.up hG.le⟩) hK,
  fun nm B e=>by obtain⟨os,h5,h6⟩:=r.bx nm B e;exact⟨os,h5.up hG.le,h6⟩,r.dj⟩
theorem ca[fu:Fu]{fo:Operand}{args:Array Operand}{tys:Array TypeId}{f:FuncId}{ds:List DV}{rv:DV}{dst:Option Nat}{ty:TypeId}{pos:String}{af:Array Edge}{gd:Option (Nat×Bool)}(hh:hdC cf=some (ops,⟨dst, .call ⟨.value fo,args,tys⟩,ty,pos,af,gd⟩))
  (hg:grd ops (lkC fr cf) gd=true)(ha:alf (lkC fr cf) fo args=some (f,ds))(hF:PF GB prog f ds rv)(hgo:goA tt n fu.n fr own cf (.d rv) [] []=⟨vc,fr',own',cf'⟩)(k:CfS prog GB C n Q0 fr' own' cf')(hv:aag vc:=by first|exact trivial|(simp only[aag];kernel_rfl)|(simp only[aag];omega)|(simp only[aag,aJ,aN,aY];omega)):CfS prog GB C n Q0 fr own cf:=
 uo hh hg (atk ha hF) hgo hv k
/-! ### results -/
def awo(T:TT)(fr:FrX)(own:OwX):List ResultVar→Option (List DV)
 |[]=>some []
 | .tmp t::rs=>match aay fr t with
  |some f=>match akh f with
   |some d=>match awo T fr own rs with
    |some l=>some (d::l)
    |none=>none
   |none=>none
  |none=>none
 | .cell a t::rs=>match aay fr a with
  |some (.ov nm 0)=>match abk T t with
   |some i=>match aaB own nm with
    |some (.o _ cs _)=>match i.ag with
     |some (some k)=>match takeX cs 0 k with
      |some c=>match ael c with
       |some d=>match awo T fr own rs with
        |some l=>some (.ag d::l)
        |none=>none
       |none=>none
      |none=>none
     |some none=>match cs[0]? with
      |some c=>match akh c with
       |some d=>match awo T fr own rs with
        |some l=>some (d::l)
        |none=>none
       |none=>none
      |none=>none
     |none=>none
    |_=>none
   |none=>none
  |_=>none
theorem aoO{ρ:NE}{G:Gh}{ov:List Own}{a:Act}{w:World}(h:RlX GB C n (aay fr) (aaB own) ρ G ov a w): ∀{rs:List ResultVar} {ds:List DV},awo tt fr own rs=some ds→ ∃vs,RVs prog (frA a) ov rs vs∧IsLs G ds vs:=by
 intro rs
 induction rs with
 |nil=>intro ds e;cases e;exact⟨[], .nil, .nil⟩
 |cons x rs ih=>
  intro ds e
  cases x with
  |tmp t=>
   simp only[awo] at e
   split at e<;>try (cases e;done)
   rename_i f hf
   split at e<;>try (cases e;done)
   rename_i d hd
   split at e<;>cases e
   rename_i l hl
   obtain⟨vs,h1,h2⟩:=ih hl
   obtain⟨y,h3,h4⟩:=h.fx t f hf
   exact⟨y::vs, .tmp (aid h3) h1, .cons (acx h4 hd) h2⟩
  |cell t ty=>
   simp only[awo] at e
   split at e<;>try (cases e;done)
   rename_i nm hf
   split at e<;>try (cases e;done)
   rename_i i hi
   split at e<;>try (cases e;done)
   rename_i hb
   obtain⟨y,h3,h4⟩:=h.fx t _ hf
   obtain⟨b,m,rfl,h5,h6,h7⟩:=h.own h4 hb
   have oat:OAt ov b m _ _:=⟨h7⟩
   split at e<;>try (cases e;done)
   ·rename_i k ha
    split at e<;>try (cases e;done)
    rename_i c hc
    split at e<;>try (cases e;done)
    rename_i d hd
    split at e<;>cases e
    rename_i l hl
    obtain⟨vs,h1,h2⟩:=ih hl
    obtain⟨l',h8,h9⟩:=h6.takeX hc
    exact⟨.agg ⟨l'⟩::vs, .agg (aid h3) oat (akl (abK _ _ hi) ha) h8 h1, .cons (abU.2 ⟨l',rfl,ada h9 hd⟩) h2⟩
   ·rename_i ha
    split at e<;>try (cases e;done)
    rename_i c hc
    split at e<;>try (cases e;done)
    rename_i d hd
    split at e<;>cases e
    rename_i l hl
    obtain⟨vs,h1,h2⟩:=ih hl
    obtain⟨l',h8,h9⟩:=h6.get hc
    exact⟨l'::vs, .sc (aid h3) oat (ajh (abK _ _ hi) ha) h8 h1, .cons (acx h9 hd) h2⟩
def aCZ:Exit→Bool
 | .ret=>true
 | .normal=>true
 |_=>false
theorem rz{fb:Func}{e:Exit}{ds:List DV}{rv:DV}(hr:awo tt fr own fb.results.toList=some ds)(hd:afU ds=rv)(he:aCZ e=true:=by rfl):CfS prog GB C n (bodyPost prog fb (amy C (fun v G'=>Is G' rv v))) fr own (.ex e []):=by
 refine⟨fun ρ G ov a w r=>?_⟩
 obtain⟨vs,h1,h2⟩:=aoO r hr
 have hk:Is G rv (abT vs):=hd▸an0 h2
 cases e with
 |ret=>exact zD (C:=C) (n:=n) (fr:=frA a) (own:=ov) (G:=G) (K:=fun v G'=>Is G' rv v) h1 hk a w ⟨r.h,r.sz,aaN a,r.df⟩
 |normal=>exact apr (C:=C) (n:=n) (fr:=frA a) (own:=ov) (G:=G) (K:=fun v G'=>Is G' rv v) h1 hk a w ⟨r.h,r.sz,aaN a,r.df⟩
 |_=>cases he
end
end Go.Sx
end
section
namespace Go.Sx
open Go
section
variable {P:Program} {GB:Gh} {C:Ctx} {n:Nat} {E:Ext} {fr fr':FrF} {own own':List adz} {bs bs' bs1:List aek} {ops:Array Oper} {Q:Exit→Act→World→Prop} {r:List Oper} {Φ:Act→World→Prop}
variable {dst:Option Nat} {t t' ty':TypeId} {pos:String} {af:Array Edge} {gd:Option (Nat×Bool)} {x y z:Operand} {e s by_:Nat}
/-! integers and bools -/
/-! calls -/
/-! variables -/
/-! rows -/
class aGI (P:Program) (t:TypeId) (d:outParam DV):Prop where
 z: ∃z,TyZ P t z∧Is (fun _=>none) d z∧d.okc=true
abbrev SV.f (w:SV):FV:= .d (.v (.slice w.a w.n w.c))
theorem aiD(z:Value)(k:Nat):aah (List.replicate k z)=aa7 z k:=by unfold aah aa7;rw[List.map_replicate]
theorem agu{G:Gh}{d:DV}{y:Value}(h:Is G d y): ∀k:Nat,IsLs G (List.replicate k d) (List.replicate k y)
 |0=> .nil
 |k+1=> .cons h (agu h k)
def aGa(fr:FrF):Nat→List (Nat×Operand)→Option (List DV)
 |_,[]=>some []
 |j,(i,x)::r=>match opD fr x,aGa fr (j+1) r with
  |some d,some l=>bif Nat.beq i j then some (d::l) else none
  |_,_=>none
theorem arE(pre mid post vs:List Value)(h:vs.length=mid.length):ovw (pre++(mid++post)) pre.length vs=pre++(vs++post):=by
 rw[act _ _ _ (by simp;omega)]
 simp[h]
theorem arq(z:Value)(k:Nat):aa7 z (k+1)=aae z++aa7 z k:=by simp[aa7,iJ]
def axh(s:Nat)(ds:List DV):Bool:=ds.all fun d=>d.okc&&Nat.beq d.cells.length s
theorem ahK{ds:List DV}(h:axh s ds=true):ads s ds:=fun d hd=>by
 have:=fU.1 h d hd
 simp only[cJ] at this
 exact⟨this.1,aR this.2⟩
/-! what is appended -/
theorem amz{cs:List Value}{off s:Nat}: ∀(es:List Value),(∀i (h:i<es.length),aa1 cs (off+i*s) s=some (aae es[i]))→off≤cs.length→aa1 cs off (es.length*s)=some (aah es)
 |[],_,ho=>by
  rw[abM _ _ _ (by simpa using ho)];simp[aah]
 |v::t,h,ho=>by
  have h0:=h 0 (by simp)
  simp only[kV,dY,nM] at h0
  obtain⟨k1,k2⟩:=ahe h0
  have ih:=amz (off:=off+s) t (fun i hi=>by
   have:=h (i+1) (by simpa using hi)
   rw[iV,show off+(i*s+s)=off+s+i*s by omega] at this
   simpa using this) (by omega)
  obtain⟨k3,k4⟩:=ahe ih
  rw[abM _ _ _ (by simp only[bV,iV];omega)]
  congr 1
  have e1:aah (v::t)=aae v++aah t:=by simp[aah]
  rw[e1,k2,k4,bV,iV,jV (t.length*s) s,List.take_add,sX]
theorem aCI{ov:List Own}{G:Gh}{w:SV}{es:List Value}(h:afw G s w es):Src P C ov G s w.n (.slice w.a w.n w.c) (aah es):=by
 rcases h.mem with he|⟨b,off,cs,ha,hg,hc⟩
 ·subst he
  rw[h.len]
  exact aeH
 ·rw[ha]
  by_cases he:es=[]
  ·subst he;rw[h.len];exact aeH
  ·have hp:0<es.length:=lK.2 he
   have h0:=hc 0 hp
   have:=(ahe h0).1
   rw[h.len]
   exact ayu hg (amz es hc (by omega))
def aG2(fr:FrF)(bs:List aek)(s:Nat)(y:Operand)(ds:List DV):Prop:=
 (∃l,opD fr y=some (.sl l)∧l=ds∧ads s l)∨ ∃w ty lo,opF fr y=some w.f∧(⟨w,s,ty,ds,lo⟩:aek)∈bs∧ads s ds
theorem aj0[hT:acH P t e s by_][hN:TyN P t']{w:World}{ad2:Option Addr}{cap2:Nat}:(Builtin.append_ #[t,t'] ty' #[.slice none 0 0, .slice ad2 0 cap2]).run P w= .ok (.slice none 0 0) w:=by
 obtain⟨d,hd1⟩:=hN.un
 obtain⟨i,hi,his,hib⟩:=hT.info
 have h0:(Builtin.firstCells i.size 0 (.slice ad2 0 cap2)).run P w= .ok #[] w:=by
  cases ad2 with
  |none=>rfl
  |some a=>unfold Builtin.firstCells loadCells;simp[loadCellsFrom,aao]
 simp[Builtin.append_,run_underlying hT.un,run_underlying hd1,sizeOf,typeInfo,hi,Builtin.lenOf,h0]
theorem agP[hT:acH P t e s by_][hN:TyN P t']{fr:Fr}{own:List Own}{G:Gh}{ad2:Option Addr}{cap2:Nat}(hx:opv fr x=some (.slice none 0 0))(hy:opv fr y=some (.slice ad2 0 cap2))(hd:aaQ n dst=true)
  (h:St C n (put fr dst (.slice none 0 0)) own G Φ):Ch P C n fr own G ⟨dst, .call ⟨.builtin .append, #[x,y], #[t,t']⟩,ty',pos,af,gd⟩ Φ:=by
 intro a w Q rl
 refine abb (v:= .slice none 0 0) (w':=w) ?_ (h _ _ (rl.put _ hd))
 simp only[execOp,resolve,fR,bM,gW,aad rl.fr hx,aad rl.fr hy]
 exact aam aj0
/-! stores to elements -/
theorem aba.upd{G:Gh}{w:SV}{s:Nat}{ty:TypeId}{ds:List DV}{lo:Bool}{B:List Own}(h:aba G ⟨w,s,ty,ds,lo⟩ B){i:Nat}{d:DV}(hi:ds[i]? =some d):
  ∃b vs rest lo',w.a=some ⟨b,0,none⟩∧B=[⟨b,aah vs++rest,ty,lo'⟩]∧IsLs G ds vs∧(∀v∈vs,(aae v).length=s)∧i<vs.length∧
   ∀u d',Is G d' u→(aae u).length=s→aba G ⟨w,s,ty,ds.set i d',lo⟩ [⟨b,aah (vs.set i u)++rest,ty,lo'⟩]:=by
 obtain⟨vs,hB,hv,hs,hlo⟩:=h
 obtain⟨v,h1,h2⟩:=hv.get hi
 obtain⟨hi',_⟩:=aL.1 h1
 rcases hB with⟨e,_,_⟩|⟨b,rest,lo',h3,h4,h5,h6,h7⟩
 ·rw[e] at h1;simp at h1
 ·refine⟨b,vs,rest,lo',by simp only[] at h3;rw[h3],h4,hv,hs,hi',fun u d' hu hul=>?_⟩
  have hall: ∀x∈vs.set i u,(aae x).length=s:=fun x hx=>by
   rcases List.mem_or_eq_of_mem_set hx with h'|rfl
   ·exact hs x h'
   ·exact hul
  refine⟨vs.set i u, .inr ⟨b,rest,lo',by simpa using h3,rfl,aap _ hall,?_,by simpa using h7⟩,hv.set i hu,hall,fun hl o ho=>?_⟩
  ·rw[aap _ hall,aN,←h5];exact h6
  ·have:=hlo hl
   rw[h4] at this
   rw[aU.1 ho]
   have h9:=this ⟨b,aah vs++rest,ty,lo'⟩ aQ
   exact h9
theorem at2{s:Nat}{rest:List Value}{u:Value}(vs:List Value)(i:Nat)(h:i<vs.length)(hs: ∀v∈vs,(aae v).length=s)(hu:(aae u).length=s):ovw (aah vs++rest) (i*s) (aae u)=aah (vs.set i u)++rest:=by
 have hl:=aap vs hs
 have hle:i*s+s≤vs.length*s:=by rw[←iV];exact bT _ h
 rw[act _ _ _ (by rw[hu,aV];omega),hu,dW (by omega),iS (by omega),afV vs i hs (by omega),←iV,afF vs (i+1) hs h,
  List.set_eq_take_append_cons_drop,if_pos h,show vs.take i++u::vs.drop (i+1)=vs.take i++([u]++vs.drop (i+1)) from rfl,ab7,ab7,aiV]
 simp
/-! ### what is written no more; what is forgotten; spelled otherwise -/
def reF(ks:List Nat)(f:FV)(fr:FrF):FrF:=ks.map (fun k=>(k,f))++fr
end
end Go.Sx
end
section
namespace Go.Sx
open Go Go.Proofs Tryz
section
variable {GB:Gh} {C:Ctx} {n:Nat} {Q0:Exit→Act→World→Prop} {fr fr':FrX} {own own':OwX} {cf cf':Cf} {vc vc':List Prop} {ops:Array Oper} {r:List Oper} {o:Oper} {K:List Kt}
/-! ### a block that is written no more -/
def ari(row:Bool)(nm:Nat)(l:List DV):FX→FX
 | .rw m=>bif Nat.beq m nm then(bif row then .d (.sl l) else .no) else .rw m
 | .ov m off=>bif Nat.beq m nm then(bif row then .no else(match off with
  |0=> .d (.pt l)
  |_+1=> .no)) else .ov m off
 | .be m s i j=>bif Nat.beq m nm then .no else .be m s i j
 | .rs m s i j=>bif Nat.beq m nm then .no else .rs m s i j
 | .bx tp pre m post=>bif Nat.beq m nm then(bif row then(match tp with
  |true=> .d (.tp (pre++ .sl l::post))
  |false=> .d (.ag (pre++ .sl l::post))) else .no) else .bx tp pre m post
 |f=>f
def fcX{α:Type}(f:FX)(k:FX→α):α:=match f with
 | .d x=>k (.d x)
 | .rw m=>k (.rw m)
 | .ov a b=>k (.ov a b)
 | .be a b c d=>k (.be a b c d)
 | .rs a b c d=>k (.rs a b c d)
 |f=>k f
theorem aoX{α:Type}{f:FX}{k:FX→α}:fcX f k=k f:=by cases f<;>rfl
def aB5{α:Type}(row:Bool)(nm:Nat)(l:List DV):FrX→(FrX→α)→α
 |[],k=>k []
 |(j,f)::t,k=>aB5 row nm l t fun t'=>fcX (ari row nm l f) fun f'=>k ((j,f')::t')
def aDu{α:Type}(row:Bool)(nm:Nat)(l:List DV):List FX→(List FX→α)→α
 |[],k=>k []
 |f::t,k=>aDu row nm l t fun t'=>fcX (ari row nm l f) fun f'=>k (f'::t')
def aCa{α:Type}(row:Bool)(nm:Nat)(l:List DV):OwX→(OwX→α)→α
 |[],k=>k []
 |(j,B)::t,k=>aCa row nm l t fun t'=>bif Nat.beq j nm then k ((j,none)::t') else match B with
  |some (.o ty cs lo)=>aDu row nm l cs fun cs'=>k ((j,some (.o ty cs' lo))::t')
  |B=>k ((j,B)::t')
def amG(row:Bool)(nm:Nat)(l:List DV):Option Bk→Option Bk
 |some (.o ty cs lo)=>some (.o ty (cs.map (ari row nm l)) lo)
 |B=>B
theorem auF{α:Type}{row:Bool}{nm:Nat}{l:List DV}: ∀{cs:List FX} {k:List FX→α},aDu row nm l cs k=k (cs.map (ari row nm l))
 |[],k=>rfl
 |f::t,k=>by simp only[aDu,aoX];rw[auF];rfl
theorem aoD{α:Type}{row:Bool}{nm:Nat}{l:List DV}: ∀{fr:FrX} {k:FrX→α},aB5 row nm l fr k=k (fr.map fun e=>(e.1,ari row nm l e.2))
 |[],k=>rfl
 |(j,f)::t,k=>by simp only[aB5,aoX];rw[aoD];rfl
theorem aoI{α:Type}{row:Bool}{nm:Nat}{l:List DV}: ∀{own:OwX} {k:OwX→α},aCa row nm l own k=k (own.map fun e=>(e.1,bif Nat.beq e.1 nm then none else amG row nm l e.2))
 |[],k=>rfl
 |(j,B)::t,k=>by
  simp only[aCa,aoI (own:=t),bM]
  cases Nat.beq j nm with
  |true=>rfl
  |false=>
   cases B with
   |none=>rfl
   |some B=>cases B<;>simp only[cond_false,auF,amG]
theorem aln{g:FX→FX}: ∀{fr:FrX} {k:Nat},aay (fr.map fun e=>(e.1,g e.2)) k=(aay fr k).map g
 |[],k=>rfl
 |(j,f)::t,k=>by
  simp only[bM]
  rw[abd,abd,aln (fr:=t)]
  split<;>rfl
theorem ame{row:Bool}{nm:Nat}{l:List DV}: ∀{own:OwX} {k:Nat},aaB (own.map fun e=>(e.1,bif Nat.beq e.1 nm then none else amG row nm l e.2)) k=if k=nm then none else amG row nm l (aaB own k)
 |[],k=>by simp[aaB,amG]
 |(j,B)::t,k=>by
  simp only[bM]
  rw[aaK,aaK,ame (own:=t)]
  by_cases h:k=j
  ·subst h
   simp only[if_true]
   by_cases e:k=nm
   ·subst e;simp
   ·have:Nat.beq k nm=false:=by
     cases hb:Nat.beq k nm with
     |false=>rfl
     |true=>exact absurd (aR hb) e
    simp[this,e]
  ·simp[h]
structure FzR where
 fr:FrX
 own:OwX
def fzA(fr:FrX)(own:OwX)(nm:Nat):Option FzR:=match aaB own nm with
 |some (.b _ _ ds true)=>aB5 true nm ds fr fun fr'=>aCa true nm ds own fun own'=>some ⟨fr',own'⟩
 |some (.o _ cs true)=>match ael cs with
  |some l=>aB5 false nm l fr fun fr'=>aCa false nm l own fun own'=>some ⟨fr',own'⟩
  |none=>none
 |_=>none
theorem alI.of_mem{o:Own}: ∀{own:List Own},o∈own→ ∃own',alI own o own'∧ ∀x∈own,x.b≠o.b→x∈own'
 |[],h=>by cases h
 |x::t,h=>by
  rcases aW.1 h with rfl|h
  ·exact⟨t, .hd ..,fun y hy hb=>(aW.1 hy).elim (fun e=>absurd (by rw[e]) hb) id⟩
  ·obtain⟨own',h1,h2⟩:=alI.of_mem h
   exact⟨x::own', .tl _ _ _ _ h1,fun y hy hb=>(aW.1 hy).elim (fun e=>by rw[e];exact aQ) (fun e=>aX _ (h2 y e hb))⟩
theorem arU{row:Bool}{nm:Nat}{l:List DV}{ρ:NE}{G G':Gh}{f:FX}{y:Value}(hg:GLe G G')(h:IsX ρ G f y)(hr:row=true→ ∀y,IsX ρ G (.rw nm) y→Is G' (.sl l) y)(ho:row=false→ ∀y,IsX ρ G (.ov nm 0) y→Is G' (.pt l) y):IsX ρ G' (ari row nm l f) y:=by
 cases f with
 |rw m=>
  simp only[ari]
  cases hb:Nat.beq m nm with
  |false=>exact h.up hg
  |true=>
   cases aR hb
   cases row with
   |true=>exact hr rfl y h
   |false=>trivial
 |ov m off=>
  simp only[ari]
  cases hb:Nat.beq m nm with
  |false=>exact h.up hg
  |true=>
   cases aR hb
   cases row with
   |true=>trivial
   |false=>cases off with
    |zero=>exact ho rfl y h
    |succ=>trivial
 |be m s i j=>
  simp only[ari]
  cases hb:Nat.beq m nm with
  |false=>exact h.up hg
  |true=>trivial
 |rs m s i j=>
  simp only[ari]
  cases hb:Nat.beq m nm with
  |false=>exact h.up hg
  |true=>trivial
 |bx tp pre m post=>
  simp only[ari]
  cases hb:Nat.beq m nm with
  |false=>exact h.up hg
  |true=>
   cases aR hb
   cases row with
   |false=>trivial
   |true=>
    obtain⟨m1,m2,e,h1,h2⟩:=h
    have hl:=(h1.up hg).app (.cons (hr rfl _ rfl) (h2.up hg))
    cases tp with
    |true=>exact adM.2 ⟨_,e,hl⟩
    |false=>exact abU.2 ⟨_,e,hl⟩
 |_=>exact h.up hg
theorem at4{row:Bool}{nm:Nat}{l:List DV}{ρ:NE}{G G':Gh}(hg:GLe G G')(hr:row=true→ ∀y,IsX ρ G (.rw nm) y→Is G' (.sl l) y)(ho:row=false→ ∀y,IsX ρ G (.ov nm 0) y→Is G' (.pt l) y): ∀{cs:List FX} {m:List Value},adY ρ G cs m→adY ρ G' (cs.map (ari row nm l)) m
 |[],m,h=>h
 |f::t,m,⟨y,q,e,h1,h2⟩=>⟨y,q,e,arU hg h1 hr ho,at4 hg hr ho h2⟩
theorem RlX.frz{ρ:NE}{G G':Gh}{ov ov':List Own}{a:Act}{w:World}{row:Bool}{nm:Nat}{l:List DV}(h:RlX GB C n (aay fr) (aaB own) ρ G ov a w)(hg:GLe G G')(hh:ace C ov' G' w)(hv: ∀o∈ov,(ρ nm).a≠some ⟨o.b,0,none⟩→o∈ov'){B0:Bk}(hb:aaB own nm=some B0)
  (hr:row=true→ ∀y,IsX ρ G (.rw nm) y→Is G' (.sl l) y)(ho:row=false→ ∀y,IsX ρ G (.ov nm 0) y→Is G' (.pt l) y):
  RlX GB C n (aay (fr.map fun e=>(e.1,ari row nm l e.2))) (aaB (own.map fun e=>(e.1,bif Nat.beq e.1 nm then none else amG row nm l e.2))) ρ G' ov' a w:=by
 have inv: ∀m B,aaB (own.map fun e=>(e.1,bif Nat.beq e.1 nm then none else amG row nm l e.2)) m=some B→m≠nm∧ ∃B1,aaB own m=some B1∧amG row nm l (some B1)=some B:=fun m B e=>by
  rw[ame] at e
  split at e
  ·cases e
  ·rename_i hm
   refine⟨hm,?_⟩
   cases hl:aaB own m with
   |none=>rw[hl] at e;cases e
   |some B1=>rw[hl] at e;exact⟨B1,rfl,e⟩
 refine⟨h.gb.trans hg,hh,h.sz,h.df,fun k f e=>?_,fun m B e=>?_,fun m m' B B' e e'=>?_⟩
 ·rw[aln] at e
  cases hf:aay fr k with
  |none=>rw[hf] at e;cases e
  |some g=>
   rw[hf] at e;cases e
   obtain⟨y,h1,h2⟩:=h.fx k g hf
   exact⟨y,h1,arU hg h2 hr ho⟩
 ·obtain⟨hm,B1,h1,h2⟩:=inv m B e
  obtain⟨os,h3,h4⟩:=h.bx m B1 h1
  refine⟨os,?_,fun o ho'=>hv o (h4 o ho') fun hc=>h.dj m nm B1 B0 h1 hb hm _ (h3.blk ho') hc⟩
  cases B1 with
  |b=>cases h2;exact h3.up hg
  |c=>cases h2;exact h3.up hg
  |o ty cs lo=>cases h2;obtain⟨b,q,h5,h6,h7⟩:=h3;exact⟨b,q,h5,h6,at4 hg hr ho h7⟩
 ·obtain⟨_,B1,h1,_⟩:=inv m B e
  obtain⟨_,B2,h2,_⟩:=inv m' B' e'
  exact h.dj m m' B1 B2 h1 h2
theorem RlX.frzRow{lk:LK}{bk:BM}{ρ:NE}{G:Gh}{ov:List Own}{a:Act}{w:World}{nm:Nat}{ty:TypeId}{s:Nat}{ds:List DV}(r:RlX GB C n lk bk ρ G ov a w)(hb:bk nm=some (.b ty s ds true)):
  ∃G' ov',GLe G G'∧ace C ov' G' w∧(∀o∈ov,(ρ nm).a≠some ⟨o.b,0,none⟩→o∈ov')∧ ∀y,IsX ρ G (.rw nm) y→Is G' (.sl ds) y:=by
 obtain⟨B,⟨vs,hB,hv,hs,hlo⟩,hBo⟩:=r.row (y:= .nilFunc) hb
 rcases hB with⟨e1,e2,e3⟩|⟨b,rest,lo',e2,e3,h5,h6,h7⟩
 ·subst e1
  have ed:ds=[]:=bS (by rw[←hv.len];rfl)
  subst ed
  simp only at e2
  refine⟨G,ov,GLe.refl _,r.h,fun o ho _=>ho,fun y hy=>?_⟩
  rw[show y=_ from hy,e2]
  exact adu.2 ⟨0,⟨none,0,0⟩,[],rfl, .nil G 0, .nil⟩
 ·subst e3
  have hl:=hlo rfl _ aQ
  simp only at hl;subst hl
  obtain⟨ov',o1,o2⟩:=alI.of_mem (hBo _ aQ)
  obtain⟨f1,f2⟩:=r.h.freeze o1
  simp only at e2
  refine⟨_,ov',f2,f1,fun o ho hne=>o2 o ho fun e=>hne (by rw[e2,e]),fun y hy=>?_⟩
  rw[show y=_ from hy,e2]
  exact adu.2 ⟨s,⟨some ⟨b,0,none⟩,vs.length,_⟩,vs,rfl,afw.of_flat hs (if_pos rfl) h7,hv.up f2⟩
theorem RlX.frzVar{lk:LK}{bk:BM}{ρ:NE}{G:Gh}{ov:List Own}{a:Act}{w:World}{nm:Nat}{ty:TypeId}{cs:List FX}{l:List DV}(r:RlX GB C n lk bk ρ G ov a w)(hb:bk nm=some (.o ty cs true))(hl:ael cs=some l):
  ∃G' ov',GLe G G'∧ace C ov' G' w∧(∀o∈ov,(ρ nm).a≠some ⟨o.b,0,none⟩→o∈ov')∧ ∀y,IsX ρ G (.ov nm 0) y→Is G' (.pt l) y:=by
 obtain⟨os,⟨b,m,h3,rfl,h4⟩,h5⟩:=r.bx _ _ hb
 obtain⟨ov',o1,o2⟩:=alI.of_mem (h5 _ aQ)
 obtain⟨f1,f2⟩:=r.h.freeze o1
 refine⟨_,ov',f2,f1,fun o ho hne=>o2 o ho fun e=>hne (by rw[h3,e]),fun y hy=>?_⟩
 obtain⟨b',h6,rfl⟩:=hy
 rw[h3] at h6;cases h6
 exact akb.2 ⟨b,m,rfl,if_pos rfl,(ada h4 hl).up f2⟩
theorem asM{nm:Nat}{Φ:Act→World→Prop}{R:FzR}(h:fzA fr own nm=some R)(hk:SX GB C n (aay R.fr) (aaB R.own) Φ):SX GB C n (aay fr) (aaB own) Φ:=by
 refine⟨fun ρ G ov a w r=>?_⟩
 unfold fzA at h
 split at h<;>try (cases h;done)
 ·rename_i ty s ds hb
  rw[aoD,aoI] at h;cases h
  obtain⟨G',ov',h1,h2,h3,h4⟩:=r.frzRow hb
  exact hk.run ρ G' ov' a w (r.frz (row:=true) h1 h2 h3 hb (fun _=>h4) (fun e=>by cases e))
 ·rename_i ty cs hb
  split at h<;>try (cases h;done)
  rename_i l hl
  rw[aoD,aoI] at h;cases h
  obtain⟨G',ov',h1,h2,h3,h4⟩:=r.frzVar hb hl
  exact hk.run ρ G' ov' a w (r.frz (row:=false) h1 h2 h3 hb (fun e=>by cases e) (fun _=>h4))
theorem fz[fu:Fu](nm:Nat){fr1:FrX}{own1:OwX}(h:fzA fr own nm=some ⟨fr1,own1⟩)(hgo:go tt n fu.n [] fr1 own1 (.ops ops r K)=⟨vc,fr',own',cf'⟩)(k:CfS prog GB C n Q0 fr' own' cf')(hv:aag vc:=by first|exact trivial|(simp only[aag];kernel_rfl)|(simp only[aag];omega)|(simp only[aag,aJ,aN,aY];omega)):CfS prog GB C n Q0 fr own (.ops ops r K):=
 asM h (gx' hgo hv k)
theorem fzE(nm:Nat){fr1:FrX}{own1:OwX}{e:Exit}(h:fzA fr own nm=some ⟨fr1,own1⟩)(k:CfS prog GB C n Q0 fr1 own1 (.ex e K)):CfS prog GB C n Q0 fr own (.ex e K):=asM h k
theorem fzC(nm:Nat){fr1:FrX}{own1:OwX}{c:Code}(h:fzA fr own nm=some ⟨fr1,own1⟩)(k:CfS prog GB C n Q0 fr1 own1 (.code c K)):CfS prog GB C n Q0 fr own (.code c K):=asM h k
/-! ### loops, ways that meet -/
def leF:FrX→FrX→Prop
 |[],_=>True
 |(k,v)::t,fr=>aay fr k=some v∧leF t fr
def leO:OwX→OwX→Prop
 |[],_=>True
 |(k,v)::t,own=>aaB own k=v∧leO t own
theorem arD: ∀{f:FrX},leF f fr→ak8 (aay f) (aay fr)
 |[],_,k,x,h=>by cases h
 |(j,v)::t,h,k,x,e=>by
  rw[abd] at e
  split at e
  ·cases e;rename_i hk;rw[hk];exact h.1
  ·exact arD h.2 k x e
theorem asu: ∀{f:OwX},leO f own→ak8 (aaB f) (aaB own)
 |[],_,k,x,h=>by cases h
 |(j,v)::t,h,k,x,e=>by
  rw[aaK] at e
  split at e
  ·rename_i hk;rw[hk,h.1,e]
  ·exact asu h.2 k x e
theorem leI{k:Nat}{q:IntKind}{a b:Int}(h:aay fr k=some (.d (.v (.int q a))))(e:a=b):aay fr k=some (.d (.v (.int q b))):=e▸h
def AtX(GB:Gh)(C:Ctx)(n:Nat){X:Type}(F:X→FrX)(O:X→OwX)(I:X→Prop)(a:Act)(w:World):Prop:=
 ∃x ρ G ov,I x∧RlX GB C n (aay (F x)) (aaB (O x)) ρ G ov a w
def aAd:List Oper→List Nat→List Nat
 |[],l=>l
 |o::r,l=>match o.dst with
  |some d=>d::aAd r l
  |none=>aAd r l
def ayC:Code→List Nat→List Nat
 | .region _ ops _,l=>aAd ops.toList l
 | .seq a b,l=>ayC a (ayC b l)
 | .cond _ a b,l=>ayC a (ayC b l)
 | .block _ a,l=>ayC a l
 | .loop a,l=>ayC a l
 | .scope a,l=>ayC a l
 |_,l=>l
def ayK{α:Type}:List Nat→FrX→(FrX→α)→α
 |_,[],k=>k []
 |l,(j,f)::t,k=>bif ax2 l j then ayK l t k else ayK (j::l) t fun t'=>k ((j,f)::t')
def aw8{α:Type}:List Nat→OwX→(OwX→α)→α
 |_,[],k=>k []
 |l,(j,B)::t,k=>bif ax2 l j then aw8 l t k else match B with
  |some B=>aw8 l t fun t'=>k ((j,some B)::t')
  |none=>aw8 l t k
structure Kp where
 fr:FrX
 own:OwX
def keep(c:Code)(uf uo:List Nat)(fr:FrX)(own:OwX):Kp:=fcL (ayC c uo) fun m=>fcL (uf++m) fun m'=>ayK m' fr fun fr'=>aw8 m own fun own'=>⟨fr',own'⟩
theorem lp[fu:Fu]{c:Code}{X:Type}(U:X→FrX)(V:X→OwX)(I:X→Prop)(μ:X→Nat)(x0:X){kf:FrX}{ko:OwX}{cf':X→Cf}{fr':X→FrX}{own':X→OwX}{vc:X→List Prop}(hkp:keep c ((U x0).map (·.1)) ((V x0).map (·.1)) fr own=⟨kf,ko⟩)(hI:I x0)
  (hgo: ∀x,go tt n fu.n [] (U x++kf) (V x++ko) (.code c (.ag (AtX GB C n (fun y=>U y++kf) (fun y=>V y++ko) (fun y=>I y∧μ y<μ x))::K))=⟨vc x,fr' x,own' x,cf' x⟩)
  (round: ∀x,I x→CfS prog GB C n Q0 (fr' x) (own' x) (cf' x))(hF:leF (U x0++kf) fr:=by repeat (first|exact trivial|refine And.intro rfl ?_|refine And.intro (leI rfl (by first|omega|(dsimp only;omega))) ?_|refine And.intro (leI rfl (by simp)) ?_))(hO:leO (V x0++ko) own:=by repeat (first|exact trivial|refine And.intro rfl ?_))
  (hv: ∀x,I x→aag (vc x):=by intros;first|exact trivial|(simp only[aag];kernel_rfl)|(simp only[aag];omega)|(simp only[aag,aJ,aN,aY];omega)):CfS prog GB C n Q0 fr own (.code (.loop c) K):=by
 refine⟨fun ρ G ov a w r=>?_⟩
 have r0:=r.mono (arD hF) (asu hO)
 intro b k cs
 have key: ∀m a w,(∃x ρ G ov,I x∧μ x=m∧RlX GB C n (aay (U x++kf)) (aaB (V x++ko)) ρ G ov a w)→
   ∃e a' w',cQ prog Q0 K e a' w'∧Arrives prog (lone (b.at a (.code c:: .inLoop c::k)) cs w) b k cs e a' w':=by
  intro m
  induction m using Nat.strongRecOn with
  |_ m ih=>
   intro a w ⟨x,ρ,G,ov,hx,hm,hr⟩
   have h1:=gx' (GB:=GB) (C:=C) (Q0:=Q0) (hgo x) (hv x hx) (round x hx)
   obtain⟨e,a₁,w₁,hq,harr⟩:=h1.run ρ G ov a w hr b (.inLoop c::k) cs
   cases e with
   |normal=>
    obtain⟨x',ρ',G',ov',⟨hx',hlt⟩,hr'⟩:=hq
    obtain⟨e₂,a₂,w₂,hq₂,harr₂⟩:=ih (μ x') (hm▸hlt) a₁ w₁ ⟨x',ρ',G',ov',hx',rfl,hr'⟩
    exact⟨e₂,a₂,w₂,hq₂, .of_steps (Steps.trans harr (.one step_inLoop)) harr₂⟩
   |exit id=>exact⟨_,a₁,w₁,hq, .pass (x:= .inLoop c) rfl (fun _ _=> .inl (by simp)) harr⟩
   |goto l=>exact⟨_,a₁,w₁,hq, .pass (x:= .inLoop c) rfl (fun _ _=> .inl (by simp)) harr⟩
   |ret=>exact⟨_,a₁,w₁,hq, .pass (x:= .inLoop c) rfl (fun _ _=> .inl (by simp)) harr⟩
   |panic ch=>exact⟨_,a₁,w₁,hq, .pass (x:= .inLoop c) rfl (fun _ _=> .inl (by simp)) harr⟩
   |outgrown=>exact⟨_,a₁,w₁,hq, .pass (x:= .inLoop c) rfl (fun _ _=> .inl (by simp)) harr⟩
 obtain⟨e,a',w',q,rr⟩:=key (μ x0) a w ⟨x0,ρ,G,ov,hI,rfl,r0⟩
 exact⟨e,a',w',q, .of_steps (.one step_loop) rr⟩
theorem at_{X:Type}{F:X→FrX}{O:X→OwX}{I:X→Prop}(x:X)(hI:I x)(hF:leF (F x) fr:=by repeat (first|exact trivial|refine And.intro rfl ?_|refine And.intro (leI rfl (by first|omega|(dsimp only;omega))) ?_|refine And.intro (leI rfl (by simp)) ?_))(hO:leO (O x) own:=by repeat (first|exact trivial|refine And.intro rfl ?_)):CfS prog GB C n Q0 fr own (.ex .normal (.ag (AtX GB C n F O I)::K)):=
 ⟨fun ρ G ov a w r=>⟨x,ρ,G,ov,hI,r.mono (arD hF) (asu hO)⟩⟩
theorem mg[fu:Fu]{c d:Code}{X:Type}(U:X→FrX)(V:X→OwX)(I:X→Prop){kf:FrX}{ko:OwX}{cf':X→Cf}{fr':X→FrX}{own':X→OwX}{vc:X→List Prop}(u0 v0:List Nat)(hkp:keep c u0 v0 fr own=⟨kf,ko⟩)
  (h1:CfS prog GB C n Q0 fr own (.code c (.ag (AtX GB C n (fun y=>U y++kf) (fun y=>V y++ko) I)::K)))
  (hgo: ∀x,go tt n fu.n [] (U x++kf) (V x++ko) (.code d K)=⟨vc x,fr' x,own' x,cf' x⟩)(k: ∀x,I x→CfS prog GB C n Q0 (fr' x) (own' x) (cf' x))(hv: ∀x,I x→aag (vc x):=by intros;first|exact trivial|(simp only[aag];kernel_rfl)|(simp only[aag];omega)|(simp only[aag,aJ,aN,aY];omega)):CfS prog GB C n Q0 fr own (.code c (.sq d::K)):=by
 refine SX.imp h1 fun a w h=>wp_mono h ?_
 intro e a w h
 cases e with
 |normal=>
  obtain⟨x,ρ,G,ov,hI,hr⟩:=h
  have:=gx' (GB:=GB) (C:=C) (Q0:=Q0) (hgo x) (hv x hI) (k x hI)
  exact this.run ρ G ov a w hr
 |_=>exact h
end
end Go.Sx
end
section
namespace Go.Sx
open Go
section
variable {P:Program} {ops:Array Oper} {Q:Exit→Act→World→Prop} {S:World→Prop} {π₂:List (Nat×Bool)}
abbrev aG6:Nat→Bool:=fun _=>false
def grS(S:World→Prop)(K:(World→Prop)→Act→World→Prop)(a:Act)(w:World):Prop:= ∃S':World→Prop,(∀w,S' w→S w)∧S' w∧K S' a w
def dwT(P:Program)(ops:Array Oper)(Q:Exit→Act→World→Prop)(K:(World→Prop)→Act→World→Prop):List Nat→List (Nat×Bool)→(World→Prop)→Act→World→Prop
 |[],[],S,a,w=>K S a w
 |k::ks,[],S,a,w=> ∀j,(h:j∈k::ks)→wpOp P ops Q j (grS S (dwT P ops Q K (without (k::ks) j) [])) a w
 |ks,(i,true)::r,S,a,w=> ∃o v,ops[i]? =some o∧S w∧YieldsIf P ops S o v a∧dwT P ops Q K ks r S (a.put o.dst v) w
 |ks,(i,false)::r,S,a,w=>wpOp P ops Q i (grS S (dwT P ops Q K ks r)) a w∧
   ∀j,(h:j∈ks)→wpOp P ops Q j (grS S (dwT P ops Q K (without ks j) ((i,false)::r))) a w
termination_by ks π=>ks.length+π.length
decreasing_by
 all_goals (first|(have:=ahq h;simp only[bV,dV] at*;omega)|(simp only[bV];omega))
def aGJ(Q:Exit→Act→World→Prop):(World→Prop)→Act→World→Prop:=fun _ a w=>Q .normal a w
end
section
variable {P:Program} {GB:Gh} {C:Ctx} {n:Nat} {fr fr':FrF} {own own' own0 own1 own1':List adz} {bs bs0 bs1 bs1':List aek} {ops:Array Oper} {Q:Exit→Act→World→Prop} {fd:List FD} {π π₂:List (Nat×Bool)}
structure SR (GB:Gh) (C:Ctx) (n:Nat) (fr:FrF) (own0:List adz) (bs0:List aek) (own1:List adz) (bs1:List aek) (fd:List FD) (K:List Nat→(World→Prop)→Act→World→Prop):Prop where
 run: ∀G frv o0 o1,GLe GB G→aDI G fr frv→OB G own0 bs0 o0→OB G own1 bs1 o1→ ∀fs:Fs,St C n (frv++fFs fd fs) (o1++(o0++fOs fd fs)) G (K (aEC fd fs) (HS C o0 G))
instance {GB:Gh} {C:Ctx} {n:Nat} {fr:FrF} {own0:List adz} {bs0:List aek} {own1:List adz} {bs1:List aek} {fd:List FD} {K:List Nat→(World→Prop)→Act→World→Prop}:CoeFun (SR GB C n fr own0 bs0 own1 bs1 fd K) (fun _=> ∀G frv o0 o1,GLe GB G→aDI G fr frv→OB G own0 bs0 o0→OB G own1 bs1 o1→ ∀fs:Fs,St C n (frv++fFs fd fs) (o1++(o0++fOs fd fs)) G (K (aEC fd fs) (HS C o0 G))):=⟨SR.run⟩
abbrev dwK (P:Program) (ops:Array Oper) (Q:Exit→Act→World→Prop) (K:(World→Prop)→Act→World→Prop) (π:List (Nat×Bool)):List Nat→(World→Prop)→Act→World→Prop:=fun ks S=>dwT P ops (acy Q) K ks π S
def frB:List FD→List Nat→FrF
 |f::fd,b::bl=>(f.d, .d (.v (.pointer (some ⟨b,0,none⟩))))::frB fd bl
 |_,_=>[]
def owB:List FD→List (List DV)→List Nat→List adz
 |f::fd,c::cl,b::bl=>⟨b,c,f.t,true⟩::owB fd cl bl
 |_,_,_=>[]
def aGc:List FD→List (List DV)→Prop
 |f::fd,c::cl=>IsLs (fun _=>none) c (aae f.z)∧aGc fd cl
 |[],[]=>True
 |_,_=>False
end
/-! ### a choice of the blocks -/
def aFY{α:Type}(idx:List Nat)(l:List α):List α:=idx.filterMap (l[·]?)
section
variable {P:Program} {GB:Gh} {C:Ctx} {n:Nat} {E:Ext} {fr fr':FrF} {own own':List adz} {bs bs' bs1:List aek} {ops:Array Oper} {Q:Exit→Act→World→Prop} {r:List Oper} {Φ:Act→World→Prop}
variable {dst:Option Nat} {t t' ty':TypeId} {pos:String} {af:Array Edge} {gd:Option (Nat×Bool)} {x y z:Operand} {e s by_:Nat}
def PB(GB:Gh)(P:Program)(f:FuncId)(mk:SV→List DV)(s:Nat)(ty:TypeId)(dsi:List DV)(mkr:SV→DV)(dso:List DV):Prop:=
 ∀G w vs B,GLe GB G→aba G ⟨w,s,ty,dsi,false⟩ B→IsLs G (mk w) vs→FnO P f vs B G (fun v own' G'=> ∃w',Is G' (mkr w') v∧aba G' ⟨w',s,ty,dso,false⟩ own')
def aGt(fr:FrF):List Operand→Option (List DV)
 |[]=>some []
 |x::t=>match opF fr x,aGt fr t with
  |some (.d d),some l=>some (d::l)
  |_,_=>none
theorem aba.asB{G:Gh}{w:SV}{ty:TypeId}{ds:List DV}{lo:Bool}{B:List Own}(h:aba G ⟨w,s,ty,ds,lo⟩ B):aba G ⟨w,s,ty,ds,false⟩ (Sx.asB B):=by
 obtain⟨vs,h1,h2,h3,h4⟩:=h
 exact⟨vs,h1.asB,h2,h3,fun h=>by cases h⟩
theorem aba.weak{G:Gh}{w:SV}{ty:TypeId}{ds:List DV}{lo:Bool}{B:List Own}(h:aba G ⟨w,s,ty,ds,lo⟩ B):aba G ⟨w,s,ty,ds,false⟩ B:=by
 obtain⟨vs,h1,h2,h3,h4⟩:=h
 exact⟨vs,h1,h2,h3,fun h=>by cases h⟩
inductive RVX (fr:FrF):List ResultVar→List DV→Prop
 |nil:RVX fr [] []
 |tmp {t:Nat} {v:DV} {rs:List ResultVar} {vs:List DV} (h:aoi fr t=some (.d v)) (k:RVX fr rs vs):RVX fr (.tmp t::rs) (v::vs)
end
section
variable {P:Program} {GB:Gh} {C:Ctx} {n:Nat} {E:Ext} {fr fr':FrF} {own own':List adz} {bs bs' bs1:List aek} {ops:Array Oper} {Q:Exit→Act→World→Prop} {r:List Oper} {Φ:Act→World→Prop}
variable {dst:Option Nat} {t t' ty':TypeId} {pos:String} {af:Array Edge} {gd:Option (Nat×Bool)} {x y z:Operand} {e s by_:Nat}
/-! ### families of results -/
def PX(GB:Gh)(P:Program)(f:FuncId)(ds:List DV)(ι:Type)(r:ι→DV):Prop:=
 ∀G vs,GLe GB G→IsLs G ds vs→Fn P f vs G (fun v G'=> ∃x,Is G' (r x) v)
def PMX(GB:Gh)(P:Program)(f:FuncId)(ds:List DV)(b:Nat)(ty:TypeId)(cs:List DV)(ι:Type)(r:ι→DV)(cs':ι→List DV):Prop:=
 ∀G vs m lo,GLe GB G→IsLs G ds vs→IsLs G cs m→FnM P f vs [⟨b,m,ty,lo⟩] G (fun v css G'=> ∃x,Is G' (r x) v∧ ∃m',css=[m']∧IsLs G' (cs' x) m')
def PN(GB:Gh)(P:Program)(f:FuncId)(ds:List DV)(ty:TypeId)(ι:Type)(cs:ι→List DV):Prop:=
 ∀G vs,GLe GB G→IsLs G ds vs→FnO P f vs [] G (fun v own' G'=> ∃x b m,v= .pointer (some ⟨b,0,none⟩)∧own'=[⟨b,m,ty,true⟩]∧IsLs G' (cs x) m)
inductive OSp:List adz→Nat→List DV→TypeId→Bool→List adz→List adz→Prop
 |hd (b:Nat) (cs:List DV) (ty:TypeId) (lo:Bool) (t:List adz):OSp (⟨b,cs,ty,lo⟩::t) b cs ty lo [] t
 |tl (o:adz) (t:List adz) (b:Nat) (cs:List DV) (ty:TypeId) (lo:Bool) (L R:List adz) (h:OSp t b cs ty lo L R):OSp (o::t) b cs ty lo (o::L) R
end
section
variable {P:Program} {GB:Gh} {C:Ctx} {n:Nat} {fr:FrF} {own:List adz} {bs:List aek}
/-! ### a borrowed variable, and a row handed back -/
def PMR(GB:Gh)(P:Program)(f:FuncId)(ds:List DV)(b:Nat)(ty:TypeId)(cs:List DV)(s:Nat)(ty2:TypeId)(ι:Type)(rows:ι→List DV)(cs':ι→List DV):Prop:=
 ∀G vs m lo,GLe GB G→IsLs G ds vs→IsLs G cs m→FnO P f vs [⟨b,m,ty,lo⟩] G (fun v own' G'=> ∃x w m' B,v= .slice w.a w.n w.c∧own'=⟨b,m',ty,false⟩::B∧IsLs G' (cs' x) m'∧aba G' ⟨w,s,ty2,rows x,true⟩ B∧ ∀o∈B,b≠o.b)
variable {dst:Option Nat} {t t' ty':TypeId} {pos:String} {af:Array Edge} {gd:Option (Nat×Bool)} {x y z:Operand}
theorem ati{fr:Fr}{own:List Own}{G:Gh}{fn:Func}{K:Value→List Own→Gh→Prop}{vs:List Value}(hr:RVs P fr own fn.results.toList vs)(own2 own3:List Own)(hp:own.Perm own2)(hs:own3.Sublist own2)(hk:own3.Pairwise (fun x y=>x.b≠y.b)→K (abT vs) own3 G):St C n fr own G (bodyPost P fn (agc C K) .ret):=
 fun a w rl=>⟨rl.df,_,acX hr rl.fr rl.h,_,own3,G,rfl,(rl.h.perm hp).drop hs,hk ((rl.h.perm hp).drop hs).nd⟩
variable {e s by_:Nat}
theorem atr{G:Gh}{l:List DV}{w:SV}{es:List Value}{s' nhi mx':Nat}(hsl:afw G s' w es)(hl:IsLs G l es)(ho:ads s l)(h2:nhi≤l.length)(hm1:nhi≤mx')(hm2:mx'≤w.c):Is G (.sl (l.take nhi)) (.slice w.a nhi mx'):=by
 have hn:=hsl.len
 have hcap:=hsl.cap
 have hll:=hl.len
 have e9: ∀s,aoB w.a w.n w.c 0 nhi mx' s= .slice w.a nhi mx':=by
  intro s
  unfold aoB
  cases w.a with
  |none=>simp
  |some ad=>simp[Addr.add]
 rcases afr hsl hl ho with he|he
 ·subst he
  have:l=[]:=bS (by rw[←hll];rfl)
  subst this
  have e1:nhi=0:=by simp at h2;exact h2
  subst e1
  refine adu.2 ⟨s,⟨_,0,mx'⟩,[],rfl,⟨rfl,bZ _, .inl rfl⟩,by simpa using IsLs.nil⟩
 ·subst he
  have k:=hsl.sub 0 nhi mx' (bZ _) (by omega) hm1 hm2
  have k2:=adu.2 ⟨s',⟨_,_,_⟩,_,rfl,k,(hl.take nhi).drop 0⟩
  rw[iX] at k2
  have e:=e9 s'
  unfold aoB at e
  revert k2
  simp only[] at*
  intro k2
  first|exact e▸k2|(simp at e k2⊢;first|exact k2|(cases hw:w.a<;>simp_all [Addr.add]))
end
end Go.Sx
end
section
namespace Go.Sx
open Go Go.Proofs
section
variable {P:Program} {T:TT} {GB:Gh} {C:Ctx} {n:Nat} {lk:LK} {bk:BM} {ρ:NE} {G:Gh} {ov:List Own} {a:Act} {w:World}
variable {dst:Option Nat} {t t' ty':TypeId} {pos:String} {af:Array Edge} {gd:Option (Nat×Bool)} {x y:Operand} {e s by_:Nat}
/-! ### what the operations do -/
theorem aDi[hT:acH P t e s by_]{k:IntKind}{l:List DV}{d:DV}{i:Int}(hx:evD lk x=some (.sl l))(hy:evX lk y=some (.d (.v (.int k i))))(h0:0≤i)(he:l[i.toNat]? =some d)(hd:(d.okc&&Nat.beq d.cells.length s)=true):
  OpR P GB C n lk bk ⟨dst, .indexAddr t x y,ty',pos,af,gd⟩ (.ep d.cells) [] []:= .yd fun ρ G ov a w r=>by
 simp only[cJ] at hd
 obtain⟨hd,hs⟩:=hd
 obtain⟨u,h1,h2⟩:=r.evD hx
 obtain⟨q,g1,g2⟩:=r.ev hy
 rw[aax] at g2;subst g2
 obtain⟨s',z,es,rfl,hsl,hl⟩:=adu.1 h2
 obtain⟨v,h3,h4⟩:=hl.get he
 obtain⟨h5,h6⟩:=aL.1 h3
 have hc:=(h4.cells hd).1.len
 replace hs:=aR hs
 rcases hsl.mem with h|⟨b,off,cs,ha,hg,hcs⟩
 ·rw[h] at h5;simp at h5
 ·have h7:=hcs i.toNat h5
  rw[h6] at h7
  have h8:=agU h7
  have:s'=s:=by omega
  subst this
  rw[ha] at h1
  have hn:=hsl.len
  refine⟨.pointer (some ⟨b,off+i.toNat*s',none⟩),⟨b,_,cs,aae v,rfl,hg,?_,(h4.cells hd).1⟩,ag7 h1 g1 h0 (by omega)⟩
  rw[←hc,h8]
  exact h7
def ldE(ag:Option Nat)(cs:List DV)(j:Nat):Option DV:=match ag with
 |some k=>match takeD cs j k with
  |some l=>some (.ag l)
  |none=>none
 |none=>cs[j]?
theorem aCd{i:TI}{ag:Option Nat}{nm sz k j:Nat}{ty:TypeId}{ds:List DV}{lo:Bool}{d c:DV}(hi:afl P t=some i)(ha:i.ag=some ag)(hx:evX lk x=some (.be nm sz k j))(hb:bk nm=some (.b ty sz ds lo))(he:ds[k]? =some d)(hd:d.okc=true)(hl:ldE ag d.cells j=some c):
  OpR P GB C n lk bk ⟨dst, .load t x,ty',pos,af,gd⟩ (.d c) [] []:= .x1 hx fun ρ G ov a w y _ r h1 h2=>by
 obtain⟨b,hwb,rfl⟩:=h2
 obtain⟨B,hB,hmem⟩:=r.row (y:= .nilFunc) hb
 obtain⟨b',m,rest,lo',l0,e1,rfl,h3,h4⟩:=hB.elem he hd
 simp only[] at e1 h3
 rw[hwb] at e1;cases e1
 have oat:OAt ov b (m++rest) ty lo':=⟨hmem _ aQ⟩
 cases ag with
 |some k'=>
  have:=akl hi ha
  simp only[ldE] at hl
  split at hl<;>cases hl
  rename_i hl
  obtain⟨l',h5,h6⟩:=h4.takeD hl
  exact⟨.agg ⟨l'⟩,abU.2 ⟨l',rfl,h6⟩,aeG h1 (anU h3 h5)⟩
 |none=>
  have:=ajh hi ha
  simp only[ldE] at hl
  obtain⟨l',h5,h6⟩:=h4.get hl
  have hj:j<sz:=by
   have:=agU h3
   have h7:=(aL.1 h5).1
   omega
  exact⟨l',h6,aaF h1 (by rw[ahN h3 hj];exact h5)⟩
theorem aba.toBk{nm:Nat}{s:Nat}{ty:TypeId}{ds:List DV}{lo:Bool}{B:List Own}{x:SV}(h:aba G ⟨x,s,ty,ds,lo⟩ B)(e:ρ nm=x):amt ρ G nm (.b ty s ds lo) B:=by
 obtain⟨vs,h1,h2,h3,h4⟩:=h
 exact⟨vs,by rw[e];exact h1,h2,h3,h4⟩
theorem RlX.newRow(r:RlX GB C n lk bk ρ G ov a w){d:Nat}{z:SV}{ty:TypeId}{s:Nat}{ds:List DV}{B ov':List Own}{K:Act→World→Prop}{a':Act}{w':World}(hf:acM [d] (some d) lk bk)(hB:aba G ⟨z,s,ty,ds,true⟩ B)(hos: ∀o∈B,o∈ov')
  (hov: ∀m B',m≠d→bk m=some B'→ ∀o∈ov,(ρ m).a=some ⟨o.b,0,none⟩→o∈ov'∧z.a≠some ⟨o.b,0,none⟩)
  (hk:SX GB C n (upL lk (some d) (.rw d)) (Sx.upB bk [(d,some (.b ty s ds true))]) K)(rl:Rel C n (Sx.put (frA a) (some d) (.slice z.a z.n z.c)) ov' G a' w'):K a' w':=
 hk.run _ _ _ a' w' (r.new' (x:=z) (f:= .rw d) (y:= .slice z.a z.n z.c) hf (GLe.refl _) rl.h (hB.toBk (by simp)) hos hov (by show _=_;simp) (abj rl))
def zeE(i:TI):Option DV:=match i.z with
 |some z=>match ael z with
  |some zs=>bif i.za then(bif zs.all DV.flat then some (.ag zs) else none) else(match zs with
   |[d]=>bif d.flat then some d else none
   |_=>none)
  |none=>none
 |none=>none
theorem aoG{d:DV}(h:d.flat=true):d.cells=[d]∧d.okc=true:=by
 cases d<;>first|exact⟨rfl,h⟩|cases h
theorem ajs{i:TI}{d:DV}(hi:afl P e=some i)(h:zeE i=some d): ∃v,TyZ P e v∧(∀G,Is G d v)∧d.okc=true:=by
 obtain⟨j,hj,hij⟩:=adV hi
 unfold zeE at h
 split at h<;>try (cases h;done)
 rename_i z hz
 split at h<;>try (cases h;done)
 rename_i zs hzs
 obtain⟨v,h1,h2⟩:=alZ hi hz
 have h3: ∀G,IsLs G zs (aae v):=fun G=>ada (h2 (fun _=>⟨none,0,0⟩) G) hzs
 have hzv:j.zero=some v:=by have:=h1.inf;rw[hj] at this;simpa using this
 have hza:i.za=aDT (some v):=by rw[hij,←hzv]
 cases hb:i.za with
 |true=>
  rw[hb] at h hza
  cases hc:zs.all DV.flat with
  |false=>rw[hc] at h;cases h
  |true=>
   rw[hc] at h;cases h
   cases v<;>first|(cases hza;done)|skip
   rename_i cs
   exact⟨_,h1,fun G=>abU.2 ⟨cs.toList,by simp,h3 G⟩,hc⟩
 |false=>
  rw[hb,cond_false] at h
  rw[hb] at hza
  split at h<;>try (cases h;done)
  rename_i u
  cases hc:u.flat with
  |false=>rw[hc] at h;cases h
  |true=>
   rw[hc] at h;cases h
   have hv:aae v=[v]:=by cases v<;>first|rfl|(cases hza;done)
   refine⟨v,h1,fun G=>?_,(aoG hc).2⟩
   have:=h3 G
   rw[hv] at this
   exact this.uncons.1
theorem ayO{d:Nat}{i:TI}{z:DV}{k k':IntKind}{l:Int}{ds:List DV}[hT:acH P t e s by_](hi:afl P e=some i)(hz:zeE i=some z)(hs:Nat.beq z.cells.length s=true)(hx:evX lk x=some (.d (.v (.int k l))))(hy:evX lk y=some (.d (.v (.int k' l))))(h0:0≤l)(hb:by_*l≤140737488355328)(hl:l≤1152921504606846976)(hds:List.replicate l.toNat z=ds):
  OpR P GB C n lk bk ⟨some d, .makeSlice t x y,ty',pos,af,gd⟩ (.rw d) [(d,some (.b e s ds true))] [d]:=by
 intro hd tl tb K s1 s2 hf hk
 refine⟨fun ρ G ov a w r Q=>?_⟩
 subst hds
 obtain⟨v,hz1,hz2,hz3⟩:=ajs hi hz
 obtain⟨q1,p1,p2⟩:=(r.mono s1 s2).ev hx
 obtain⟨q2,p3,p4⟩:=(r.mono s1 s2).ev hy
 rw[aax] at p2 p4;subst p2 p4
 have c1:=((hz2 G).cells hz3).1.len
 replace hs:=aR hs
 have e1: ∀u∈List.replicate l.toNat v,(aae u).length=s:=fun u hu=>by rw[kN hu,c1,hs]
 refine aeQ p1 p3 h0 hb hl (by rw[c1,hs]) hd (fun b a' w' rl=>?_) a w Q ⟨r.h,r.sz,aaN a,r.df⟩
 have hnd:=(bR.1 rl.h.nd).1
 refine r.newRow (z:=⟨some ⟨b,0,none⟩,l.toNat,l.toNat⟩) (B:=[⟨b,aa7 v l.toNat,e,true⟩]) hf ⟨List.replicate l.toNat v, .inr ⟨b,[],true,by simp,by rw[aiD,lJ],aap _ e1,by rw[aap _ e1];simp,by simp⟩,agu (hz2 G) _,e1,fun _ o ho=>by rw[aU.1 ho]⟩
  (fun o ho=>by rw[aU.1 ho];exact aQ) (fun m B' _ _ o ho _=>⟨aX _ ho,fun e'=>?_⟩) hk rl
 cases e';exact hnd o ho rfl
/-! literal rows -/
def aAM(lk:LK):Nat→List (Nat×Operand)→Option (List DV)
 |_,[]=>some []
 |j,(i,x)::r=>match evD lk x,aAM lk (j+1) r with
  |some d,some l=>bif Nat.beq i j then some (d::l) else none
  |_,_=>none
theorem anr(r:RlX GB C n lk bk ρ G ov a w){zv:Value}(hz:(aae zv).length=s): ∀(ps:List (Nat×Operand)) (j:Nat) (pre:List Value) (ds:List DV),aAM lk j ps=some ds→pre.length=j*s→(∀d∈ds,d.okc=true∧d.cells.length=s)→
  ∃vs,axQ (frA a) s (pre++aa7 zv ps.length) ps=some (pre++aah vs)∧IsLs G ds vs∧(∀v∈vs,(aae v).length=s)∧vs.length=ps.length
 |[],j,pre,ds,e,hp,hd=>by
  simp only[aAM] at e;cases e
  exact⟨[],by simp[axQ,aa7,aah], .nil,by simp,rfl⟩
 |(i,x)::ps,j,pre,ds,e,hp,hd=>by
  simp only[aAM] at e
  split at e
  ·rename_i d l hx hl
   cases hb:Nat.beq i j with
   |false=>rw[hb] at e;cases e
   |true=>
    rw[hb] at e
    cases e
    have:=aR hb
    subst this
    obtain⟨y,hy,hy'⟩:=r.evD hx
    obtain⟨k1,k2⟩:=hd d aQ
    have c1:=(hy'.cells k1).1.len
    have hov:ovw (pre++aa7 zv (ps.length+1)) (i*s) (aae y)=(pre++aae y)++aa7 zv ps.length:=by
     rw[arq,←hp,arE _ _ _ _ (by rw[c1,k2,hz]),fQ]
    obtain⟨vs,h1,h2,h3,h4⟩:=anr r hz ps (i+1) (pre++aae y) l hl (by rw[aV,c1,k2,hp,iV]) (fun d hd'=>hd d (aX _ hd'))
    refine⟨y::vs,?_, .cons hy' h2,fun v hv=>?_,by simp[h4]⟩
    ·simp only[axQ,hy,bV]
     rw[if_pos ⟨by rw[c1,k2],by rw[aV,abG,hz,hp,iV];omega⟩,hov,h1]
     simp[aah]
    ·rcases aW.1 hv with rfl|hv
     ·rw[c1,k2]
     ·exact h3 v hv
  ·cases e
theorem aBm{d:Nat}{i:TI}{z:DV}{len:Nat}{parts:Array (Nat×Operand)}{ds:List DV}[hT:acH P t e s by_](hi:afl P e=some i)(hz:zeE i=some z)(hs:Nat.beq z.cells.length s=true)(hb:aAM lk 0 parts.toList=some ds)(hok:axh s ds=true)(hlen:Nat.beq parts.toList.length len=true)(hsm:Nat.ble (len*s) 1000=true)(hs0:Nat.blt 0 (len*s)=true):
  OpR P GB C n lk bk ⟨some d, .buildSlice t len parts,ty',pos,af,gd⟩ (.rw d) [(d,some (.b e s ds true))] [d]:=by
 intro hd tl tb K s1 s2 hf hk
 refine⟨fun ρ G ov a w r Q=>?_⟩
 obtain⟨v,hz1,hz2,hz3⟩:=ajs hi hz
 have c1:=((hz2 G).cells hz3).1.len
 replace hs:=aR hs
 have hlen':=aR hlen
 obtain⟨vs,h1,h2,h3,h4⟩:=anr (r.mono s1 s2) (s:=s) (zv:=v) (by rw[c1,hs]) parts.toList 0 [] ds hb (by simp) (ahK hok)
 rw[jS,jS] at h1
 refine aiv (z:=v) (out:=aah vs) (by rw[c1,hs]) (by rw[←hlen'];exact h1) hsm hs0 hd (fun b a' w' rl=>?_) a w Q ⟨r.h,r.sz,aaN a,r.df⟩
 have hnd:=(bR.1 rl.h.nd).1
 have hvl:vs.length=len:=by rw[h4,hlen']
 refine r.newRow (z:=⟨some ⟨b,0,none⟩,len,len⟩) (B:=[⟨b,aah vs,e,true⟩]) hf ⟨vs, .inr ⟨b,[],true,by rw[hvl],by rw[lJ],aap _ h3,by rw[aap _ h3,hvl];simp,by rw[hvl];exact bQ _⟩,h2,h3,fun _ o ho=>by rw[aU.1 ho]⟩
  (fun o ho=>by rw[aU.1 ho];exact aQ) (fun m B' _ _ o ho _=>⟨aX _ ho,fun e'=>?_⟩) hk rl
 cases e';exact hnd o ho rfl
theorem aAw{d:Nat}[hT:acH P t e s by_]:OpR P GB C n lk bk ⟨some d, .buildSlice t 0 #[],ty',pos,af,gd⟩ (.rw d) [(d,some (.b e s [] true))] [d]:=by
 intro hd tl tb K s1 s2 hf hk
 refine⟨fun ρ G ov a w r Q=>?_⟩
 refine anx hd (fun b a' w' rl=>?_) a w Q ⟨r.h,r.sz,aaN a,r.df⟩
 have hnd:=(bR.1 rl.h.nd).1
 refine r.newRow (z:=⟨some ⟨b,0,none⟩,0,0⟩) (B:=[⟨b,[],e,true⟩]) hf ⟨[], .inr ⟨b,[],true,rfl,by simp[aah],by simp[aah],by simp[aah],by simp⟩, .nil,by simp,fun _ o ho=>by rw[aU.1 ho]⟩
  (fun o ho=>by rw[aU.1 ho];exact aQ) (fun m B' _ _ o ho _=>⟨aX _ ho,fun e'=>?_⟩) hk rl
 cases e';exact hnd o ho rfl
theorem OpR.frz{o:Oper}{d:Nat}{B:Bk}{f:FX}{v:DV}(hd:o.dst=some d)(h:OpR P GB C n lk bk o f [(d,some B)] [d])
  (hz: ∀lk bk ρ G ov a w,RlX GB C n lk bk ρ G ov a w→bk d=some B→ ∃G' ov',GLe G G'∧ace C ov' G' w∧(∀o∈ov,(ρ d).a≠some ⟨o.b,0,none⟩→o∈ov')∧ ∀y,IsX ρ G f y→Is G' v y):OpR P GB C n lk bk o (.d v) [(d,none)] [d]:=by
 intro hd' tl tb K s1 s2 hf hk
 refine h hd' tl tb K s1 s2 hf ?_
 rw[hd] at hk⊢
 refine⟨fun ρ G ov a w r=>?_⟩
 have hbd:Sx.upB tb [(d,some B)] d=some B:=by simp[Sx.upB]
 obtain⟨G',ov',h1,h2,h3,h4⟩:=hz _ _ ρ G ov a w r hbd
 refine hk.run ρ G' ov' a w ⟨r.gb.trans h1,h2,r.sz,r.df,fun k g e=>?_,fun m B' e=>?_,fun m m' B1 B2 e e'=>?_⟩
 ·by_cases hk:k=d
  ·subst hk
   simp only[upL,if_true] at e;cases e
   obtain⟨y,g1,g2⟩:=r.fx k f (by simp[upL])
   exact⟨y,g1,h4 y g2⟩
  ·simp only[upL,hk,if_false] at e
   obtain⟨y,g1,g2⟩:=r.fx k g (by simp[upL,hk,e])
   exact⟨y,g1,g2.up h1⟩
 ·simp only[Sx.upB] at e
  split at e
  ·cases e
  ·rename_i hm
   have e':Sx.upB tb [(d,some B)] m=some B':=by simp[Sx.upB,hm,e]
   obtain⟨os,g1,g2⟩:=r.bx m B' e'
   exact⟨os,g1.up h1,fun o ho=>h3 o (g2 o ho) fun hc=>r.dj m d B' B e' hbd hm _ (g1.blk ho) hc⟩
 ·simp only[Sx.upB] at e e'
  split at e
  ·cases e
  ·rename_i hm
   split at e'
   ·cases e'
   ·rename_i hm'
    exact r.dj m m' B1 B2 (by simp[Sx.upB,hm,e]) (by simp[Sx.upB,hm',e'])
theorem OpR.frzRow{o:Oper}{d:Nat}{ty:TypeId}{s:Nat}{ds:List DV}(hd:o.dst=some d)(h:OpR P GB C n lk bk o (.rw d) [(d,some (.b ty s ds true))] [d]):OpR P GB C n lk bk o (.d (.sl ds)) [(d,none)] [d]:=
 h.frz hd fun _ _ _ _ _ _ _ r hb=>r.frzRow hb
theorem ay8{d:Nat}{f:FX}{l:List DV}(e:evX lk x=some f)(hc:f.okc=true)(hn:aAT f d=true)(hl:ael f.cells=some l):OpR P GB C n lk bk ⟨some d, .box t x,ty',pos,af,gd⟩ (.d (.pt l)) [(d,none)] [d]:=
 (ayD e hc hn).frz rfl fun _ _ _ _ _ _ _ r hb=>r.frzVar hb hl
/-! append -/
def at3(lk:LK)(bk:BM)(s:Nat)(y:Operand):Option (List DV):=match evX lk y with
 |some (.rw nm)=>match bk nm with
  |some (.b _ s' ds _)=>bif Nat.beq s' s then some ds else none
  |_=>none
 |some f=>match akh f with
  |some (.sl l)=>some l
  |_=>none
 |none=>none
theorem amN{ds:List DV}(r:RlX GB C n lk bk ρ G ov a w)(h:at3 lk bk s y=some ds)(hk:ads s ds):
  ∃(z:SV) (vs:List Value),opv (frA a) y=some (.slice z.a z.n z.c)∧z.n=vs.length∧IsLs G ds vs∧(∀v∈vs,(aae v).length=s)∧(∀v∈aah vs,Sx.flat v=true)∧Src P C ov G s z.n (.slice z.a z.n z.c) (aah vs):=by
 have hfl: ∀vs:List Value,IsLs G ds vs→(∀v∈vs,(aae v).length=s)∧ ∀v∈aah vs,Sx.flat v=true:=by
  intro vs hl
  refine⟨fun v hv=>?_,fun v hv=>?_⟩
  ·obtain⟨d,hd,h3⟩:=hl.all v hv
   obtain⟨k1,k2⟩:=hk d hd
   rw[(h3.cells k1).1.len,k2]
  ·simp only[aah,List.mem_flatten,bU] at hv
   obtain⟨l,⟨u,hu,rfl⟩,hv⟩:=hv
   obtain⟨d,hd,h3⟩:=hl.all u hu
   exact(h3.cells (hk d hd).1).2 v hv
 unfold at3 at h
 split at h
 ·rename_i nm hy
  split at h<;>try (cases h;done)
  rename_i ty s' ds' lo hb
  cases hs:Nat.beq s' s with
  |false=>rw[hs] at h;cases h
  |true=>
   rw[hs] at h;cases h
   cases aR hs
   obtain⟨u,h1,h2⟩:=r.ev hy
   cases h2
   obtain⟨B,⟨vs,hB,hv,hs,_⟩,hmem⟩:=r.row (y:= .nilFunc) hb
   obtain⟨f1,f2⟩:=hfl _ hv
   refine⟨ρ nm,vs,h1,hB.len,hv,f1,f2,?_⟩
   rcases hB with⟨e1,e2,e3⟩|⟨b,rest,lo',h3,h4,h5,h6,h7⟩
   ·simp only[] at e2
    subst e1
    rw[e2]
    exact aeH
   ·simp only[] at h3 h4 h5 h6 h7
    have oat:OAt ov b (aah vs++rest) ty lo':=⟨hmem _ (by rw[h4];exact aQ)⟩
    rw[show(ρ nm).a=some ⟨b,0,none⟩ by rw[h3],show(ρ nm).n=vs.length by rw[h3]]
    refine ahy oat ?_
    rw[abM _ _ _ (by rw[aV];omega),iX,dW (by omega),aT (by omega)]
 ·rename_i f _ hy
  split at h<;>cases h
  rename_i hd
  obtain⟨u,h3,h4⟩:=r.ev hy
  obtain⟨s',z,es,rfl,hsl,hl⟩:=adu.1 (acx h4 hd)
  obtain⟨f1,f2⟩:=hfl _ hl
  refine⟨z,es,h3,hsl.len,hl,f1,f2,?_⟩
  rcases afr hsl hl hk with he|he
  ·subst he
   rw[hsl.len]
   exact aeH
  ·subst he;exact aCI hsl
 ·cases h
theorem azC{d nm:Nat}{i:TI}{z:DV}{ds ds2:List DV}[hT:acH P t e s by_][hN:TyN P t'](hi:afl P e=some i)(hz:zeE i=some z)(hs:Nat.beq z.cells.length s=true)(hx:evX lk x=some (.rw nm))(hb:bk nm=some (.b e s ds true))(hy:at3 lk bk s y=some ds2)(hk2:ads s ds2)
  (hby:Nat.blt 0 by_=true)(hbd:(ds.length+ds2.length)*by_≤140737488355328)(hnd:Nat.beq nm d=false){ds':List DV}(hds:ds++ds2=ds'):
  OpR P GB C n lk bk ⟨some d, .call ⟨.builtin .append, #[x,y], #[t,t']⟩,ty',pos,af,gd⟩ (.rw d) [(nm,none),(d,some (.b e s ds' true))] [d]:=by
 intro hd tl tb K s1 s2 hf hk
 refine⟨fun ρ G ov a w r Q=>?_⟩
 subst hds
 have r1:=r.mono s1 s2
 obtain⟨v,hz1,hz2,hz3⟩:=ajs hi hz
 have cz:=((hz2 G).cells hz3).1.len
 replace hs:=aR hs
 rw[oW] at hby
 have hne:nm≠d:=fun e=>by subst e;simp at hnd
 obtain⟨u,hx',hx2⟩:=r1.ev hx
 cases hx2
 obtain⟨B,⟨vs,hB,hv,hvs,hlo⟩,hBo⟩:=r1.row (y:= .nilFunc) hb
 simp only[] at hB hv hvs
 obtain⟨w2,us,hy',h2,h3,h4,h5,h6⟩:=amN (P:=P) r1 hy hk2
 have hus:(aah us).length=us.length*s:=aap us h4
 have hbd':(vs.length+us.length)*by_≤140737488355328:=by rw[hv.len,h3.len];exact hbd
 have hall: ∀v∈vs++us,(aae v).length=s:=fun v hv=>by
  rcases bK.1 hv with hv|hv
  ·exact hvs v hv
  ·exact h4 v hv
 have rd:=r.dropB nm
 have hf':acM [d] (some d) tl (Sx.upB tb [(nm,none)]):=fun m hm=>by
  obtain⟨g1,g2⟩:=hf m hm
  refine⟨g1,fun k B' hk e=>g2 k B' hk ?_⟩
  simp only[Sx.upB] at e
  split at e
  ·cases e
  ·exact e
 have hbk: ∀m B',(Sx.upB tb [(nm,none)]) m=some B'→m≠nm∧tb m=some B':=fun m B' e=>by
  simp only[Sx.upB] at e
  split at e
  ·cases e
  ·exact⟨by assumption,e⟩
 have hfin: ∀(b:Nat) (cap':Nat) (rest':List Value) (ov1:List Own) a' w',vs.length+us.length≤cap'→rest'.length+(vs.length+us.length)*s=cap'*s→(∀o∈ov,(ρ nm).a≠some ⟨o.b,0,none⟩→o∈ov1)→
   Rel C n (put (frA a) (some d) (.slice (some ⟨b,0,none⟩) (vs.length+us.length) cap')) (⟨b,aah (vs++us)++rest',e,true⟩::ov1) G a' w'→K a' w':=by
  intro b cap' rest' ov1 a' w' hc hr ho1 rl
  have hnd':=(bR.1 rl.h.nd).1
  refine rd.newRow (z:=⟨some ⟨b,0,none⟩,vs.length+us.length,cap'⟩) (B:=[⟨b,aah (vs++us)++rest',e,true⟩]) hf' ⟨vs++us, .inr ⟨b,rest',true,by simp,rfl,aap _ hall,?_,by simpa using hc⟩,hv.app h3,hall,fun _ o ho=>by rw[aU.1 ho]⟩
   (fun o ho=>by rw[aU.1 ho];exact aQ) (fun m B' hm e o ho hmo=>?_) hk rl
  ·rw[aap _ hall,aV]
   simp only[]
   omega
  ·obtain⟨h7,h8⟩:=hbk m B' e
   have ho2:=ho1 o ho fun hc=>r.dj m nm B' _ h8 (s2 _ _ hb) h7 _ hmo hc
   exact⟨aX _ ho2,fun e'=>by cases e';exact hnd' o ho2 rfl⟩
 rcases hB with⟨e1,e2,e3⟩|⟨b,rest,lo',k3,k4,k5,k6,k7⟩
 ·subst e1
  rw[e2] at hx'
  by_cases hne:us=[]
  ·subst hne
   have:ds2=[]:=bS (by rw[←h3.len];rfl)
   subst this
   rw[h2] at hy'
   refine agP hx' hy' hd (fun a' w' rl=>?_) a w Q ⟨r.h,r.sz,aaN a,r.df⟩
   refine rd.newRow (z:=⟨none,0,0⟩) (B:=[]) hf' ⟨[], .inl ⟨rfl,rfl,rfl⟩,by simpa using hv,by simp,fun _ o ho=>by cases ho⟩ (fun o ho=>by cases ho) (fun m B' hm e o ho hmo=>⟨ho,fun e'=>by cases e'⟩) hk rl
  ·have hup:0<us.length:=lK.2 hne
   rw[h2] at hy' h6
   refine ac6 (z:=v) (xs:=[]) (ys:=aah us) hx' hy' aeH h6 (by show(0:Nat)<0+us.length;omega) hby (by simpa using hbd') hd (fun b cap' hc a' w' rl=>?_) a w Q ⟨r.h,r.sz,aaN a,r.df⟩
   exact hfin b cap' (aa7 v (cap'-us.length)) ov a' w' (by simpa using hc) (by rw[abG,cz,hs,←cY];simp at hc⊢;congr 1;omega) (fun o ho _=>ho) (by simpa using rl)
 ·have hl:=hlo rfl
  subst k4
  have hlo':lo'=true:=hl _ aQ
  subst hlo'
  have ha:(ρ nm).a=some ⟨b,0,none⟩:=by rw[k3]
  have hn:(ρ nm).n=vs.length:=by rw[k3]
  rw[ha,hn] at hx'
  rw[h2] at hy' h6
  obtain⟨ov1,o1,o2⟩:=alI.of_mem (hBo _ aQ)
  refine agB (z:=v) (xs:=aah vs) (ys:=aah us) (rest:=rest) (own1:=ov1) hx' hy' o1 k5 k6 k7 h6 hus h5 hby hbd' (by rw[cz,hs]) hd (fun b' cap' rest' hc hr a' w' rl=>?_) a w Q ⟨r.h,r.sz,aaN a,r.df⟩
  rw[←ab7] at rl
  exact hfin b' cap' rest' ov1 a' w' hc hr (fun o ho hne=>o2 o ho fun e'=>hne (by rw[ha,e'])) rl
end
section
variable {P:Program} {T:TT} {GB:Gh} {C:Ctx} {n:Nat} {lk:LK} {bk:BM} {ρ:NE} {G:Gh} {ov:List Own} {a:Act} {w:World}
variable {dst:Option Nat} {t t' ty':TypeId} {pos:String} {af:Array Edge} {gd:Option (Nat×Bool)} {x y:Operand} {e s by_:Nat}
theorem ajf{vs:List Value}{rest cs:List Value}{i sz j:Nat}{v':Value}(hil:i<vs.length)(hvs: ∀v∈vs,(aae v).length=sz)(hv':aae v'=ovw (aae vs[i]) j cs)(hj:j+cs.length≤sz):ovw (aah vs++rest) (i*sz+j) cs=aah (vs.set i v')++rest:=by
 have hm:(aae vs[i]).length=sz:=hvs _ (cK hil)
 have hl':(aae v').length=sz:=by rw[hv',ai4,hm]
 rw[←at2 (rest:=rest) (u:=v') vs i hil hvs hl',hv']
 have hlv:=aap vs hvs
 have hle:i*sz+sz≤vs.length*sz:=by rw[←iV];exact bT _ hil
 generalize hmm:aae vs[i]=m at*
 have hX:aah vs++rest=(aah vs).take (i*sz)++(m++((aah vs).drop (i*sz+sz)++rest)):=by
  have t1:=ahi (rest:=rest) hvs hil
  rw[hmm] at t1
  obtain⟨_,t2⟩:=ahe t1
  have t3:m=((aah vs).drop (i*sz)).take sz:=by
   have:m=((aah vs++rest).drop (i*sz)).take sz:=t2
   rw[this,iS (by omega),dW (by rw[gJ];omega)]
  rw[t3]
  conv=>lhs;rw[←jU (i*sz) (aah vs),←jU sz ((aah vs).drop (i*sz)),sX]
  simp[fQ]
 have hP:((aah vs).take (i*sz)).length=i*sz:=by rw[cV];omega
 generalize (aah vs).take (i*sz)=A at hX hP
 generalize (aah vs).drop (i*sz+sz)++rest=Z at hX
 rw[hX,←hP,arE A m Z (ovw m j cs) (by rw[ai4])]
 rw[act _ m j (by omega),act _ _ _ (by simp only[aV];omega)]
 rw[List.take_append,aT (by omega),Nat.add_sub_cancel_left,dW (by omega)]
 rw[lU,fL (by omega),jS,show A.length+j+cs.length-A.length=j+cs.length by omega,iS (by omega)]
 simp[fQ]
def stE(ag:Option Nat)(d:DV)(j:Nat)(u:DV):Option DV:=match d with
 | .ag l=>match ag with
  |some k=>bif u.okc&&(Nat.beq u.cells.length k&&Nat.ble (j+k) l.length) then some (.ag (ovD l j u.cells)) else none
  |none=>bif u.flat&&Nat.blt j l.length then some (.ag (l.set j u)) else none
 |d=>match ag with
  |some _=>none
  |none=>bif d.flat&&(u.flat&&Nat.beq j 0) then some u else none
theorem RlX.wroteRow{nm b:Nat}{ty:TypeId}{sz:Nat}{ds ds':List DV}{lo lo':Bool}{m':List Value}{own':List Own}(r:RlX GB C n lk bk ρ G ov a w)(hb:bk nm=some (.b ty sz ds lo))(ha:(ρ nm).a=some ⟨b,0,none⟩)(hB:aba G ⟨ρ nm,sz,ty,ds',lo⟩ [⟨b,m',ty,lo'⟩])
  (h1:⟨b,m',ty,lo'⟩∈own')(h2: ∀o∈ov,o.b≠b→o∈own'){K:Act→World→Prop}(hk:SX GB C n (upL lk dst .un) (Sx.upB bk [(nm,some (.b ty sz ds' lo))]) K){a':Act}{w':World}(rl:Rel C n (Sx.put (frA a) dst undef) own' G a' w'):K a' w':=by
 have r2:=r.upB (G':=G) (ov':=own') (w':=w') (B':= .b ty sz ds' lo) (GLe.refl _) rl.h (hB.toBk rfl) (fun o ho=>by rw[aU.1 ho];exact h1) (fun o ho hne=>h2 o ho fun e=>hne (by rw[ha,e])) ⟨_,hb⟩
 exact hk.run _ _ _ a' w' (r2.put rfl (abj rl))
theorem aty(cs:List Value)(o:Nat)(v:Value):ovw cs o [v]=cs.set o v:=rfl
theorem aDj{i:TI}{ag:Option Nat}{nm sz k j:Nat}{ty:TypeId}{ds ds':List DV}{lo:Bool}{d d' u:DV}(hi:afl P t=some i)(ha:i.ag=some ag)(hx:evX lk x=some (.be nm sz k j))(hb:bk nm=some (.b ty sz ds lo))(hy:evD lk y=some u)(he:ds[k]? =some d)(hl:stE ag d j u=some d')(hds:ds.set k d'=ds'):
  OpR P GB C n lk bk ⟨dst, .store t x y,ty',pos,af,gd⟩ .un [(nm,some (.b ty sz ds' lo))] []:=by
 intro hd tl tb K s1 s2 hf hk
 refine⟨fun ρ G ov a w r Q=>?_⟩
 subst hds
 have r1:=r.mono s1 s2
 obtain⟨y',h1,h2⟩:=r1.evD hy
 obtain⟨x',h3,b,hwb,rfl⟩:=r1.ev hx
 obtain⟨B,hB,hBo⟩:=r1.row (y:= .nilFunc) hb
 obtain⟨b',vs,rest,lo',e1,rfl,hv,hvs,hil,hup⟩:=hB.upd he
 rw[hwb] at e1;cases e1
 obtain⟨v,g1,g2⟩:=hv.get he
 obtain⟨g3,g4⟩:=aL.1 g1
 have hlv:=aap vs hvs
 have hle:k*sz+sz≤vs.length*sz:=by rw[←iV];exact bT _ hil
 have hml:(aae v).length=sz:=hvs _ (aM g1)
 cases ag with
 |some q=>
  have:=akl hi ha
  unfold stE at hl
  split at hl
  ·rename_i l
   simp only at hl
   cases hc:(u.okc&&(Nat.beq u.cells.length q&&Nat.ble (j+q) l.length)) with
   |false=>rw[hc] at hl;cases hl
   |true=>
    rw[hc] at hl;cases hl
    simp only[cJ,Nat.ble_eq] at hc
    obtain⟨c1,c2,c3⟩:=hc
    replace c2:=aR c2
    obtain⟨c4,c5⟩:=h2.cells c1
    obtain⟨m,rfl,hm⟩:=abU.1 g2
    have hcl:(aae y').length=q:=by rw[c4.len,c2]
    have hmd:=hm.len
    have hsz:m.length=sz:=hml
    have key:=hup (.agg ⟨ovw m j (aae y')⟩) (.ag (ovD l j u.cells)) (abU.2 ⟨_,rfl,hm.ov c4⟩) (by show(ovw m j (aae y')).length=sz;rw[ai4,hsz])
    have hov:=ajf (rest:=rest) (v':= .agg ⟨ovw m j (aae y')⟩) (cs:=aae y') (j:=j) hil hvs (by rw[g4];rfl) (by omega)
    obtain⟨own',u1,u2,u3⟩:=agm.of_mem (cs':=ovw (aah vs++rest) (k*sz+j) (aae y')) (hBo _ aQ)
    refine ak3 h3 h1 u1 hcl (by rw[aV];omega) (fU.2 c5) hd (fun a' w' rl=>?_) a w Q ⟨r.h,r.sz,aaN a,r.df⟩
    rw[hov] at u2
    exact r.wroteRow (s2 _ _ hb) hwb key u2 u3 hk rl
  ·simp at hl
 |none=>
  have:=ajh hi ha
  unfold stE at hl
  split at hl
  ·rename_i l
   simp only at hl
   cases hc:(u.flat&&Nat.blt j l.length) with
   |false=>rw[hc] at hl;cases hl
   |true=>
    rw[hc] at hl;cases hl
    simp only[cJ,oW] at hc
    obtain⟨c1,c2⟩:=hc
    have hfl:=h2.flat c1
    have hcl:=adO hfl
    obtain⟨m,rfl,hm⟩:=abU.1 g2
    have hmd:=hm.len
    have hsz:m.length=sz:=hml
    have key:=hup (.agg ⟨m.set j y'⟩) (.ag (l.set j u)) (abU.2 ⟨_,rfl,hm.set j h2⟩) (by show(m.set j y').length=sz;rw[aN,hsz])
    have hov:=ajf (rest:=rest) (v':= .agg ⟨m.set j y'⟩) (cs:=[y']) (j:=j) hil hvs (by rw[g4];rfl) (by simp;omega)
    rw[aty] at hov
    obtain⟨own',u1,u2,u3⟩:=agm.of_mem (cs':=(aah vs++rest).set (k*sz+j) y') (hBo _ aQ)
    refine adR h3 h1 u1 (by rw[aV];omega) hfl hd (fun a' w' rl=>?_) a w Q ⟨r.h,r.sz,aaN a,r.df⟩
    rw[hov] at u2
    exact r.wroteRow (s2 _ _ hb) hwb key u2 u3 hk rl
  ·rename_i hna
   simp only at hl
   cases hc:(d.flat&&(u.flat&&Nat.beq j 0)) with
   |false=>rw[hc] at hl;cases hl
   |true=>
    rw[hc] at hl;cases hl
    simp only[cJ] at hc
    obtain⟨c0,c1,c2⟩:=hc
    cases aR c2
    have hfl:=h2.flat c1
    have hcl:=adO hfl
    have hvl:=adO (g2.flat c0)
    have h1z:1=sz:=by rw[←hml,hvl];rfl
    have key:=hup y' d' h2 (by rw[hcl,←h1z];rfl)
    have hov:=ajf (rest:=rest) (v':=y') (cs:=[y']) (j:=0) hil hvs (by rw[g4,hvl,hcl];rfl) (by simp;omega)
    rw[aty] at hov
    obtain⟨own',u1,u2,u3⟩:=agm.of_mem (cs':=(aah vs++rest).set (k*sz+0) y') (hBo _ aQ)
    refine adR h3 h1 u1 (by rw[aV];omega) hfl hd (fun a' w' rl=>?_) a w Q ⟨r.h,r.sz,aaN a,r.df⟩
    rw[hov] at u2
    exact r.wroteRow (s2 _ _ hb) hwb key u2 u3 hk rl
/-! slices -/
def bdX(lk:LK)(dflt:Nat):Option Operand→Option Int
 |none=>some (dflt:Nat)
 |some o=>match evX lk o with
  |some (.d (.v (.int .i64 i)))=>some i
  |_=>none
theorem aCe{l:List DV}{lo hi:Option Operand}{nlo nhi:Nat}[hT:acH P t e s by_](hx:evD lk x=some (.sl l))(ho:ads s l)(hlo:bdX lk 0 lo=some (nlo:Int))(hhi:bdX lk l.length hi=some (nhi:Int))(h1:nlo≤nhi)(h2:nhi≤l.length):
  OpR P GB C n lk bk ⟨dst, .slice t x lo hi none,ty',pos,af,gd⟩ (.d (.sl ((l.take nhi).drop nlo))) [] []:= .yd fun ρ G ov a w r=>by
 obtain⟨u,h3,h4⟩:=r.evD hx
 obtain⟨s',z,es,rfl,hsl,hl⟩:=adu.1 h4
 have hn:=hsl.len
 have hcap:=hsl.cap
 have hll:=hl.len
 have key: ∀mx',nhi≤mx'→mx'≤z.c→Is G (.sl ((l.take nhi).drop nlo)) (aoB z.a z.n z.c nlo nhi mx' s):=by
  intro mx' hm1 hm2
  rcases afr hsl hl ho with he|he
  ·subst he
   have:l=[]:=bS (by rw[←hll];rfl)
   subst this
   have e1:nhi=0:=by simp at h2;exact h2
   have e2:nlo=0:=by omega
   subst e1 e2
   refine adu.2 ⟨s,⟨_,0,mx'⟩,[],rfl,⟨rfl,bZ _, .inl rfl⟩,by simpa using IsLs.nil⟩
  ·subst he
   refine adu.2 ⟨s',⟨_,_,_⟩,_,rfl,hsl.sub nlo nhi mx' h1 (by omega) hm1 hm2,(hl.take nhi).drop nlo⟩
 have bnd: ∀{o:Operand} {d:Nat} {i:Int},bdX lk d (some o)=some i→opv (frA a) o=some (.int .i64 i):=fun{o d i} h=>by
  simp only[bdX] at h
  split at h<;>cases h
  rename_i he
  obtain⟨q,g1,g2⟩:=r.ev he
  rw[aax] at g2;subst g2;exact g1
 match lo,hi,hlo,hhi with
 |none,none,hlo,hhi=>
  simp only[bdX,Option.some.injEq] at hlo hhi
  have e1:nlo=0:=by omega
  have e2:nhi=l.length:=by omega
  subst e1 e2
  refine⟨_,key z.c (by omega) (bQ _),?_⟩
  intro a w0 hf hh
  simp only[execOp,aad hf h3,pU]
  have h9:=afs (P:=P) (t:=t) (ad:=z.a) (len:=z.n) (cap:=z.c) w0 (lo:=none) (hi:=none) (mx:=none) (l:=0) (h:=l.length) (m:=z.c) (fun w0=>by
   simp[Instr.sliceBounds,Result.andThen,aao];omega)
  exact aam h9
 |none,some o2,hlo,hhi=>
  simp only[bdX,Option.some.injEq] at hlo
  have e1:nlo=0:=by omega
  subst e1
  refine⟨_,key z.c (by omega) (bQ _),?_⟩
  have h9:=acA (P:=P) (C:=C) (own:=ov) (G:=G) (t:=t) (dst:=dst) (ty':=ty') (pos:=pos) (af:=af) (gd:=gd) h3 (bnd hhi) (by omega) (by omega)
  have e9:aoB z.a z.n z.c 0 nhi z.c s= .slice z.a nhi z.c:=by
   unfold aoB
   cases z.a with
   |none=>simp
   |some ad=>simp[Addr.add]
  rw[e9]
  simpa using h9
 |some o1,none,hlo,hhi=>
  simp only[bdX,Option.some.injEq] at hhi
  have e2:nhi=l.length:=by omega
  subst e2
  refine⟨_,key z.c (by omega) (bQ _),?_⟩
  have h9:=aeJ (P:=P) (C:=C) (own:=ov) (G:=G) (t:=t) (dst:=dst) (ty':=ty') (pos:=pos) (af:=af) (gd:=gd) h3 (bnd hlo) (by omega) (by omega)
  have e9:z.n=l.length:=by omega
  rw[bX,e9] at h9
  rw[e9]
  exact h9
 |some o1,some o2,hlo,hhi=>
  refine⟨_,key z.c (by omega) (bQ _),?_⟩
  have h9:=alA (P:=P) (C:=C) (own:=ov) (G:=G) (t:=t) (dst:=dst) (ty':=ty') (pos:=pos) (af:=af) (gd:=gd) h3 (bnd hlo) (bnd hhi) (by omega) (by omega) (by omega)
  simpa using h9
theorem azb{l:List DV}{hi mx:Operand}{nhi:Nat}[hT:acH P t e s by_](hx:evD lk x=some (.sl l))(ho:ads s l)(hhi:bdX lk 0 (some hi)=some (nhi:Int))(hmx:bdX lk 0 (some mx)=some (nhi:Int))(h2:nhi≤l.length):
  OpR P GB C n lk bk ⟨dst, .slice t x none (some hi) (some mx),ty',pos,af,gd⟩ (.ct (l.take nhi)) [] []:= .yd fun ρ G ov a w r=>by
 obtain⟨u,h3,h4⟩:=r.evD hx
 obtain⟨s',z,es,rfl,hsl,hl⟩:=adu.1 h4
 have hn:=hsl.len
 have hcap:=hsl.cap
 have hll:=hl.len
 have bnd: ∀{o:Operand} {d:Nat} {i:Int},bdX lk d (some o)=some i→opv (frA a) o=some (.int .i64 i):=fun{o d i} h=>by
  simp only[bdX] at h
  split at h<;>cases h
  rename_i he
  obtain⟨q,g1,g2⟩:=r.ev he
  rw[aax] at g2;subst g2;exact g1
 refine⟨.slice z.a nhi nhi,⟨⟨_,_,rfl⟩,atr hsl hl ho h2 (bQ _) (by omega)⟩,?_⟩
 have h9:=aqO (P:=P) (C:=C) (own:=ov) (G:=G) (t:=t) (dst:=dst) (ty':=ty') (pos:=pos) (af:=af) (gd:=gd) h3 (bnd hhi) (bnd hmx) (by omega) (Int.le_refl _) (by omega)
 simpa using h9
theorem at9{d:Nat}{i:TI}{z:DV}{ds ds2:List DV}[hT:acH P t e s by_][hN:TyN P t'](hi:afl P e=some i)(hz:zeE i=some z)(hs:Nat.beq z.cells.length s=true)(hx:evX lk x=some (.ct ds)∨(evX lk x=some .nl∧ds=[]))(ox:ads s ds)(hy:at3 lk bk s y=some ds2)(hk2:ads s ds2)(hne:0<ds2.length)
  (hby:Nat.blt 0 by_=true)(hbd:(ds.length+ds2.length)*by_≤140737488355328){ds':List DV}(hds:ds++ds2=ds'):
  OpR P GB C n lk bk ⟨some d, .call ⟨.builtin .append, #[x,y], #[t,t']⟩,ty',pos,af,gd⟩ (.rw d) [(d,some (.b e s ds' true))] [d]:=by
 intro hd tl tb K s1 s2 hf hk
 refine⟨fun ρ G ov a w r Q=>?_⟩
 subst hds
 have r1:=r.mono s1 s2
 obtain⟨v,hz1,hz2,hz3⟩:=ajs hi hz
 have cz:=((hz2 G).cells hz3).1.len
 replace hs:=aR hs
 rw[oW] at hby
 obtain⟨w2,us,h1,h2,h3,h4,h5,h6⟩:=amN (P:=P) r1 hy hk2
 have hxs:at3 lk bk s x=some ds:=by
  unfold at3
  rcases hx with hx|⟨hx,rfl⟩<;>rw[hx]<;>rfl
 obtain⟨w1,vs,g1,g2,g3,g4,g5,g6⟩:=amN (P:=P) r1 hxs ox
 have hc1:w1.c=w1.n:=by
  rcases hx with hx|⟨hx,rfl⟩
  ·obtain⟨y1,k1,⟨a1,n1,rfl⟩,_⟩:=r1.ev hx
   rw[k1] at g1
   simp only[Option.some.injEq,Value.slice.injEq] at g1
   omega
  ·obtain⟨y1,k1,k2⟩:=r1.ev hx
   cases k2
   rw[k1] at g1
   simp only[Option.some.injEq,Value.slice.injEq] at g1
   omega
 have hl3:=h3.len
 have hl4:=g3.len
 have hall: ∀v∈vs++us,(aae v).length=s:=fun v hv=>by
  rcases bK.1 hv with hv|hv
  ·exact g4 v hv
  ·exact h4 v hv
 refine ac6 (z:=v) (xs:=aah vs) (ys:=aah us) (ad:=w1.a) (len:=w1.n) (cap:=w1.c) g1 h1 g6 h6 (by omega) hby (by rw[g2,h2,hl3,hl4];exact hbd) hd (fun b cap' hc a' w' rl=>?_) a w Q ⟨r.h,r.sz,aaN a,r.df⟩
 rw[←ab7] at rl
 have hnd':=(bR.1 rl.h.nd).1
 refine r.newRow (z:=⟨some ⟨b,0,none⟩,w1.n+w2.n,cap'⟩) (B:=[⟨b,aah (vs++us)++aa7 v (cap'-(w1.n+w2.n)),e,true⟩]) hf ⟨vs++us, .inr ⟨b,_,true,by simp[g2,h2],rfl,aap _ hall,?_,by simpa[g2,h2] using hc⟩,g3.app h3,hall,fun _ o ho=>by rw[aU.1 ho]⟩
  (fun o ho=>by rw[aU.1 ho];exact aQ) (fun m B' hm e o ho _=>⟨aX _ ho,fun e'=>by cases e';exact hnd' o ho rfl⟩) hk rl
 rw[aap _ hall,aV,abG,cz,hs,←cY,g2,h2]
 congr 1
 rw[g2,h2] at hc
 dsimp only
 omega
end
end Go.Sx
end
