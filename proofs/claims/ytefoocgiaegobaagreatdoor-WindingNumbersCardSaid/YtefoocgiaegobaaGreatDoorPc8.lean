import Derived.Test.YtefoocgiaegobaaGreatDoorPc7
import Derived.Shelf.Small.Bits
import Derived.Shelf.Strconv.Itoa0
import Derived.Shelf.Strconv.Itoa1
import Derived.Shelf.LaysM
import Derived.Shelf.Strconv.Itoa2
import Derived.Shelf.Strconv.Itoa3
import Derived.Shelf.Bits.Mul64
import Derived.Test.YtefoocgiaegobaaGreatDoorProg
set_option linter.all false
set_option maxHeartbeats 1000000
set_option maxRecDepth 100000
section
namespace Go.Sx
open Go Go.Proofs Tryz
section
variable {GB:Gh} {C:aA} {n:Nat} {Q0:Exit->Act->World->Prop} {fr fr':ao} {own own':aB} {cf cf':Cf} {vc:List Prop} {ops:Array Oper} {o:Oper} {r:List Oper} {K:List Kt}
def CY(GB:Gh)(P:Program)(f:FuncId)(ds:List DV)(gf:FuncId)(dp:DV):Prop:=
 ∀G vs,bg GB G->IsLs G ds vs->Fn P f vs G fun v G'=> ∃pv,v= .func (.func gf) ⟨[]⟩ ⟨[pv]⟩/\Is G' dp pv
def wW(gf:FuncId)(dp:DV)(v:Value)(G':Gh):Prop:= ∃pv,v= .func (.func gf) ⟨[]⟩ ⟨[pv]⟩/\Is G' dp pv
def RE[fu:Fu]{f gf:FuncId}{fb:Func}{c:Code}{m:Nat}{ds:List DV}{dp:DV}(hf:prog.funcs[f]? =some fb)(hb:fb.body=some c)(hn:(fb.name== "runtime.NumGoroutine")=false)(hm:fb.ntmps=m)(hlen:Nat.ble ds.length m=true)
  (hgo:go tt m fu.n [] (ni 0 ds) [] (.code c [])=⟨vc,fr,own,cf⟩)(k: ∀C:aA,ak prog GB C m (en C prog fb (gA C (wW gf dp))) fr own cf)
  (hv:ah vc:=by first|exact trivial|(simp only[ah];kernel_rfl)|(simp only[ah];omega)):CY GB prog f ds gf dp:=by
 intro G vs hg hvs;refine Fn.introR hf hb hn hm (by rw[hvs.len];exact hlen) fun C _ _ hrd hfx=>?_;intro a w rl;refine rK hrd ?_;have h:=d9 (GB:=GB) (C:=C) (Q0:=en C prog fb (gA C (wW gf dp))) hgo hv (k C);exact h.run (fun _=>⟨none,0,0⟩) G [] a w ⟨hg,rl.h,rl.sz,rl.df,(fun k f e=>r6 hvs rl.fr k f e),(fun nm B e=>by cases e),(fun nm nm' B B' e=>by cases e),fun nm p _ _ e=>by rw[hfx] at e;cases e⟩
def RP{P:Program}{fb:Func}{gf:FuncId}{dp:DV}{pv:Value}{t:Nat}(hr:fb.results.toList=[.tmp t])(hl:aD fr t=some (.d (.v (.func (.func gf) ⟨[]⟩ ⟨[pv]⟩))))(hp:Is GB dp pv):ak P GB C n (en C P fb (gA C (wW gf dp))) fr own (.ex .ret []):=by
 refine⟨fun ρ G ov a w r=>?_⟩;obtain⟨y,hy,hy'⟩:=r.ev (x:= .tmp t) hl;rw[(bc (G:=G)).1 hy'] at hy;exact zD (C:=C) (n:=n) (fr:=b9 a) (own:=ov) (G:=G) (K:=wW gf dp) (by rw[hr];exact .tmp hy .nil) ⟨pv,J,hp.up r.gb⟩ a w ⟨r.h,r.sz,co a,r.df⟩
def Ge(fr:ao)(cf:Cf):Option (FuncId×Value):=match bw fr cf with
 |some ⟨_, .makeFunc (.func f) ⟨[]⟩ ⟨[x]⟩,_,_,_,_⟩=>match aC (ba fr cf) x with
  |some (.d (.v pv))=>some (f,pv)
  |_=>none
 |_=>none
def J0[fu:Fu]{f:FuncId}{pv:Value}(h:Ge fr cf=some (f,pv))(hgo:bG tt n fu.n fr own cf (.d (.v (.func (.func f) ⟨[]⟩ ⟨[pv]⟩))) [] []=⟨vc,fr',own',cf'⟩)(k:ak prog GB C n Q0 fr' own' cf')
  (hv:ah vc:=by first|exact trivial|(simp only[ah];kernel_rfl)|(simp only[ah];omega)):ak prog GB C n Q0 fr own cf:=by
 unfold Ge at h;split at h<;>try (cases h;done)
 rename_i hh;split at h<;>cases h;rename_i hx;exact us hh (.x1 hx fun ρ G ov a w y _ r h1 h2=>by
  rw[(bc (G:=G)).1 h2] at h1;exact⟨_,(bc (G:=G)).2 J,CT (l1:=[]) (l2:=[pv]) J (by simp[h1])⟩) hgo hv k
def Ee[fu:Fu]{f gf:FuncId}{ds:List DV}{dp:DV}{d:Nat}{fr':Value->ao}{own':Value->aB}{cf':Value->Cf}{vc:Value->List Prop}(ha:sY fr (.ops ops (o::r) K)=some (f,ds))(hdst:o.dst=some d)(hd:bH n (some d)=true)(hF:CY GB prog f ds gf dp)
  (hgo: ∀pv,go tt n fu.n [] ((d, .d (.v (.func (.func gf) ⟨[]⟩ ⟨[pv]⟩)))::fr) own (.ops ops r K)=⟨vc pv,fr' pv,own' pv,cf' pv⟩)
  (k: ∀GB' pv,bg GB GB'->Is GB' dp pv->ak prog GB' C n Q0 (fr' pv) (own' pv) (cf' pv))
  (hv: ∀pv,ah (vc pv):=by intros;first|exact trivial|(simp only[ah];kernel_rfl)|(simp only[ah];omega)):ak prog GB C n Q0 fr own (.ops ops (o::r) K):=by
 unfold sY at ha;split at ha<;>try (cases ha;done)
 rename_i fo args tys ty pos af gd hh;obtain⟨ops0,h1,h2⟩:=C6 hh
 cases h1
 cases hdst
 obtain⟨c1,c2⟩:=uK ha;refine⟨fun ρ G ov a w rl=>?_⟩;obtain⟨y,hy,hy'⟩:=rl.ev c1;rw[(bc (G:=G)).1 hy'] at hy;obtain⟨vs,h3,h4⟩:=rl.evDs c2;simp only[wpListIn];rw[if_pos (yr h2 ρ G ov a w rl)];refine x8 (K':=fun a' w'=>a'.defers=C.mks/\wpListIn (FW C.rd) 0 prog ops (cQ C.rd prog Q0 K) r a' w') (fun Q=>?_) (fun a' w' q=>⟨q.1.trans rl.df.symm,q.2⟩);refine zC hy h3 (hF G vs rl.gb h4) hd (fun v G' hG hK a' w' rel=>?_) a w Q ⟨rl.h,rl.sz,co a,rl.df⟩;obtain⟨pv,rfl,hpv⟩:=hK;refine⟨rel.df,?_⟩;have:=d9 (GB:=G') (C:=C) (Q0:=Q0) (hgo pv) (hv pv) (k G' pv (rl.gb.trans hG.le) hpv);refine this.run ρ G' ov a' w' ⟨bg.refl _,rel.h,rel.sz,rel.df,fun j g e=>?_,fun nm B e=>by obtain⟨os,h5,h6⟩:=rl.bx nm B e;exact⟨os,h5.up hG.le,h6⟩,rl.dj,rl.fxd⟩;have e':dh (aD fr) (some d) (.d (.v (.func (.func gf) ⟨[]⟩ ⟨[pv]⟩))) j=some g:=by
  rw[gi] at e;simp only[dh];split at e
  ·rename_i hk;rw[if_pos hk];exact e
  ·rename_i hk;rw[if_neg hk];exact e
 exact(jv rel).fx (fun k g _ e=>by obtain⟨u,h5,h6⟩:=rl.fx k g e;exact⟨u,h5,h6.up hG.le⟩) (show bp ρ G' (.d (.v (.func (.func gf) ⟨[]⟩ ⟨[pv]⟩))) _ from(bc (G:=G')).2 rfl) j g e'
end
section
variable {GB:Gh} {C:aA} {n:Nat} {Q0:Exit->Act->World->Prop} {fr fr':ao} {own own':aB} {cf cf':Cf} {vc:List Prop}
def Dw(fr:ao)(cf:Cf):Option Nat:=match bw fr cf with
 |some ⟨_, .load t (.global g),_,_,_,_⟩=>(match cd tt t with
  |some i=>match i.ag with
   |some none=>some g
   |_=>none
  |none=>none)
 |_=>none
def gl[fu:Fu]{g:Nat}{v:Value}(h:Dw fr cf=some g)(hg:GB g=some [v])(hgo:bG tt n fu.n fr own cf (.d (.v v)) [] []=⟨vc,fr',own',cf'⟩)(k:ak prog GB C n Q0 fr' own' cf')
  (hv:ah vc:=by first|exact trivial|(simp only[ah];kernel_rfl)|(simp only[ah];omega)):ak prog GB C n Q0 fr own cf:=by
 unfold Dw at h;split at h<;>try (cases h;done)
 rename_i hh;split at h<;>try (cases h;done)
 rename_i i hT;split at h<;>cases h;rename_i ha;haveI:=qz (dG _ _ hT) ha;refine us (f:= .d (.v v)) hh (bm.yd fun ρ G ov a w r=>⟨v,(bc (G:=G)).2 J,?_⟩) hgo hv k;haveI:uO G g [v]:=⟨r.gb _ _ hg⟩;exact xN (b:=g) (off:=0) J MD J
def F5{d:Nat}{f:FX}{x:DV}(hl:aD fr d=some f)(e:iG f=some x){Φ:Act->World->Prop}(h:SX GB C n (aD ((d, .d x)::fr)) (aG own) Φ):SX GB C n (aD fr) (aG own) Φ:=kt (g:= .d x) hl (fun _ _ _ k=>lA k e) h
def tB(d:Nat){f:FX}(x:DV){e:Exit}{K:List Kt}(hl:aD fr d=some f)(e1:iG f=some x)(k:ak prog GB C n Q0 ((d, .d x)::fr) own (.ex e K)):ak prog GB C n Q0 fr own (.ex e K):=F5 hl e1 k
def Di(d:Nat){f:FX}(x:DV){c:Code}{K:List Kt}(hl:aD fr d=some f)(e1:iG f=some x)(k:ak prog GB C n Q0 ((d, .d x)::fr) own (.code c K)):ak prog GB C n Q0 fr own (.code c K):=F5 hl e1 k
def O'{nm0 nm:Nat}{B1 B2:Option Bk}:aG (jg (jg own nm0 B1) nm B2)=upB (upB (aG own) [(nm0,B1)]) [(nm,B2)]:=by
 funext j;rw[ru];simp only[upB];rw[ru]
def Or{nm0 nm k:Nat}(hnm:Nat.blt nm 2000000=true){ty0:TypeId}{cs:List FX}{lo:Bool}(hb:aG own nm0=some (.o ty0 cs lo))(hk:cs[k]? =some .nl)(hne:nm0≠nm){Φ:Act->World->Prop}{ty s:Nat}(hf:i9 [nm] none (aD fr) (aG own))
  (h:SX GB C n (aD fr) (aG (jg (jg own nm0 (some (.o ty0 (cs.set k (.rw nm)) lo))) nm (some (.b ty s [] true)))) Φ):SX GB C n (aD fr) (aG own) Φ:=by
 refine⟨fun ρ G ov a w r=>?_⟩;obtain⟨f1,f2⟩:=hf nm aZ;rw[O'] at h;refine h.run (fun k=>if k=nm then⟨none,0,0⟩ else ρ k) G ov a w ⟨r.gb,r.h,r.sz,r.df,fun k f e=>?_,fun m B e=>?_,fun m m' B B' e e' hne=>?_,fun m p h1 h2 e=>by
  have:nm<2000000:=by simpa[lN] using hnm
  show(if m=nm then(⟨none,0,0⟩:SV) else ρ m).a=_;rw[if_neg (by omega)];exact r.fxd m p h1 h2 e⟩
 ·obtain⟨v,h1,h2⟩:=r.fx k f e
  exact⟨v,h1,h2.ren fun m hm=>o6 _ fun hc=>f1 k f (by simp) e (by rw[hm,hc])⟩
 ·simp only[upB] at e
  by_cases hm:m=nm
  ·subst hm;simp only[if_true] at e;cases e
   exact⟨[],⟨[],by simp only[if_true];exact .inl ⟨J,J,J⟩, .nil,by simp,fun _ o ho=>by cases ho⟩,fun o ho=>by cases ho⟩
  ·simp only[hm,if_false] at e
   by_cases hm0:m=nm0
   ·subst hm0;simp only[if_true] at e;cases e
    obtain⟨os,h1,h2⟩:=r.bx m _ hb;have h1':iC (fun k=>if k=nm then⟨none,0,0⟩ else ρ k) G m (.o ty0 cs lo) os:=h1.ren (if_neg hm) fun q hq=>o6 _ fun hc=>f2 m _ hm hb (by rw[<-hc];exact hq);obtain⟨b,ms,k1,k2,k3⟩:=h1';refine⟨os,⟨b,ms,k1,k2,?_⟩,h2⟩;obtain⟨y,e1,e2⟩:=k3.get hk;have:=k3.set (f:= .rw nm) (y:=y) k (by show y=_;simp only[if_true];exact e2);rwa [show ms.set k y=ms by apply lR;intro j;rw[nK];split<;>(try rfl);rename_i hj;subst hj;split<;>simp_all] at this
   ·simp only[hm0,if_false] at e
    obtain⟨os,h1,h2⟩:=r.bx m B e;exact⟨os,h1.ren (if_neg hm) fun q hq=>o6 _ fun hc=>f2 m B hm e (by rw[<-hc];exact hq),h2⟩
 ·intro b hbb hb'
  have key: ∀q B,upB (upB (aG own) [(nm0,some (.o ty0 (cs.set k (.rw nm)) lo))]) [(nm,some (.b ty s [] true))] q=some B->q≠nm-> ∃B0,aG own q=some B0:=fun q B eq hq=>by
   simp only[upB,hq,if_false] at eq;by_cases hq0:q=nm0
   ·subst hq0;exact⟨_,hb⟩
   ·simp only[hq0,if_false] at eq;exact⟨_,eq⟩
  by_cases hm:m=nm
  ·simp[hm] at hbb
  ·by_cases hm':m'=nm
   ·simp[hm'] at hb'
   ·obtain⟨B0,g0⟩:=key m B e hm
    obtain⟨B1,g1⟩:=key m' B' e' hm';simp only[hm,hm',if_false] at hbb hb';exact r.dj m m' B0 B1 g0 g1 hne b hbb hb'
def Le(nm0 k nm ty s:Nat){ty0:TypeId}{cs:List FX}{lo:Bool}{own1:aB}{c:Code}{K:List Kt}(hb:aG own nm0=some (.o ty0 cs lo))(hk:cs[k]? =some .nl)(hf:ow [nm] none fr own=true)(hne:Nat.beq nm0 nm=false)
  (ho:jg (jg own nm0 (some (.o ty0 (cs.set k (.rw nm)) lo))) nm (some (.b ty s [] true))=own1)(h:ak prog GB C n Q0 fr own1 (.code c K))(hnm:Nat.blt nm 2000000=true:=by rfl):ak prog GB C n Q0 fr own (.code c K):=by
 subst ho;exact Or hnm hb hk (fun e=>by subst e;rw[qT] at hne;cases hne) (tZ hf) h
def Ku{ρ:NE}{G:Gh}: ∀{a b:List FX} {m:List Value},ce ρ G (a++b) m-> ∃m1 m2,m=m1++m2/\ce ρ G a m1/\ce ρ G b m2
 |[],b,m,h=>⟨[],m,J,J,h⟩
 |f::t,b,m,⟨y,n,e,h1,h2⟩=>by
  obtain⟨m1,m2,rfl,k1,k2⟩:=Ku h2;exact⟨y::m1,m2,e,⟨y,m1,J,h1,k1⟩,k2⟩
def Hr{ρ:NE}{G:Gh}: ∀{l:List DV} {m:List Value},ce ρ G (l.map .d) m->IsLs G l m
 |[],m,h=>cp.2 h
 |d::t,m,⟨y,n,e,h1,h2⟩=>by subst e;exact .cons h1 (Hr h2)
def Ww(fr:ao)(cf:Cf):Option (Nat×List FX):=match bw fr cf with
 |some ⟨some d, .build t ⟨[]⟩,_,_,_,_⟩=>match cd tt t with
  |some ⟨.st _,_,some zx,_⟩=>some (d,zx)
  |_=>none
 |_=>none
end
section
variable {GB:Gh} {C:aA} {n:Nat} {Q0:Exit->Act->World->Prop} {fr fr':ao} {own own':aB} {cf cf':Cf} {vc:List Prop} {ops:Array Oper} {o:Oper} {r:List Oper} {K:List Kt}
def Je{p q:Nat->Option (Nat×Nat)}(h: ∀i x,p i=some x->q i=some x): ∀(ps:List (Nat×Value)) (cs out:Array Value),Instr.fill p cs ps=some out->Instr.fill q cs ps=some out
 |[],cs,out,e=>e
 |(i,v)::ps,cs,out,e=>by
  simp only[Instr.fill] at e⊢;split at e
  ·cases e
  ·rename_i off size hp
   rw[h i _ hp];dsimp only;split at e
   ·cases e
   ·rename_i hc
    rw[if_neg hc];exact Je h ps _ _ e
def Rd{P:Program}{fr:Fr}{own:List av}{G:Gh}{t e s len:Nat}{j:TypeInfo}{parts:Array (Nat×Operand)}{z:Value}{out:List Value}{dst:Option Nat}{ty':TypeId}{pos:String}{af:Array Edge}{gd:Option (Nat×Bool)}[hz:io P t z](hu:P.underlying t=some (.array len e))(hj:P.info? e=some j)(hs:j.size=s)
  (hb:pI fr ((List.range len).map fun i=>(i*s,s)) (aF z) parts.toList=some out):Yd P C fr own G ⟨dst, .build t parts,ty',pos,af,gd⟩ (.agg ⟨out⟩):=by
 intro a w hf hh;simp only[execOp];have:(Instr.build t (parts.map fun(i,x)=>(i,a.eval x))).run P w= .ok (.agg ⟨out⟩) w:=by
  unfold Instr.build;rw[aE (hz.zero w),mv];rw[aE (mf hu w)];simp only[];rw[aE (qf hj w),hs];have:=Je (q:=fun i=>some (i*s,s)) (fun i x hx=>by
   have hx':((List.range len).map fun i=>(i*s,s))[i]? =some x:=by simpa using hx
   rw[fW] at hx'
   cases hr:(List.range len)[i]? with
   |none=>rw[hr] at hx';cases hx'
   |some y=>
    rw[hr] at hx';cases hx';obtain⟨h1,h2⟩:=aL.1 hr;rw[List.getElem_range] at h2;rw[h2]) _ _ _ (CL hf ((List.range len).map fun i=>(i*s,s)) parts.toList _ _ hb)
  simp only[mW,this];rfl
 exact cv this
def w5:Nat->Nat->Nat->List (Nat×Nat×Nat)
 |_,0,_=>[]
 |i,k+1,s=>(i*s,0,s)::w5 (i+1) k s
def Gc: ∀(i k s:Nat),(w5 i k s).map (fun x=>(x.1,x.2.2))=(List.range' i k).map fun j=>(j*s,s)
 |_,0,_=>rfl
 |i,k+1,s=>by simp only[w5,cZ,List.range',Gc (i+1) k s]
def JF(fr:ao)(cf:Cf)(len s:Nat):Option (TypeId×FX):=match bw fr cf with
 |some ⟨_, .build t parts,_,_,_,_⟩=>match cd tt t with
  |some ⟨.o,_,some zx,_⟩=>match om (ba fr cf) (w5 0 len s) zx parts.toList with
   |some cs=>match qC cs with
    |some f=>some (t,f)
    |none=>none
   |none=>none
  |_=>none
 |_=>none
def Nw[fu:Fu]{t e len s:Nat}{f:FX}(h:JF fr cf len s=some (t,f))(hu:prog.underlying t=some (.array len e))(hs:(prog.info? e).map (·.size)=some s)
  (hgo:bG tt n fu.n fr own cf f [] []=⟨vc,fr',own',cf'⟩)(k:ak prog GB C n Q0 fr' own' cf')
  (hv:ah vc:=by first|exact trivial|(simp only[ah];kernel_rfl)|(simp only[ah];omega)):ak prog GB C n Q0 fr own cf:=by
 unfold JF at h;split at h<;>try (cases h;done)
 rename_i hh;split at h<;>try (cases h;done)
 rename_i hT;split at h<;>try (cases h;done)
 rename_i hb;split at h<;>cases h;rename_i hf;refine us hh (.yd fun ρ G ov a w r=>?_) hgo hv k
 cases hj:prog.info? e with
 |none=>rw[hj] at hs;cases hs
 |some j=>
 rw[hj] at hs;obtain⟨v,hv,hv'⟩:=tM (dG _ _ hT) rfl;obtain⟨l,h1,h2⟩:=xR r _ _ _ _ hb (hv' ρ G);rw[Gc,<-List.range_eq_range'] at h1;exact⟨.agg ⟨l⟩,AX h2 hf,Rd hu hj (Option.some.inj hs) h1⟩
def Te{P:Program}(nm:Nat){ty:TypeId}{ds:List DV}{lo:Bool}{own1:aB}{c:Code}(ds':List DV)(hl:aG own nm=some (.o ty (ds.map .d) lo))(hi: ∀G m,IsLs G ds m->IsLs G ds' m)(ho:pj own nm (some (.o ty (ds'.map .d) lo)) id=own1)(h:ak P GB C n Q0 fr own1 (.code c K)):ak P GB C n Q0 fr own (.code c K):=by
 rw[qv] at ho;subst ho;refine⟨fun ρ G ov a w r=>?_⟩;have old: ∀m B,aG (jg own nm (some (.o ty (ds'.map .d) lo))) m=some B-> ∃B0,aG own m=some B0:=fun m B e=>by
  rw[ru] at e;split at e
  ·rename_i hm;subst hm;exact⟨_,hl⟩
  ·exact⟨_,e⟩
 refine SX.run h ρ G ov a w ⟨r.gb,r.h,r.sz,r.df,r.fx,fun m B e=>?_,fun m m' B B' e e'=>?_,r.fxd⟩
 ·rw[show id (jg own nm (some (.o ty (ds'.map .d) lo)))=jg own nm (some (.o ty (ds'.map .d) lo)) from J,ru] at e
  split at e
  ·rename_i hm;subst hm;cases e
   obtain⟨os,⟨b,q,h1,rfl,h2⟩,h3⟩:=r.bx _ _ hl;exact⟨_,⟨b,q,h1,J,o9 (hi G q (Hr h2))⟩,h3⟩
  ·exact r.bx _ _ e
 ·obtain⟨B0,h0⟩:=old _ _ e
  obtain⟨B1,h1⟩:=old _ _ e';exact r.dj m m' B0 B1 h0 h1
def V6(fr:ao)(own:aB)(cf:Cf)(k:Nat):Option (TypeId×FX):=match bw fr cf with
 |some ⟨_, .load t x,_,_,_,_⟩=>match aC (ba fr cf) x with
  |some (.ov nm off)=>match eG fr own cf nm with
   |some (.o _ cs _)=>match takeX cs off k with
    |some l=>match qC l with
     |some f=>some (t,f)
     |none=>none
    |none=>none
   |_=>none
  |_=>none
 |_=>none
def VW(fr:ao)(cf:Cf)(off s:Nat):Option (TypeId×List DV×Int):=match bw fr cf with
 |some ⟨_, .index t x y,_,_,_,_⟩=>match aC (ba fr cf) x with
  |some (.d (.ag ms))=>match aC (ba fr cf) y with
   |some (.d (.v (.int _ i)))=>match takeD ms off s with
    |some l=>some (t,l,i)
    |none=>none
   |_=>none
  |_=>none
 |_=>none
end
section
variable {GB:Gh} {C:aA} {n:Nat} {Q0:Exit->Act->World->Prop} {fr fr':ao} {own own':aB} {cf cf':Cf} {vc:List Prop} {lk:LK} {bk:BM} {dst:Option Nat} {ty:TypeId} {pos:String} {af:Array Edge} {gd:Option (Nat×Bool)}
def Bn(t:TypeId):Prop:= ∀(x:Value) w,(Instr.makeInterface t x).run prog w= .ok (.iface t x) w
def vE(t:TypeId)(u:Value)(m:String)(f:FuncId):Prop:= ∀w,(method (prog.types.size+Made.depth) t u m).run prog w= .ok (f,u) w
def Ug{t:TypeId}{x:Operand}{d:DV}{u:Value}(ht:Bn t)(hx:evD lk x=some d)(hd: ∀G y,Is G d y->y=u):bm prog GB C n lk bk ⟨dst, .makeInterface t x,ty,pos,af,gd⟩ (.d (.v (.iface t u))) [] []:=
 bm.yd fun ρ G ov a w r=>by
  obtain⟨y,hy,hy'⟩:=r.evD hx;obtain rfl:=hd G y hy';refine⟨_,(bc (G:=G)).2 J,fun a' w' hf _=>?_⟩;refine cv (f:=Next.value) ?_;rw[aP hf hy];exact ht _ _
def LO{x:Operand}{m:String}{args:Array Operand}{tys:Array TypeId}{t:TypeId}{u:Value}{f:FuncId}{vs:List Value}{fr:Fr}{a:Act}{w:World}(hf:iE fr a)(hx:az fr x=some (.iface t u))(hv:fI fr args.toList=some vs)(hm:vE t u m f)(hc:kO prog f):
  (execOp a.eval ⟨dst, .call ⟨.invoke x m,args,tys⟩,ty,pos,af,gd⟩).run prog w= .ok (.enter f ⟨u::vs⟩) w:=by
 have e:args.map a.eval=⟨vs⟩:=by apply Array.ext';simpa using yj hf hv
 simp only[execOp,resolve,aP hf hx,e];show(invoke (.fn (.method m) #[]) (#[.iface t u]++⟨vs⟩)).run prog w=_;simp only[invoke];have h0:(#[Value.iface t u]++(⟨vs⟩:Array Value))[0]? =some (.iface t u):=by simp
 have h1:(#[Value.iface t u]++(⟨vs⟩:Array Value)).extract 1 (#[Value.iface t u]++(⟨vs⟩:Array Value)).size=⟨vs⟩:=by
  apply Array.ext';simp
 rw[h0,h1];show(callMethod (.iface t u) m ⟨vs⟩).run prog w=_;unfold callMethod;show((do
  let p<-program
  let(g,receiver)<-method (p.types.size+Made.depth) t u m
  callFunc g (#[receiver]++⟨vs⟩)):Sem Next).run prog w=_
 rw[aE (a:=prog) (w':=w) J,aE (hm w)];show(callFunc f (#[u]++⟨vs⟩)).run prog w=_;rw[xg hc];simp
def Lj{x:Operand}{m:String}{args:Array Operand}{tys:Array TypeId}{t:TypeId}{u:Value}{f:FuncId}{ds:List DV}{rv:DV}(hx:aC lk x=some (.d (.v (.iface t u))))(ha:evDs lk args.toList=some ds)(hm:vE t u m f)(hF:PF GB prog f (.v u::ds) rv):
  bm prog GB C n lk bk ⟨dst, .call ⟨.invoke x m,args,tys⟩,ty,pos,af,gd⟩ (.d rv) [] []:=by
 intro hd tl tb K' s1 s2 hf hk;refine⟨fun ρ G ov a w r Q=>?_⟩;obtain⟨y,hy,hy'⟩:=(r.mono s1 s2).ev hx;rw[(bc (G:=G)).1 hy'] at hy;obtain⟨vs,h3,h4⟩:=(r.mono s1 s2).evDs ha;have hFn:=hF G (u::vs) r.gb (.cons (bc.2 J) h4);have h2:=LO (dst:=dst) (ty:=ty) (pos:=pos) (af:=af) (gd:=gd) (tys:=tys) (w:=w) (co a) hy h3 hm hFn.able;simp only[Oper.wp,h2,Oper.upon];refine(hFn.run w r.h.sub).mono ?_;rintro e w' ⟨v,G',rfl,hh,hK⟩;have rl:eO C n (b9 a) ov G a w:=⟨r.h,r.sz,co a,r.df⟩;have rl2:=(rl.heap (rl.h.called hh)).put v hd;exact hk.run ρ G' ov _ w' ⟨r.gb.trans hh.gle,rl2.h,rl2.sz,rl2.df,(jv rl2).fx (fun k g _ e=>by obtain⟨z,h5,h6⟩:=r.fx k g e;exact⟨z,h5,h6.up hh.gle⟩) hK,
  fun nm B e=>by obtain⟨os,h5,h6⟩:=r.bx nm B e;exact⟨os,h5.up hh.gle,h6⟩,r.dj,r.fxd⟩
def KK(fr:ao)(cf:Cf):Option (TypeId×DV):=match bw fr cf with
 |some ⟨_, .makeInterface t x,_,_,_,_⟩=>match evD (ba fr cf) x with
  |some d=>some (t,d)
  |none=>none
 |_=>none
def R5[fu:Fu]{t:TypeId}{d:DV}(u:Value)(ha:KK fr cf=some (t,d))(ht:Bn t)(hd: ∀G y,Is G d y->y=u)(hgo:bG tt n fu.n fr own cf (.d (.v (.iface t u))) [] []=⟨vc,fr',own',cf'⟩)(k:ak prog GB C n Q0 fr' own' cf')
  (hv:ah vc:=by first|exact trivial|(simp only[ah];kernel_rfl)|(simp only[ah];omega)):ak prog GB C n Q0 fr own cf:=by
 unfold KK at ha;split at ha<;>try (cases ha;done)
 rename_i hh;split at ha<;>cases ha;rename_i hx;exact us hh (Ug ht hx hd) hgo hv k
def JA(fr:ao)(cf:Cf):Option (String×TypeId×Value×List DV):=match bw fr cf with
 |some ⟨_, .call ⟨.invoke x m,args,_⟩,_,_,_,_⟩=>match aC (ba fr cf) x with
  |some (.d (.v (.iface t u)))=>match evDs (ba fr cf) args.toList with
   |some ds=>some (m,t,u,ds)
   |none=>none
  |_=>none
 |_=>none
def Ul[fu:Fu]{m:String}{t:TypeId}{u:Value}{f:FuncId}{ds:List DV}{rv:DV}(ha:JA fr cf=some (m,t,u,ds))(hm:vE t u m f)(hF:PF GB prog f (.v u::ds) rv)(hgo:bG tt n fu.n fr own cf (.d rv) [] []=⟨vc,fr',own',cf'⟩)(k:ak prog GB C n Q0 fr' own' cf')
  (hv:ah vc:=by first|exact trivial|(simp only[ah];kernel_rfl)|(simp only[ah];omega)):ak prog GB C n Q0 fr own cf:=by
 unfold JA at ha;split at ha<;>try (cases ha;done)
 rename_i hh;split at ha<;>try (cases ha;done)
 rename_i hx;split at ha<;>cases ha;rename_i hds;exact us hh (Lj hx hds hm hF) hgo hv k
def PF.arg0{f:FuncId}{d e:DV}{ds:List DV}{rv:DV}(h:PF GB prog f (d::ds) rv)(he: ∀G y,Is G e y->Is G d y):PF GB prog f (e::ds) rv:=fun G vs hg hvs=>by
 obtain⟨y,m,rfl,h1,h2⟩:=bD.1 hvs;exact h G _ hg (.cons (he G y h1) h2)
end
section
variable {GB:Gh} {C:aA} {n:Nat} {Q0:Exit->Act->World->Prop} {fr fr':ao} {own own':aB} {cf cf':Cf} {vc:List Prop} {lk:LK} {bk:BM} {dst:Option Nat} {ty:TypeId} {pos:String} {af:Array Edge} {gd:Option (Nat×Bool)}
def uM(lk:LK):List Operand->Option (List Value)
 |[]=>some []
 |x::xs=>match aC lk x with
  |some (.d (.v pv))=>match uM lk xs with
   |some l=>some (pv::l)
   |none=>none
  |_=>none
def Au{ρ:NE}{G:Gh}{ov:List av}{a:Act}{w:World}(r:bj GB C n lk bk ρ G ov a w): ∀{xs:List Operand} {l:List Value},uM lk xs=some l->xs.mapM (az (b9 a))=some l
 |[],l,h=>by cases h;rfl
 |x::xs,l,h=>by
  simp only[uM] at h;split at h<;>try (cases h;done)
  rename_i h1;split at h<;>cases h;rename_i h2;obtain⟨y,h3,h4⟩:=r.ev h1;rw[(bc (G:=G)).1 h4] at h3;rw[nW,h3,Au r h2];rfl
def Du(fr:ao)(cf:Cf):Option (FuncId×List Value×List Value):=match bw fr cf with
 |some ⟨_, .makeFunc (.func f) ⟨xs⟩ ⟨ys⟩,_,_,_,_⟩=>match uM (ba fr cf) xs,uM (ba fr cf) ys with
  |some a,some b=>some (f,a,b)
  |_,_=>none
 |_=>none
def KA[fu:Fu]{f:FuncId}{c1 c2:List Value}(h:Du fr cf=some (f,c1,c2))(hgo:bG tt n fu.n fr own cf (.d (.v (.func (.func f) ⟨c1⟩ ⟨c2⟩))) [] []=⟨vc,fr',own',cf'⟩)(k:ak prog GB C n Q0 fr' own' cf')
  (hv:ah vc:=by first|exact trivial|(simp only[ah];kernel_rfl)|(simp only[ah];omega)):ak prog GB C n Q0 fr own cf:=by
 unfold Du at h;split at h<;>try (cases h;done)
 rename_i hh;split at h<;>cases h;rename_i h1 h2;exact us hh (bm.yd (f:= .d (.v (.func (.func f) ⟨c1⟩ ⟨c2⟩))) fun ρ G ov a w r=>⟨_,(bc (G:=G)).2 J,CT (Au r h1) (Au r h2)⟩) hgo hv k
def GM(fr:ao)(cf:Cf):Option (FuncId×DV):=match bw fr cf with
 |some ⟨_, .makeFunc (.func f) ⟨[x]⟩ ⟨[]⟩,_,_,_,_⟩=>match evD (ba fr cf) x with
  |some d=>some (f,d)
  |_=>none
 |_=>none
def s4[fu:Fu]{f:FuncId}{d:DV}(pv:Value)(h:GM fr cf=some (f,d))(hd: ∀G y,Is G d y->y=pv)(hgo:bG tt n fu.n fr own cf (.d (.v (.func (.func f) ⟨[pv]⟩ ⟨[]⟩))) [] []=⟨vc,fr',own',cf'⟩)(k:ak prog GB C n Q0 fr' own' cf')
  (hv:ah vc:=by first|exact trivial|(simp only[ah];kernel_rfl)|(simp only[ah];omega)):ak prog GB C n Q0 fr own cf:=by
 unfold GM at h;split at h<;>try (cases h;done)
 rename_i hh;split at h<;>cases h;rename_i hx;exact us hh (bm.yd (f:= .d (.v (.func (.func f) ⟨[pv]⟩ ⟨[]⟩))) fun ρ G ov a w r=>by
  obtain⟨y,hy,hy'⟩:=r.evD hx;obtain rfl:=hd G y hy';exact⟨_,(bc (G:=G)).2 J,CT (l1:=[y]) (l2:=[]) (by simp[hy]) J⟩) hgo hv k
def Ov{fo:Operand}{args:Array Operand}{tys:Array TypeId}{f:FuncId}{c1 c2:List Value}{ds1 ds ds2:List DV}{rv:DV}(h1:aC lk fo=some (.d (.v (.func (.func f) ⟨c1⟩ ⟨c2⟩))))(h2:evDs lk args.toList=some ds)(hc:IsLs GB ds1 c1)(hc2:IsLs GB ds2 c2)(hF:PF GB prog f (ds1++ds++ds2) rv):
  bm prog GB C n lk bk ⟨dst, .call ⟨.value fo,args,tys⟩,ty,pos,af,gd⟩ (.d rv) [] []:=by
 intro hd tl tb K' s1 s2 hf hk;refine⟨fun ρ G ov a w r Q=>?_⟩;obtain⟨y,hy,hy'⟩:=(r.mono s1 s2).ev h1;rw[(bc (G:=G)).1 hy'] at hy;obtain⟨vs,h3,h4⟩:=(r.mono s1 s2).evDs h2;refine Gf (c1:=c1) (c2:=c2) hy h3 (hF G (c1++vs++c2) r.gb (((hc.up r.gb).app h4).app (hc2.up r.gb))) hd (fun v G' hG hK a' w' rl=>?_) a w Q ⟨r.h,r.sz,co a,r.df⟩;exact hk.run ρ G' ov a' w' ⟨r.gb.trans hG.le,rl.h,rl.sz,rl.df,(jv rl).fx (fun k g _ e=>by obtain⟨u,h5,h6⟩:=r.fx k g e;exact⟨u,h5,h6.up hG.le⟩) hK,
  fun nm B e=>by obtain⟨os,h5,h6⟩:=r.bx nm B e;exact⟨os,h5.up hG.le,h6⟩,r.dj,r.fxd⟩
def HL(fr:ao)(cf:Cf):Option (FuncId×List Value×List Value×List DV):=match bw fr cf with
 |some ⟨_, .call ⟨.value fo,args,_⟩,_,_,_,_⟩=>match aC (ba fr cf) fo,evDs (ba fr cf) args.toList with
  |some (.d (.v (.func (.func f) ⟨c1⟩ ⟨c2⟩))),some ds=>some (f,c1,c2,ds)
  |_,_=>none
 |_=>none
def qm[fu:Fu]{f:FuncId}{c1 c2:List Value}{ds ds1 ds2:List DV}{rv:DV}(ha:HL fr cf=some (f,c1,c2,ds))(hc:IsLs GB ds1 c1)(hc2:IsLs GB ds2 c2)(hF:PF GB prog f (ds1++ds++ds2) rv)(hgo:bG tt n fu.n fr own cf (.d rv) [] []=⟨vc,fr',own',cf'⟩)(k:ak prog GB C n Q0 fr' own' cf')
  (hv:ah vc:=by first|exact trivial|(simp only[ah];kernel_rfl)|(simp only[ah];omega)):ak prog GB C n Q0 fr own cf:=by
 unfold HL at ha;split at ha<;>try (cases ha;done)
 rename_i hh;split at ha<;>cases ha;rename_i h1 h2;exact us hh (Ov h1 h2 hc hc2 hF) hgo hv k
end
section
variable {GB:Gh} {C:aA} {n:Nat} {Q0:Exit->Act->World->Prop} {fr fr':ao} {own own':aB} {cf cf':Cf} {vc:List Prop}
def En(fr:ao)(cf:Cf):Option (Int×Int):=match bw fr cf with
 |some ⟨_, .binOp .xor _ x y _,_,_,_,_⟩=>match aC (ba fr cf) x,aC (ba fr cf) y with
  |some (.d (.v (.int .u32 p))),some (.d (.v (.int .u32 q)))=>some (p,q)
  |_,_=>none
 |_=>none
def xr[fu:Fu]{p q:Int}(u:Int)(h:En fr cf=some (p,q))(e:(((BitVec.ofInt 32 p^^^BitVec.ofInt 32 q).toNat:Nat):Int)=u)(hgo:bG tt n fu.n fr own cf (.d (.v (.int .u32 u))) [] []=⟨vc,fr',own',cf'⟩)(k:ak prog GB C n Q0 fr' own' cf')
  (hv:ah vc:=by first|exact trivial|(simp only[ah];kernel_rfl)|(simp only[ah];omega)):ak prog GB C n Q0 fr own cf:=by
 unfold En at h;split at h<;>try (cases h;done)
 rename_i hh;split at h<;>cases h;rename_i h1 h2;subst e;exact us hh (.yd fun ρ G ov a w r=>by
  obtain⟨y1,h3,h4⟩:=r.ev h1;obtain⟨y2,h5,h6⟩:=r.ev h2;rw[cj] at h4 h6;subst h4 h6;exact⟨_,cj.2 J,fm h3 h5 fun w=>by
   show(pure (Value.int .u32 (IntKind.u32.wrap ((BitVec.ofInt 32 p^^^BitVec.ofInt 32 q).toNat:Int))):Sem Value).run prog w=_;rw[xJ];rfl⟩) hgo hv k
def D6(fr:ao)(cf:Cf):Option (Int×Int):=match bw fr cf with
 |some ⟨_, .binOp .sub _ x y _,_,_,_,_⟩=>match aC (ba fr cf) x,aC (ba fr cf) y with
  |some (.d (.v (.int .u32 p))),some (.d (.v (.int .u32 q)))=>some (p,q)
  |_,_=>none
 |_=>none
def sw[fu:Fu]{p q:Int}(u:Int)(h:D6 fr cf=some (p,q))(e:(p-q)%4294967296=u)(hgo:bG tt n fu.n fr own cf (.d (.v (.int .u32 u))) [] []=⟨vc,fr',own',cf'⟩)(k:ak prog GB C n Q0 fr' own' cf')
  (hv:ah vc:=by first|exact trivial|(simp only[ah];kernel_rfl)|(simp only[ah];omega)):ak prog GB C n Q0 fr own cf:=by
 unfold D6 at h;split at h<;>try (cases h;done)
 rename_i hh;split at h<;>cases h;rename_i h1 h2;subst e;exact us hh (.yd fun ρ G ov a w r=>by
  obtain⟨y1,h3,h4⟩:=r.ev h1;obtain⟨y2,h5,h6⟩:=r.ev h2;rw[cj] at h4 h6;subst h4 h6;exact⟨_,cj.2 J,by rw[<-mi];exact rF h3 h5⟩) hgo hv k
def Gj(fr:ao)(cf:Cf):Option Int:=match bw fr cf with
 |some ⟨_, .unOp .xor _ x,_,_,_,_⟩=>match aC (ba fr cf) x with
  |some (.d (.v (.int .u32 p)))=>some p
  |_=>none
 |_=>none
def nt[fu:Fu]{p:Int}(u:Int)(h:Gj fr cf=some p)(e:(((BitVec.ofInt 32 IntKind.u32.max^^^BitVec.ofInt 32 p).toNat:Nat):Int)=u)(hgo:bG tt n fu.n fr own cf (.d (.v (.int .u32 u))) [] []=⟨vc,fr',own',cf'⟩)(k:ak prog GB C n Q0 fr' own' cf')
  (hv:ah vc:=by first|exact trivial|(simp only[ah];kernel_rfl)|(simp only[ah];omega)):ak prog GB C n Q0 fr own cf:=by
 unfold Gj at h;split at h<;>try (cases h;done)
 rename_i hh;split at h<;>cases h;rename_i hx;subst e;refine us hh (.x1 hx fun ρ G ov a w y _ r h1 h2=>?_) hgo hv k;rw[cj] at h2;subst h2;refine⟨_,cj.2 J,fun a w hf hh=>?_⟩;simp only[execOp,aP hf h1];refine cv (w':=w) ?_;show(pure (Value.int .u32 (IntKind.u32.wrap ((BitVec.ofInt 32 IntKind.u32.max^^^BitVec.ofInt 32 p).toNat:Int))):Sem Value).run prog w=_;rw[xJ];rfl
end

def Pk{ds:List Nat}{k:Nat}(hk:k<ds.length)(h:trimD ds=trimD (ds.take (k+1)))(h0:ds.getD k 0=0):trimD ds=trimD (ds.take k):=by
 rw[h,dL hk];have:ds[k]=0:=by rw[aJ,aQ hk] at h0;simpa using h0
 rw[this,JX]
def Ng{ds:List Nat}{k:Nat}(hk:k<ds.length)(h:trimD ds=trimD (ds.take (k+1)))(h0:ds.getD k 0≠0):trimD ds=ds.take (k+1):=by
 rw[h,dL hk];have:ds[k]≠0:=by rw[aJ,aQ hk] at h0;simpa using h0
 exact yP this
def fG{A G:Gh}{x:SV}{ds:List Nat}(hx:bE A x ds)[GL A G](hb:ds.length<=1125899906842624):Fn prog 361 [x.v] G (fun v _=>v= .slice x.a (trimD ds).length x.c):=by
 have hlen:=hx.len;have hcap:=hx.sl.cap;refine Fn.intro func361 J J ntmps361 J ?_;intro C _ _;refine sR<|sa J J<|zE<|bu<|dE<|?_;refine je (X:=Nat) (fun k=>[(0, .slice x.a k x.c)]) (fun _=>[]) (fun k _=>k<=ds.length/\trimD ds=trimD (ds.take k)) (fun k=>k) ds.length ⟨aS _,by simp⟩ (hlen▸ .cons J .nil) J ?_;rintro k Gx _ ⟨hk,ht⟩;refine bu<|sR<|sm J J<|cg J J<|sy (rA J J) J<|sm J J<|?_;refine wi 6 J (fun hg=>?_) (fun hg=>?_)
 ·have hk1:k-1<ds.length:=by omega
  have hkt:((k:Int)-1).toNat=k-1:=by omega
  have hk2:k=k-1+1:=by omega
  refine d8 J J (jF J) J<|d8 J J (jF J) J<|d8 J J (pH J) J<|d8 J J (gt J J) J<|?_;refine d8 J J (fe (z:=⟨x.a,k,x.c⟩) (hx.take k hk) J J (by omega) (by show _<(k:Int);omega)) J<|d8 J J (fi hx J (by omega)) J<|d8 J J (nn J J) J<|sy (tI J J) J<|zE<|?_;rw[hkt];refine ji J (fun hc=>?_) (fun hc=>?_) -- slot 14
  ·refine gn<|du<|du<|gm<|sR<|sm J J<|sa J J<|zE<|dP<|?_
   have hs:=Ng hk1 (hk2▸ht) (fun e=>hc (by rw[e];rfl));refine zD (.tmp J .nil) ?_;rw[hs,<-hk2];simp[eE,hk]
  refine zK<|dE<|cI<|sm J J<|sm J J<|cg J J<|sy (gt J J) J<|sy (vr J J (by omega) (by omega)) J<|?_;refine sa J J<|zE<|?_;exact f7 (k-1) ⟨by omega,Pk hk1 (hk2▸ht) (by omega)⟩ (by omega) (.cons (by rw[<-hkt];rfl) .nil) J
 refine ss J J J J<|ss J J J J<|ss J J J J<|ss J J J J<|ss J J J J<|ss J J J J<|?_;refine ss J J J J<|sy (ux J J) J<|zE<|UG J<|gn<|du<|du<|gm<|sR<|sm J J<|sa J J<|zE<|dP<|?_;have hk0:k=0:=by omega
 subst hk0;refine zD (.tmp J .nil) ?_;rw[ht];rfl
def Qn{A G:Gh}{x:SV}{ds:List Nat}(hx:bE A x ds)[GL A G](hb:ds.length<=1125899906842624):Fn prog 348 [x.v] G (fun v _=>v= .bool (decide (c8 ds))):=by
 have hlen:=hx.len;refine Fn.intro func348 J J ntmps348 J ?_;intro C _ _;refine sR<|sa J J<|zE<|sR<|sm J J<|cg J J<|sy (nn J J) J<|sm J J<|?_;refine wi 6 J (fun hg=>?_) (fun hg=>?_)
 ·refine ss J J J J<|ss J J J J<|ss J J J J<|ss J J J J<|ss J J J J<|ss J J J J<|ss J J J J<|sy (tI J J) J<|sa J J<|?_
  refine zE<|dP<|?_;refine zD (.tmp J .nil) ?_;have:ds=[]:=bM (by omega);subst this;simp[eE,c8]
 have hne:0<ds.length:=by omega
 have hkt:((x.n:Int)-1).toNat=ds.length-1:=by omega
 refine d8 J J (jF J) J<|d8 J J (jF J) J<|d8 J J (pH J) J<|d8 J J (gt J J) J<|d8 J J (fe hx J J (by omega) (by omega)) J<|?_;refine d8 J J (fi hx J (by omega)) J<|d8 J J (rL J J) J<|sy (ux J J) J<|sa J J<|zE<|dP<|?_;refine zD (.tmp J .nil) ?_;rw[hkt];simp only[eE,Value.bool.injEq,decide_eq_decide,c8,lW,aJ,aQ (show ds.length-1<ds.length by omega),gU,ne_eq,Option.some.injEq];exact not_congr (by omega)
def OX(ds:List Nat): ∀v∈ds.map dI,flat v=true:=fun v hv=>by
 obtain⟨d,_,rfl⟩:=bY.1 hv;rfl
def Ig{A G:Gh}{x:SV}{ds:List Nat}(hx:bE A x ds)[GL A G](hb:ds.length<=1125899906842):Fn prog 365 [x.v] G (fun v G'=> ∃z:SV,v=z.v/\bE G' z ds):=by
 have hlen:=hx.len;refine Fn.intro func365 J J ntmps365 J ?_;intro C _ _;refine sR<|sa J J<|zE<|bu<|sR<|sm J J<|sy (Dt J J) J<|zE<|?_;refine TN J (fun hc=>?_) (fun hc=>?_)
 ·refine sR<|sa J J<|zE<|dP<|?_
  refine zD (.tmp J .nil) ⟨⟨none,0,0⟩,J,?_⟩;rcases hx.sl.mem with h|⟨b,off,cs,ha,_⟩
  ·have:ds=[]:=by simpa using h
   subst this;exact .nil _
  ·rw[ha] at hc;cases hc
 refine zK<|sR<|?_;refine sc (FI J ?_);intro b1;refine sm J J<|?_;refine sc (Hu (xs:=[]) (rest:=[]) (ys:=ds.map dI) J J (.hd ..) J J (aS _) (FF hx) (by simp[hlen]) (OX ds) (by decide) (by omega) J J ?_);intro b cap rest h1 h2;refine sa J J<|zE<|nC b (.hd ..) (fun G' _ hgb=>?_);refine dP<|?_;refine zD (.tmp J .nil) ⟨⟨some ⟨b,0,none⟩,x.n,cap⟩,by simp[eE,SV.v],?_⟩;exact .of_block hx.ok hgb.h hlen (by omega) (by simp)
def BX{A G:Gh}{x:SV}{ds:List Nat}{k:Nat}(hx:bE A x ds)[GL A G](hk:dv ds<2^k)(hb:ds.length<=1125899906842):Fn prog 308 [x.v] G (fun v G'=> ∃z:SV,v=z.v/\ee k G' z (dv ds)):=by
 have htl:=kp ds;refine Fn.intro func308 J J ntmps308 J ?_;intro C _ _;refine sR<|sa J J<|zE<|sR<|sm J J<|?_;refine sc (zC J J (fG hx (by omega)) J ?_);rintro _ G1 _ rfl;refine sc (zC J J (Ig hx.trim (by omega)) J ?_);rintro _ G2 _ ⟨z,rfl,hz⟩;refine sa J J<|zE<|dP<|?_;refine zD (.tmp J .nil) ⟨z,J,?_⟩;exact⟨by rw[lm hx.ok];exact hz,hk⟩
end Go.Sx
end
section
namespace Go.Proofs
open Go.Shelf
def Tryz.lays128_ren:Go.Shelf.Ren:=⟨fun|128=>332|n=>n,fun|51=>366|3=>3|4=>4|46=>355|5=>5|9=>9|n=>n,fun|n=>n⟩
def Tryz.lays125_ren:Go.Shelf.Ren:=⟨fun|125=>231|128=>332|129=>333|n=>n,fun|46=>355|3=>3|51=>366|53=>251|4=>4|5=>5|9=>9|n=>n,fun|n=>n⟩
def Tryz.lays133_ren:Go.Shelf.Ren:=⟨fun|133=>366|128=>332|n=>n,fun|51=>366|3=>3|4=>4|46=>355|5=>5|9=>9|n=>n,fun|n=>n⟩
def Tryz.lays133:Go.Proofs.Lays.n133 Tryz.prog Tryz.lays133_ren:={
 mixed:=by kernel_rfl
 f128:=Tryz.func332.trans (congrArg some (by kernel_rfl))
 f133:=Tryz.func366.trans (congrArg some (by kernel_rfl))
 t3:=Tryz.underlying3
 a3:=Tryz.isAgg3
 z3:=Tryz.sizeOf3
 v3:=Tryz.zeroValue3
 t4:=Tryz.underlying4
 a4:=Tryz.isAgg4
 z4:=Tryz.sizeOf4
 v4:=Tryz.zeroValue4
 t5:=Tryz.underlying5
 a5:=Tryz.isAgg5
 z5:=Tryz.sizeOf5
 v5:=Tryz.zeroValue5
 t9:=Tryz.underlying9
 a9:=Tryz.isAgg9
 z9:=Tryz.sizeOf9
 v9:=Tryz.zeroValue9
 t46:=Tryz.underlying355
 a46:=Tryz.isAgg355
 z46:=Tryz.sizeOf355
 v46:=Tryz.zeroValue355
 t51:=Tryz.underlying366
 a51:=Tryz.isAgg366
 z51:=Tryz.sizeOf366
 v51:=Tryz.zeroValue366}
def Tryz.bits_LeadingZeros32(x:Int)(w:World)(h0:0<=x)(h1:x<=4294967295):
  Calls Tryz.prog 366 #[.int .u32 x] w fun e w'=>e= .returned (.int .i64 (32-(Lib.bitLen x.toNat:Int)))/\w'=w:=Any.bits_LeadingZeros32 Tryz.lays133 x w h0 h1
def Tryz.lays129_ren:Go.Shelf.Ren:=⟨fun|129=>333|n=>n,fun|53=>251|3=>3|4=>4|46=>355|5=>5|9=>9|n=>n,fun|n=>n⟩
def Tryz.lays317_ren:Go.Shelf.Ren:=⟨fun|317=>401|n=>n,fun|3=>3|46=>355|n=>n,fun|n=>n⟩
open Go.Lib in
def Tryz.lays318_ren:Go.Shelf.Ren:=⟨fun|318=>402|n=>n,fun|3=>3|4=>4|n=>n,fun|n=>n⟩
open Go.Lib in
def Tryz.lays283_ren:Go.Shelf.Ren:=⟨fun|283=>383|n=>n,fun|3=>3|9=>9|4=>4|n=>n,fun|n=>n⟩
open Go.Lib in
def Tryz.laysM284_ren:Go.Shelf.Ren:=⟨fun|284=>384|129=>333|317=>401|318=>402|n=>n,fun|53=>251|3=>3|212=>491|0=>0|4=>4|46=>355|5=>5|9=>9|n=>n,fun|17=>7|n=>n⟩
open Go.Lib in
def Tryz.lays285_ren:Go.Shelf.Ren:=⟨fun|285=>385|n=>n,fun|37=>476|53=>251|3=>3|4=>4|51=>366|9=>9|5=>5|0=>0|n=>n,fun|n=>n⟩
open Go.RowKit Go.Sort Go.Lib in
def Tryz.laysM246_ren:Go.Shelf.Ren:=⟨fun|246=>357|283=>383|284=>384|285=>385|286=>386|129=>333|317=>401|318=>402|319=>403|320=>404|337=>408|338=>409|n=>n,fun|2=>2|3=>3|9=>9|4=>4|171=>474|0=>0|53=>251|37=>476|5=>5|173=>477|212=>491|51=>366|20=>20|213=>492|46=>355|232=>497|233=>498|n=>n,fun|17=>7|18=>8|19=>9|n=>n⟩
open Go.RowKit Go.Sort Go.Lib in
def Tryz.lays246_ren:Go.Shelf.Ren:=⟨fun|246=>357|283=>383|284=>384|285=>385|286=>386|129=>333|317=>401|318=>402|319=>403|320=>404|337=>408|338=>409|n=>n,fun|2=>2|3=>3|9=>9|4=>4|171=>474|0=>0|53=>251|37=>476|5=>5|173=>477|212=>491|51=>366|20=>20|213=>492|46=>355|232=>497|233=>498|n=>n,fun|17=>7|18=>8|19=>9|n=>n⟩
open Go.RowKit Go.Sort Go.Lib in
def Tryz.laysM243_ren:Go.Shelf.Ren:=⟨fun|243=>285|246=>357|283=>383|284=>384|285=>385|286=>386|129=>333|317=>401|318=>402|319=>403|320=>404|337=>408|338=>409|n=>n,fun|3=>3|9=>9|2=>2|4=>4|171=>474|0=>0|53=>251|37=>476|5=>5|173=>477|212=>491|51=>366|20=>20|213=>492|46=>355|232=>497|233=>498|n=>n,fun|17=>7|18=>8|19=>9|n=>n⟩
open Go.RowKit Go.Sort Go.Lib in
def Tryz.lays243_ren:Go.Shelf.Ren:=⟨fun|243=>285|246=>357|283=>383|284=>384|285=>385|286=>386|129=>333|317=>401|318=>402|319=>403|320=>404|337=>408|338=>409|n=>n,fun|3=>3|9=>9|2=>2|4=>4|171=>474|0=>0|53=>251|37=>476|5=>5|173=>477|212=>491|51=>366|20=>20|213=>492|46=>355|232=>497|233=>498|n=>n,fun|17=>7|18=>8|19=>9|n=>n⟩
open Go.RowKit Go.Sort Go.Lib in
def Tryz.laysM171_ren:Go.Shelf.Ren:=⟨fun|171=>190|243=>285|246=>357|283=>383|284=>384|285=>385|286=>386|129=>333|317=>401|318=>402|319=>403|320=>404|337=>408|338=>409|n=>n,fun|3=>3|9=>9|2=>2|4=>4|171=>474|0=>0|53=>251|37=>476|5=>5|173=>477|212=>491|51=>366|20=>20|213=>492|46=>355|232=>497|233=>498|n=>n,fun|17=>7|18=>8|19=>9|n=>n⟩
open Go.RowKit Go.Sort Go.Lib in
def Tryz.lays171_ren:Go.Shelf.Ren:=⟨fun|171=>190|243=>285|246=>357|283=>383|284=>384|285=>385|286=>386|129=>333|317=>401|318=>402|319=>403|320=>404|337=>408|338=>409|n=>n,fun|3=>3|9=>9|2=>2|4=>4|171=>474|0=>0|53=>251|37=>476|5=>5|173=>477|212=>491|51=>366|20=>20|213=>492|46=>355|232=>497|233=>498|n=>n,fun|17=>7|18=>8|19=>9|n=>n⟩
open Go.RowKit Go.Sort Go.Lib in
def Tryz.lays264_ren:Go.Shelf.Ren:=⟨fun|264=>359|n=>n,fun|53=>251|46=>355|n=>n,fun|n=>n⟩
def Tryz.lays264:Go.Proofs.Lays.n264 Tryz.prog Tryz.lays264_ren:={
 mixed:=by kernel_rfl
 f264:=Tryz.func359.trans (congrArg some (by kernel_rfl))
 t46:=Tryz.underlying355
 a46:=Tryz.isAgg355
 z46:=Tryz.sizeOf355
 v46:=Tryz.zeroValue355
 t53:=Tryz.underlying251
 a53:=Tryz.isAgg251
 z53:=Tryz.sizeOf251
 v53:=Tryz.zeroValue251}
open Go.RowKit Go.Lib in
def Tryz.bits_Mul64(x y:Nat)(hx:x<18446744073709551616)(hy:y<18446744073709551616)(w:World):
  Calls Tryz.prog 359 #[.int .u64 x, .int .u64 y] w fun e w'=>e= .returned (.tuple #[.int .u64 ((x*y/18446744073709551616:Nat):Int), .int .u64 ((x*y%18446744073709551616:Nat):Int)])/\w'=w:=Any.bits_Mul64 Tryz.lays264 x y hx hy w
end Go.Proofs
end
section
namespace Go.Sx
open Go Go.Proofs Tryz
def bl(x:Nat):Nat:=if x=0 then 0 else Nat.log2 x+1
def xu(x:Nat):x<2^bl x:=by
 unfold bl;split
 ·rename_i h;subst h;decide
 ·exact Nat.lt_log2_self
def kv{x k:Nat}:bl x<=k↔x<2^k:=by
 constructor
 ·intro h;exact cS (xu x) (aM (by omega) h)
 ·intro h
  unfold bl;split
  ·omega
  ·rename_i h0
   have:=(Nat.log2_lt h0).2 h;omega
def Q8{x:Nat}(h:x≠0):bl x=1+bl (x/2):=by
 have h1: ∀k,bl x<=k+1↔bl (x/2)<=k:=fun k=>by
  rw[kv,kv,eX];omega
 have h2:bl x≠0:=fun e=>by
  have:=xu x;rw[e] at this;simp at this;exact h this
 have h3:=(h1 (bl (x/2))).2 (aS _);have h4:=(h1 (bl x-1)).1 (by omega);omega
def Jf: ∀(f x:Nat),x<2^f->Lib.bitLenAux f x=bl x
 |0,x,h=>by
  have:x=0:=by simpa using h
  subst this;rfl
 |f+1,x,h=>by
  unfold Lib.bitLenAux;split
  ·rename_i h0;subst h0;rfl
  ·rename_i h0
   rw[Jf f (x/2) (by rw[eX] at h;omega),Q8 h0]
def Vk{x:Nat}(h:x<2^64):Lib.bitLen x=bl x:=Jf 64 x h
def SS{x k:Nat}(d:Nat)(h:x<2^k)(hd:d≠0):bl (x+2^k*d)=k+bl d:=by
 have h1: ∀j,bl (x+2^k*d)<=k+j↔bl d<=j:=fun j=>by
  rw[kv,kv,dJ];constructor
  ·intro h'
   exact Nat.lt_of_mul_lt_mul_left (a:=2^k) (by omega)
  ·intro h'
   have:2^k*(d+1)<=2^k*2^j:=dY _ h';rw[cY] at this;omega
 have h2:k<bl (x+2^k*d):=by
  rcases fS k (bl (x+2^k*d)) with h'|h'
  ·exact h'
  ·have:=kv.1 h'
   have h3:2^k*1<=2^k*d:=dY _ (by omega);omega
 have h3:=(h1 (bl d)).2 (aS _);have h4:=(h1 (bl (x+2^k*d)-k)).1 (by omega);omega
def Ol{ds:List Nat}(h:aO ds)(hn:c8 ds)(hne:ds≠[]):bl (dv ds)=32*(ds.length-1)+bl (ds.getD (ds.length-1) 0):=by
 rcases pW ds with rfl|⟨l,d,rfl⟩
 ·exact absurd J hne
 ·rw[pY] at*
  have hd:d≠0:=fun e=>by subst e;simp[c8] at hn
  have hl:aO l:=fun x hx=>h x (cW _ hx);have h1:=gq hl;rw[s9];have h2:(4294967296:Nat)^l.length=2^(32*l.length):=by rw[nY]
  rw[h2] at h1⊢;have h3:dv [d]=d:=by simp[dv]
  rw[h3,SS d h1 hd];have h4:(l++[d]).length-1=l.length:=by simp
  rw[h4,aJ,fY (aS _)];simp
def Ez{P:Program}{f:FuncId}{fn:Func}{c:Code}(h:P.funcs[f]? =some fn)(hb:fn.body=some c)(hn:(fn.name== "runtime.NumGoroutine")=false):kO P f:=⟨fn,h,hn,by rw[hb];rfl⟩
def Dg{G:Gh}{x:Nat}(hx:x<4294967296):Fn prog 366 [.int .u32 (x:Int)] G (fun v _=>v= .int .i64 (32-(bl x:Int))):=by
 have h:=Fn.of_calls (G:=G) (Ez func366 J J) (fun w=>Tryz.bits_LeadingZeros32 (x:Int) w (by omega) (by omega));rw[bT,Vk (nM hx (by decide))] at h;exact h
def A6{G:Gh}{u:Nat}(hu:u<18446744073709551616):Fn prog 309 [.int .u64 (u:Int)] G (fun v G'=> ∃z:SV,v=z.v/\ee 64 G' z u):=by
 refine Fn.intro func309 J J ntmps309 J ?_;intro C _ _;refine sR<|sa J J<|zE<|sR<|sm J J<|sy (gG J) J<|sm J J<|?_;refine sy (jx J J (by decide)) J<|sy (gG J) J<|?_;refine sc (BE (by rfl) (by rfl) (by rfl) (by rfl) J ?_);intro b1;refine nC b1 (.hd ..) (fun G1 _ hgb=>?_);have h1:((u:Int)%4294967296)=((u%4294967296:Nat):Int):=by omega
 have h2:((u:Int).fdiv (2^min (32:Int).toNat IntKind.u64.bits)%4294967296)=((u/4294967296:Nat):Int):=by
  have:(2^min (32:Int).toNat IntKind.u64.bits:Int)=4294967296:=by decide
  rw[this,fU _ (by omega)];omega
 have hok:aO [u%4294967296,u/4294967296]:= .cons (by omega) (.cons (by omega) .nil);have hd:bE G1 ⟨some ⟨b1,0,none⟩,2,2⟩ [u%4294967296,u/4294967296]:= .of_block hok hgb.h J (aS _) (by rw[h1,h2];rfl);have hv:dv [u%4294967296,u/4294967296]=u:=by simp only[dv];omega
 refine sc (zC J J (fG hd (by simp)) J ?_);rintro _ G2 _ rfl;refine sa J J<|zE<|dP<|?_;refine zD (.tmp J .nil) ⟨⟨some ⟨b1,0,none⟩,(trimD [u%4294967296,u/4294967296]).length,2⟩,J,?_⟩;have:=hd.trim.up (G:=G2);rw[<-lm hok,hv] at this;exact⟨by rw[<-lm hok,hv];exact this,cS hu (by decide)⟩
def Jm{P:Program}{t:TypeId}(a b k:Nat)(ha:a<2^k)(h:a+b*2^k<18446744073709551616)(w:World):(binOp .or t (.int .u64 (a:Int)) (.int .u64 ((b*2^k:Nat):Int))).run P w= .ok (.int .u64 ((a+b*2^k:Nat):Int)) w:=by
 have h1:(BitVec.ofInt 64 (a:Int) ||| BitVec.ofInt 64 ((b*2^k:Nat):Int)).toNat=a+b*2^k:=by
  rw[BitVec.toNat_or,BitVec.ofInt_natCast,BitVec.ofInt_natCast,BitVec.toNat_ofNat,BitVec.toNat_ofNat,dR (by omega),dR (by omega)];rw[<-jN,Nat.or_comm,<-kV ha,jN];omega
 have h2:IntKind.u64.wrap ((a+b*2^k:Nat):Int)=((a+b*2^k:Nat):Int):=by rw[kj];omega
 simp only[binOp];show(Op.intBits .or .u64 (a:Int) ((b*2^k:Nat):Int)).run P w=_;unfold Op.intBits;show(pure (Value.int .u64 (IntKind.u64.wrap ((BitVec.ofInt 64 (a:Int) ||| BitVec.ofInt 64 ((b*2^k:Nat):Int)).toNat:Int))):Sem Value).run P w=_;rw[h1,h2,run_pure]
def Bc{A G:Gh}{x:SV}{ds:List Nat}(hx:bE A x ds)[GL A G](hb:ds.length<=1125899906842624):Fn prog 315 [x.v] G (fun v _=>v= .tuple #[.int .u64 ((if dv ds<18446744073709551616 then dv ds else 0:Nat):Int), .bool (decide (dv ds<18446744073709551616))]):=by
 have htl:=kp ds;have hdv:=gw ds;have hok:=hx.ok.trimD;have hnr:=c8.trimD ds;have hxt:=hx.trim;have hcall:=fun G1 (_:GL A G1)=>fG (G:=G1) hx (by omega);generalize trimD ds=es at*;have hlen:=hxt.len;rw[<-hdv];have hbig:(if dv es<18446744073709551616 then dv es else 0)=if es.length<=2 then dv es else 0:=by
  by_cases h2:es.length<=2
  ·have h3:=gq hok
   have h4:(4294967296:Nat)^es.length<=4294967296^2:=aM (by omega) h2;rw[if_pos h2,if_pos (by omega)]
  ·have h3:=ng hnr (fun e=>by subst e;simp at h2)
   have h4:(4294967296:Nat)^2<=4294967296^(es.length-1):=aM (by omega) (by omega);rw[if_neg h2,if_neg (by omega)]
 have hbig2:decide (dv es<18446744073709551616)=decide (es.length<=2):=by
  rw[decide_eq_decide];by_cases h2:es.length<=2
  ·have h3:=gq hok
   have h4:(4294967296:Nat)^es.length<=4294967296^2:=aM (by omega) h2;exact⟨fun _=>h2,fun _=>by omega⟩
  ·have h3:=ng hnr (fun e=>by subst e;simp at h2)
   have h4:(4294967296:Nat)^2<=4294967296^(es.length-1):=aM (by omega) (by omega);exact⟨fun _=>by omega,fun h=>absurd h h2⟩
 rw[hbig,hbig2];refine Fn.intro func315 J J ntmps315 J ?_;intro C _ _;refine sR<|sa J J<|sa J J<|zE<|sR<|sm J J<|?_;refine sc (zC J J (hcall _ inferInstance) J ?_);rintro _ G1 _ rfl;refine sa J J<|zE<|bu<|sR<|sm J J<|cg J J<|sy (rA J J) J<|zE<|?_;refine fB J (fun hc=>?_) (fun hc=>?_) -- slot 11
 ·refine sR<|sa J J<|sa J J<|zE<|dP<|?_
  refine zD (.tmp J (.tmp J .nil)) ?_;have: ¬es.length<=2:=by omega
  simp[eE,this]
 have h2:es.length<=2:=by omega
 refine zK<|sR<|sa J J<|zE<|bu<|sR<|sm J J<|cg J J<|sm J J<|zE<|dE<|?_;refine je (X:=Nat) (fun k=>[(14, .int .i64 k),(13, .int .i64 es.length),(12, .slice x.a es.length x.c),(4, .int .u64 ((dv (es.take k):Nat):Int))]) (fun _=>[]) (fun k _=>k<=es.length) (fun k=>es.length-k) 0 (bJ _) (.cons J (.cons J (.cons J (.cons J .nil)))) J ?_;rintro k Gx _ hk;refine sR<|sy (ie J J) J<|zE<|bu<|?_;refine ji J (fun hc=>?_) (fun hc=>?_) -- slot 15
 ·refine gn<|du<|du<|gm<|sR<|sm J J<|sa J J<|sa J J<|zE<|dP<|?_
  refine zD (.tmp J (.tmp J .nil)) ?_;have hk':k=es.length:=by omega
  subst hk';simp[eE,h2]
 have hk':k<es.length:=by omega
 have hdk:=hok.get k;have hdt:=gq (hok.take k);rw[bR,fV (by omega)] at hdt;have hds:=fP es k;have hd2:=gq (hok.take (k+1));rw[bR,fV (by omega)] at hd2;have hp2:(4294967296:Nat)^(k+1)<=4294967296^2:=aM (by omega) (by omega);have hpk:(4294967296:Nat)^k=2^(32*k):=by rw[nY]
 refine zK<|bu<|dE<|sR<|sm J J<|sy (fe (z:=⟨x.a,es.length,x.c⟩) hxt J J (by omega) (by show(k:Int)<(es.length:Nat);omega)) J<|sy (fi hxt J (by omega)) J<|sa J J<|sa J J<|zE<|cI<|?_;refine sm J J<|sm J J<|sy (ey J (by omega) (by rw[bT];omega)) J<|sm J J<|sy (HG J J (by omega) (by omega)) J<|?_;have hsh:IntKind.u64.wrap (((es.getD (k:Int).toNat 0:Nat):Int)*2^min ((32:Int)*(k:Int)).toNat IntKind.u64.bits)=((es.getD k 0*2^(32*k):Nat):Int):=by
  have e1:((32:Int)*(k:Int)).toNat=32*k:=by omega
  rw[e1,bT,fV (by show 32*k<=64;omega),kj];have e2:((es.getD k 0:Nat):Int)*2^(32*k)=((es.getD k 0*2^(32*k):Nat):Int):=by push_cast;rfl
  rw[e2];have e3:es.getD k 0*2^(32*k)<18446744073709551616:=by rw[<-hpk,bV];omega
  omega
 refine sy (q8 J J (by omega)) J<|?_;rw[hsh];refine sy (fm J J (Jm (dv (es.take k)) (es.getD k 0) (32*k) (by rw[<-hpk];exact hdt) (by rw[<-hpk,bV];omega))) J<|sa J J<|zE<|cI<|sy (dC J J) J<|sm J J<|zE<|?_;refine f7 (k+1) (by omega) (by omega) (.cons J (.cons J (.cons J (.cons ?_ .nil)))) J;rw[hds,hpk,bV (2^(32*k))];rfl
def Pr{A G:Gh}{x:SV}{ds:List Nat}(hx:bE A x ds)[GL A G](hb:ds.length<=1125899906842624):Fn prog 310 [x.v] G (fun v _=>v= .int .i64 ((bl (dv ds):Nat):Int)):=by
 have htl:=kp ds;have hdv:=gw ds;have hok:=hx.ok.trimD;have hnr:=c8.trimD ds;have hxt:=hx.trim;have hcall:=fun G1 (_:GL A G1)=>fG (G:=G1) hx (by omega);generalize trimD ds=es at*;have hlen:=hxt.len;rw[<-hdv];refine Fn.intro func310 J J ntmps310 J ?_;intro C _ _;refine sR<|sa J J<|zE<|sR<|sm J J<|?_;refine sc (zC J J (hcall _ inferInstance) J ?_);rintro _ G1 _ rfl;refine sa J J<|zE<|bu<|sR<|sm J J<|cg J J<|sy (nn J J) J<|zE<|?_;refine fB J (fun hc=>?_) (fun hc=>?_) -- slot 7
 ·refine sR<|sa J J<|zE<|dP<|?_
  refine zD (.tmp J .nil) ?_;have:es=[]:=bM (by omega);subst this;rfl
 have hne:0<es.length:=by omega
 have hkt:((es.length:Int)-1).toNat=es.length-1:=by omega
 have hg:=hok.get (es.length-1);have hbl:bl (es.getD (es.length-1) 0)<=32:=kv.2 (by omega);refine zK<|sR<|sm J J<|cg J J<|sy (HG J J (by omega) (by omega)) J<|sm J J<|sm J J<|cg J J<|sy (gt J J) J<|?_;refine sy (fe (z:=⟨x.a,es.length,x.c⟩) hxt J J (by omega) (by show _<((es.length:Nat):Int);omega)) J<|sy (fi hxt J (by omega)) J<|?_;rw[hkt];refine sc (zC J J (Dg hg) J ?_);rintro _ G2 _ rfl;refine sy (gt J J) J<|sa J J<|zE<|dP<|?_;refine zD (.tmp J .nil) ?_;rw[Ol hok hnr (fun e=>by subst e;simp at hne)];simp only[eE,Value.int.injEq,true_and];omega
def eu(a b:Nat):Int:=if a<b then-1 else if a=b then 0 else 1
def Fp{A B G:Gh}{x y:SV}{ds es:List Nat}(hx:bE A x ds)(hy:bE B y es)[GL A G][GL B G](hb:ds.length<=1125899906842624)(hb2:es.length<=1125899906842624):
  Fn prog 367 [x.v,y.v] G (fun v _=>v= .int .i64 (eu (dv ds) (dv es))):=by
 have htl:=kp ds;have htl2:=kp es;have hcall:=fun G1 (_:GL A G1)=>fG (G:=G1) hx (by omega);have hcall2:=fun G1 (_:GL B G1)=>fG (G:=G1) hy (by omega);have hxt:=hx.trim;have hyt:=hy.trim;have hok:=hx.ok.trimD;have hok2:=hy.ok.trimD;have hnr:=c8.trimD ds;have hnr2:=c8.trimD es;rw[<-gw ds,<-gw es];generalize trimD ds=a at*;generalize trimD es=b at*;refine Fn.intro func367 J J ntmps367 J ?_;intro C _ _;refine sR<|sa J J<|zE<|sR<|sm J J<|?_;refine sc (zC J J (hcall _ inferInstance) J ?_);rintro _ G1 _ rfl;refine sm J J<|?_;refine sc (zC J J (hcall2 _ inferInstance) J ?_);rintro _ G2 _ rfl;refine sa J J<|sa J J<|zE<|bu<|sR<|sm J J<|cg J J<|sm J J<|cg J J<|sy (rL J J) J<|zE<|?_;refine fB J (fun hc=>?_) (fun hc=>?_) -- slot 14
 ·refine bu<|sR<|sm J J<|cg J J<|sm J J<|cg J J<|sy (ie J J) J<|zE<|?_
  refine fB J (fun hc2=>?_) (fun hc2=>?_) -- slot 19
  ·refine sR<|sa J J<|zE<|dP<|?_
   refine zD (.tmp J .nil) ?_;have:=og hok hnr2 (by omega);simp[eE,eu,this]
  refine zK<|sR<|sa J J<|zE<|dP<|?_;refine zD (.tmp J .nil) ?_;have:=og hok2 hnr (by omega);have h1: ¬dv a<dv b:=by omega
  have h2: ¬dv a=dv b:=by omega
  simp[eE,eu,h1,h2]
 have hl:a.length=b.length:=by omega
 refine zK<|bu<|sR<|sm J J<|cg J J<|sy (gt J J) J<|sa J J<|zE<|dE<|?_;refine je (X:=Nat) (fun k=>[(5, .int .i64 (k-1)),(0, .slice x.a a.length x.c),(1, .slice y.a b.length y.c)]) (fun _=>[]) (fun k _=>k<=a.length/\a.drop k=b.drop k) (fun k=>k) a.length ⟨aS _,by rw[gR,hl,gR]⟩ (.cons J (.cons J (.cons J .nil))) J ?_;rintro k Gx _ ⟨hk,hd⟩;refine bu<|sR<|sm J J<|sy (vi J J) J<|zE<|?_;refine ji J (fun hc=>?_) (fun hc=>?_) -- slot 24
 ·refine gn<|du<|du<|gm<|sR<|sa J J<|zE<|dP<|?_
  refine zD (.tmp J .nil) ?_;have:k=0:=by omega
  subst this;have hab:a=b:=by simpa using hd
  subst hab;simp[eE,eu]
 have hk1:0<k:=by omega
 have hkt:((k:Int)-1).toNat=k-1:=by omega
 have hga:=hok.get (k-1);have hgb:=hok2.get (k-1);have hk2:k-1+1=k:=by omega
 refine zK<|bu<|dE<|dE<|bu<|dr (fun _=>false) [(0,true),(1,true),(2,true),(3,true),(4,true),(5,true),(6,true),(7,true),(8,true),(9,true)] follows (by kernel_rfl)<|?_;refine dM J J J<|dM J J J<|dy J (fun _=>fe (z:=⟨x.a,a.length,x.c⟩) hxt J J (by omega) (by show _<((a.length:Nat):Int);omega)) J J<|dy J (fun _=>fi hxt J (by omega)) J J<|?_;refine dM J J J<|dM J J J<|dy J (fun _=>fe (z:=⟨y.a,b.length,y.c⟩) hyt J J (by omega) (by show _<((b.length:Nat):Int);omega)) J J<|dy J (fun _=>fi hyt J (by omega)) J J<|?_;refine dy J (fun _=>ie J J) J J<|dA J J J<|dn<|?_;refine fB J (fun hc2=>?_) (fun hc2=>?_) -- slot 27
 ·refine sR<|sa J J<|zE<|dP<|?_
  refine zD (.tmp J .nil) ?_;rw[hkt] at hc2;have:=yt hok hok2 (k-1) (by omega) (by omega) hl (by rw[hk2];exact hd) (by omega);simp[eE,eu,this]
 refine bu<|dr (fun _=>false) [(0,true),(1,true),(2,true),(3,true),(4,true),(5,true),(6,true),(7,true),(8,true),(9,true)] follows (by kernel_rfl)<|dM J J J<|?_;refine dM J J J<|dy J (fun _=>fe (z:=⟨x.a,a.length,x.c⟩) hxt J J (by omega) (by show _<((a.length:Nat):Int);omega)) J J<|dy J (fun _=>fi hxt J (by omega)) J J<|dM J J J<|?_;refine dM J J J<|dy J (fun _=>fe (z:=⟨y.a,b.length,y.c⟩) hyt J J (by omega) (by show _<((b.length:Nat):Int);omega)) J J<|dy J (fun _=>fi hyt J (by omega)) J J<|dy J (fun _=>rA J J) J J<|?_;refine dA J J J<|dn<|?_;rw[hkt] at*;refine fB J (fun hc3=>?_) (fun hc3=>?_) -- slot 37
 ·refine sR<|sa J J<|zE<|dP<|?_
  refine zD (.tmp J .nil) ?_;have:=yt hok2 hok (k-1) (by omega) (by omega) hl.symm (by rw[hk2];exact hd.symm) (by omega);have h1: ¬dv a<dv b:=by omega
  have h2: ¬dv a=dv b:=by omega
  simp[eE,eu,h1,h2]
 refine zK<|cI<|sm J J<|sy (gt J J) J<|sa J J<|zE<|?_;refine f7 (k-1) ⟨by omega,?_⟩ (by omega) (.cons (by rw[show((k-1:Nat):Int)=(k:Int)-1 by omega];rfl) (.cons J (.cons J .nil))) J;have heq:a.getD (k-1) 0=b.getD (k-1) 0:=by omega
 rw[aJ,aJ,aQ (by omega),aQ (by omega)] at heq;rw[bS (by omega:k-1<a.length),bS (by omega:k-1<b.length),hk2,hd];congr 1
def vR{ds:List Nat}{k:Nat}(h:ds.length<=k):ds.getD k 0=0:=by
 rw[aJ,dS h];rfl
def zh(n k:Nat):(List.replicate n 0).getD k 0=0:=by
 rw[aJ];by_cases h:k<n
 ·simp[h]
 ·rw[dS (by simpa using h)];rfl
def ML{a b c:Nat}(ha:a<4294967296)(hb:b<4294967296)(hc:c<=1):(c+a+b)/4294967296<=1:=by omega
structure RZ where
 ws:List Nat
 k:Nat
 c:Nat
def U0{A B G:Gh}{x y:SV}{ds es:List Nat}{kk:Nat}(hx:bE A x ds)(hy:bE B y es)[GL A G][GL B G](hk:dv ds+dv es<2^kk)(hb:ds.length<=1125899906842)(hb2:es.length<=1125899906842):
  Fn prog 362 [x.v,y.v] G (fun v G'=> ∃z:SV,v=z.v/\ee kk G' z (dv ds+dv es)):=by
 have hlen:=hx.len;have hlen2:=hy.len;refine Fn.intro func362 J J ntmps362 J ?_;intro C _ _;refine sR<|sa J J<|zE<|?_;refine uL ((SV×List Nat)×(SV×List Nat)) (fun q=>[(0, .slice q.1.1.a q.1.1.n q.1.1.c),(1, .slice q.2.1.a q.2.1.n q.2.1.c)]) (fun _=>[])
  (fun q G=>bE G q.1.1 q.1.2/\bE G q.2.1 q.2.2/\dv q.1.2+dv q.2.2=dv ds+dv es/\q.2.2.length<=q.1.2.length/\q.1.2.length<=1125899906842) ?_ ?_
 ·refine sR<|sm J J<|cg J J<|sm J J<|cg J J<|sy (ie J J) J<|zE<|?_
  refine fB J (fun hc=>?_) (fun hc=>?_) -- slot 13
  ·refine cI<|sm J J<|sm J J<|sa J J<|sa J J<|zE<|?_
   exact l6 ((y,es),(x,ds)) ⟨hy.up,hx.up,by simp;omega,by simp;omega,by simp;omega⟩ (.cons J (.cons J .nil)) J
  refine zK<|?_;exact l6 ((x,ds),(y,es)) ⟨hx.up,hy.up,J,by simp;omega,by simp;omega⟩ (.cons J (.cons J .nil)) J
 rintro ⟨⟨x,a⟩,⟨y,b⟩⟩ Gx _ ⟨hx,hy,hsum,hle,hba⟩;rw[<-hsum] at hk⊢;clear hlen hlen2 hsum;have hlen:=hx.len;have hlen2:=hy.len;simp only[] at hx hy hle hba hlen hlen2 hk⊢;refine sR<|sm J J<|cg J J<|sy (dC J J) J<|?_;refine sc (pB J J (by omega) (by omega) (by omega) (by rfl) J ?_);intro b1;rw[pG,show((x.n:Int)+1).toNat=a.length+1 by omega];refine sa J J<|zE<|sR<|sa J J<|zE<|bu<|sR<|sm J J<|cg J J<|sm J J<|zE<|dE<|?_;refine je (X:=RZ) (fun q=>[(22, .int .i64 q.k),(21, .int .i64 x.n),(20, .slice x.a x.n x.c),(6, .int .u64 q.c),(0, .slice x.a x.n x.c),(1, .slice y.a y.n y.c),(5, .slice (some ⟨b1,0,none⟩) (a.length+1) (a.length+1))])
  (fun q=>[⟨b1,q.ws.map dI,366,true⟩])
  (fun q _=>q.k<=a.length/\q.ws.length=a.length+1/\aO q.ws/\q.c<=1/\dv (q.ws.take q.k)+4294967296^q.k*q.c=dv (a.take q.k)+dv (b.take q.k)) (fun q=>a.length-q.k) ⟨List.replicate (a.length+1) 0,0,0⟩
  ⟨bJ _,by simp, .replicate _,bJ _,by simp[dv]⟩ (.cons J (.cons J (.cons J (.cons J (.cons J (.cons J (.cons J .nil))))))) J ?_
 rintro ⟨ws,k,c⟩ Gy _ ⟨hka,hwl,hwo,hc1,hinv⟩;simp only[] at hka hwl hwo hc1 hinv⊢;refine sR<|sy (ie J J) J<|zE<|bu<|?_;refine ji J (fun hc=>?_) (fun hc=>?_) -- slot 23
 ·have hkn:k=a.length:=by omega
  refine gn<|du<|du<|gm<|sR<|sm J J<|sm J J<|cg J J<|sm J J<|sy (gG J) J<|?_;refine sy (e6 J J (by omega) (by omega)) J<|?_;refine sc (jf (d:=c) J J (by omega) (.hd ..) (by omega) J ?_);rw[show(x.n:Int).toNat=a.length by omega];refine zE<|sR<|sm J J<|?_;refine nC b1 (.hd ..) (fun G1 _ hgb=>?_);have hwo2:aO (ws.set a.length c):=hwo.set _ (by omega);have hD:bE G1 ⟨some ⟨b1,0,none⟩,a.length+1,a.length+1⟩ (ws.set a.length c):= .of_block hwo2 hgb.h (by simp[hwl]) (aS _) (by rw[aT (by simp)]);have hdv:dv (ws.set a.length c)=dv a+dv b:=by
   have h1:=lC (ws:=ws) (k:=a.length) (d:=c) (by omega);rw[aT (by simp;omega)] at h1;rw[h1,<-hkn,hinv,hkn,aT (aS _),aT hle]
  refine sc (zC J J (fG hD (by simp;omega)) J ?_);rintro _ G2 _ rfl;refine sa J J<|zE<|dP<|?_;refine zD (.tmp J .nil) ⟨⟨some ⟨b1,0,none⟩,(trimD (ws.set a.length c)).length,a.length+1⟩,J,?_⟩;have h3:=hD.trim.up (G:=G2);rw[<-hdv] at hk⊢;exact⟨by rw[lm hwo2];exact h3,hk⟩
 have hka':k<a.length:=by omega
 have hga:=hx.ok.get k;have hgb:=hy.ok.get k;refine zK<|bu<|dE<|sR<|sm J J<|sy (fe hx J J (by omega) (by omega)) J<|sy (fi hx J (by omega)) J<|sa J J<|sa J J<|zE<|bu<|?_;refine cI<|sm J J<|sm J J<|sy (ey J (by omega) (by rw[bT];omega)) J<|sy (nB J J (by omega) (by rw[bT];omega)) J<|sa J J<|zE<|?_;rw[bT];refine uL Unit (fun _=>[(22, .int .i64 k),(7, .int .i64 k),(21, .int .i64 x.n),(20, .slice x.a x.n x.c),(6, .int .u64 ((c+a.getD k 0+b.getD k 0:Nat):Int)),(0, .slice x.a x.n x.c),(1, .slice y.a y.n y.c),(5, .slice (some ⟨b1,0,none⟩) (a.length+1) (a.length+1))]) (fun _=>[⟨b1,ws.map dI,366,true⟩]) (fun _ _=>True) ?_ ?_
 ·refine sR<|sm J J<|sm J J<|cg J J<|sy (ie J J) J<|zE<|?_
  refine fB J (fun hc2=>?_) (fun hc2=>?_) -- slot 34
  ·refine cI<|sm J J<|sm J J<|sm J J<|sy (fe hy J J (by omega) (by omega)) J<|sy (fi hy J (by omega)) J<|sy (ey J (by omega) (by rw[bT];omega)) J<|?_
   rw[bT];refine sy (nB J J) J<|sa J J<|zE<|?_;exact l6 () trivial (.cons J (.cons J (.cons J (.cons J (.cons (by rw[qQ,qQ];rfl) (.cons J (.cons J (.cons J .nil)))))))) J
  refine zK<|?_;have h0:b.getD k 0=0:=vR (by omega);exact l6 () trivial (.cons J (.cons J (.cons J (.cons J (.cons (by rw[h0,cN,qQ];rfl) (.cons J (.cons J (.cons J .nil)))))))) J
 rintro _ Gz _ _;generalize hcc:c+a.getD k 0+b.getD k 0=cc;have hcb:cc/4294967296<=1:=by rw[<-hcc];exact ML hga hgb hc1
 refine sR<|sm J J<|sm J J<|sm J J<|sy (gG J) J<|sy (e6 J J (by omega) (by omega)) J<|?_;rw[bT];refine sc (jf (d:=cc%4294967296) J J (by omega) (.hd ..) (by omega) J ?_);refine zE<|cI<|sm J J<|sy (jx J J (by decide)) J<|sa J J<|zE<|cI<|sy (dC J J) J<|sm J J<|zE<|?_;have hsh:((cc:Int).fdiv (2^min (32:Int).toNat IntKind.u64.bits))=((cc/4294967296:Nat):Int):=by
  have:(2^min (32:Int).toNat IntKind.u64.bits:Int)=4294967296:=by decide
  rw[this,fU _ (by omega)];rfl
 rw[hsh];refine f7 ⟨ws.set k (cc%4294967296),k+1,cc/4294967296⟩ ⟨by show k+1<=_;omega,by simp[hwl],hwo.set _ (by omega),hcb,?_⟩ (by show a.length-(k+1)<a.length-k;omega) (.cons J (.cons J (.cons J (.cons J (.cons J (.cons J (.cons J .nil))))))) J;show dv ((ws.set k (cc%4294967296)).take (k+1))+4294967296^(k+1)*(cc/4294967296)=dv (a.take (k+1))+dv (b.take (k+1));rw[lC (by omega),fP a,fP b,<-hcc,eX];exact Ik hinv
structure U5 where
 ws:List Nat
 k:Nat
 c:Nat
def Gr(p:Int)(h0:0<=p):p.fdiv (2^min (63:Int).toNat IntKind.u64.bits)=p/9223372036854775808:=by
 have:(2^min (63:Int).toNat IntKind.u64.bits:Int)=9223372036854775808:=by decide
 rw[this,fU _ (by omega)]
def Kf(p:Nat):((p:Int).fdiv (2^min (32:Int).toNat IntKind.u64.bits))=((p/4294967296:Nat):Int):=by
 have:(2^min (32:Int).toNat IntKind.u64.bits:Int)=4294967296:=by decide
 rw[this,fU _ (by omega)];rfl
def N7{A B G:Gh}{x y:SV}{a b:List Nat}{kk:Nat}(hx:bE A x a)(hy:bE B y b)[GL A G][GL B G](hle:b.length<=a.length)(hge:dv b<=dv a)(hk:dv a<2^kk)(hba:a.length<=1125899906842):
  Fn prog 387 [x.v,y.v] G (fun v G'=> ∃z:SV,v=z.v/\ee kk G' z (dv a-dv b)):=by
 have hlen:=hx.len;have hlen2:=hy.len;refine Fn.intro func387 J J ntmps387 J ?_;intro C _ _;refine sR<|sa J J<|zE<|sR<|sm J J<|cg J J<|?_;refine sc (pB J J (by omega) (by omega) (by omega) (by rfl) J ?_);intro b1;rw[pG,show(x.n:Int).toNat=a.length by omega];refine sa J J<|zE<|sR<|sa J J<|zE<|bu<|sR<|sm J J<|cg J J<|sm J J<|zE<|dE<|?_;refine je (X:=U5) (fun q=>[(16, .int .i64 q.k),(15, .int .i64 x.n),(14, .slice x.a x.n x.c),(6, .int .u64 q.c),(1, .slice y.a y.n y.c),(5, .slice (some ⟨b1,0,none⟩) a.length a.length)])
  (fun q=>[⟨b1,q.ws.map dI,366,true⟩])
  (fun q _=>q.k<=a.length/\q.ws.length=a.length/\aO q.ws/\q.c<=1/\dv (q.ws.take q.k)+dv (b.take q.k)=dv (a.take q.k)+4294967296^q.k*q.c) (fun q=>a.length-q.k) ⟨List.replicate a.length 0,0,0⟩
  ⟨bJ _,by simp, .replicate _,bJ _,by simp[dv]⟩ (.cons J (.cons J (.cons J (.cons J (.cons J (.cons J .nil)))))) J ?_
 rintro ⟨ws,k,c⟩ Gy _ ⟨hka,hwl,hwo,hc1,hinv⟩;simp only[] at hka hwl hwo hc1 hinv⊢;refine sR<|sy (ie J J) J<|zE<|bu<|?_;refine ji J (fun hc=>?_) (fun hc=>?_) -- slot 17
 ·have hkn:k=a.length:=by omega
  refine gn<|du<|du<|gm<|sR<|sm J J<|?_;refine nC b1 (.hd ..) (fun G1 _ hgb=>?_);have hD:bE G1 ⟨some ⟨b1,0,none⟩,a.length,a.length⟩ ws:= .of_block hwo hgb.h hwl.symm (aS _) (by rw[aT (by simp)]);have hdv:dv ws=dv a-dv b:=by
   rw[hkn,aT (by omega),aT hle,aT (aS _)] at hinv;have h2:=gq hwo;rw[hwl] at h2;rcases dQ c with h0|h0
   ·subst h0;omega
   ·have:c=1:=by omega
    subst this;omega
  refine sc (zC J J (fG hD (by omega)) J ?_);rintro _ G2 _ rfl;refine sa J J<|zE<|dP<|?_;refine zD (.tmp J .nil) ⟨⟨some ⟨b1,0,none⟩,(trimD ws).length,a.length⟩,J,?_⟩;have h3:=hD.trim.up (G:=G2);rw[<-hdv];exact⟨by rw[lm hwo];exact h3,by omega⟩
 have hka':k<a.length:=by omega
 have hga:=hx.ok.get k;have hgb:=hy.ok.get k;refine zK<|bu<|dE<|sR<|sm J J<|sy (fe hx J J (by omega) (by omega)) J<|sy (fi hx J (by omega)) J<|sa J J<|sa J J<|zE<|bu<|?_;rw[bT];refine cI<|sm J J<|sa J J<|zE<|?_;refine uL Unit (fun _=>[(16, .int .i64 k),(7, .int .i64 k),(15, .int .i64 x.n),(14, .slice x.a x.n x.c),(8, .int .u32 ((a.getD k 0:Nat):Int)),(9, .int .u64 ((c+b.getD k 0:Nat):Int)),(1, .slice y.a y.n y.c),(5, .slice (some ⟨b1,0,none⟩) a.length a.length)]) (fun _=>[⟨b1,ws.map dI,366,true⟩]) (fun _ _=>True) ?_ ?_
 ·refine sR<|sm J J<|sm J J<|cg J J<|sy (ie J J) J<|zE<|?_
  refine fB J (fun hc2=>?_) (fun hc2=>?_) -- slot 25
  ·refine cI<|sm J J<|sm J J<|sm J J<|sy (fe hy J J (by omega) (by omega)) J<|sy (fi hy J (by omega)) J<|sy (ey J (by omega) (by rw[bT];omega)) J<|?_
   rw[bT];refine sy (nB J J) J<|sa J J<|zE<|?_;exact l6 () trivial (.cons J (.cons J (.cons J (.cons J (.cons J (.cons (by rw[qQ];rfl) (.cons J (.cons J .nil)))))))) J
  refine zK<|?_;have h0:b.getD k 0=0:=vR (by omega);exact l6 () trivial (.cons J (.cons J (.cons J (.cons J (.cons J (.cons (by rw[h0,cN];rfl) (.cons J (.cons J .nil)))))))) J
 rintro _ Gz _ _;generalize htt:c+b.getD k 0=tt;have htb:tt<=4294967296:=by omega
 refine sR<|sm J J<|sy (ey J) J<|sm J J<|sy (rF J J) J<|sa J J<|zE<|sR<|sm J J<|sm J J<|sm J J<|?_;rw[kj];refine sy (gG J) J<|sy (e6 J J (by omega) (by omega)) J<|?_;rw[bT];by_cases hno:tt<=a.getD k 0
 ·refine sc (jf (d:=a.getD k 0-tt) J J (by omega) (.hd ..) (by omega) J ?_)
  refine zE<|cI<|sm J J<|sy (jx J J (by decide)) J<|sa J J<|zE<|cI<|sy (dC J J) J<|sm J J<|zE<|?_;rw[Gr _ (by omega),show(((a.getD k 0:Nat):Int)-(tt:Int))%18446744073709551616/9223372036854775808=((0:Nat):Int) by omega];refine f7 ⟨ws.set k (a.getD k 0-tt),k+1,0⟩ ⟨by show k+1<=_;omega,by simp[hwl],hwo.set _ (by omega),bJ _,?_⟩ (by show a.length-(k+1)<a.length-k;omega) (.cons J (.cons J (.cons J (.cons J (.cons J (.cons J .nil)))))) J;show dv ((ws.set k (a.getD k 0-tt)).take (k+1))+dv (b.take (k+1))=dv (a.take (k+1))+4294967296^(k+1)*0;rw[lC (by omega),fP a,fP b,<-htt,eX];exact J8 hinv (by omega)
 ·refine sc (jf (d:=a.getD k 0+4294967296-tt) J J (by omega) (.hd ..) (by omega) J ?_)
  refine zE<|cI<|sm J J<|sy (jx J J (by decide)) J<|sa J J<|zE<|cI<|sy (dC J J) J<|sm J J<|zE<|?_;rw[Gr _ (by omega),show(((a.getD k 0:Nat):Int)-(tt:Int))%18446744073709551616/9223372036854775808=((1:Nat):Int) by omega];refine f7 ⟨ws.set k (a.getD k 0+4294967296-tt),k+1,1⟩ ⟨by show k+1<=_;omega,by simp[hwl],hwo.set _ (by omega),aS _,?_⟩ (by show a.length-(k+1)<a.length-k;omega) (.cons J (.cons J (.cons J (.cons J (.cons J (.cons J .nil)))))) J;show dv ((ws.set k (a.getD k 0+4294967296-tt)).take (k+1))+dv (b.take (k+1))=dv (a.take (k+1))+4294967296^(k+1)*1;rw[lC (by omega),fP a,fP b,<-htt,eX];exact DR hinv (by omega) (by omega)
def Vb{A B G:Gh}{x y:SV}{ds es:List Nat}{kk:Nat}(hx:bE A x ds)(hy:bE B y es)[GL A G][GL B G](hk:dv ds<2^kk)(hb:ds.length<=1125899906842)(hb2:es.length<=1125899906842):
  Fn prog 363 [x.v,y.v] G (fun v G'=> ∃z:SV,v= .tuple #[z.v, .bool (decide (dv es<=dv ds))]/\ee kk G' z (dv ds-dv es)):=by
 refine Fn.intro func363 J J ntmps363 J ?_;intro C _ _;refine sR<|sa J J<|sa J J<|zE<|bu<|sR<|sm J J<|sm J J<|?_;refine sc (zC J J (Fp hx hy (by omega) (by omega)) J ?_);rintro _ G1 _ rfl;refine sy (ie J J) J<|zE<|?_;refine fB J (fun hc=>?_) (fun hc=>?_) -- slot 9
 ·have hlt:dv ds<dv es:=by
   unfold eu at hc;split at hc
   ·assumption
   ·split at hc<;>omega
  refine sR<|sa J J<|sa J J<|zE<|dP<|?_;refine zD (.tmp J (.tmp J .nil)) ⟨⟨none,0,0⟩,?_,?_⟩
  ·have: ¬dv es<=dv ds:=by omega
   simp[eE,SV.v,this]
  ·rw[Nat.sub_eq_zero_of_le (by omega)]
   exact⟨by unfold dg;exact .nil _,dZ (by omega)⟩
 have hge:dv es<=dv ds:=by
  unfold eu at hc;split at hc
  ·omega
  ·omega
 have htl:=kp ds;have htl2:=kp es;refine zK<|sR<|sm J J<|?_;refine sc (zC J J (fG hx (by omega)) J ?_);rintro _ G2 _ rfl;refine sm J J<|?_;refine sc (zC J J (fG hy (by omega)) J ?_);rintro _ G3 _ rfl;have hl:(trimD es).length<=(trimD ds).length:=by
  rcases fS (trimD ds).length (trimD es).length with h|h
  ·have:=og hx.ok.trimD (c8.trimD es) h
   rw[gw,gw] at this;omega
  ·exact h
 refine sc (zC J J (N7 (kk:=kk) hx.trim hy.trim hl (by rw[gw,gw];exact hge) (by rw[gw];exact hk) (by omega)) J ?_);rintro _ G4 _ ⟨z,rfl,hz⟩;refine sa J J<|sa J J<|zE<|dP<|?_;refine zD (.tmp J (.tmp J .nil)) ⟨z,by simp[eE,hge],?_⟩;rw[gw,gw] at hz;exact hz
structure M0 where
 ws:List Nat
 i:Nat
structure Ut where
 ws:List Nat
 k:Nat
 c:Nat
def Rp{x y w c:Nat}(hx:x<4294967296)(hy:y<4294967296)(hw:w<4294967296)(hc:c<4294967296):c+x*y+w<18446744073709551616:=by
 have:x*y<=4294967295*4294967295:=mY (by omega) (by omega);omega
def vt{ws:List Nat}{i j d:Nat}(h:i≠j):(ws.set i d).getD j 0=ws.getD j 0:=by
 rw[aJ,aJ,List.getElem?_set_ne h]
def Qu{A B G:Gh}{x y:SV}{ds es:List Nat}{kk:Nat}(hx:bE A x ds)(hy:bE B y es)[GL A G][GL B G](hk:dv ds*dv es<2^kk)(hb:ds.length<=562949953421)(hb2:es.length<=562949953421):
  Fn prog 302 [x.v,y.v] G (fun v G'=> ∃z:SV,v=z.v/\ee kk G' z (dv ds*dv es)):=by
 have htl:=kp ds;have htl2:=kp es;have hcall:=fun G1 (_:GL A G1)=>fG (G:=G1) hx (by omega);have hcall2:=fun G1 (_:GL B G1)=>fG (G:=G1) hy (by omega);have hxt:=hx.trim;have hyt:=hy.trim;rw[<-gw ds,<-gw es] at hk⊢;generalize trimD ds=a at*;generalize trimD es=b at*;have hok:=hxt.ok;have hok2:=hyt.ok;refine Fn.intro func302 J J ntmps302 J ?_;intro C _ _;refine sR<|sa J J<|zE<|sR<|sm J J<|?_;refine sc (zC J J (hcall _ inferInstance) J ?_);rintro _ G1 _ rfl;refine sm J J<|?_;refine sc (zC J J (hcall2 _ inferInstance) J ?_);rintro _ G2 _ rfl;refine sa J J<|sa J J<|zE<|sR<|sm J J<|cg J J<|sm J J<|cg J J<|sy (dC J J) J<|?_;refine sc (pB J J (by omega) (by omega) (by omega) (by rfl) J ?_);intro b3;rw[pG,show((a.length:Int)+(b.length:Int)).toNat=a.length+b.length by omega];refine sa J J<|zE<|bu<|sR<|sm J J<|cg J J<|sm J J<|zE<|dE<|?_;refine je (X:=M0) (fun q=>[(23, .int .i64 q.i),(22, .int .i64 a.length),(21, .slice x.a a.length x.c),(1, .slice y.a b.length y.c),(5, .slice (some ⟨b3,0,none⟩) (a.length+b.length) (a.length+b.length))])
  (fun q=>[⟨b3,q.ws.map dI,366,true⟩])
  (fun q _=>q.i<=a.length/\q.ws.length=a.length+b.length/\aO q.ws/\(∀j,q.i+b.length<=j->q.ws.getD j 0=0)/\dv q.ws=dv (a.take q.i)*dv b) (fun q=>a.length-q.i) ⟨List.replicate (a.length+b.length) 0,0⟩
  ⟨bJ _,by simp, .replicate _,fun j _=>zh _ _,by simp[dv,r7]⟩ (.cons J (.cons J (.cons J (.cons J (.cons J .nil))))) J ?_
 rintro ⟨ws,i⟩ Gy _ ⟨hia,hwl,hwo,hz,hinv⟩;simp only[] at hia hwl hwo hz hinv⊢;refine sR<|sy (ie J J) J<|zE<|bu<|?_;refine ji J (fun hc=>?_) (fun hc=>?_) -- slot 24
 ·have hin:i=a.length:=by omega
  refine gn<|du<|du<|gm<|sR<|sm J J<|?_;refine nC b3 (.hd ..) (fun G3 _ hgb=>?_);have hD:bE G3 ⟨some ⟨b3,0,none⟩,a.length+b.length,a.length+b.length⟩ ws:= .of_block hwo hgb.h hwl.symm (aS _) (by rw[aT (by simp)]);have hdv:dv ws=dv a*dv b:=by rw[hinv,hin,aT (aS _)]
  refine sc (zC J J (fG hD (by omega)) J ?_);rintro _ G4 _ rfl;refine sa J J<|zE<|dP<|?_;refine zD (.tmp J .nil) ⟨⟨some ⟨b3,0,none⟩,(trimD ws).length,a.length+b.length⟩,J,?_⟩;have h3:=hD.trim.up (G:=G4);rw[<-hdv] at hk⊢;exact⟨by rw[lm hwo];exact h3,hk⟩
 have hia':i<a.length:=by omega
 have hga:=hok.get i;refine zK<|bu<|dE<|sR<|sm J J<|sy (fe (z:=⟨x.a,a.length,x.c⟩) hxt J J (by omega) (by show(i:Int)<(a.length:Nat);omega)) J<|sy (fi hxt J (by omega)) J<|sa J J<|sa J J<|zE<|bu<|?_;rw[bT];refine cI<|sa J J<|zE<|bu<|sR<|sm J J<|cg J J<|sm J J<|zE<|dE<|?_;refine je (X:=Ut) (fun q=>[(30, .int .i64 q.k),(29, .int .i64 b.length),(28, .slice y.a b.length y.c),(8, .int .u64 q.c),(7, .int .u32 ((a.getD i 0:Nat):Int)),(5, .slice (some ⟨b3,0,none⟩) (a.length+b.length) (a.length+b.length)),(6, .int .i64 i),(23, .int .i64 i),(22, .int .i64 a.length),(21, .slice x.a a.length x.c),(1, .slice y.a b.length y.c)])
  (fun q=>[⟨b3,q.ws.map dI,366,true⟩])
  (fun q _=>q.k<=b.length/\q.ws.length=a.length+b.length/\aO q.ws/\q.c<4294967296/\(∀j,i+b.length<=j->q.ws.getD j 0=0)/\dv q.ws+4294967296^(i+q.k)*q.c=dv (a.take i)*dv b+4294967296^i*(a.getD i 0*dv (b.take q.k))) (fun q=>b.length-q.k) ⟨ws,0,0⟩
  ⟨bJ _,hwl,hwo,Nat.zero_lt_succ _,hz,by simp[dv,hinv]⟩ (.cons J (.cons J (.cons J (.cons J (.cons J (.cons J (.cons J (.cons J (.cons J (.cons J (.cons J .nil))))))))))) J ?_
 clear hz hwl hwo hinv ws;rintro ⟨ws,k,c⟩ Gz _ ⟨hkb,hwl,hwo,hcc,hz,hinv⟩;simp only[] at hkb hwl hwo hcc hz hinv⊢;refine sR<|sy (ie J J) J<|zE<|bu<|?_;refine ji J (fun hc2=>?_) (fun hc2=>?_) -- slot 31
 ·have hkn:k=b.length:=by omega
  have e1:((i:Int)+(b.length:Int)).toNat=i+b.length:=by omega
  refine gn<|du<|du<|gm<|cI<|sm J J<|sm J J<|sm J J<|cg J J<|sy (dC J J) J<|sm J J<|sy (gG J) J<|?_;refine sy (e6 J J (by omega) (by omega)) J<|?_;rw[e1];refine sc (jf (d:=c) J J (by omega) (.hd ..) (by omega) J ?_);refine zE<|cI<|sy (dC J J) J<|sm J J<|zE<|?_;refine f7 ⟨ws.set (i+b.length) c,i+1⟩ ⟨by show i+1<=_;omega,by simp[hwl],hwo.set _ hcc,fun j hj=>?_,?_⟩ (by show a.length-(i+1)<a.length-i;omega) (.cons J (.cons J (.cons J (.cons J (.cons J .nil))))) J
  ·have hj':i+1+b.length<=j:=hj
   show(ws.set (i+b.length) c).getD j 0=0;rw[vt (by omega)];exact hz j (by omega)
  ·show dv (ws.set (i+b.length) c)=dv (a.take (i+1))*dv b
   have h1:=lE ws (i+b.length) c (by omega);rw[hz (i+b.length) (aS _),nT,cN] at h1;rw[h1,<-hkn,hinv,hkn,aT (aS _),fP,cK,bW]
 have hkb':k<b.length:=by omega
 have hgb:=hok2.get k;have hgw:=hwo.get (i+k);have hm:=Rp hga hgb hgw hcc;have e1:((i:Int)+(k:Int)).toNat=i+k:=by omega
 have e2:((a.getD i 0:Nat):Int)*((b.getD k 0:Nat):Int)=((a.getD i 0*b.getD k 0:Nat):Int):=by rw[iV]
 refine zK<|bu<|dE<|sR<|sm J J<|sy (fe (z:=⟨y.a,b.length,y.c⟩) hyt J J (by omega) (by show(k:Int)<(b.length:Nat);omega)) J<|sy (fi hyt J (by omega)) J<|sa J J<|sa J J<|zE<|bu<|?_;rw[bT];refine cI<|sm J J<|sm J J<|sy (ey J) J<|sm J J<|sy (ey J) J<|sy (Ai J J (by rw[e2];omega) (by rw[e2];omega)) J<|?_;rw[e2];refine sm J J<|sm J J<|sm J J<|sy (dC J J) J<|sy (e6 J J (by omega) (by omega)) J<|?_;rw[e1];refine sy (nF J (by omega)) J<|sy (ey J) J<|?_;refine sy (nB J J) J<|sy (nB J J) J<|sa J J<|zE<|sR<|sm J J<|sm J J<|sm J J<|?_;rw[show(c:Int)+(((a.getD i 0*b.getD k 0:Nat):Int)+((ws.getD (i+k) 0:Nat):Int))=((c+a.getD i 0*b.getD k 0+ws.getD (i+k) 0:Nat):Int) by omega];generalize hcc2:c+a.getD i 0*b.getD k 0+ws.getD (i+k) 0=cc;rw[hcc2] at hm;refine sy (dC J J) J<|sm J J<|sy (gG J) J<|sy (e6 J J (by omega) (by omega)) J<|?_;rw[e1];refine sc (jf (d:=cc%4294967296) J J (by omega) (.hd ..) (by omega) J ?_);refine zE<|cI<|sm J J<|sy (jx J J (by decide)) J<|sa J J<|zE<|cI<|sy (dC J J) J<|sm J J<|zE<|?_;rw[Kf];refine f7 ⟨ws.set (i+k) (cc%4294967296),k+1,cc/4294967296⟩ ⟨by show k+1<=_;omega,by simp[hwl],hwo.set _ (by omega),by show cc/4294967296<_;omega,fun j hj=>?_,?_⟩ (by show b.length-(k+1)<b.length-k;omega) (.cons J (.cons J (.cons J (.cons J (.cons J (.cons J (.cons J (.cons J (.cons J (.cons J (.cons J .nil))))))))))) J
 ·show(ws.set (i+k) (cc%4294967296)).getD j 0=0
  rw[vt (by omega)];exact hz j hj
 ·show dv (ws.set (i+k) (cc%4294967296))+4294967296^(i+(k+1))*(cc/4294967296)=dv (a.take i)*dv b+4294967296^i*(a.getD i 0*dv (b.take (k+1)))
  have h1:=lE ws (i+k) (cc%4294967296) (by omega);rw[<-hcc2] at h1⊢;have h2:=Fb h1 hinv;rw[<-jW,eX,h2,fP,cY,cY,dJ];have:4294967296^i*(a.getD i 0*(4294967296^k*b.getD k 0))=4294967296^i*4294967296^k*(a.getD i 0*b.getD k 0):=by
   rw[jU (a.getD i 0),<-bW]
  rw[this,jW]
end Go.Sx
end
