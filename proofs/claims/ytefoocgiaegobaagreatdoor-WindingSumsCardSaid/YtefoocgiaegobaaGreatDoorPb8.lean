import Derived.Test.YtefoocgiaegobaaGreatDoorPb7
import Derived.Shelf.Small.Bits
import Derived.Shelf.Strconv.Itoa0
import Derived.Shelf.Strconv.Itoa1
import Derived.Shelf.LaysM
import Derived.Shelf.Strconv.Itoa2
import Derived.Shelf.Strconv.Itoa3
import Derived.Shelf.Bits.Mul64
import Derived.Test.YtefoocgiaegobaaGreatDoorProg
set_option linter.all false
set_option maxHeartbeats 1000000
set_option maxRecDepth 100000
section
namespace Go.Sx
open Go Go.Proofs Tryz
section
variable {GB:Gh} {C:az} {n:Nat} {Q0:Exit->Act->World->Prop} {fr fr':ao} {own own':aB} {cf cf':Cf} {vc:List Prop}
def II(fr:ao)(cf:Cf):Option Nat:=match bu fr cf with
 |some ⟨_, .load t (.global g),_,_,_,_⟩=>(match b8 tt t with
  |some i=>match i.ag with
   |some none=>some g
   |_=>none
  |none=>none)
 |_=>none
def gl[fu:Fu]{g:Nat}{v:Value}(h:II fr cf=some g)(hg:GB g=some [v])(hgo:bF tt n fu.n fr own cf (.d (.v v)) [] []=⟨vc,fr',own',cf'⟩)(k:aj prog GB C n Q0 fr' own' cf')
  (hv:ab vc:=by first|exact trivial|(simp only[ab];kernel_rfl)|(simp only[ab];omega)):aj prog GB C n Q0 fr own cf:=by
 unfold II at h;split at h<;>try (cases h;done)
 rename_i hh;split at h<;>try (cases h;done)
 rename_i i hT;split at h<;>cases h;rename_i ha;haveI:=py (dt _ _ hT) ha;refine us (f:= .d (.v v)) hh (bm.yd fun ρ G ov a w r=>⟨v,(ba (G:=G)).2 J,?_⟩) hgo hv k;haveI:uc G g [v]:=⟨r.gb _ _ hg⟩;exact wF (b:=g) (off:=0) J N1 J
def H1{d:Nat}{f:FX}{x:DV}(hl:aD fr d=some f)(e:im f=some x){Φ:Act->World->Prop}(h:SX GB C n (aD ((d, .d x)::fr)) (aH own) Φ):SX GB C n (aD fr) (aH own) Φ:=kh (g:= .d x) hl (fun _ _ _ k=>lz k e) h
def q8(d:Nat){f:FX}(x:DV){e:Exit}{K:List Kt}(hl:aD fr d=some f)(e1:im f=some x)(k:aj prog GB C n Q0 ((d, .d x)::fr) own (.ex e K)):aj prog GB C n Q0 fr own (.ex e K):=H1 hl e1 k
def zn(d:Nat){f:FX}(x:DV){c:Code}{K:List Kt}(hl:aD fr d=some f)(e1:im f=some x)(k:aj prog GB C n Q0 ((d, .d x)::fr) own (.code c K)):aj prog GB C n Q0 fr own (.code c K):=H1 hl e1 k
def Mu{nm0 nm:Nat}{B1 B2:Option Bk}:aH (iA (iA own nm0 B1) nm B2)=upB (upB (aH own) [(nm0,B1)]) [(nm,B2)]:=by
 funext j;rw[pE];simp only[upB];rw[pE]
def Ly{nm0 nm k:Nat}(hnm:Nat.blt nm 2000000=true){ty0:TypeId}{cs:List FX}{lo:Bool}(hb:aH own nm0=some (.o ty0 cs lo))(hk:cs[k]? =some .nl)(hne:nm0≠nm){Φ:Act->World->Prop}{ty s:Nat}(hf:i9 [nm] none (aD fr) (aH own))
  (h:SX GB C n (aD fr) (aH (iA (iA own nm0 (some (.o ty0 (cs.set k (.rw nm)) lo))) nm (some (.b ty s [] true)))) Φ):SX GB C n (aD fr) (aH own) Φ:=by
 refine⟨fun ρ G ov a w r=>?_⟩;obtain⟨f1,f2⟩:=hf nm aQ;rw[Mu] at h;refine h.run (fun k=>if k=nm then⟨none,0,0⟩ else ρ k) G ov a w ⟨r.gb,r.h,r.sz,r.df,fun k f e=>?_,fun m B e=>?_,fun m m' B B' e e' hne=>?_,fun m p h1 h2 e=>by
  have:nm<2000000:=by simpa[lY] using hnm
  show(if m=nm then(⟨none,0,0⟩:SV) else ρ m).a=_;rw[if_neg (by omega)];exact r.fxd m p h1 h2 e⟩
 ·obtain⟨v,h1,h2⟩:=r.fx k f e
  exact⟨v,h1,h2.ren fun m hm=>oh _ fun hc=>f1 k f (by simp) e (by rw[hm,hc])⟩
 ·simp only[upB] at e
  by_cases hm:m=nm
  ·subst hm;simp only[if_true] at e;cases e
   exact⟨[],⟨[],by simp only[if_true];exact .inl ⟨J,J,J⟩, .nil,by simp,fun _ o ho=>by cases ho⟩,fun o ho=>by cases ho⟩
  ·simp only[hm,if_false] at e
   by_cases hm0:m=nm0
   ·subst hm0;simp only[if_true] at e;cases e
    obtain⟨os,h1,h2⟩:=r.bx m _ hb;have h1':iq (fun k=>if k=nm then⟨none,0,0⟩ else ρ k) G m (.o ty0 cs lo) os:=h1.ren (if_neg hm) fun q hq=>oh _ fun hc=>f2 m _ hm hb (by rw[<-hc];exact hq);obtain⟨b,ms,k1,k2,k3⟩:=h1';refine⟨os,⟨b,ms,k1,k2,?_⟩,h2⟩;obtain⟨y,e1,e2⟩:=k3.get hk;have:=k3.set (f:= .rw nm) (y:=y) k (by show y=_;simp only[if_true];exact e2);rwa [show ms.set k y=ms by apply kX;intro j;rw[mT];split<;>(try rfl);rename_i hj;subst hj;split<;>simp_all] at this
   ·simp only[hm0,if_false] at e
    obtain⟨os,h1,h2⟩:=r.bx m B e;exact⟨os,h1.ren (if_neg hm) fun q hq=>oh _ fun hc=>f2 m B hm e (by rw[<-hc];exact hq),h2⟩
 ·intro b hbb hb'
  have key: ∀q B,upB (upB (aH own) [(nm0,some (.o ty0 (cs.set k (.rw nm)) lo))]) [(nm,some (.b ty s [] true))] q=some B->q≠nm-> ∃B0,aH own q=some B0:=fun q B eq hq=>by
   simp only[upB,hq,if_false] at eq;by_cases hq0:q=nm0
   ·subst hq0;exact⟨_,hb⟩
   ·simp only[hq0,if_false] at eq;exact⟨_,eq⟩
  by_cases hm:m=nm
  ·simp[hm] at hbb
  ·by_cases hm':m'=nm
   ·simp[hm'] at hb'
   ·obtain⟨B0,g0⟩:=key m B e hm
    obtain⟨B1,g1⟩:=key m' B' e' hm';simp only[hm,hm',if_false] at hbb hb';exact r.dj m m' B0 B1 g0 g1 hne b hbb hb'
def PA(nm0 k nm ty s:Nat){ty0:TypeId}{cs:List FX}{lo:Bool}{own1:aB}{c:Code}{K:List Kt}(hb:aH own nm0=some (.o ty0 cs lo))(hk:cs[k]? =some .nl)(hf:ni [nm] none fr own=true)(hne:Nat.beq nm0 nm=false)
  (ho:iA (iA own nm0 (some (.o ty0 (cs.set k (.rw nm)) lo))) nm (some (.b ty s [] true))=own1)(h:aj prog GB C n Q0 fr own1 (.code c K))(hnm:Nat.blt nm 2000000=true:=by rfl):aj prog GB C n Q0 fr own (.code c K):=by
 subst ho;exact Ly hnm hb hk (fun e=>by subst e;rw[Nat.beq_refl] at hne;cases hne) (uC hf) h
def HE{ρ:NE}{G:Gh}: ∀{l:List DV} {m:List Value},co ρ G (l.map .d) m->IsLs G l m
 |[],m,h=>cb.2 h
 |d::t,m,⟨y,n,e,h1,h2⟩=>by subst e;exact .cons h1 (HE h2)
def UW(fr:ao)(cf:Cf):Option (Nat×List FX):=match bu fr cf with
 |some ⟨some d, .build t ⟨[]⟩,_,_,_,_⟩=>match b8 tt t with
  |some ⟨.st _,_,some zx,_⟩=>some (d,zx)
  |_=>none
 |_=>none
end
section
variable {GB:Gh} {C:az} {n:Nat} {Q0:Exit->Act->World->Prop} {fr fr':ao} {own own':aB} {cf cf':Cf} {vc:List Prop} {ops:Array Oper} {o:Oper} {r:List Oper} {K:List Kt}
def Hc{p q:Nat->Option (Nat×Nat)}(h: ∀i x,p i=some x->q i=some x): ∀(ps:List (Nat×Value)) (cs out:Array Value),Instr.fill p cs ps=some out->Instr.fill q cs ps=some out
 |[],cs,out,e=>e
 |(i,v)::ps,cs,out,e=>by
  simp only[Instr.fill] at e⊢;split at e
  ·cases e
  ·rename_i off size hp
   rw[h i _ hp];dsimp only;split at e
   ·cases e
   ·rename_i hc
    rw[if_neg hc];exact Hc h ps _ _ e
def O4{P:Program}{fr:Fr}{own:List av}{G:Gh}{t e s len:Nat}{j:TypeInfo}{parts:Array (Nat×Operand)}{z:Value}{out:List Value}{dst:Option Nat}{ty':TypeId}{pos:String}{af:Array Edge}{gd:Option (Nat×Bool)}[hz:gy P t z](hu:P.underlying t=some (.array len e))(hj:P.info? e=some j)(hs:j.size=s)
  (hb:oo fr ((List.range len).map fun i=>(i*s,s)) (aG z) parts.toList=some out):Yd P C fr own G ⟨dst, .build t parts,ty',pos,af,gd⟩ (.agg ⟨out⟩):=by
 intro a w hf hh;simp only[execOp];have:(Instr.build t (parts.map fun(i,x)=>(i,a.eval x))).run P w= .ok (.agg ⟨out⟩) w:=by
  unfold Instr.build;rw[aE (hz.zero w),my];rw[aE (lq hu w)];simp only[];rw[aE (pi hj w),hs];have:=Hc (q:=fun i=>some (i*s,s)) (fun i x hx=>by
   have hx':((List.range len).map fun i=>(i*s,s))[i]? =some x:=by simpa using hx
   rw[fR] at hx'
   cases hr:(List.range len)[i]? with
   |none=>rw[hr] at hx';cases hx'
   |some y=>
    rw[hr] at hx';cases hx';obtain⟨h1,h2⟩:=bQ.1 hr;rw[List.getElem_range] at h2;rw[h2]) _ _ _ (BG hf ((List.range len).map fun i=>(i*s,s)) parts.toList _ _ hb)
  simp only[lM,this];rfl
 exact cj this
def vY:Nat->Nat->Nat->List (Nat×Nat×Nat)
 |_,0,_=>[]
 |i,k+1,s=>(i*s,0,s)::vY (i+1) k s
def JY: ∀(i k s:Nat),(vY i k s).map (fun x=>(x.1,x.2.2))=(List.range' i k).map fun j=>(j*s,s)
 |_,0,_=>rfl
 |i,k+1,s=>by simp only[vY,cZ,List.range',JY (i+1) k s]
def Hm(fr:ao)(cf:Cf)(len s:Nat):Option (TypeId×FX):=match bu fr cf with
 |some ⟨_, .build t parts,_,_,_,_⟩=>match b8 tt t with
  |some ⟨.o,_,some zx,_⟩=>match pj (aI fr cf) (vY 0 len s) zx parts.toList with
   |some cs=>match ql cs with
    |some f=>some (t,f)
    |none=>none
   |none=>none
  |_=>none
 |_=>none
def MO[fu:Fu]{t e len s:Nat}{f:FX}(h:Hm fr cf len s=some (t,f))(hu:prog.underlying t=some (.array len e))(hs:(prog.info? e).map (·.size)=some s)
  (hgo:bF tt n fu.n fr own cf f [] []=⟨vc,fr',own',cf'⟩)(k:aj prog GB C n Q0 fr' own' cf')
  (hv:ab vc:=by first|exact trivial|(simp only[ab];kernel_rfl)|(simp only[ab];omega)):aj prog GB C n Q0 fr own cf:=by
 unfold Hm at h;split at h<;>try (cases h;done)
 rename_i hh;split at h<;>try (cases h;done)
 rename_i hT;split at h<;>try (cases h;done)
 rename_i hb;split at h<;>cases h;rename_i hf;refine us hh (.yd fun ρ G ov a w r=>?_) hgo hv k
 cases hj:prog.info? e with
 |none=>rw[hj] at hs;cases hs
 |some j=>
 rw[hj] at hs;obtain⟨v,hv,hv'⟩:=xn (dt _ _ hT) rfl;obtain⟨l,h1,h2⟩:=Bb r _ _ _ _ hb (hv' ρ G);rw[JY,<-List.range_eq_range'] at h1;exact⟨.agg ⟨l⟩,yu h2 hf,O4 hu hj (Option.some.inj hs) h1⟩
def K6{P:Program}(nm:Nat){ty:TypeId}{ds:List DV}{lo:Bool}{own1:aB}{c:Code}(ds':List DV)(hl:aH own nm=some (.o ty (ds.map .d) lo))(hi: ∀G m,IsLs G ds m->IsLs G ds' m)(ho:o8 own nm (some (.o ty (ds'.map .d) lo)) id=own1)(h:aj P GB C n Q0 fr own1 (.code c K)):aj P GB C n Q0 fr own (.code c K):=by
 rw[pO] at ho;subst ho;refine⟨fun ρ G ov a w r=>?_⟩;have old: ∀m B,aH (iA own nm (some (.o ty (ds'.map .d) lo))) m=some B-> ∃B0,aH own m=some B0:=fun m B e=>by
  rw[pE] at e;split at e
  ·rename_i hm;subst hm;exact⟨_,hl⟩
  ·exact⟨_,e⟩
 refine SX.run h ρ G ov a w ⟨r.gb,r.h,r.sz,r.df,r.fx,fun m B e=>?_,fun m m' B B' e e'=>?_,r.fxd⟩
 ·rw[show id (iA own nm (some (.o ty (ds'.map .d) lo)))=iA own nm (some (.o ty (ds'.map .d) lo)) from J,pE] at e
  split at e
  ·rename_i hm;subst hm;cases e
   obtain⟨os,⟨b,q,h1,rfl,h2⟩,h3⟩:=r.bx _ _ hl;exact⟨_,⟨b,q,h1,J,od (hi G q (HE h2))⟩,h3⟩
  ·exact r.bx _ _ e
 ·obtain⟨B0,h0⟩:=old _ _ e
  obtain⟨B1,h1⟩:=old _ _ e';exact r.dj m m' B0 B1 h0 h1
def Uz(fr:ao)(own:aB)(cf:Cf)(k:Nat):Option (TypeId×FX):=match bu fr cf with
 |some ⟨_, .load t x,_,_,_,_⟩=>match aC (aI fr cf) x with
  |some (.ov nm off)=>match ew fr own cf nm with
   |some (.o _ cs _)=>match takeX cs off k with
    |some l=>match ql l with
     |some f=>some (t,f)
     |none=>none
    |none=>none
   |_=>none
  |_=>none
 |_=>none
def Vx(fr:ao)(cf:Cf)(off s:Nat):Option (TypeId×List DV×Int):=match bu fr cf with
 |some ⟨_, .index t x y,_,_,_,_⟩=>match aC (aI fr cf) x with
  |some (.d (.ag ms))=>match aC (aI fr cf) y with
   |some (.d (.v (.int _ i)))=>match takeD ms off s with
    |some l=>some (t,l,i)
    |none=>none
   |_=>none
  |_=>none
 |_=>none
end
section
variable {GB:Gh} {C:az} {n:Nat} {Q0:Exit->Act->World->Prop} {fr fr':ao} {own own':aB} {cf cf':Cf} {vc:List Prop} {lk:LK} {bk:BM} {dst:Option Nat} {ty:TypeId} {pos:String} {af:Array Edge} {gd:Option (Nat×Bool)}
def zy(t:TypeId):Prop:= ∀(x:Value) w,(Instr.makeInterface t x).run prog w= .ok (.iface t x) w
def wi(t:TypeId)(u:Value)(m:String)(f:FuncId):Prop:= ∀w,(method (prog.types.size+Made.depth) t u m).run prog w= .ok (f,u) w
def LO{t:TypeId}{x:Operand}{d:DV}{u:Value}(ht:zy t)(hx:evD lk x=some d)(hd: ∀G y,Is G d y->y=u):bm prog GB C n lk bk ⟨dst, .makeInterface t x,ty,pos,af,gd⟩ (.d (.v (.iface t u))) [] []:=
 bm.yd fun ρ G ov a w r=>by
  obtain⟨y,hy,hy'⟩:=r.evD hx;obtain rfl:=hd G y hy';refine⟨_,(ba (G:=G)).2 J,fun a' w' hf _=>?_⟩;refine cj (f:=Next.value) ?_;rw[aO hf hy];exact ht _ _
def So{x:Operand}{m:String}{args:Array Operand}{tys:Array TypeId}{t:TypeId}{u:Value}{f:FuncId}{vs:List Value}{fr:Fr}{a:Act}{w:World}(hf:io fr a)(hx:aw fr x=some (.iface t u))(hv:fp fr args.toList=some vs)(hm:wi t u m f)(hc:jC prog f):
  (execOp a.eval ⟨dst, .call ⟨.invoke x m,args,tys⟩,ty,pos,af,gd⟩).run prog w= .ok (.enter f ⟨u::vs⟩) w:=by
 have e:args.map a.eval=⟨vs⟩:=by apply Array.ext';simpa using u5 hf hv
 simp only[execOp,resolve,aO hf hx,e];show(invoke (.fn (.method m) #[]) (#[.iface t u]++⟨vs⟩)).run prog w=_;simp only[invoke];have h0:(#[Value.iface t u]++(⟨vs⟩:Array Value))[0]? =some (.iface t u):=by simp
 have h1:(#[Value.iface t u]++(⟨vs⟩:Array Value)).extract 1 (#[Value.iface t u]++(⟨vs⟩:Array Value)).size=⟨vs⟩:=by
  apply Array.ext';simp
 rw[h0,h1];show(callMethod (.iface t u) m ⟨vs⟩).run prog w=_;unfold callMethod;show((do
  let p<-program
  let(g,receiver)<-method (p.types.size+Made.depth) t u m
  callFunc g (#[receiver]++⟨vs⟩)):Sem Next).run prog w=_
 rw[aE (a:=prog) (w':=w) J,aE (hm w)];show(callFunc f (#[u]++⟨vs⟩)).run prog w=_;rw[vg hc];simp
def Si{x:Operand}{m:String}{args:Array Operand}{tys:Array TypeId}{t:TypeId}{u:Value}{f:FuncId}{ds:List DV}{rv:DV}(hx:aC lk x=some (.d (.v (.iface t u))))(ha:evDs lk args.toList=some ds)(hm:wi t u m f)(hF:PF GB prog f (.v u::ds) rv):
  bm prog GB C n lk bk ⟨dst, .call ⟨.invoke x m,args,tys⟩,ty,pos,af,gd⟩ (.d rv) [] []:=by
 intro hd tl tb K' s1 s2 hf hk;refine⟨fun ρ G ov a w r Q=>?_⟩;obtain⟨y,hy,hy'⟩:=(r.mono s1 s2).ev hx;rw[(ba (G:=G)).1 hy'] at hy;obtain⟨vs,h3,h4⟩:=(r.mono s1 s2).evDs ha;have hFn:=hF G (u::vs) r.gb (.cons (ba.2 J) h4);have h2:=So (dst:=dst) (ty:=ty) (pos:=pos) (af:=af) (gd:=gd) (tys:=tys) (w:=w) (ci a) hy h3 hm hFn.able;simp only[Oper.wp,h2,Oper.upon];refine(hFn.run w r.h.sub).mono ?_;rintro e w' ⟨v,G',rfl,hh,hK⟩;have rl:fe C n (b9 a) ov G a w:=⟨r.h,r.sz,ci a,r.df⟩;have rl2:=(rl.heap (rl.h.called hh)).put v hd;exact hk.run ρ G' ov _ w' ⟨r.gb.trans hh.gle,rl2.h,rl2.sz,rl2.df,(jg rl2).fx (fun k g _ e=>by obtain⟨z,h5,h6⟩:=r.fx k g e;exact⟨z,h5,h6.up hh.gle⟩) hK,
  fun nm B e=>by obtain⟨os,h5,h6⟩:=r.bx nm B e;exact⟨os,h5.up hh.gle,h6⟩,r.dj,r.fxd⟩
def Dx(fr:ao)(cf:Cf):Option (TypeId×DV):=match bu fr cf with
 |some ⟨_, .makeInterface t x,_,_,_,_⟩=>match evD (aI fr cf) x with
  |some d=>some (t,d)
  |none=>none
 |_=>none
def QD[fu:Fu]{t:TypeId}{d:DV}(u:Value)(ha:Dx fr cf=some (t,d))(ht:zy t)(hd: ∀G y,Is G d y->y=u)(hgo:bF tt n fu.n fr own cf (.d (.v (.iface t u))) [] []=⟨vc,fr',own',cf'⟩)(k:aj prog GB C n Q0 fr' own' cf')
  (hv:ab vc:=by first|exact trivial|(simp only[ab];kernel_rfl)|(simp only[ab];omega)):aj prog GB C n Q0 fr own cf:=by
 unfold Dx at ha;split at ha<;>try (cases ha;done)
 rename_i hh;split at ha<;>cases ha;rename_i hx;exact us hh (LO ht hx hd) hgo hv k
def Ev(fr:ao)(cf:Cf):Option (String×TypeId×Value×List DV):=match bu fr cf with
 |some ⟨_, .call ⟨.invoke x m,args,_⟩,_,_,_,_⟩=>match aC (aI fr cf) x with
  |some (.d (.v (.iface t u)))=>match evDs (aI fr cf) args.toList with
   |some ds=>some (m,t,u,ds)
   |none=>none
  |_=>none
 |_=>none
def Ni[fu:Fu]{m:String}{t:TypeId}{u:Value}{f:FuncId}{ds:List DV}{rv:DV}(ha:Ev fr cf=some (m,t,u,ds))(hm:wi t u m f)(hF:PF GB prog f (.v u::ds) rv)(hgo:bF tt n fu.n fr own cf (.d rv) [] []=⟨vc,fr',own',cf'⟩)(k:aj prog GB C n Q0 fr' own' cf')
  (hv:ab vc:=by first|exact trivial|(simp only[ab];kernel_rfl)|(simp only[ab];omega)):aj prog GB C n Q0 fr own cf:=by
 unfold Ev at ha;split at ha<;>try (cases ha;done)
 rename_i hh;split at ha<;>try (cases ha;done)
 rename_i hx;split at ha<;>cases ha;rename_i hds;exact us hh (Si hx hds hm hF) hgo hv k
def PF.arg0{f:FuncId}{d e:DV}{ds:List DV}{rv:DV}(h:PF GB prog f (d::ds) rv)(he: ∀G y,Is G e y->Is G d y):PF GB prog f (e::ds) rv:=fun G vs hg hvs=>by
 obtain⟨y,m,rfl,h1,h2⟩:=bE.1 hvs;exact h G _ hg (.cons (he G y h1) h2)
end
section
variable {GB:Gh} {C:az} {n:Nat} {Q0:Exit->Act->World->Prop} {fr fr':ao} {own own':aB} {cf cf':Cf} {vc:List Prop} {lk:LK} {bk:BM} {dst:Option Nat} {ty:TypeId} {pos:String} {af:Array Edge} {gd:Option (Nat×Bool)}
def s6(lk:LK):List Operand->Option (List Value)
 |[]=>some []
 |x::xs=>match aC lk x with
  |some (.d (.v pv))=>match s6 lk xs with
   |some l=>some (pv::l)
   |none=>none
  |_=>none
def Cp{ρ:NE}{G:Gh}{ov:List av}{a:Act}{w:World}(r:bj GB C n lk bk ρ G ov a w): ∀{xs:List Operand} {l:List Value},s6 lk xs=some l->xs.mapM (aw (b9 a))=some l
 |[],l,h=>by cases h;rfl
 |x::xs,l,h=>by
  simp only[s6] at h;split at h<;>try (cases h;done)
  rename_i h1;split at h<;>cases h;rename_i h2;obtain⟨y,h3,h4⟩:=r.ev h1;rw[(ba (G:=G)).1 h4] at h3;rw[mL,h3,Cp r h2];rfl
def Ea(fr:ao)(cf:Cf):Option (FuncId×List Value×List Value):=match bu fr cf with
 |some ⟨_, .makeFunc (.func f) ⟨xs⟩ ⟨ys⟩,_,_,_,_⟩=>match s6 (aI fr cf) xs,s6 (aI fr cf) ys with
  |some a,some b=>some (f,a,b)
  |_,_=>none
 |_=>none
def HU[fu:Fu]{f:FuncId}{c1 c2:List Value}(h:Ea fr cf=some (f,c1,c2))(hgo:bF tt n fu.n fr own cf (.d (.v (.func (.func f) ⟨c1⟩ ⟨c2⟩))) [] []=⟨vc,fr',own',cf'⟩)(k:aj prog GB C n Q0 fr' own' cf')
  (hv:ab vc:=by first|exact trivial|(simp only[ab];kernel_rfl)|(simp only[ab];omega)):aj prog GB C n Q0 fr own cf:=by
 unfold Ea at h;split at h<;>try (cases h;done)
 rename_i hh;split at h<;>cases h;rename_i h1 h2;exact us hh (bm.yd (f:= .d (.v (.func (.func f) ⟨c1⟩ ⟨c2⟩))) fun ρ G ov a w r=>⟨_,(ba (G:=G)).2 J,CO (Cp r h1) (Cp r h2)⟩) hgo hv k
def GQ(fr:ao)(cf:Cf):Option (FuncId×DV):=match bu fr cf with
 |some ⟨_, .makeFunc (.func f) ⟨[x]⟩ ⟨[]⟩,_,_,_,_⟩=>match evD (aI fr cf) x with
  |some d=>some (f,d)
  |_=>none
 |_=>none
def sQ[fu:Fu]{f:FuncId}{d:DV}(pv:Value)(h:GQ fr cf=some (f,d))(hd: ∀G y,Is G d y->y=pv)(hgo:bF tt n fu.n fr own cf (.d (.v (.func (.func f) ⟨[pv]⟩ ⟨[]⟩))) [] []=⟨vc,fr',own',cf'⟩)(k:aj prog GB C n Q0 fr' own' cf')
  (hv:ab vc:=by first|exact trivial|(simp only[ab];kernel_rfl)|(simp only[ab];omega)):aj prog GB C n Q0 fr own cf:=by
 unfold GQ at h;split at h<;>try (cases h;done)
 rename_i hh;split at h<;>cases h;rename_i hx;exact us hh (bm.yd (f:= .d (.v (.func (.func f) ⟨[pv]⟩ ⟨[]⟩))) fun ρ G ov a w r=>by
  obtain⟨y,hy,hy'⟩:=r.evD hx;obtain rfl:=hd G y hy';exact⟨_,(ba (G:=G)).2 J,CO (l1:=[y]) (l2:=[]) (by simp[hy]) J⟩) hgo hv k
def Rk{fo:Operand}{args:Array Operand}{tys:Array TypeId}{f:FuncId}{c1 c2:List Value}{ds1 ds ds2:List DV}{rv:DV}(h1:aC lk fo=some (.d (.v (.func (.func f) ⟨c1⟩ ⟨c2⟩))))(h2:evDs lk args.toList=some ds)(hc:IsLs GB ds1 c1)(hc2:IsLs GB ds2 c2)(hF:PF GB prog f (ds1++ds++ds2) rv):
  bm prog GB C n lk bk ⟨dst, .call ⟨.value fo,args,tys⟩,ty,pos,af,gd⟩ (.d rv) [] []:=by
 intro hd tl tb K' s1 s2 hf hk;refine⟨fun ρ G ov a w r Q=>?_⟩;obtain⟨y,hy,hy'⟩:=(r.mono s1 s2).ev h1;rw[(ba (G:=G)).1 hy'] at hy;obtain⟨vs,h3,h4⟩:=(r.mono s1 s2).evDs h2;refine Hf (c1:=c1) (c2:=c2) hy h3 (hF G (c1++vs++c2) r.gb (((hc.up r.gb).app h4).app (hc2.up r.gb))) hd (fun v G' hG hK a' w' rl=>?_) a w Q ⟨r.h,r.sz,ci a,r.df⟩;exact hk.run ρ G' ov a' w' ⟨r.gb.trans hG.le,rl.h,rl.sz,rl.df,(jg rl).fx (fun k g _ e=>by obtain⟨u,h5,h6⟩:=r.fx k g e;exact⟨u,h5,h6.up hG.le⟩) hK,
  fun nm B e=>by obtain⟨os,h5,h6⟩:=r.bx nm B e;exact⟨os,h5.up hG.le,h6⟩,r.dj,r.fxd⟩
def E4(fr:ao)(cf:Cf):Option (FuncId×List Value×List Value×List DV):=match bu fr cf with
 |some ⟨_, .call ⟨.value fo,args,_⟩,_,_,_,_⟩=>match aC (aI fr cf) fo,evDs (aI fr cf) args.toList with
  |some (.d (.v (.func (.func f) ⟨c1⟩ ⟨c2⟩))),some ds=>some (f,c1,c2,ds)
  |_,_=>none
 |_=>none
def oc[fu:Fu]{f:FuncId}{c1 c2:List Value}{ds ds1 ds2:List DV}{rv:DV}(ha:E4 fr cf=some (f,c1,c2,ds))(hc:IsLs GB ds1 c1)(hc2:IsLs GB ds2 c2)(hF:PF GB prog f (ds1++ds++ds2) rv)(hgo:bF tt n fu.n fr own cf (.d rv) [] []=⟨vc,fr',own',cf'⟩)(k:aj prog GB C n Q0 fr' own' cf')
  (hv:ab vc:=by first|exact trivial|(simp only[ab];kernel_rfl)|(simp only[ab];omega)):aj prog GB C n Q0 fr own cf:=by
 unfold E4 at ha;split at ha<;>try (cases ha;done)
 rename_i hh;split at ha<;>cases ha;rename_i h1 h2;exact us hh (Rk h1 h2 hc hc2 hF) hgo hv k
end
section
variable {GB:Gh} {C:az} {n:Nat} {Q0:Exit->Act->World->Prop} {fr fr':ao} {own own':aB} {cf cf':Cf} {vc:List Prop}
def GI(fr:ao)(cf:Cf):Option (Int×Int):=match bu fr cf with
 |some ⟨_, .binOp .xor _ x y _,_,_,_,_⟩=>match aC (aI fr cf) x,aC (aI fr cf) y with
  |some (.d (.v (.int .u32 p))),some (.d (.v (.int .u32 q)))=>some (p,q)
  |_,_=>none
 |_=>none
def xr[fu:Fu]{p q:Int}(u:Int)(h:GI fr cf=some (p,q))(e:(((BitVec.ofInt 32 p^^^BitVec.ofInt 32 q).toNat:Nat):Int)=u)(hgo:bF tt n fu.n fr own cf (.d (.v (.int .u32 u))) [] []=⟨vc,fr',own',cf'⟩)(k:aj prog GB C n Q0 fr' own' cf')
  (hv:ab vc:=by first|exact trivial|(simp only[ab];kernel_rfl)|(simp only[ab];omega)):aj prog GB C n Q0 fr own cf:=by
 unfold GI at h;split at h<;>try (cases h;done)
 rename_i hh;split at h<;>cases h;rename_i h1 h2;subst e;exact us hh (.yd fun ρ G ov a w r=>by
  obtain⟨y1,h3,h4⟩:=r.ev h1;obtain⟨y2,h5,h6⟩:=r.ev h2;rw[cg] at h4 h6;subst h4 h6;exact⟨_,cg.2 J,fg h3 h5 fun w=>by
   show(pure (Value.int .u32 (IntKind.u32.wrap ((BitVec.ofInt 32 p^^^BitVec.ofInt 32 q).toNat:Int))):Sem Value).run prog w=_;rw[vw];rfl⟩) hgo hv k
def JH(fr:ao)(cf:Cf):Option (Int×Int):=match bu fr cf with
 |some ⟨_, .binOp .sub _ x y _,_,_,_,_⟩=>match aC (aI fr cf) x,aC (aI fr cf) y with
  |some (.d (.v (.int .u32 p))),some (.d (.v (.int .u32 q)))=>some (p,q)
  |_,_=>none
 |_=>none
def sw[fu:Fu]{p q:Int}(u:Int)(h:JH fr cf=some (p,q))(e:(p-q)%4294967296=u)(hgo:bF tt n fu.n fr own cf (.d (.v (.int .u32 u))) [] []=⟨vc,fr',own',cf'⟩)(k:aj prog GB C n Q0 fr' own' cf')
  (hv:ab vc:=by first|exact trivial|(simp only[ab];kernel_rfl)|(simp only[ab];omega)):aj prog GB C n Q0 fr own cf:=by
 unfold JH at h;split at h<;>try (cases h;done)
 rename_i hh;split at h<;>cases h;rename_i h1 h2;subst e;exact us hh (.yd fun ρ G ov a w r=>by
  obtain⟨y1,h3,h4⟩:=r.ev h1;obtain⟨y2,h5,h6⟩:=r.ev h2;rw[cg] at h4 h6;subst h4 h6;exact⟨_,cg.2 J,by rw[<-lE];exact qN h3 h5⟩) hgo hv k
def JW(fr:ao)(cf:Cf):Option Int:=match bu fr cf with
 |some ⟨_, .unOp .xor _ x,_,_,_,_⟩=>match aC (aI fr cf) x with
  |some (.d (.v (.int .u32 p)))=>some p
  |_=>none
 |_=>none
def nt[fu:Fu]{p:Int}(u:Int)(h:JW fr cf=some p)(e:(((BitVec.ofInt 32 IntKind.u32.max^^^BitVec.ofInt 32 p).toNat:Nat):Int)=u)(hgo:bF tt n fu.n fr own cf (.d (.v (.int .u32 u))) [] []=⟨vc,fr',own',cf'⟩)(k:aj prog GB C n Q0 fr' own' cf')
  (hv:ab vc:=by first|exact trivial|(simp only[ab];kernel_rfl)|(simp only[ab];omega)):aj prog GB C n Q0 fr own cf:=by
 unfold JW at h;split at h<;>try (cases h;done)
 rename_i hh;split at h<;>cases h;rename_i hx;subst e;refine us hh (.x1 hx fun ρ G ov a w y _ r h1 h2=>?_) hgo hv k;rw[cg] at h2;subst h2;refine⟨_,cg.2 J,fun a w hf hh=>?_⟩;simp only[execOp,aO hf h1];refine cj (w':=w) ?_;show(pure (Value.int .u32 (IntKind.u32.wrap ((BitVec.ofInt 32 IntKind.u32.max^^^BitVec.ofInt 32 p).toNat:Int))):Sem Value).run prog w=_;rw[vw];rfl
end

def OH{ds:List Nat}{k:Nat}(hk:k<ds.length)(h:trimD ds=trimD (ds.take (k+1)))(h0:ds.getD k 0=0):trimD ds=trimD (ds.take k):=by
 rw[h,fK hk];have:ds[k]=0:=by rw[aJ,aZ hk] at h0;simpa using h0
 rw[this,HP]
def Nn{ds:List Nat}{k:Nat}(hk:k<ds.length)(h:trimD ds=trimD (ds.take (k+1)))(h0:ds.getD k 0≠0):trimD ds=ds.take (k+1):=by
 rw[h,fK hk];have:ds[k]≠0:=by rw[aJ,aZ hk] at h0;simpa using h0
 exact AN this
def fA{A G:Gh}{x:SV}{ds:List Nat}(hx:bw A x ds)[GL A G](hb:ds.length<=1125899906842624):Fn prog 361 [x.v] G (fun v _=>v= .slice x.a (trimD ds).length x.c):=by
 have hlen:=hx.len;have hcap:=hx.sl.cap;refine Fn.intro func361 J J ntmps361 J ?_;intro C _ _;refine sR<|sa J J<|zE<|bt<|dq<|?_;refine iG (X:=Nat) (fun k=>[(0, .slice x.a k x.c)]) (fun _=>[]) (fun k _=>k<=ds.length/\trimD ds=trimD (ds.take k)) (fun k=>k) ds.length ⟨aR _,by simp⟩ (hlen▸ .cons J .nil) J ?_;rintro k Gx _ ⟨hk,ht⟩;refine bt<|sR<|sm J J<|cd J J<|sy (qC J J) J<|sm J J<|?_;refine w8 6 J (fun hg=>?_) (fun hg=>?_)
 ·have hk1:k-1<ds.length:=by omega
  have hkt:((k:Int)-1).toNat=k-1:=by omega
  have hk2:k=k-1+1:=by omega
  refine dH J J (jx J) J<|dH J J (jx J) J<|dH J J (ph J) J<|dH J J (gg J J) J<|?_;refine dH J J (e7 (z:=⟨x.a,k,x.c⟩) (hx.take k hk) J J (by omega) (by show _<(k:Int);omega)) J<|dH J J (e8 hx J (by omega)) J<|dH J J (mF J J) J<|sy (tD J J) J<|zE<|?_;rw[hkt];refine iO J (fun hc=>?_) (fun hc=>?_) -- slot 14
  ·refine fD<|dh<|dh<|fE<|sR<|sm J J<|sa J J<|zE<|dz<|?_
   have hs:=Nn hk1 (hk2▸ht) (fun e=>hc (by rw[e];rfl));refine zD (.tmp J .nil) ?_;rw[hs,<-hk2];simp[eu,hk]
  refine zK<|dq<|cG<|sm J J<|sm J J<|cd J J<|sy (gg J J) J<|sy (tk J J (by omega) (by omega)) J<|?_;refine sa J J<|zE<|?_;exact fC (k-1) ⟨by omega,OH hk1 (hk2▸ht) (by omega)⟩ (by omega) (.cons (by rw[<-hkt];rfl) .nil) J
 refine ss J J J J<|ss J J J J<|ss J J J J<|ss J J J J<|ss J J J J<|ss J J J J<|?_;refine ss J J J J<|sy (uv J J) J<|zE<|PU J<|fD<|dh<|dh<|fE<|sR<|sm J J<|sa J J<|zE<|dz<|?_;have hk0:k=0:=by omega
 subst hk0;refine zD (.tmp J .nil) ?_;rw[ht];rfl
def Rj{A G:Gh}{x:SV}{ds:List Nat}(hx:bw A x ds)[GL A G](hb:ds.length<=1125899906842624):Fn prog 348 [x.v] G (fun v _=>v= .bool (decide (cH ds))):=by
 have hlen:=hx.len;refine Fn.intro func348 J J ntmps348 J ?_;intro C _ _;refine sR<|sa J J<|zE<|sR<|sm J J<|cd J J<|sy (mF J J) J<|sm J J<|?_;refine w8 6 J (fun hg=>?_) (fun hg=>?_)
 ·refine ss J J J J<|ss J J J J<|ss J J J J<|ss J J J J<|ss J J J J<|ss J J J J<|ss J J J J<|sy (tD J J) J<|sa J J<|?_
  refine zE<|dz<|?_;refine zD (.tmp J .nil) ?_;have:ds=[]:=bU (by omega);subst this;simp[eu,cH]
 have hne:0<ds.length:=by omega
 have hkt:((x.n:Int)-1).toNat=ds.length-1:=by omega
 refine dH J J (jx J) J<|dH J J (jx J) J<|dH J J (ph J) J<|dH J J (gg J J) J<|dH J J (e7 hx J J (by omega) (by omega)) J<|?_;refine dH J J (e8 hx J (by omega)) J<|dH J J (pD J J) J<|sy (uv J J) J<|sa J J<|zE<|dz<|?_;refine zD (.tmp J .nil) ?_;rw[hkt];simp only[eu,Value.bool.injEq,decide_eq_decide,cH,lZ,aJ,aZ (show ds.length-1<ds.length by omega),gV,ne_eq,Option.some.injEq];exact not_congr (by omega)
def OY(ds:List Nat): ∀v∈ds.map dI,flat v=true:=fun v hv=>by
 obtain⟨d,_,rfl⟩:=bT.1 hv;rfl
def HH{A G:Gh}{x:SV}{ds:List Nat}(hx:bw A x ds)[GL A G](hb:ds.length<=1125899906842):Fn prog 365 [x.v] G (fun v G'=> ∃z:SV,v=z.v/\bw G' z ds):=by
 have hlen:=hx.len;refine Fn.intro func365 J J ntmps365 J ?_;intro C _ _;refine sR<|sa J J<|zE<|bt<|sR<|sm J J<|sy (B4 J J) J<|zE<|?_;refine Oj J (fun hc=>?_) (fun hc=>?_)
 ·refine sR<|sa J J<|zE<|dz<|?_
  refine zD (.tmp J .nil) ⟨⟨none,0,0⟩,J,?_⟩;rcases hx.sl.mem with h|⟨b,off,cs,ha,_⟩
  ·have:ds=[]:=by simpa using h
   subst this;exact .nil _
  ·rw[ha] at hc;cases hc
 refine zK<|sR<|?_;refine sc (J2 J ?_);intro b1;refine sm J J<|?_;refine sc (Hh (xs:=[]) (rest:=[]) (ys:=ds.map dI) J J (.hd ..) J J (aR _) (IR hx) (by simp[hlen]) (OY ds) (by decide) (by omega) J J ?_);intro b cap rest h1 h2;refine sa J J<|zE<|l6 b (.hd ..) (fun G' _ hgb=>?_);refine dz<|?_;refine zD (.tmp J .nil) ⟨⟨some ⟨b,0,none⟩,x.n,cap⟩,by simp[eu,SV.v],?_⟩;exact .of_block hx.ok hgb.h hlen (by omega) (by simp)
def Az{A G:Gh}{x:SV}{ds:List Nat}{k:Nat}(hx:bw A x ds)[GL A G](hk:dv ds<2^k)(hb:ds.length<=1125899906842):Fn prog 308 [x.v] G (fun v G'=> ∃z:SV,v=z.v/\d6 k G' z (dv ds)):=by
 have htl:=jt ds;refine Fn.intro func308 J J ntmps308 J ?_;intro C _ _;refine sR<|sa J J<|zE<|sR<|sm J J<|?_;refine sc (zC J J (fA hx (by omega)) J ?_);rintro _ G1 _ rfl;refine sc (zC J J (HH hx.trim (by omega)) J ?_);rintro _ G2 _ ⟨z,rfl,hz⟩;refine sa J J<|zE<|dz<|?_;refine zD (.tmp J .nil) ⟨z,J,?_⟩;exact⟨by rw[lg hx.ok];exact hz,hk⟩
end Go.Sx
end
section
namespace Go.Proofs
open Go.Shelf
def Tryz.lays128_ren:Go.Shelf.Ren:=⟨fun|128=>332|n=>n,fun|51=>366|3=>3|4=>4|46=>355|5=>5|9=>9|n=>n,fun|n=>n⟩
def Tryz.lays125_ren:Go.Shelf.Ren:=⟨fun|125=>231|128=>332|129=>333|n=>n,fun|46=>355|3=>3|51=>366|53=>251|4=>4|5=>5|9=>9|n=>n,fun|n=>n⟩
def Tryz.lays133_ren:Go.Shelf.Ren:=⟨fun|133=>366|128=>332|n=>n,fun|51=>366|3=>3|4=>4|46=>355|5=>5|9=>9|n=>n,fun|n=>n⟩
def Tryz.lays133:Go.Proofs.Lays.n133 Tryz.prog Tryz.lays133_ren:={
 mixed:=by kernel_rfl
 f128:=Tryz.func332.trans (congrArg some (by kernel_rfl))
 f133:=Tryz.func366.trans (congrArg some (by kernel_rfl))
 t3:=Tryz.underlying3
 a3:=Tryz.isAgg3
 z3:=Tryz.sizeOf3
 v3:=Tryz.zeroValue3
 t4:=Tryz.underlying4
 a4:=Tryz.isAgg4
 z4:=Tryz.sizeOf4
 v4:=Tryz.zeroValue4
 t5:=Tryz.underlying5
 a5:=Tryz.isAgg5
 z5:=Tryz.sizeOf5
 v5:=Tryz.zeroValue5
 t9:=Tryz.underlying9
 a9:=Tryz.isAgg9
 z9:=Tryz.sizeOf9
 v9:=Tryz.zeroValue9
 t46:=Tryz.underlying355
 a46:=Tryz.isAgg355
 z46:=Tryz.sizeOf355
 v46:=Tryz.zeroValue355
 t51:=Tryz.underlying366
 a51:=Tryz.isAgg366
 z51:=Tryz.sizeOf366
 v51:=Tryz.zeroValue366}
def Tryz.bits_LeadingZeros32(x:Int)(w:World)(h0:0<=x)(h1:x<=4294967295):
  Calls Tryz.prog 366 #[.int .u32 x] w fun e w'=>e= .returned (.int .i64 (32-(Lib.bitLen x.toNat:Int)))/\w'=w:=Any.bits_LeadingZeros32 Tryz.lays133 x w h0 h1
def Tryz.lays129_ren:Go.Shelf.Ren:=⟨fun|129=>333|n=>n,fun|53=>251|3=>3|4=>4|46=>355|5=>5|9=>9|n=>n,fun|n=>n⟩
def Tryz.lays317_ren:Go.Shelf.Ren:=⟨fun|317=>401|n=>n,fun|3=>3|46=>355|n=>n,fun|n=>n⟩
open Go.Lib in
def Tryz.lays318_ren:Go.Shelf.Ren:=⟨fun|318=>402|n=>n,fun|3=>3|4=>4|n=>n,fun|n=>n⟩
open Go.Lib in
def Tryz.lays283_ren:Go.Shelf.Ren:=⟨fun|283=>383|n=>n,fun|3=>3|9=>9|4=>4|n=>n,fun|n=>n⟩
open Go.Lib in
def Tryz.laysM284_ren:Go.Shelf.Ren:=⟨fun|284=>384|129=>333|317=>401|318=>402|n=>n,fun|53=>251|3=>3|212=>491|0=>0|4=>4|46=>355|5=>5|9=>9|n=>n,fun|17=>7|n=>n⟩
open Go.Lib in
def Tryz.lays285_ren:Go.Shelf.Ren:=⟨fun|285=>385|n=>n,fun|37=>476|53=>251|3=>3|4=>4|51=>366|9=>9|5=>5|0=>0|n=>n,fun|n=>n⟩
open Go.RowKit Go.Sort Go.Lib in
def Tryz.laysM246_ren:Go.Shelf.Ren:=⟨fun|246=>357|283=>383|284=>384|285=>385|286=>386|129=>333|317=>401|318=>402|319=>403|320=>404|337=>408|338=>409|n=>n,fun|2=>2|3=>3|9=>9|4=>4|171=>474|0=>0|53=>251|37=>476|5=>5|173=>477|212=>491|51=>366|20=>20|213=>492|46=>355|232=>497|233=>498|n=>n,fun|17=>7|18=>8|19=>9|n=>n⟩
open Go.RowKit Go.Sort Go.Lib in
def Tryz.lays246_ren:Go.Shelf.Ren:=⟨fun|246=>357|283=>383|284=>384|285=>385|286=>386|129=>333|317=>401|318=>402|319=>403|320=>404|337=>408|338=>409|n=>n,fun|2=>2|3=>3|9=>9|4=>4|171=>474|0=>0|53=>251|37=>476|5=>5|173=>477|212=>491|51=>366|20=>20|213=>492|46=>355|232=>497|233=>498|n=>n,fun|17=>7|18=>8|19=>9|n=>n⟩
open Go.RowKit Go.Sort Go.Lib in
def Tryz.laysM243_ren:Go.Shelf.Ren:=⟨fun|243=>285|246=>357|283=>383|284=>384|285=>385|286=>386|129=>333|317=>401|318=>402|319=>403|320=>404|337=>408|338=>409|n=>n,fun|3=>3|9=>9|2=>2|4=>4|171=>474|0=>0|53=>251|37=>476|5=>5|173=>477|212=>491|51=>366|20=>20|213=>492|46=>355|232=>497|233=>498|n=>n,fun|17=>7|18=>8|19=>9|n=>n⟩
open Go.RowKit Go.Sort Go.Lib in
def Tryz.lays243_ren:Go.Shelf.Ren:=⟨fun|243=>285|246=>357|283=>383|284=>384|285=>385|286=>386|129=>333|317=>401|318=>402|319=>403|320=>404|337=>408|338=>409|n=>n,fun|3=>3|9=>9|2=>2|4=>4|171=>474|0=>0|53=>251|37=>476|5=>5|173=>477|212=>491|51=>366|20=>20|213=>492|46=>355|232=>497|233=>498|n=>n,fun|17=>7|18=>8|19=>9|n=>n⟩
open Go.RowKit Go.Sort Go.Lib in
def Tryz.laysM171_ren:Go.Shelf.Ren:=⟨fun|171=>190|243=>285|246=>357|283=>383|284=>384|285=>385|286=>386|129=>333|317=>401|318=>402|319=>403|320=>404|337=>408|338=>409|n=>n,fun|3=>3|9=>9|2=>2|4=>4|171=>474|0=>0|53=>251|37=>476|5=>5|173=>477|212=>491|51=>366|20=>20|213=>492|46=>355|232=>497|233=>498|n=>n,fun|17=>7|18=>8|19=>9|n=>n⟩
open Go.RowKit Go.Sort Go.Lib in
def Tryz.lays171_ren:Go.Shelf.Ren:=⟨fun|171=>190|243=>285|246=>357|283=>383|284=>384|285=>385|286=>386|129=>333|317=>401|318=>402|319=>403|320=>404|337=>408|338=>409|n=>n,fun|3=>3|9=>9|2=>2|4=>4|171=>474|0=>0|53=>251|37=>476|5=>5|173=>477|212=>491|51=>366|20=>20|213=>492|46=>355|232=>497|233=>498|n=>n,fun|17=>7|18=>8|19=>9|n=>n⟩
open Go.RowKit Go.Sort Go.Lib in
def Tryz.lays264_ren:Go.Shelf.Ren:=⟨fun|264=>359|n=>n,fun|53=>251|46=>355|n=>n,fun|n=>n⟩
def Tryz.lays264:Go.Proofs.Lays.n264 Tryz.prog Tryz.lays264_ren:={
 mixed:=by kernel_rfl
 f264:=Tryz.func359.trans (congrArg some (by kernel_rfl))
 t46:=Tryz.underlying355
 a46:=Tryz.isAgg355
 z46:=Tryz.sizeOf355
 v46:=Tryz.zeroValue355
 t53:=Tryz.underlying251
 a53:=Tryz.isAgg251
 z53:=Tryz.sizeOf251
 v53:=Tryz.zeroValue251}
open Go.RowKit Go.Lib in
def Tryz.bits_Mul64(x y:Nat)(hx:x<18446744073709551616)(hy:y<18446744073709551616)(w:World):
  Calls Tryz.prog 359 #[.int .u64 x, .int .u64 y] w fun e w'=>e= .returned (.tuple #[.int .u64 ((x*y/18446744073709551616:Nat):Int), .int .u64 ((x*y%18446744073709551616:Nat):Int)])/\w'=w:=Any.bits_Mul64 Tryz.lays264 x y hx hy w
end Go.Proofs
end
section
namespace Go.Sx
open Go Go.Proofs Tryz
def bl(x:Nat):Nat:=if x=0 then 0 else Nat.log2 x+1
def v6(x:Nat):x<2^bl x:=by
 unfold bl;split
 ·rename_i h;subst h;decide
 ·exact Nat.lt_log2_self
def kd{x k:Nat}:bl x<=k↔x<2^k:=by
 constructor
 ·intro h;exact cR (v6 x) (aM (by omega) h)
 ·intro h
  unfold bl;split
  ·omega
  ·rename_i h0
   have:=(Nat.log2_lt h0).2 h;omega
def OU{x:Nat}(h:x≠0):bl x=1+bl (x/2):=by
 have h1: ∀k,bl x<=k+1↔bl (x/2)<=k:=fun k=>by
  rw[kd,kd,dL];omega
 have h2:bl x≠0:=fun e=>by
  have:=v6 x;rw[e] at this;simp at this;exact h this
 have h3:=(h1 (bl (x/2))).2 (aR _);have h4:=(h1 (bl x-1)).1 (by omega);omega
def JE: ∀(f x:Nat),x<2^f->Lib.bitLenAux f x=bl x
 |0,x,h=>by
  have:x=0:=by simpa using h
  subst this;rfl
 |f+1,x,h=>by
  unfold Lib.bitLenAux;split
  ·rename_i h0;subst h0;rfl
  ·rename_i h0
   rw[JE f (x/2) (by rw[dL] at h;omega),OU h0]
def Sn{x:Nat}(h:x<2^64):Lib.bitLen x=bl x:=JE 64 x h
def Mn{x k:Nat}(d:Nat)(h:x<2^k)(hd:d≠0):bl (x+2^k*d)=k+bl d:=by
 have h1: ∀j,bl (x+2^k*d)<=k+j↔bl d<=j:=fun j=>by
  rw[kd,kd,dK];constructor
  ·intro h'
   exact Nat.lt_of_mul_lt_mul_left (a:=2^k) (by omega)
  ·intro h'
   have:2^k*(d+1)<=2^k*2^j:=dT _ h';rw[cW] at this;omega
 have h2:k<bl (x+2^k*d):=by
  rcases fT k (bl (x+2^k*d)) with h'|h'
  ·exact h'
  ·have:=kd.1 h'
   have h3:2^k*1<=2^k*d:=dT _ (by omega);omega
 have h3:=(h1 (bl d)).2 (aR _);have h4:=(h1 (bl (x+2^k*d)-k)).1 (by omega);omega
def Qr{ds:List Nat}(h:aP ds)(hn:cH ds)(hne:ds≠[]):bl (dv ds)=32*(ds.length-1)+bl (ds.getD (ds.length-1) 0):=by
 rcases pV ds with rfl|⟨l,d,rfl⟩
 ·exact absurd J hne
 ·rw[pW] at*
  have hd:d≠0:=fun e=>by subst e;simp[cH] at hn
  have hl:aP l:=fun x hx=>h x (cJ _ hx);have h1:=gj hl;rw[rP];have h2:(4294967296:Nat)^l.length=2^(32*l.length):=by rw[mN]
  rw[h2] at h1⊢;have h3:dv [d]=d:=by simp[dv]
  rw[h3,Mn d h1 hd];have h4:(l++[d]).length-1=l.length:=by simp
  rw[h4,aJ,cV (aR _)];simp
def Er{P:Program}{f:FuncId}{fn:Func}{c:Code}(h:P.funcs[f]? =some fn)(hb:fn.body=some c)(hn:(fn.name== "runtime.NumGoroutine")=false):jC P f:=⟨fn,h,hn,by rw[hb];rfl⟩
def Cv{G:Gh}{x:Nat}(hx:x<4294967296):Fn prog 366 [.int .u32 (x:Int)] G (fun v _=>v= .int .i64 (32-(bl x:Int))):=by
 have h:=Fn.of_calls (G:=G) (Er func366 J J) (fun w=>Tryz.bits_LeadingZeros32 (x:Int) w (by omega) (by omega));rw[bY,Sn (nJ hx (by decide))] at h;exact h
def A6{G:Gh}{u:Nat}(hu:u<18446744073709551616):Fn prog 309 [.int .u64 (u:Int)] G (fun v G'=> ∃z:SV,v=z.v/\d6 64 G' z u):=by
 refine Fn.intro func309 J J ntmps309 J ?_;intro C _ _;refine sR<|sa J J<|zE<|sR<|sm J J<|sy (gw J) J<|sm J J<|?_;refine sy (i7 J J (by decide)) J<|sy (gw J) J<|?_;refine sc (CL (by rfl) (by rfl) (by rfl) (by rfl) J ?_);intro b1;refine l6 b1 (.hd ..) (fun G1 _ hgb=>?_);have h1:((u:Int)%4294967296)=((u%4294967296:Nat):Int):=by omega
 have h2:((u:Int).fdiv (2^min (32:Int).toNat IntKind.u64.bits)%4294967296)=((u/4294967296:Nat):Int):=by
  have:(2^min (32:Int).toNat IntKind.u64.bits:Int)=4294967296:=by decide
  rw[this,fY _ (by omega)];omega
 have hok:aP [u%4294967296,u/4294967296]:= .cons (by omega) (.cons (by omega) .nil);have hd:bw G1 ⟨some ⟨b1,0,none⟩,2,2⟩ [u%4294967296,u/4294967296]:= .of_block hok hgb.h J (aR _) (by rw[h1,h2];rfl);have hv:dv [u%4294967296,u/4294967296]=u:=by simp only[dv];omega
 refine sc (zC J J (fA hd (by simp)) J ?_);rintro _ G2 _ rfl;refine sa J J<|zE<|dz<|?_;refine zD (.tmp J .nil) ⟨⟨some ⟨b1,0,none⟩,(trimD [u%4294967296,u/4294967296]).length,2⟩,J,?_⟩;have:=hd.trim.up (G:=G2);rw[<-lg hok,hv] at this;exact⟨by rw[<-lg hok,hv];exact this,cR hu (by decide)⟩
def J'{P:Program}{t:TypeId}(a b k:Nat)(ha:a<2^k)(h:a+b*2^k<18446744073709551616)(w:World):(binOp .or t (.int .u64 (a:Int)) (.int .u64 ((b*2^k:Nat):Int))).run P w= .ok (.int .u64 ((a+b*2^k:Nat):Int)) w:=by
 have h1:(BitVec.ofInt 64 (a:Int) ||| BitVec.ofInt 64 ((b*2^k:Nat):Int)).toNat=a+b*2^k:=by
  rw[BitVec.toNat_or,BitVec.ofInt_natCast,BitVec.ofInt_natCast,BitVec.toNat_ofNat,BitVec.toNat_ofNat,dQ (by omega),dQ (by omega)];rw[<-jT,Nat.or_comm,<-jN ha,jT];omega
 have h2:IntKind.u64.wrap ((a+b*2^k:Nat):Int)=((a+b*2^k:Nat):Int):=by rw[ju];omega
 simp only[binOp];show(Op.intBits .or .u64 (a:Int) ((b*2^k:Nat):Int)).run P w=_;unfold Op.intBits;show(pure (Value.int .u64 (IntKind.u64.wrap ((BitVec.ofInt 64 (a:Int) ||| BitVec.ofInt 64 ((b*2^k:Nat):Int)).toNat:Int))):Sem Value).run P w=_;rw[h1,h2,run_pure]
def AT{A G:Gh}{x:SV}{ds:List Nat}(hx:bw A x ds)[GL A G](hb:ds.length<=1125899906842624):Fn prog 315 [x.v] G (fun v _=>v= .tuple #[.int .u64 ((if dv ds<18446744073709551616 then dv ds else 0:Nat):Int), .bool (decide (dv ds<18446744073709551616))]):=by
 have htl:=jt ds;have hdv:=gi ds;have hok:=hx.ok.trimD;have hnr:=cH.trimD ds;have hxt:=hx.trim;have hcall:=fun G1 (_:GL A G1)=>fA (G:=G1) hx (by omega);generalize trimD ds=es at*;have hlen:=hxt.len;rw[<-hdv];have hbig:(if dv es<18446744073709551616 then dv es else 0)=if es.length<=2 then dv es else 0:=by
  by_cases h2:es.length<=2
  ·have h3:=gj hok
   have h4:(4294967296:Nat)^es.length<=4294967296^2:=aM (by omega) h2;rw[if_pos h2,if_pos (by omega)]
  ·have h3:=mw hnr (fun e=>by subst e;simp at h2)
   have h4:(4294967296:Nat)^2<=4294967296^(es.length-1):=aM (by omega) (by omega);rw[if_neg h2,if_neg (by omega)]
 have hbig2:decide (dv es<18446744073709551616)=decide (es.length<=2):=by
  rw[decide_eq_decide];by_cases h2:es.length<=2
  ·have h3:=gj hok
   have h4:(4294967296:Nat)^es.length<=4294967296^2:=aM (by omega) h2;exact⟨fun _=>h2,fun _=>by omega⟩
  ·have h3:=mw hnr (fun e=>by subst e;simp at h2)
   have h4:(4294967296:Nat)^2<=4294967296^(es.length-1):=aM (by omega) (by omega);exact⟨fun _=>by omega,fun h=>absurd h h2⟩
 rw[hbig,hbig2];refine Fn.intro func315 J J ntmps315 J ?_;intro C _ _;refine sR<|sa J J<|sa J J<|zE<|sR<|sm J J<|?_;refine sc (zC J J (hcall _ inferInstance) J ?_);rintro _ G1 _ rfl;refine sa J J<|zE<|bt<|sR<|sm J J<|cd J J<|sy (qC J J) J<|zE<|?_;refine fk J (fun hc=>?_) (fun hc=>?_) -- slot 11
 ·refine sR<|sa J J<|sa J J<|zE<|dz<|?_
  refine zD (.tmp J (.tmp J .nil)) ?_;have: ¬es.length<=2:=by omega
  simp[eu,this]
 have h2:es.length<=2:=by omega
 refine zK<|sR<|sa J J<|zE<|bt<|sR<|sm J J<|cd J J<|sm J J<|zE<|dq<|?_;refine iG (X:=Nat) (fun k=>[(14, .int .i64 k),(13, .int .i64 es.length),(12, .slice x.a es.length x.c),(4, .int .u64 ((dv (es.take k):Nat):Int))]) (fun _=>[]) (fun k _=>k<=es.length) (fun k=>es.length-k) 0 (bL _) (.cons J (.cons J (.cons J (.cons J .nil)))) J ?_;rintro k Gx _ hk;refine sR<|sy (gq J J) J<|zE<|bt<|?_;refine iO J (fun hc=>?_) (fun hc=>?_) -- slot 15
 ·refine fD<|dh<|dh<|fE<|sR<|sm J J<|sa J J<|sa J J<|zE<|dz<|?_
  refine zD (.tmp J (.tmp J .nil)) ?_;have hk':k=es.length:=by omega
  subst hk';simp[eu,h2]
 have hk':k<es.length:=by omega
 have hdk:=hok.get k;have hdt:=gj (hok.take k);rw[bW,fV (by omega)] at hdt;have hds:=fB es k;have hd2:=gj (hok.take (k+1));rw[bW,fV (by omega)] at hd2;have hp2:(4294967296:Nat)^(k+1)<=4294967296^2:=aM (by omega) (by omega);have hpk:(4294967296:Nat)^k=2^(32*k):=by rw[mN]
 refine zK<|bt<|dq<|sR<|sm J J<|sy (e7 (z:=⟨x.a,es.length,x.c⟩) hxt J J (by omega) (by show(k:Int)<(es.length:Nat);omega)) J<|sy (e8 hxt J (by omega)) J<|sa J J<|sa J J<|zE<|cG<|?_;refine sm J J<|sm J J<|sy (eo J (by omega) (by rw[bY];omega)) J<|sm J J<|sy (Ht J J (by omega) (by omega)) J<|?_;have hsh:IntKind.u64.wrap (((es.getD (k:Int).toNat 0:Nat):Int)*2^min ((32:Int)*(k:Int)).toNat IntKind.u64.bits)=((es.getD k 0*2^(32*k):Nat):Int):=by
  have e1:((32:Int)*(k:Int)).toNat=32*k:=by omega
  rw[e1,bY,fV (by show 32*k<=64;omega),ju];have e2:((es.getD k 0:Nat):Int)*2^(32*k)=((es.getD k 0*2^(32*k):Nat):Int):=by push_cast;rfl
  rw[e2];have e3:es.getD k 0*2^(32*k)<18446744073709551616:=by rw[<-hpk,bK];omega
  omega
 refine sy (pB J J (by omega)) J<|?_;rw[hsh];refine sy (fg J J (J' (dv (es.take k)) (es.getD k 0) (32*k) (by rw[<-hpk];exact hdt) (by rw[<-hpk,bK];omega))) J<|sa J J<|zE<|cG<|sy (dl J J) J<|sm J J<|zE<|?_;refine fC (k+1) (by omega) (by omega) (.cons J (.cons J (.cons J (.cons ?_ .nil)))) J;rw[hds,hpk,bK (2^(32*k))];rfl
def Rt{A G:Gh}{x:SV}{ds:List Nat}(hx:bw A x ds)[GL A G](hb:ds.length<=1125899906842624):Fn prog 310 [x.v] G (fun v _=>v= .int .i64 ((bl (dv ds):Nat):Int)):=by
 have htl:=jt ds;have hdv:=gi ds;have hok:=hx.ok.trimD;have hnr:=cH.trimD ds;have hxt:=hx.trim;have hcall:=fun G1 (_:GL A G1)=>fA (G:=G1) hx (by omega);generalize trimD ds=es at*;have hlen:=hxt.len;rw[<-hdv];refine Fn.intro func310 J J ntmps310 J ?_;intro C _ _;refine sR<|sa J J<|zE<|sR<|sm J J<|?_;refine sc (zC J J (hcall _ inferInstance) J ?_);rintro _ G1 _ rfl;refine sa J J<|zE<|bt<|sR<|sm J J<|cd J J<|sy (mF J J) J<|zE<|?_;refine fk J (fun hc=>?_) (fun hc=>?_) -- slot 7
 ·refine sR<|sa J J<|zE<|dz<|?_
  refine zD (.tmp J .nil) ?_;have:es=[]:=bU (by omega);subst this;rfl
 have hne:0<es.length:=by omega
 have hkt:((es.length:Int)-1).toNat=es.length-1:=by omega
 have hg:=hok.get (es.length-1);have hbl:bl (es.getD (es.length-1) 0)<=32:=kd.2 (by omega);refine zK<|sR<|sm J J<|cd J J<|sy (Ht J J (by omega) (by omega)) J<|sm J J<|sm J J<|cd J J<|sy (gg J J) J<|?_;refine sy (e7 (z:=⟨x.a,es.length,x.c⟩) hxt J J (by omega) (by show _<((es.length:Nat):Int);omega)) J<|sy (e8 hxt J (by omega)) J<|?_;rw[hkt];refine sc (zC J J (Cv hg) J ?_);rintro _ G2 _ rfl;refine sy (gg J J) J<|sa J J<|zE<|dz<|?_;refine zD (.tmp J .nil) ?_;rw[Qr hok hnr (fun e=>by subst e;simp at hne)];simp only[eu,Value.int.injEq,true_and];omega
def eh(a b:Nat):Int:=if a<b then-1 else if a=b then 0 else 1
def HG{A B G:Gh}{x y:SV}{ds es:List Nat}(hx:bw A x ds)(hy:bw B y es)[GL A G][GL B G](hb:ds.length<=1125899906842624)(hb2:es.length<=1125899906842624):
  Fn prog 367 [x.v,y.v] G (fun v _=>v= .int .i64 (eh (dv ds) (dv es))):=by
 have htl:=jt ds;have htl2:=jt es;have hcall:=fun G1 (_:GL A G1)=>fA (G:=G1) hx (by omega);have hcall2:=fun G1 (_:GL B G1)=>fA (G:=G1) hy (by omega);have hxt:=hx.trim;have hyt:=hy.trim;have hok:=hx.ok.trimD;have hok2:=hy.ok.trimD;have hnr:=cH.trimD ds;have hnr2:=cH.trimD es;rw[<-gi ds,<-gi es];generalize trimD ds=a at*;generalize trimD es=b at*;refine Fn.intro func367 J J ntmps367 J ?_;intro C _ _;refine sR<|sa J J<|zE<|sR<|sm J J<|?_;refine sc (zC J J (hcall _ inferInstance) J ?_);rintro _ G1 _ rfl;refine sm J J<|?_;refine sc (zC J J (hcall2 _ inferInstance) J ?_);rintro _ G2 _ rfl;refine sa J J<|sa J J<|zE<|bt<|sR<|sm J J<|cd J J<|sm J J<|cd J J<|sy (pD J J) J<|zE<|?_;refine fk J (fun hc=>?_) (fun hc=>?_) -- slot 14
 ·refine bt<|sR<|sm J J<|cd J J<|sm J J<|cd J J<|sy (gq J J) J<|zE<|?_
  refine fk J (fun hc2=>?_) (fun hc2=>?_) -- slot 19
  ·refine sR<|sa J J<|zE<|dz<|?_
   refine zD (.tmp J .nil) ?_;have:=mP hok hnr2 (by omega);simp[eu,eh,this]
  refine zK<|sR<|sa J J<|zE<|dz<|?_;refine zD (.tmp J .nil) ?_;have:=mP hok2 hnr (by omega);have h1: ¬dv a<dv b:=by omega
  have h2: ¬dv a=dv b:=by omega
  simp[eu,eh,h1,h2]
 have hl:a.length=b.length:=by omega
 refine zK<|bt<|sR<|sm J J<|cd J J<|sy (gg J J) J<|sa J J<|zE<|dq<|?_;refine iG (X:=Nat) (fun k=>[(5, .int .i64 (k-1)),(0, .slice x.a a.length x.c),(1, .slice y.a b.length y.c)]) (fun _=>[]) (fun k _=>k<=a.length/\a.drop k=b.drop k) (fun k=>k) a.length ⟨aR _,by rw[iN,hl,iN]⟩ (.cons J (.cons J (.cons J .nil))) J ?_;rintro k Gx _ ⟨hk,hd⟩;refine bt<|sR<|sm J J<|sy (tE J J) J<|zE<|?_;refine iO J (fun hc=>?_) (fun hc=>?_) -- slot 24
 ·refine fD<|dh<|dh<|fE<|sR<|sa J J<|zE<|dz<|?_
  refine zD (.tmp J .nil) ?_;have:k=0:=by omega
  subst this;have hab:a=b:=by simpa using hd
  subst hab;simp[eu,eh]
 have hk1:0<k:=by omega
 have hkt:((k:Int)-1).toNat=k-1:=by omega
 have hga:=hok.get (k-1);have hgb:=hok2.get (k-1);have hk2:k-1+1=k:=by omega
 refine zK<|bt<|dq<|dq<|bt<|dr (fun _=>false) [(0,true),(1,true),(2,true),(3,true),(4,true),(5,true),(6,true),(7,true),(8,true),(9,true)] follows (by kernel_rfl)<|?_;refine dM J J J<|dM J J J<|dy J (fun _=>e7 (z:=⟨x.a,a.length,x.c⟩) hxt J J (by omega) (by show _<((a.length:Nat):Int);omega)) J J<|dy J (fun _=>e8 hxt J (by omega)) J J<|?_;refine dM J J J<|dM J J J<|dy J (fun _=>e7 (z:=⟨y.a,b.length,y.c⟩) hyt J J (by omega) (by show _<((b.length:Nat):Int);omega)) J J<|dy J (fun _=>e8 hyt J (by omega)) J J<|?_;refine dy J (fun _=>gq J J) J J<|dA J J J<|dn<|?_;refine fk J (fun hc2=>?_) (fun hc2=>?_) -- slot 27
 ·refine sR<|sa J J<|zE<|dz<|?_
  refine zD (.tmp J .nil) ?_;rw[hkt] at hc2;have:=vf hok hok2 (k-1) (by omega) (by omega) hl (by rw[hk2];exact hd) (by omega);simp[eu,eh,this]
 refine bt<|dr (fun _=>false) [(0,true),(1,true),(2,true),(3,true),(4,true),(5,true),(6,true),(7,true),(8,true),(9,true)] follows (by kernel_rfl)<|dM J J J<|?_;refine dM J J J<|dy J (fun _=>e7 (z:=⟨x.a,a.length,x.c⟩) hxt J J (by omega) (by show _<((a.length:Nat):Int);omega)) J J<|dy J (fun _=>e8 hxt J (by omega)) J J<|dM J J J<|?_;refine dM J J J<|dy J (fun _=>e7 (z:=⟨y.a,b.length,y.c⟩) hyt J J (by omega) (by show _<((b.length:Nat):Int);omega)) J J<|dy J (fun _=>e8 hyt J (by omega)) J J<|dy J (fun _=>qC J J) J J<|?_;refine dA J J J<|dn<|?_;rw[hkt] at*;refine fk J (fun hc3=>?_) (fun hc3=>?_) -- slot 37
 ·refine sR<|sa J J<|zE<|dz<|?_
  refine zD (.tmp J .nil) ?_;have:=vf hok2 hok (k-1) (by omega) (by omega) hl.symm (by rw[hk2];exact hd.symm) (by omega);have h1: ¬dv a<dv b:=by omega
  have h2: ¬dv a=dv b:=by omega
  simp[eu,eh,h1,h2]
 refine zK<|cG<|sm J J<|sy (gg J J) J<|sa J J<|zE<|?_;refine fC (k-1) ⟨by omega,?_⟩ (by omega) (.cons (by rw[show((k-1:Nat):Int)=(k:Int)-1 by omega];rfl) (.cons J (.cons J .nil))) J;have heq:a.getD (k-1) 0=b.getD (k-1) 0:=by omega
 rw[aJ,aJ,aZ (by omega),aZ (by omega)] at heq;rw[bM (by omega:k-1<a.length),bM (by omega:k-1<b.length),hk2,hd];congr 1
def vP{ds:List Nat}{k:Nat}(h:ds.length<=k):ds.getD k 0=0:=by
 rw[aJ,dS h];rfl
def A3(n k:Nat):(List.replicate n 0).getD k 0=0:=by
 rw[aJ];by_cases h:k<n
 ·simp[h]
 ·rw[dS (by simpa using h)];rfl
def Ri{a b c:Nat}(ha:a<4294967296)(hb:b<4294967296)(hc:c<=1):(c+a+b)/4294967296<=1:=by omega
structure OO where
 ws:List Nat
 k:Nat
 c:Nat
def RG{A B G:Gh}{x y:SV}{ds es:List Nat}{kk:Nat}(hx:bw A x ds)(hy:bw B y es)[GL A G][GL B G](hk:dv ds+dv es<2^kk)(hb:ds.length<=1125899906842)(hb2:es.length<=1125899906842):
  Fn prog 362 [x.v,y.v] G (fun v G'=> ∃z:SV,v=z.v/\d6 kk G' z (dv ds+dv es)):=by
 have hlen:=hx.len;have hlen2:=hy.len;refine Fn.intro func362 J J ntmps362 J ?_;intro C _ _;refine sR<|sa J J<|zE<|?_;refine t8 ((SV×List Nat)×(SV×List Nat)) (fun q=>[(0, .slice q.1.1.a q.1.1.n q.1.1.c),(1, .slice q.2.1.a q.2.1.n q.2.1.c)]) (fun _=>[])
  (fun q G=>bw G q.1.1 q.1.2/\bw G q.2.1 q.2.2/\dv q.1.2+dv q.2.2=dv ds+dv es/\q.2.2.length<=q.1.2.length/\q.1.2.length<=1125899906842) ?_ ?_
 ·refine sR<|sm J J<|cd J J<|sm J J<|cd J J<|sy (gq J J) J<|zE<|?_
  refine fk J (fun hc=>?_) (fun hc=>?_) -- slot 13
  ·refine cG<|sm J J<|sm J J<|sa J J<|sa J J<|zE<|?_
   exact lf ((y,es),(x,ds)) ⟨hy.up,hx.up,by simp;omega,by simp;omega,by simp;omega⟩ (.cons J (.cons J .nil)) J
  refine zK<|?_;exact lf ((x,ds),(y,es)) ⟨hx.up,hy.up,J,by simp;omega,by simp;omega⟩ (.cons J (.cons J .nil)) J
 rintro ⟨⟨x,a⟩,⟨y,b⟩⟩ Gx _ ⟨hx,hy,hsum,hle,hba⟩;rw[<-hsum] at hk⊢;clear hlen hlen2 hsum;have hlen:=hx.len;have hlen2:=hy.len;simp only[] at hx hy hle hba hlen hlen2 hk⊢;refine sR<|sm J J<|cd J J<|sy (dl J J) J<|?_;refine sc (ot J J (by omega) (by omega) (by omega) (by rfl) J ?_);intro b1;rw[pc,show((x.n:Int)+1).toNat=a.length+1 by omega];refine sa J J<|zE<|sR<|sa J J<|zE<|bt<|sR<|sm J J<|cd J J<|sm J J<|zE<|dq<|?_;refine iG (X:=OO) (fun q=>[(22, .int .i64 q.k),(21, .int .i64 x.n),(20, .slice x.a x.n x.c),(6, .int .u64 q.c),(0, .slice x.a x.n x.c),(1, .slice y.a y.n y.c),(5, .slice (some ⟨b1,0,none⟩) (a.length+1) (a.length+1))])
  (fun q=>[⟨b1,q.ws.map dI,366,true⟩])
  (fun q _=>q.k<=a.length/\q.ws.length=a.length+1/\aP q.ws/\q.c<=1/\dv (q.ws.take q.k)+4294967296^q.k*q.c=dv (a.take q.k)+dv (b.take q.k)) (fun q=>a.length-q.k) ⟨List.replicate (a.length+1) 0,0,0⟩
  ⟨bL _,by simp, .replicate _,bL _,by simp[dv]⟩ (.cons J (.cons J (.cons J (.cons J (.cons J (.cons J (.cons J .nil))))))) J ?_
 rintro ⟨ws,k,c⟩ Gy _ ⟨hka,hwl,hwo,hc1,hinv⟩;simp only[] at hka hwl hwo hc1 hinv⊢;refine sR<|sy (gq J J) J<|zE<|bt<|?_;refine iO J (fun hc=>?_) (fun hc=>?_) -- slot 23
 ·have hkn:k=a.length:=by omega
  refine fD<|dh<|dh<|fE<|sR<|sm J J<|sm J J<|cd J J<|sm J J<|sy (gw J) J<|?_;refine sy (eE J J (by omega) (by omega)) J<|?_;refine sc (iF (d:=c) J J (by omega) (.hd ..) (by omega) J ?_);rw[show(x.n:Int).toNat=a.length by omega];refine zE<|sR<|sm J J<|?_;refine l6 b1 (.hd ..) (fun G1 _ hgb=>?_);have hwo2:aP (ws.set a.length c):=hwo.set _ (by omega);have hD:bw G1 ⟨some ⟨b1,0,none⟩,a.length+1,a.length+1⟩ (ws.set a.length c):= .of_block hwo2 hgb.h (by simp[hwl]) (aR _) (by rw[aU (by simp)]);have hdv:dv (ws.set a.length c)=dv a+dv b:=by
   have h1:=lv (ws:=ws) (k:=a.length) (d:=c) (by omega);rw[aU (by simp;omega)] at h1;rw[h1,<-hkn,hinv,hkn,aU (aR _),aU hle]
  refine sc (zC J J (fA hD (by simp;omega)) J ?_);rintro _ G2 _ rfl;refine sa J J<|zE<|dz<|?_;refine zD (.tmp J .nil) ⟨⟨some ⟨b1,0,none⟩,(trimD (ws.set a.length c)).length,a.length+1⟩,J,?_⟩;have h3:=hD.trim.up (G:=G2);rw[<-hdv] at hk⊢;exact⟨by rw[lg hwo2];exact h3,hk⟩
 have hka':k<a.length:=by omega
 have hga:=hx.ok.get k;have hgb:=hy.ok.get k;refine zK<|bt<|dq<|sR<|sm J J<|sy (e7 hx J J (by omega) (by omega)) J<|sy (e8 hx J (by omega)) J<|sa J J<|sa J J<|zE<|bt<|?_;refine cG<|sm J J<|sm J J<|sy (eo J (by omega) (by rw[bY];omega)) J<|sy (mv J J (by omega) (by rw[bY];omega)) J<|sa J J<|zE<|?_;rw[bY];refine t8 Unit (fun _=>[(22, .int .i64 k),(7, .int .i64 k),(21, .int .i64 x.n),(20, .slice x.a x.n x.c),(6, .int .u64 ((c+a.getD k 0+b.getD k 0:Nat):Int)),(0, .slice x.a x.n x.c),(1, .slice y.a y.n y.c),(5, .slice (some ⟨b1,0,none⟩) (a.length+1) (a.length+1))]) (fun _=>[⟨b1,ws.map dI,366,true⟩]) (fun _ _=>True) ?_ ?_
 ·refine sR<|sm J J<|sm J J<|cd J J<|sy (gq J J) J<|zE<|?_
  refine fk J (fun hc2=>?_) (fun hc2=>?_) -- slot 34
  ·refine cG<|sm J J<|sm J J<|sm J J<|sy (e7 hy J J (by omega) (by omega)) J<|sy (e8 hy J (by omega)) J<|sy (eo J (by omega) (by rw[bY];omega)) J<|?_
   rw[bY];refine sy (mv J J) J<|sa J J<|zE<|?_;exact lf () trivial (.cons J (.cons J (.cons J (.cons J (.cons (by rw[pN,pN];rfl) (.cons J (.cons J (.cons J .nil)))))))) J
  refine zK<|?_;have h0:b.getD k 0=0:=vP (by omega);exact lf () trivial (.cons J (.cons J (.cons J (.cons J (.cons (by rw[h0,cN,pN];rfl) (.cons J (.cons J (.cons J .nil)))))))) J
 rintro _ Gz _ _;generalize hcc:c+a.getD k 0+b.getD k 0=cc;have hcb:cc/4294967296<=1:=by rw[<-hcc];exact Ri hga hgb hc1
 refine sR<|sm J J<|sm J J<|sm J J<|sy (gw J) J<|sy (eE J J (by omega) (by omega)) J<|?_;rw[bY];refine sc (iF (d:=cc%4294967296) J J (by omega) (.hd ..) (by omega) J ?_);refine zE<|cG<|sm J J<|sy (i7 J J (by decide)) J<|sa J J<|zE<|cG<|sy (dl J J) J<|sm J J<|zE<|?_;have hsh:((cc:Int).fdiv (2^min (32:Int).toNat IntKind.u64.bits))=((cc/4294967296:Nat):Int):=by
  have:(2^min (32:Int).toNat IntKind.u64.bits:Int)=4294967296:=by decide
  rw[this,fY _ (by omega)];rfl
 rw[hsh];refine fC ⟨ws.set k (cc%4294967296),k+1,cc/4294967296⟩ ⟨by show k+1<=_;omega,by simp[hwl],hwo.set _ (by omega),hcb,?_⟩ (by show a.length-(k+1)<a.length-k;omega) (.cons J (.cons J (.cons J (.cons J (.cons J (.cons J (.cons J .nil))))))) J;show dv ((ws.set k (cc%4294967296)).take (k+1))+4294967296^(k+1)*(cc/4294967296)=dv (a.take (k+1))+dv (b.take (k+1));rw[lv (by omega),fB a,fB b,<-hcc,dL];exact Gd hinv
structure MC where
 ws:List Nat
 k:Nat
 c:Nat
def Ja(p:Int)(h0:0<=p):p.fdiv (2^min (63:Int).toNat IntKind.u64.bits)=p/9223372036854775808:=by
 have:(2^min (63:Int).toNat IntKind.u64.bits:Int)=9223372036854775808:=by decide
 rw[this,fY _ (by omega)]
def Dr(p:Nat):((p:Int).fdiv (2^min (32:Int).toNat IntKind.u64.bits))=((p/4294967296:Nat):Int):=by
 have:(2^min (32:Int).toNat IntKind.u64.bits:Int)=4294967296:=by decide
 rw[this,fY _ (by omega)];rfl
def TA{A B G:Gh}{x y:SV}{a b:List Nat}{kk:Nat}(hx:bw A x a)(hy:bw B y b)[GL A G][GL B G](hle:b.length<=a.length)(hge:dv b<=dv a)(hk:dv a<2^kk)(hba:a.length<=1125899906842):
  Fn prog 387 [x.v,y.v] G (fun v G'=> ∃z:SV,v=z.v/\d6 kk G' z (dv a-dv b)):=by
 have hlen:=hx.len;have hlen2:=hy.len;refine Fn.intro func387 J J ntmps387 J ?_;intro C _ _;refine sR<|sa J J<|zE<|sR<|sm J J<|cd J J<|?_;refine sc (ot J J (by omega) (by omega) (by omega) (by rfl) J ?_);intro b1;rw[pc,show(x.n:Int).toNat=a.length by omega];refine sa J J<|zE<|sR<|sa J J<|zE<|bt<|sR<|sm J J<|cd J J<|sm J J<|zE<|dq<|?_;refine iG (X:=MC) (fun q=>[(16, .int .i64 q.k),(15, .int .i64 x.n),(14, .slice x.a x.n x.c),(6, .int .u64 q.c),(1, .slice y.a y.n y.c),(5, .slice (some ⟨b1,0,none⟩) a.length a.length)])
  (fun q=>[⟨b1,q.ws.map dI,366,true⟩])
  (fun q _=>q.k<=a.length/\q.ws.length=a.length/\aP q.ws/\q.c<=1/\dv (q.ws.take q.k)+dv (b.take q.k)=dv (a.take q.k)+4294967296^q.k*q.c) (fun q=>a.length-q.k) ⟨List.replicate a.length 0,0,0⟩
  ⟨bL _,by simp, .replicate _,bL _,by simp[dv]⟩ (.cons J (.cons J (.cons J (.cons J (.cons J (.cons J .nil)))))) J ?_
 rintro ⟨ws,k,c⟩ Gy _ ⟨hka,hwl,hwo,hc1,hinv⟩;simp only[] at hka hwl hwo hc1 hinv⊢;refine sR<|sy (gq J J) J<|zE<|bt<|?_;refine iO J (fun hc=>?_) (fun hc=>?_) -- slot 17
 ·have hkn:k=a.length:=by omega
  refine fD<|dh<|dh<|fE<|sR<|sm J J<|?_;refine l6 b1 (.hd ..) (fun G1 _ hgb=>?_);have hD:bw G1 ⟨some ⟨b1,0,none⟩,a.length,a.length⟩ ws:= .of_block hwo hgb.h hwl.symm (aR _) (by rw[aU (by simp)]);have hdv:dv ws=dv a-dv b:=by
   rw[hkn,aU (by omega),aU hle,aU (aR _)] at hinv;have h2:=gj hwo;rw[hwl] at h2;rcases dY c with h0|h0
   ·subst h0;omega
   ·have:c=1:=by omega
    subst this;omega
  refine sc (zC J J (fA hD (by omega)) J ?_);rintro _ G2 _ rfl;refine sa J J<|zE<|dz<|?_;refine zD (.tmp J .nil) ⟨⟨some ⟨b1,0,none⟩,(trimD ws).length,a.length⟩,J,?_⟩;have h3:=hD.trim.up (G:=G2);rw[<-hdv];exact⟨by rw[lg hwo];exact h3,by omega⟩
 have hka':k<a.length:=by omega
 have hga:=hx.ok.get k;have hgb:=hy.ok.get k;refine zK<|bt<|dq<|sR<|sm J J<|sy (e7 hx J J (by omega) (by omega)) J<|sy (e8 hx J (by omega)) J<|sa J J<|sa J J<|zE<|bt<|?_;rw[bY];refine cG<|sm J J<|sa J J<|zE<|?_;refine t8 Unit (fun _=>[(16, .int .i64 k),(7, .int .i64 k),(15, .int .i64 x.n),(14, .slice x.a x.n x.c),(8, .int .u32 ((a.getD k 0:Nat):Int)),(9, .int .u64 ((c+b.getD k 0:Nat):Int)),(1, .slice y.a y.n y.c),(5, .slice (some ⟨b1,0,none⟩) a.length a.length)]) (fun _=>[⟨b1,ws.map dI,366,true⟩]) (fun _ _=>True) ?_ ?_
 ·refine sR<|sm J J<|sm J J<|cd J J<|sy (gq J J) J<|zE<|?_
  refine fk J (fun hc2=>?_) (fun hc2=>?_) -- slot 25
  ·refine cG<|sm J J<|sm J J<|sm J J<|sy (e7 hy J J (by omega) (by omega)) J<|sy (e8 hy J (by omega)) J<|sy (eo J (by omega) (by rw[bY];omega)) J<|?_
   rw[bY];refine sy (mv J J) J<|sa J J<|zE<|?_;exact lf () trivial (.cons J (.cons J (.cons J (.cons J (.cons J (.cons (by rw[pN];rfl) (.cons J (.cons J .nil)))))))) J
  refine zK<|?_;have h0:b.getD k 0=0:=vP (by omega);exact lf () trivial (.cons J (.cons J (.cons J (.cons J (.cons J (.cons (by rw[h0,cN];rfl) (.cons J (.cons J .nil)))))))) J
 rintro _ Gz _ _;generalize htt:c+b.getD k 0=tt;have htb:tt<=4294967296:=by omega
 refine sR<|sm J J<|sy (eo J) J<|sm J J<|sy (qN J J) J<|sa J J<|zE<|sR<|sm J J<|sm J J<|sm J J<|?_;rw[ju];refine sy (gw J) J<|sy (eE J J (by omega) (by omega)) J<|?_;rw[bY];by_cases hno:tt<=a.getD k 0
 ·refine sc (iF (d:=a.getD k 0-tt) J J (by omega) (.hd ..) (by omega) J ?_)
  refine zE<|cG<|sm J J<|sy (i7 J J (by decide)) J<|sa J J<|zE<|cG<|sy (dl J J) J<|sm J J<|zE<|?_;rw[Ja _ (by omega),show(((a.getD k 0:Nat):Int)-(tt:Int))%18446744073709551616/9223372036854775808=((0:Nat):Int) by omega];refine fC ⟨ws.set k (a.getD k 0-tt),k+1,0⟩ ⟨by show k+1<=_;omega,by simp[hwl],hwo.set _ (by omega),bL _,?_⟩ (by show a.length-(k+1)<a.length-k;omega) (.cons J (.cons J (.cons J (.cons J (.cons J (.cons J .nil)))))) J;show dv ((ws.set k (a.getD k 0-tt)).take (k+1))+dv (b.take (k+1))=dv (a.take (k+1))+4294967296^(k+1)*0;rw[lv (by omega),fB a,fB b,<-htt,dL];exact DB hinv (by omega)
 ·refine sc (iF (d:=a.getD k 0+4294967296-tt) J J (by omega) (.hd ..) (by omega) J ?_)
  refine zE<|cG<|sm J J<|sy (i7 J J (by decide)) J<|sa J J<|zE<|cG<|sy (dl J J) J<|sm J J<|zE<|?_;rw[Ja _ (by omega),show(((a.getD k 0:Nat):Int)-(tt:Int))%18446744073709551616/9223372036854775808=((1:Nat):Int) by omega];refine fC ⟨ws.set k (a.getD k 0+4294967296-tt),k+1,1⟩ ⟨by show k+1<=_;omega,by simp[hwl],hwo.set _ (by omega),aR _,?_⟩ (by show a.length-(k+1)<a.length-k;omega) (.cons J (.cons J (.cons J (.cons J (.cons J (.cons J .nil)))))) J;show dv ((ws.set k (a.getD k 0+4294967296-tt)).take (k+1))+dv (b.take (k+1))=dv (a.take (k+1))+4294967296^(k+1)*1;rw[lv (by omega),fB a,fB b,<-htt,dL];exact EN hinv (by omega) (by omega)
def Qg{A B G:Gh}{x y:SV}{ds es:List Nat}{kk:Nat}(hx:bw A x ds)(hy:bw B y es)[GL A G][GL B G](hk:dv ds<2^kk)(hb:ds.length<=1125899906842)(hb2:es.length<=1125899906842):
  Fn prog 363 [x.v,y.v] G (fun v G'=> ∃z:SV,v= .tuple #[z.v, .bool (decide (dv es<=dv ds))]/\d6 kk G' z (dv ds-dv es)):=by
 refine Fn.intro func363 J J ntmps363 J ?_;intro C _ _;refine sR<|sa J J<|sa J J<|zE<|bt<|sR<|sm J J<|sm J J<|?_;refine sc (zC J J (HG hx hy (by omega) (by omega)) J ?_);rintro _ G1 _ rfl;refine sy (gq J J) J<|zE<|?_;refine fk J (fun hc=>?_) (fun hc=>?_) -- slot 9
 ·have hlt:dv ds<dv es:=by
   unfold eh at hc;split at hc
   ·assumption
   ·split at hc<;>omega
  refine sR<|sa J J<|sa J J<|zE<|dz<|?_;refine zD (.tmp J (.tmp J .nil)) ⟨⟨none,0,0⟩,?_,?_⟩
  ·have: ¬dv es<=dv ds:=by omega
   simp[eu,SV.v,this]
  ·rw[Nat.sub_eq_zero_of_le (by omega)]
   exact⟨by unfold dg;exact .nil _,dZ (by omega)⟩
 have hge:dv es<=dv ds:=by
  unfold eh at hc;split at hc
  ·omega
  ·omega
 have htl:=jt ds;have htl2:=jt es;refine zK<|sR<|sm J J<|?_;refine sc (zC J J (fA hx (by omega)) J ?_);rintro _ G2 _ rfl;refine sm J J<|?_;refine sc (zC J J (fA hy (by omega)) J ?_);rintro _ G3 _ rfl;have hl:(trimD es).length<=(trimD ds).length:=by
  rcases fT (trimD ds).length (trimD es).length with h|h
  ·have:=mP hx.ok.trimD (cH.trimD es) h
   rw[gi,gi] at this;omega
  ·exact h
 refine sc (zC J J (TA (kk:=kk) hx.trim hy.trim hl (by rw[gi,gi];exact hge) (by rw[gi];exact hk) (by omega)) J ?_);rintro _ G4 _ ⟨z,rfl,hz⟩;refine sa J J<|sa J J<|zE<|dz<|?_;refine zD (.tmp J (.tmp J .nil)) ⟨z,by simp[eu,hge],?_⟩;rw[gi,gi] at hz;exact hz
structure Nc where
 ws:List Nat
 i:Nat
structure PD where
 ws:List Nat
 k:Nat
 c:Nat
def TM{x y w c:Nat}(hx:x<4294967296)(hy:y<4294967296)(hw:w<4294967296)(hc:c<4294967296):c+x*y+w<18446744073709551616:=by
 have:x*y<=4294967295*4294967295:=mQ (by omega) (by omega);omega
def uI{ws:List Nat}{i j d:Nat}(h:i≠j):(ws.set i d).getD j 0=ws.getD j 0:=by
 rw[aJ,aJ,List.getElem?_set_ne h]
def N7{A B G:Gh}{x y:SV}{ds es:List Nat}{kk:Nat}(hx:bw A x ds)(hy:bw B y es)[GL A G][GL B G](hk:dv ds*dv es<2^kk)(hb:ds.length<=562949953421)(hb2:es.length<=562949953421):
  Fn prog 302 [x.v,y.v] G (fun v G'=> ∃z:SV,v=z.v/\d6 kk G' z (dv ds*dv es)):=by
 have htl:=jt ds;have htl2:=jt es;have hcall:=fun G1 (_:GL A G1)=>fA (G:=G1) hx (by omega);have hcall2:=fun G1 (_:GL B G1)=>fA (G:=G1) hy (by omega);have hxt:=hx.trim;have hyt:=hy.trim;rw[<-gi ds,<-gi es] at hk⊢;generalize trimD ds=a at*;generalize trimD es=b at*;have hok:=hxt.ok;have hok2:=hyt.ok;refine Fn.intro func302 J J ntmps302 J ?_;intro C _ _;refine sR<|sa J J<|zE<|sR<|sm J J<|?_;refine sc (zC J J (hcall _ inferInstance) J ?_);rintro _ G1 _ rfl;refine sm J J<|?_;refine sc (zC J J (hcall2 _ inferInstance) J ?_);rintro _ G2 _ rfl;refine sa J J<|sa J J<|zE<|sR<|sm J J<|cd J J<|sm J J<|cd J J<|sy (dl J J) J<|?_;refine sc (ot J J (by omega) (by omega) (by omega) (by rfl) J ?_);intro b3;rw[pc,show((a.length:Int)+(b.length:Int)).toNat=a.length+b.length by omega];refine sa J J<|zE<|bt<|sR<|sm J J<|cd J J<|sm J J<|zE<|dq<|?_;refine iG (X:=Nc) (fun q=>[(23, .int .i64 q.i),(22, .int .i64 a.length),(21, .slice x.a a.length x.c),(1, .slice y.a b.length y.c),(5, .slice (some ⟨b3,0,none⟩) (a.length+b.length) (a.length+b.length))])
  (fun q=>[⟨b3,q.ws.map dI,366,true⟩])
  (fun q _=>q.i<=a.length/\q.ws.length=a.length+b.length/\aP q.ws/\(∀j,q.i+b.length<=j->q.ws.getD j 0=0)/\dv q.ws=dv (a.take q.i)*dv b) (fun q=>a.length-q.i) ⟨List.replicate (a.length+b.length) 0,0⟩
  ⟨bL _,by simp, .replicate _,fun j _=>A3 _ _,by simp[dv,r6]⟩ (.cons J (.cons J (.cons J (.cons J (.cons J .nil))))) J ?_
 rintro ⟨ws,i⟩ Gy _ ⟨hia,hwl,hwo,hz,hinv⟩;simp only[] at hia hwl hwo hz hinv⊢;refine sR<|sy (gq J J) J<|zE<|bt<|?_;refine iO J (fun hc=>?_) (fun hc=>?_) -- slot 24
 ·have hin:i=a.length:=by omega
  refine fD<|dh<|dh<|fE<|sR<|sm J J<|?_;refine l6 b3 (.hd ..) (fun G3 _ hgb=>?_);have hD:bw G3 ⟨some ⟨b3,0,none⟩,a.length+b.length,a.length+b.length⟩ ws:= .of_block hwo hgb.h hwl.symm (aR _) (by rw[aU (by simp)]);have hdv:dv ws=dv a*dv b:=by rw[hinv,hin,aU (aR _)]
  refine sc (zC J J (fA hD (by omega)) J ?_);rintro _ G4 _ rfl;refine sa J J<|zE<|dz<|?_;refine zD (.tmp J .nil) ⟨⟨some ⟨b3,0,none⟩,(trimD ws).length,a.length+b.length⟩,J,?_⟩;have h3:=hD.trim.up (G:=G4);rw[<-hdv] at hk⊢;exact⟨by rw[lg hwo];exact h3,hk⟩
 have hia':i<a.length:=by omega
 have hga:=hok.get i;refine zK<|bt<|dq<|sR<|sm J J<|sy (e7 (z:=⟨x.a,a.length,x.c⟩) hxt J J (by omega) (by show(i:Int)<(a.length:Nat);omega)) J<|sy (e8 hxt J (by omega)) J<|sa J J<|sa J J<|zE<|bt<|?_;rw[bY];refine cG<|sa J J<|zE<|bt<|sR<|sm J J<|cd J J<|sm J J<|zE<|dq<|?_;refine iG (X:=PD) (fun q=>[(30, .int .i64 q.k),(29, .int .i64 b.length),(28, .slice y.a b.length y.c),(8, .int .u64 q.c),(7, .int .u32 ((a.getD i 0:Nat):Int)),(5, .slice (some ⟨b3,0,none⟩) (a.length+b.length) (a.length+b.length)),(6, .int .i64 i),(23, .int .i64 i),(22, .int .i64 a.length),(21, .slice x.a a.length x.c),(1, .slice y.a b.length y.c)])
  (fun q=>[⟨b3,q.ws.map dI,366,true⟩])
  (fun q _=>q.k<=b.length/\q.ws.length=a.length+b.length/\aP q.ws/\q.c<4294967296/\(∀j,i+b.length<=j->q.ws.getD j 0=0)/\dv q.ws+4294967296^(i+q.k)*q.c=dv (a.take i)*dv b+4294967296^i*(a.getD i 0*dv (b.take q.k))) (fun q=>b.length-q.k) ⟨ws,0,0⟩
  ⟨bL _,hwl,hwo,Nat.zero_lt_succ _,hz,by simp[dv,hinv]⟩ (.cons J (.cons J (.cons J (.cons J (.cons J (.cons J (.cons J (.cons J (.cons J (.cons J (.cons J .nil))))))))))) J ?_
 clear hz hwl hwo hinv ws;rintro ⟨ws,k,c⟩ Gz _ ⟨hkb,hwl,hwo,hcc,hz,hinv⟩;simp only[] at hkb hwl hwo hcc hz hinv⊢;refine sR<|sy (gq J J) J<|zE<|bt<|?_;refine iO J (fun hc2=>?_) (fun hc2=>?_) -- slot 31
 ·have hkn:k=b.length:=by omega
  have e1:((i:Int)+(b.length:Int)).toNat=i+b.length:=by omega
  refine fD<|dh<|dh<|fE<|cG<|sm J J<|sm J J<|sm J J<|cd J J<|sy (dl J J) J<|sm J J<|sy (gw J) J<|?_;refine sy (eE J J (by omega) (by omega)) J<|?_;rw[e1];refine sc (iF (d:=c) J J (by omega) (.hd ..) (by omega) J ?_);refine zE<|cG<|sy (dl J J) J<|sm J J<|zE<|?_;refine fC ⟨ws.set (i+b.length) c,i+1⟩ ⟨by show i+1<=_;omega,by simp[hwl],hwo.set _ hcc,fun j hj=>?_,?_⟩ (by show a.length-(i+1)<a.length-i;omega) (.cons J (.cons J (.cons J (.cons J (.cons J .nil))))) J
  ·have hj':i+1+b.length<=j:=hj
   show(ws.set (i+b.length) c).getD j 0=0;rw[uI (by omega)];exact hz j (by omega)
  ·show dv (ws.set (i+b.length) c)=dv (a.take (i+1))*dv b
   have h1:=lD ws (i+b.length) c (by omega);rw[hz (i+b.length) (aR _),nZ,cN] at h1;rw[h1,<-hkn,hinv,hkn,aU (aR _),fB,cK,bV]
 have hkb':k<b.length:=by omega
 have hgb:=hok2.get k;have hgw:=hwo.get (i+k);have hm:=TM hga hgb hgw hcc;have e1:((i:Int)+(k:Int)).toNat=i+k:=by omega
 have e2:((a.getD i 0:Nat):Int)*((b.getD k 0:Nat):Int)=((a.getD i 0*b.getD k 0:Nat):Int):=by rw[iQ]
 refine zK<|bt<|dq<|sR<|sm J J<|sy (e7 (z:=⟨y.a,b.length,y.c⟩) hyt J J (by omega) (by show(k:Int)<(b.length:Nat);omega)) J<|sy (e8 hyt J (by omega)) J<|sa J J<|sa J J<|zE<|bt<|?_;rw[bY];refine cG<|sm J J<|sm J J<|sy (eo J) J<|sm J J<|sy (eo J) J<|sy (Ar J J (by rw[e2];omega) (by rw[e2];omega)) J<|?_;rw[e2];refine sm J J<|sm J J<|sm J J<|sy (dl J J) J<|sy (eE J J (by omega) (by omega)) J<|?_;rw[e1];refine sy (mi J (by omega)) J<|sy (eo J) J<|?_;refine sy (mv J J) J<|sy (mv J J) J<|sa J J<|zE<|sR<|sm J J<|sm J J<|sm J J<|?_;rw[show(c:Int)+(((a.getD i 0*b.getD k 0:Nat):Int)+((ws.getD (i+k) 0:Nat):Int))=((c+a.getD i 0*b.getD k 0+ws.getD (i+k) 0:Nat):Int) by omega];generalize hcc2:c+a.getD i 0*b.getD k 0+ws.getD (i+k) 0=cc;rw[hcc2] at hm;refine sy (dl J J) J<|sm J J<|sy (gw J) J<|sy (eE J J (by omega) (by omega)) J<|?_;rw[e1];refine sc (iF (d:=cc%4294967296) J J (by omega) (.hd ..) (by omega) J ?_);refine zE<|cG<|sm J J<|sy (i7 J J (by decide)) J<|sa J J<|zE<|cG<|sy (dl J J) J<|sm J J<|zE<|?_;rw[Dr];refine fC ⟨ws.set (i+k) (cc%4294967296),k+1,cc/4294967296⟩ ⟨by show k+1<=_;omega,by simp[hwl],hwo.set _ (by omega),by show cc/4294967296<_;omega,fun j hj=>?_,?_⟩ (by show b.length-(k+1)<b.length-k;omega) (.cons J (.cons J (.cons J (.cons J (.cons J (.cons J (.cons J (.cons J (.cons J (.cons J (.cons J .nil))))))))))) J
 ·show(ws.set (i+k) (cc%4294967296)).getD j 0=0
  rw[uI (by omega)];exact hz j hj
 ·show dv (ws.set (i+k) (cc%4294967296))+4294967296^(i+(k+1))*(cc/4294967296)=dv (a.take i)*dv b+4294967296^i*(a.getD i 0*dv (b.take (k+1)))
  have h1:=lD ws (i+k) (cc%4294967296) (by omega);rw[<-hcc2] at h1⊢;have h2:=JZ h1 hinv;rw[<-jZ,dL,h2,fB,cW,cW,dK];have:4294967296^i*(a.getD i 0*(4294967296^k*b.getD k 0))=4294967296^i*4294967296^k*(a.getD i 0*b.getD k 0):=by
   rw[jJ (a.getD i 0),<-bV]
  rw[this,jZ]
end Go.Sx
end
