import Derived.Test.YtidmgdlbilojcaaGreatDoorMa20
import Derived.Test.YtidmgdlbilojcaaGreatDoorCards
import Derived.Test.YtidmgdlbilojcaaGreatDoorTie
import Derived.WalkKit
import Derived.ProofKit
import Derived.OpenShut
import Derived.Deep.DeepHandedRow
import Derived.Deep.DeepWitnessRowRef
import Derived.LaidMore
import Derived.Lib.LaidTab
import Derived.SizedLaws
set_option linter.all false
set_option maxHeartbeats 8000000
set_option maxRecDepth 100000
section
namespace Go.Sx
open Go Go.Proofs Tryz
variable {GB:Gh}
section
variable {GB:Gh} {C:az} {n:Nat} {Q0:Exit->Act->World->Prop} {fr fr':ay} {own own':aE} {cf cf':Cf} {vc:List Prop} {ops:Array Oper} {o:Oper} {r:List Oper} {K:List Kt}
def MY{p q:Nat->Option (Nat×Nat)}(h: ∀i x,p i=some x->q i=some x): ∀(ps:List (Nat×Value)) (cs out:Array Value),Instr.fill p cs ps=some out->Instr.fill q cs ps=some out
 |[],cs,out,e=>e
 |(i,v)::ps,cs,out,e=>by
  simp only[Instr.fill] at e⊢;split at e
  ·cases e
  ·rename_i off size hp
   rw[h i _ hp];dsimp only;split at e
   ·cases e
   ·rename_i hc
    rw[if_neg hc];exact MY h ps _ _ e
def UU{P:Program}{fr:Fr}{own:List ak}{G:Gh}{t e s len:Nat}{j:TypeInfo}{parts:Array (Nat×Operand)}{z:Value}{out:List Value}{dst:Option Nat}{ty':TypeId}{pos:String}{af:Array Edge}{gd:Option (Nat×Bool)}[hz:gh P t z](hu:P.underlying t=some (.array len e))(hj:P.info? e=some j)(hs:j.size=s)
  (hb:vf fr ((List.range len).map fun i=>(i*s,s)) (aA z) parts.toList=some out):Yd P C fr own G ⟨dst, .build t parts,ty',pos,af,gd⟩ (.agg ⟨out⟩):=by
 intro a w hf hh;simp only[execOp];have:(Instr.build t (parts.map fun(i,x)=>(i,a.eval x))).run P w= .ok (.agg ⟨out⟩) w:=by
  unfold Instr.build;rw[aF (hz.zero w),qb];rw[aF (py hu w)];simp only[];rw[aF (vx hj w),hs];have:=MY (q:=fun i=>some (i*s,s)) (fun i x hx=>by
   have hx':((List.range len).map fun i=>(i*s,s))[i]? =some x:=by simpa using hx
   rw[cV] at hx'
   cases hr:(List.range len)[i]? with
   |none=>rw[hr] at hx';cases hx'
   |some y=>
    rw[hr] at hx';cases hx';obtain⟨h1,h2⟩:=aS.1 hr;rw[List.getElem_range] at h2;rw[h2]) _ _ _ (FB hf ((List.range len).map fun i=>(i*s,s)) parts.toList _ _ hb)
  simp only[pS,this];rfl
 exact cG this
def D0:Nat->Nat->Nat->List (Nat×Nat×Nat)
 |_,0,_=>[]
 |i,k+1,s=>(i*s,0,s)::D0 (i+1) k s
def Lq: ∀(i k s:Nat),(D0 i k s).map (fun x=>(x.1,x.2.2))=(List.range' i k).map fun j=>(j*s,s)
 |_,0,_=>rfl
 |i,k+1,s=>by simp only[D0,bT,List.range',Lq (i+1) k s]
def Ny(fr:ay)(cf:Cf)(len s:Nat):Option (TypeId×FX):=match cw fr cf with
 |some ⟨_, .build t parts,_,_,_,_⟩=>match c9 tt t with
  |some ⟨.o,_,some zx,_⟩=>match sP (bO fr cf) (D0 0 len s) zx parts.toList with
   |some cs=>match vM cs with
    |some f=>some (t,f)
    |none=>none
   |none=>none
  |_=>none
 |_=>none
def MR[fu:Fu]{t e len s:Nat}{f:FX}(h:Ny fr cf len s=some (t,f))(hu:prog.underlying t=some (.array len e))(hs:(prog.info? e).map (·.size)=some s)
  (hgo:cP tt n fu.n fr own cf f [] []=⟨vc,fr',own',cf'⟩)(k:av prog GB C n Q0 fr' own' cf')
  (hv:ac vc:=by first|exact trivial|(simp only[ac];kernel_rfl)|(simp only[ac];omega)):av prog GB C n Q0 fr own cf:=by
 unfold Ny at h;split at h<;>try (cases h;done)
 rename_i hh;split at h<;>try (cases h;done)
 rename_i hT;split at h<;>try (cases h;done)
 rename_i hb;split at h<;>cases h;rename_i hf;refine us hh (.yd fun ρ G ov a w r=>?_) hgo hv k
 cases hj:prog.info? e with
 |none=>rw[hj] at hs;cases hs
 |some j=>
 rw[hj] at hs;obtain⟨v,hv,hv'⟩:=A5 (ew _ _ hT) rfl;obtain⟨l,h1,h2⟩:=C7 r _ _ _ _ hb (hv' ρ G);rw[Lq,<-List.range_eq_range'] at h1;exact⟨.agg ⟨l⟩,Bm h2 hf,UU hu hj (Option.some.inj hs) h1⟩
def ET{P:Program}(nm:Nat){ty:TypeId}{ds:List DV}{lo:Bool}{own1:aE}{c:Code}(ds':List DV)(hl:aP own nm=some (.o ty (ds.map .d) lo))(hi: ∀G m,IsLs G ds m->IsLs G ds' m)(ho:tv own nm (some (.o ty (ds'.map .d) lo)) id=own1)(h:av P GB C n Q0 fr own1 (.code c K)):av P GB C n Q0 fr own (.code c K):=by
 rw[uj] at ho;subst ho;refine⟨fun ρ G ov a w r=>?_⟩;have old: ∀m B,aP (jP own nm (some (.o ty (ds'.map .d) lo))) m=some B-> ∃B0,aP own m=some B0:=fun m B e=>by
  rw[tM] at e;split at e
  ·rename_i hm;subst hm;exact⟨_,hl⟩
  ·exact⟨_,e⟩
 refine SX.run h ρ G ov a w ⟨r.gb,r.h,r.sz,r.df,r.fx,fun m B e=>?_,fun m m' B B' e e'=>?_,r.fxd⟩
 ·rw[show id (jP own nm (some (.o ty (ds'.map .d) lo)))=jP own nm (some (.o ty (ds'.map .d) lo)) from J,tM] at e
  split at e
  ·rename_i hm;subst hm;cases e
   obtain⟨os,⟨b,q,h1,rfl,h2⟩,h3⟩:=r.bx _ _ hl;exact⟨_,⟨b,q,h1,J,ry (hi G q (Pn h2))⟩,h3⟩
  ·exact r.bx _ _ e
 ·obtain⟨B0,h0⟩:=old _ _ e
  obtain⟨B1,h1⟩:=old _ _ e';exact r.dj m m' B0 B1 h0 h1
def P3(fr:ay)(own:aE)(cf:Cf)(k:Nat):Option (TypeId×FX):=match cw fr cf with
 |some ⟨_, .load t x,_,_,_,_⟩=>match aG (bO fr cf) x with
  |some (.ov nm off)=>match ik fr own cf nm with
   |some (.o _ cs _)=>match takeX cs off k with
    |some l=>match vM l with
     |some f=>some (t,f)
     |none=>none
    |none=>none
   |_=>none
  |_=>none
 |_=>none
def R4[fu:Fu](k:Nat){t e len:Nat}{f:FX}(h:P3 fr own cf k=some (t,f))(hu:prog.underlying t=some (.array len e))(hs:(prog.info? t).map (·.size)=some k)
  (hgo:cP tt n fu.n fr own cf f [] []=⟨vc,fr',own',cf'⟩)(k':av prog GB C n Q0 fr' own' cf')
  (hv:ac vc:=by first|exact trivial|(simp only[ac];kernel_rfl)|(simp only[ac];omega)):av prog GB C n Q0 fr own cf:=by
 unfold P3 at h;split at h<;>try (cases h;done)
 rename_i hh;split at h<;>try (cases h;done)
 rename_i hx;split at h<;>try (cases h;done)
 rename_i hb;split at h<;>try (cases h;done)
 rename_i l hl;split at h<;>cases h;rename_i hf
 cases hj:prog.info? t with
 |none=>rw[hj] at hs;cases hs
 |some j=>
 rw[hj] at hs;have hs':j.size=k:=Option.some.inj hs;have:kw prog t k:=⟨fun w=>zc hu w,fun w=>by rw[vx hj w,hs']⟩;refine us hh ?_ hgo hv k';refine .yd fun ρ G ov a w r=>?_;obtain⟨y,h1,h2⟩:=r.ev hx;obtain⟨b,m,rfl,h3,h4,h5⟩:=r.own h2 hb;obtain⟨l',h6,h7⟩:=h4.takeX hl;have:im ov b m _ _:=⟨h5⟩;exact⟨.agg ⟨l'⟩,Bm h7 hf,AX h1 h6⟩
def O5(fr:ay)(cf:Cf)(off s:Nat):Option (TypeId×List DV×Int):=match cw fr cf with
 |some ⟨_, .index t x y,_,_,_,_⟩=>match aG (bO fr cf) x with
  |some (.d (.ag ms))=>match aG (bO fr cf) y with
   |some (.d (.v (.int _ i)))=>match takeD ms off s with
    |some l=>some (t,l,i)
    |none=>none
   |_=>none
  |_=>none
 |_=>none
def IA[fu:Fu](i:Nat){t e len s:Nat}{l:List DV}{ie:TI}(h:O5 fr cf (i*s) s=some (t,l,((i:Nat):Int)))(hu:prog.underlying t=some (.array len e))(he:c9 tt e=some ie)(hag:ie.ag=some (some s))(hi:i<len)
  (hgo:cP tt n fu.n fr own cf (.d (.ag l)) [] []=⟨vc,fr',own',cf'⟩)(k':av prog GB C n Q0 fr' own' cf')
  (hv:ac vc:=by first|exact trivial|(simp only[ac];kernel_rfl)|(simp only[ac];omega)):av prog GB C n Q0 fr own cf:=by
 unfold O5 at h;split at h<;>try (cases h;done)
 rename_i hh;split at h<;>try (cases h;done)
 rename_i ms hx;split at h<;>try (cases h;done)
 rename_i kd i0 hy;split at h<;>cases h;rename_i hl;have hA:=vC (ew _ _ he) hag;refine us hh ?_ hgo hv k';refine .yd fun ρ G ov a w r=>?_;obtain⟨p,h1,h2⟩:=r.ev hx;obtain⟨q,h3,h4⟩:=r.ev hy;rw[dk] at h4;subst h4;obtain⟨m,rfl,hm⟩:=d7.1 (show Is G _ p from h2);obtain⟨l',h5,h6⟩:=hm.takeD hl;refine⟨.agg ⟨l'⟩,d7.2 ⟨l',J,h6⟩,?_⟩;intro a' w' hf hw;simp only[execOp,bh hf h1,bh hf h3];have:(Instr.index t (.agg ⟨m⟩) (.int kd (i:Nat))).run prog w'= .ok (.agg ⟨l'⟩) w':=by
  unfold Instr.index;show(underlying t>>=_).run prog w'=_;rw[aF (py hu w')];have g0:0<=((i:Nat):Int):=rJ i;have g1:((i:Nat):Int)<((len:Nat):Int):=by omega
  simp only[g0,g1,and_self,if_true];rw[aF (hA.siz w'),aM];unfold part;rw[aF (hA.agg w')];simp only[if_true];rw[aF (hA.siz w')];obtain⟨k1,k2⟩:=pC _ _ _ _ h5;have:(⟨m⟩:Array Value).extract (i*s) (i*s+s)=⟨l'⟩:=by
   apply Array.ext';rw[Array.toList_extract];apply lZ;intro j;rw[List.extract_eq_take_drop,oT];split
   ·rw[mL];exact k2 j (by omega)
   ·exact(dX (show l'.length<=j by omega)).symm
  rw[this];rfl
 exact cG this
end
def pn(v:List ab):List (ab×ab):=(List.range v.length).map fun i=>(v.getD i ⟨0,0⟩,v.getD ((i+1)%v.length) ⟨0,0⟩)
def cC(cs:List (List aa)):List (ab×ab):=cs.flatMap fun c=>pn (il c)
def cv(cs:List ao):List (List aa):=cs.map fun c=>c.map (·.l)
def eZZ(p q:ab):DV:= .ag [vI (ce p.x),vI (cg p.x),co p.x,vI (ce p.y),vI (cg p.y),co p.y,vI (ce q.x),vI (cg q.x),co q.x,vI (ce q.y),vI (cg q.y),co q.y]
def wS(x:ab×ab):List DV:=[eZZ x.1 x.2,eF (x.1.cross x.2)]
def Mt{α β:Type}(f:α->List β): ∀{l:List α} {k:Nat} {x:α} {i:Nat} {y:β},l[k]? =some x->(f x)[i]? =some y->(l.flatMap f)[((l.take k).flatMap f).length+i]? =some y
 |z::t,0,x,i,y,h,e=>by
  cases h
  simp only[pR,List.flatMap_nil,fX,dT,kK];rw[dR (aS.1 e).1];exact e
 |z::t,k+1,x,i,y,h,e=>by
  simp only[lK,kK,aV];rw[gU (by omega)];rw[show(f z).length+((t.take k).flatMap f).length+i-(f z).length=((t.take k).flatMap f).length+i by omega];exact Mt f (by simpa using h) e
def Zc{α β:Type}(f:α->List β){l:List α}{k:Nat}{x:α}(h:l[k]? =some x):((l.take (k+1)).flatMap f).length=((l.take k).flatMap f).length+(f x).length:=by
 have:l.take (k+1)=l.take k++[x]:=by rw[jV,h];rfl
 rw[this,qV,aV];simp
def Vy(v:List ab){i:Nat}{p q:ab}(h1:v[i]? =some p)(h2:v[(i+1)%v.length]? =some q):(pn v)[i]? =some (p,q):=by
 have hi:=(aS.1 h1).1;unfold pn;rw[cV,sM hi,kW,aX,aX,h1,h2];rfl
def KJ(v:List ab):(pn v).length=v.length:=by unfold pn;simp
def ptE{C:az}{n:Nat}{Q0:Exit->Act->World->Prop}{fr:ay}{own:aE}{ops:Array Oper}{r:List Oper}{K:List Kt}(k:Nat){l:List DV}(hl:aI fr k=some (.d (.pt l)))(h:av prog GB C n Q0 ((k, .ep l)::fr) own (.ops ops r K)):av prog GB C n Q0 fr own (.ops ops r K):=
 qh hl (fun ρ G y hy=>by
  obtain⟨b,m,rfl,h1,h2⟩:=oP.1 hy;have e:=h2.len;exact⟨b,0,m,m,J,h1,by rw[ml m 0 l.length (by omega),iQ,<-e,dZ],h2⟩) h
def Ie{cs:List ao}{b:Nat}(hb: ∀c∈cs,∀s∈c,LB s.l)(hn: ∀c∈cs,c.length<=100000)(hl:cs.length<=1000000)(hpt: ∀x∈cC (cv cs),aO x.1 b/\aO x.2 b)(hb4:b<=40000000):It GB prog 147 [.pt [.sl (cs.map eC)]] ((cC (cv cs)).map wS):=by
 have hml:(cs.map eC).length=cs.length:=aK ..;refine YI func147 J J ntmps147 J (fun _=>J) (fun l Jv Jx GB' hg H C hp hJ=>?_);obtain⟨n0,hn0⟩: ∃n0:Nat->Nat,n0=fun k=>(((cv cs).take k).flatMap fun c=>pn (il c)).length:=⟨_,rfl⟩;refine ptE 1 J<|gx J<|?_;refine aj 10 (.d (vI (cs.length:Nat))) J (by rw[hml]<;>rfl) ?_;refine Lu (X:=Nat) (fun k=>[(0, .d (.v (.func (.yield l) #[] #[]))),(9, .d (.sl (cs.map eC))),(10, .d (vI (cs.length:Nat))),(11, .d (vI (k:Nat)))]) (fun k C=>k<=cs.length/\Jv (n0 k) C.G0 C.w0) (fun k=>cs.length-k) 0 hp ⟨bJ _,by rw[hn0];exact hJ⟩ (fun _=>J) (fun k C1 hp1 hk=>?_);obtain⟨hk1,hJ1⟩:=hk;refine br J J J (fun hc12=>?_) (fun hc12=>?_)
 ·obtain⟨c,hx⟩: ∃u,cs[k]? =some u:=⟨_,aZ (by omega)⟩
  have hcm:=aL hx;have hxl:(cv cs)[k]? =some (c.map (·.l)):=by unfold cv;rw[cV,hx];rfl
  refine ix _ J (fe hx) J<|cl J (S5 (c:=c) (hb c hcm) (hn c hcm)) J<|?_;obtain⟨V,hV⟩: ∃V,V=il (c.map (·.l)):=⟨_,rfl⟩;rw[<-hV];have hVl:(V.map eZ).length=V.length:=aK ..;have hVs:V.length<=100000:=by
   have:=DJ (c.map (·.l)) (c.map (·.l)).length;have h2:V.length<=(c.map (·.l)).length:=by rw[hV];exact this
   rw[aK] at h2;exact cY h2 (hn c hcm)
  refine aj 18 (.d (vI (V.length:Nat))) J (by rw[hVl]<;>rfl) ?_;refine Lu (X:=Nat) (fun i=>[(0, .d (.v (.func (.yield l) #[] #[]))),(9, .d (.sl (cs.map eC))),(10, .d (vI (cs.length:Nat))),(11, .d (vI (k:Nat))),(5, .d (.sl (V.map eZ))),(17, .d (.sl (V.map eZ))),(18, .d (vI (V.length:Nat))),(19, .d (vI (i:Nat)))]) (fun i C=>i<=V.length/\Jv (n0 k+i) C.G0 C.w0) (fun i=>V.length-i) 0 hp1 ⟨bJ _,hJ1⟩ (fun _=>J) (fun i C2 hp2 hi=>?_);obtain⟨hi1,hJ2⟩:=hi;refine br J J J (fun hc20=>?_) (fun hc20=>?_)
  ·obtain⟨p,hpx⟩: ∃u,V[i]? =some u:=⟨_,aZ (by omega)⟩
   obtain⟨q,hqx⟩: ∃u,V[(i+1)%V.length]? =some u:=⟨_,aZ (dQ _ (by omega))⟩;have hpair:(cC (cv cs))[n0 k+i]? =some (p,q):=by
    rw[hn0];exact Mt (fun c=>pn (il c)) hxl (by rw[<-hV];exact Vy V hpx hqx)
   have hpq:=hpt _ (aL hpair);haveI:=hpq.1;haveI:=hpq.2;refine ix _ J (fe hpx) J<|?_;refine aj 29 (.d (vI (((i+1)%V.length:Nat):Int))) J (by rw[hVl]<;>rfl) ?_;refine gx J<|ix _ J (fe hqx) J<|MR (len:=2) (s:=6) (e:=146) J (by kernel_rfl) (by kernel_rfl) J<|cl J (BP (p:=p) (q:=q) (i:=b) (j:=b) hb4 hb4) J<|?_;refine Y0 (by kernel_rfl) J ?_;refine cy [(0, .d (.v (.func (.yield l) #[] #[]))),(9, .d (.sl (cs.map eC))),(10, .d (vI (cs.length:Nat))),(11, .d (vI (k:Nat))),(5, .d (.sl (V.map eZ))),(17, .d (.sl (V.map eZ))),(18, .d (vI (V.length:Nat))),(19, .d (vI (i:Nat)))] H hp2 hJ2 J (by rw[cV,hpair];rfl) J (by repeat (first|exact trivial|refine And.intro J ?_)) J J J (fun C3 hp3 hJ3=>?_) (fun C3 hp3 hJ3=>?_)
   ·exact ME (i+1) hp3 ⟨⟨by omega,hJ3⟩,by omega⟩
   ·exact Qw H hp3 (.inr hJ3) J
  ·have hi2:i=V.length:=by omega
   refine ME (k+1) hp2 ⟨⟨by omega,?_⟩,by omega⟩;have e:n0 (k+1)=n0 k+i:=by
    rw[hn0];show _=_+i;rw[hi2];have:=Zc (fun c=>pn (il c)) hxl;rw[<-hV,KJ] at this;exact this
   rw[e];exact hJ2
 ·refine Qw H hp1 (.inl ?_) J
  rw[aK];have e:n0 k=(cC (cv cs)).length:=by
   rw[hn0];show((List.take k (cv cs)).flatMap _).length=_;rw[aT (by unfold cv;rw[aK];omega)];rfl
  rw[<-e];exact hJ1
def Hk{cs:List ao}:Gw GB prog 81 [.sl (cs.map eC)] 147 (.pt [.sl (cs.map eC)]):=by
 refine Tz func81 J J ntmps81 J J (fun C=>?_);refine fz 1 J J ?_;refine Uk 1 J (fun GB' pv hg hp=>?_);refine Uf J J ?_;exact Xr J J hp
def zF{G:Gh}{m:List Value}(h:IsLs G [vI 0,vI 0, .v (.pointer none)] m):IsLs G [vI (ce 0),vI (cg 0),co 0] m:=by
 obtain⟨l,e,k⟩:=d7.1 (AS G (.agg ⟨m⟩) (d7.2 ⟨m,rfl,h⟩))
 cases e;exact k

def eCl(x:List aa×Bool):DV:= .ag [.sl (x.1.map eL),vB x.2]
def eSd(c:List aa):DV:= .sl (c.map eL)
def yX(ps:List (List aa×Bool)):List (List aa):=(ps.filter (·.2)).map (·.1)
def eRp(v:List ab):DV:= .sl (v.map eP)
structure Bx (GB:Gh) (ai al ae au:Addr):Prop extends EG GB ai al ae where
 ErrUnbounded:GB 1=some [.iface 405 (.pointer (some au))]
def aKc(c:ao):List (List ab):=K3 (il (c.map (·.l)))
def Zk(c:List aa):(il c).length<=c.length:=DJ c _
theorem JL{c:List aa}(hb: ∀l∈c,LB l): ∀p∈il c,aO p 1200:=fun p hp=>by
 obtain⟨l,hl,m,hm,rfl⟩:=ZO hp;have:= @aO.imeet l m (hb l hl) (hb m hm);exact⟨this.x.mono (by decide),this.y.mono (by decide)⟩
def aBG{p q:Rat}{i j:Nat}[hp:BQ p i][hq:BQ q j](hi:i<=100000000:=by decide):PF GB prog 60 [eR p,eR q] (vB (decide (p=q))):=by
 refine fn func60 J J ntmps60 J J (fun C=>?_);refine cl J (ZV (a:=p.num) (b:=q.num) (i:=i) (j:=j) (by omega)) J<|?_;refine csd 10 J J J (fun hg10=>?_) (fun hg10=>?_)
 .
  refine cl J (J8 (a:=p.den) (b:=q.den) (i:=i) (j:=j) (by omega)) J<|?_;exact rz J (by rw[show decide (p=q)=decide (p.den=q.den) from decide_eq_decide.2 ⟨fun e=>by rw[e],fun e=>Rat.ext hg10 e⟩]<;>rfl)
 .
  exact rz J (by rw[decide_eq_false (fun e:p=q=>hg10 (by rw[e]))]<;>rfl)
def atF{t:Tr}(h:t.all aa.ok):yX (mB t [])=(bP t).map fun c=>c.map (·.l):=YE h
def Og{α β:Type}{f:α->List β}{k:Nat}: ∀{l:List α},(∀x∈l,(f x).length<=k)->(l.flatMap f).length<=l.length*k
 |[],_=>by simp
 |a::t,h=>by
  have h1:=h a aQ;have h2:=Og (f:=f) fun x hx=>h x (aJ a hx);rw[kK,aV,bZ,fN];omega
def aJ4:List ZP:=[(0,0),(1,0),(0,1)]
structure EGS (GB:Gh) (ai al ae au ar:Addr):Prop extends Bx GB ai al ae au where
 ErrEmpty:GB 0=some [.iface 405 (.pointer (some ae))]
 ErrRange:GB 3=some [.iface 405 (.pointer (some ar))]
def O1(r:List ab)(j:Nat):Nat->ab
 |0=>(((r.getD 0 ⟨0,0⟩).add (r.getD 1 ⟨0,0⟩)).add (r.getD 2 ⟨0,0⟩)).scale (((1:Int):Rat)/((3:Int):Rat))
 |k+1=>((O1 r j k).add (r.getD j ⟨0,0⟩)).scale (((1:Int):Rat)/((2:Int):Rat))
def smp(ts:List (List ab))(i:Nat):ab:=O1 (ts.getD (i%ts.length) []) (i%3) (i/ts.length)
theorem aO.mono{p:ab}{i j:Nat}(h:aO p i)(hj:i<=j):aO p j:=⟨h.x.mono hj,h.y.mono hj⟩
def Ld{m n:Int}(hm:m.natAbs<=1000)(hn:n.natAbs<=1000):PF GB prog 72 [vI m,vI n] (eF ((m:Rat)/(n:Rat))):=by
 haveI:=je (k:=11) hm (by decide);haveI:=je (k:=11) hn (by decide);refine fn func72 J J ntmps72 J J (fun C=>?_);refine cl J (qp (m:=m) (by omega)) J<|cl J (qp (m:=n) (by omega)) J<|cl J (xT (p:=(m:Rat)) (q:=(n:Rat)) (i:=12) (j:=12)) J<|?_;exact rz J J
def te{α:Type}(f:α->Rat){l:List α}{k:Nat}{x:α}(h:l[k]? =some x):aB f (l.take (k+1))=aB f (l.take k)+f x:=by
 have:l.take (k+1)=l.take k++[x]:=by rw[jV,h];rfl
 rw[this,vS];show _+(f x+0)=_;grind
structure GF (cs:List ao) (b:Nat):Prop where
 lb: ∀c∈cs,∀s∈c,LB s.l
 sh: ∀c∈cs,c.length<=100000
 ln:cs.length<=1000000
 pt: ∀x∈cC (cv cs),aO x.1 b/\aO x.2 b
def FO{L:List (ab×ab)}: ∀e∈L.map wS,e.length=2:=fun e he=>by
 obtain⟨x,_,rfl⟩:=bV.1 he;rfl
def Jo{L:List (ab×ab)}{k:Nat}{e:List DV}(h:(L.map wS)[k]? =some e): ∃x,L[k]? =some x/\e=wS x:=by
 rw[cV] at h
 cases hl:L[k]? with
 |none=>rw[hl] at h;cases h
 |some x=>rw[hl] at h;cases h;exact⟨x,J,J⟩
def YQ{cs:List ao}{b m:Nat}(ho:GF cs b)(hb:b<=40000000)(hs: ∀k,BQ (aB (fun x=>x.1.cross x.2) ((cC (cv cs)).take k)) m)(hm:m<=100000000)(hc: ∀x∈cC (cv cs),BQ (x.1.cross x.2) m):
  PF GB prog 39 [.sl (cs.map eC)] (eF (aB (fun x=>x.1.cross x.2) (cC (cv cs))*mkRat 1 2)):=by
 obtain⟨L,hL⟩: ∃L,L=cC (cv cs):=⟨_,rfl⟩;obtain⟨Sm,hSm⟩: ∃Sm:Nat->Rat,Sm=fun k=>aB (fun x=>x.1.cross x.2) (L.take k):=⟨_,rfl⟩;have h00:Sm 0=0:=by rw[hSm];rfl
 have hSk: ∀k,BQ (Sm k) m:=by rw[hSm,hL];exact hs
 refine H6 func39 J J ntmps39 J J (fun C h0=>?_);refine Hu J J J Hk (fun _=>J) (fun GB1 pv hg1 hpv=>?_);refine ET 3 [vI (ce 0),vI (cg 0),co 0] rfl (fun G m=>zF) J ?_;refine uE 2 2000002 h0.fx J<|uE 3 2000003 h0.fx J ?_;refine H3 (σ:=Empty) (fun k=>[(2000002,some (.o 96 [.d (vI 0), .d (vI 0), .d (.v (.pointer none))] true)),(2000003,some (.o 96 [.d (vI (ce (Sm k))), .d (vI (cg (Sm k))), .d (co (Sm k))] true))]) (fun _=>True) (fun _=>[]) (fun _=>False) [(2, .ov 2000002 0),(3, .ov 2000003 0)]
  h0 J (Ie ho.lb ho.sh ho.ln ho.pt hb) (.cons hpv .nil) ⟨J,J,trivial⟩ J (by rw[h00];exact⟨J,J,trivial⟩) trivial FO J J (fun k e GB' hE hg hp=>?_) (fun D hD hx hp=>?_) (fun D s hD hx hq=>hq.elim)
 ·obtain⟨x,hx,rfl⟩:=Jo hE
  refine⟨?_,?_,fun C2=>?_,fun C2=>?_⟩
  rotate_left 2
  ·refine gx J ?_
   exact atR
  ·haveI:=hs k
   haveI:=hc x (aL hx);rw[<-hL] at hx;refine gx J<|cl J (kg (p:=Sm k) (q:=x.1.cross x.2) (i:=m) (j:=m) hm hm) J ?_;have e1:Sm (k+1)=Sm k+x.1.cross x.2:=by rw[hSm];exact te _ hx
   exact rq trivial (by rw[e1];exact⟨J,J,trivial⟩)
 ·have eN:Sm (((cC (cv cs)).map wS).length)=aB (fun x=>x.1.cross x.2) (cC (cv cs)):=by
   rw[hSm,hL,aK];show aB _ (List.take _ _)=_;rw[dZ]
  haveI:BQ (aB (fun x=>x.1.cross x.2) (cC (cv cs))) m:=by rw[<-eN];exact hSk _
  rw[eN];refine gx J<|cl J (EO (q:=aB (fun x=>x.1.cross x.2) (cC (cv cs))) hm) J ?_;exact FR hD hx J J
def o7(x:ab×ab):ab:=(x.1.add x.2).scale (x.1.cross x.2)
def mA{α:Type}(f:α->ab)(l:List α):ab:=⟨aB (fun x=>(f x).x) l,aB (fun x=>(f x).y) l⟩
def XY{α:Type}(f:α->ab){l:List α}{k:Nat}{x:α}(h:l[k]? =some x):mA f (l.take (k+1))=(mA f (l.take k)).add (f x):=by
 unfold mA ab.add;rw[te _ h,te _ h]
def zZ{G:Gh}{m:List Value}(h:IsLs G [vI 0,vI 0, .v (.pointer none),vI 0,vI 0, .v (.pointer none)] m):IsLs G [vI (ce 0),vI (cg 0),co 0,vI (ce 0),vI (cg 0),co 0] m:=by
 obtain⟨y1,m1,rfl,h1,h⟩:=aH.1 h;obtain⟨y2,m2,rfl,h2,h⟩:=aH.1 h;obtain⟨y3,m3,rfl,h3,h⟩:=aH.1 h;have a:=zF (m:=[y1,y2,y3]) (.cons h1 (.cons h2 (.cons h3 .nil)));exact a.app (zF h)
def asu{cs:List ao}{b m M:Nat}(ho:GF cs b)(hb:b<=10000000)(hs: ∀k,aO (mA o7 ((cC (cv cs)).take k)) M)(hm:m<=10000000)(hM:M<=10000000)(hc: ∀x∈cC (cv cs),BQ (x.1.cross x.2) m):
  PF GB prog 68 [.sl (cs.map eC)] (eZ ((mA o7 (cC (cv cs))).scale (((1:Int):Rat)/((6:Int):Rat)))):=by
 obtain⟨L,hL⟩: ∃L,L=cC (cv cs):=⟨_,rfl⟩;obtain⟨Sm,hSm⟩: ∃Sm:Nat->ab,Sm=fun k=>mA o7 (L.take k):=⟨_,rfl⟩;have h00:Sm 0=⟨0,0⟩:=by rw[hSm];rfl
 have hSk: ∀k,aO (Sm k) M:=by rw[hSm,hL];exact hs
 refine H6 func68 J J ntmps68 J J (fun C h0=>?_);refine Hu J J J Hk (fun _=>J) (fun GB1 pv hg1 hpv=>?_);refine ET 3 [vI (ce 0),vI (cg 0),co 0,vI (ce 0),vI (cg 0),co 0] rfl (fun G m=>zZ) J ?_;refine uE 2 2000002 h0.fx J<|uE 3 2000003 h0.fx J ?_;refine H3 (σ:=Empty) (fun k=>[(2000002,some (.o 146 [.d (vI 0), .d (vI 0), .d (.v (.pointer none)), .d (vI 0), .d (vI 0), .d (.v (.pointer none))] true)),(2000003,some (.o 146 [.d (vI (ce (Sm k).x)), .d (vI (cg (Sm k).x)), .d (co (Sm k).x), .d (vI (ce (Sm k).y)), .d (vI (cg (Sm k).y)), .d (co (Sm k).y)] true))]) (fun _=>True) (fun _=>[]) (fun _=>False) [(2, .ov 2000002 0),(3, .ov 2000003 0)]
  h0 J (Ie ho.lb ho.sh ho.ln ho.pt (by omega)) (.cons hpv .nil) ⟨J,J,trivial⟩ J (by rw[h00];exact⟨J,J,trivial⟩) trivial FO J J (fun k e GB' hE hg hp=>?_) (fun D hD hx hp=>?_) (fun D s hD hx hq=>hq.elim)
 ·obtain⟨x,hx,rfl⟩:=Jo hE
  refine⟨?_,?_,fun C2=>?_,fun C2=>?_⟩
  rotate_left 2
  ·refine gx J<|F9 J J J ⟨J,J,J⟩ J ?_
   exact atR
  ·haveI:=hSk k
   haveI:=hc x (aL hx);haveI:=(ho.pt x (aL hx)).1;haveI:=(ho.pt x (aL hx)).2;rw[<-hL] at hx;refine gx J<|kj 0 (e:=146) (len:=2) (s:=6) J (by kernel_rfl) (by kernel_rfl) (by decide) J<|kj 1 (e:=146) (len:=2) (s:=6) J (by kernel_rfl) (by kernel_rfl) (by decide) J<|?_;refine cl J (C8 (p:=x.1) (q:=x.2) (i:=b) (j:=b) (by omega) (by omega)) J<|cl J (Cs (p:=x.1.add x.2) (c:=x.1.cross x.2) (i:=b+b+1) (j:=m) (by omega) (by omega)) J<|?_;refine cl J (C8 (p:=Sm k) (q:=o7 x) (i:=M) (j:=b+b+1+m) (hq:=inferInstanceAs (aO ((x.1.add x.2).scale (x.1.cross x.2)) _)) (by omega) (by omega)) J<|?_;have e1:Sm (k+1)=(Sm k).add (o7 x):=by rw[hSm];exact XY _ hx
   exact rq trivial (by rw[e1];exact⟨J,J,trivial⟩)
 ·have eN:Sm (((cC (cv cs)).map wS).length)=mA o7 (cC (cv cs)):=by
   rw[hSm,hL,aK];show mA _ (List.take _ _)=_;rw[dZ]
  haveI:aO (mA o7 (cC (cv cs))) M:=by rw[<-eN];exact hSk _
  haveI:BQ (((1:Int):Rat)/((6:Int):Rat)) 3:=⟨by decide+kernel,by decide+kernel⟩;rw[eN];refine gx J<|cl J (Ld (m:=1) (n:=6) (by decide) (by decide)) J<|cl J (Cs (p:=mA o7 (cC (cv cs))) (c:=((1:Int):Rat)/((6:Int):Rat)) (i:=M) (j:=3) (by omega) (by decide)) J<|?_;exact FR hD hx J J
def qF(es:List Int)(a:Nat):Rat×Nat:=
 (if((aw es 6 (aw es 9 a).2).1:Int)=0 then mkRat (2*(((aw es 9 a).1:Int)-4)+1) 2 else if((aw es 6 (aw es 9 a).2).1:Int)=1 then mkRat (3*(((aw es 9 a).1:Int)-4)+1) 3 else(((aw es 9 a).1:Rat)-4:Rat),(aw es 6 (aw es 9 a).2).2)
def Iw(es:List Int)(a:Nat):ab×Nat:=(⟨(qF es a).1,(qF es (qF es a).2).1⟩,(qF es (qF es a).2).2)
def AG:aa:=⟨1,0,0⟩
def aKk(es:List Int)(L:List aa)(a:Nat):ab×Nat:=
 if L.length=0 then Iw es a else
 if((aw es 3 (aw es L.length a).2).1:Int)=0 then
  (if crossI (L.getD (aw es L.length a).1 AG) (L.getD (aw es L.length (aw es 3 (aw es L.length a).2).2).1 AG)≠0 then(dH (L.getD (aw es L.length a).1 AG) (L.getD (aw es L.length (aw es 3 (aw es L.length a).2).2).1 AG),(aw es L.length (aw es 3 (aw es L.length a).2).2).2) else Iw es (aw es L.length (aw es 3 (aw es L.length a).2).2).2)
 else if((aw es 3 (aw es L.length a).2).1:Int)=1 then((L.getD (aw es L.length a).1 AG).at (qF es (aw es 3 (aw es L.length a).2).2).1,(qF es (aw es 3 (aw es L.length a).2).2).2) else Iw es (aw es 3 (aw es L.length a).2).2

structure EGV (GB:Gh) (ai al ae au:Addr):Prop extends Bx GB ai al ae au where
 ErrEmpty:GB 0=some [.iface 405 (.pointer (some ae))]
def oI(x:ab×ab):Rat:=(x.1.x*x.1.x+x.2.x*x.2.x+(x.1.add x.2).x*(x.1.add x.2).x)*x.1.cross x.2
def pp(x:ab×ab):Rat:=(x.1.x*x.1.y+x.2.x*x.2.y+(x.1.add x.2).x*(x.1.add x.2).y)*x.1.cross x.2
def o9(x:ab×ab):Rat:=(x.1.y*x.1.y+x.2.y*x.2.y+(x.1.add x.2).y*(x.1.add x.2).y)*x.1.cross x.2
structure nG (cs:List ao):Prop where
 ed:GF cs 1200
 cr: ∀x∈cC (cv cs),BQ (x.1.cross x.2) 5000
 ar: ∀k,BQ (aB (fun x=>x.1.cross x.2) ((cC (cv cs)).take k)) 2000000
 mo: ∀k,aO (mA o7 ((cC (cv cs)).take k)) 3000000
 sa: ∀k,BQ (aB oI ((cC (cv cs)).take k)) 4000000
 sb: ∀k,BQ (aB pp ((cC (cv cs)).take k)) 4000000
 sc: ∀k,BQ (aB o9 ((cC (cv cs)).take k)) 4000000
def mG(t:Tr):Rat:=aB (fun x=>x.1.cross x.2) (cC (cv (bP t)))*mkRat 1 2
def nB(t:Tr):ab:=(mA o7 (cC (cv (bP t)))).scale (((1:Int):Rat)/((6:Int):Rat))
theorem nG.cr2{cs:List ao}(h:nG cs): ∀x∈cC (cv cs),BQ (x.1.cross x.2) 2000000:=fun x hx=>(h.cr x hx).mono (by decide)
theorem nG.ar1{cs:List ao}(h:nG cs):BQ (aB (fun x=>x.1.cross x.2) (cC (cv cs))) 2000000:=by
 have:=h.ar (cC (cv cs)).length;rwa [dZ] at this
theorem nG.mo1{cs:List ao}(h:nG cs):aO (mA o7 (cC (cv cs))) 3000000:=by
 have:=h.mo (cC (cv cs)).length;rwa [dZ] at this
theorem nG.area{t:Tr}(h:nG (bP t)):BQ (mG t) 2000003:=by
 haveI:=h.ar1;exact BQ.mono (inferInstance:BQ (aB (fun x=>x.1.cross x.2) (cC (cv (bP t)))*mkRat 1 2) _) (by decide)
def zR0:DV:= .ag [vB false, .sl [], .sl []]
def zP0:DV:= .ag [vB false, .sl [], .sl [],vB false, .sl [], .sl []]
theorem Xh:BQ (((1:Int):Rat)/((6:Int):Rat)) 3:=⟨by decide+kernel,by decide+kernel⟩
theorem nG.mom{t:Tr}(h:nG (bP t)):aO (nB t) 3000005:=by
 haveI:=h.mo1;haveI:=Xh;exact aO.mono (inferInstance:aO ((mA o7 (cC (cv (bP t)))).scale (((1:Int):Rat)/((6:Int):Rat))) _) (by decide)
def Zp{k0:Nat}{t:Tr}(h:fh k0 t)(hk0:k0<=900):PF GB prog 96 [eA t] (.tp [.sl ((bP t).map eC), .v .nilIface]):=by
 have hts:=h.s;have htd:=h.dp;refine fn func96 J J ntmps96 J J (fun C=>?_);refine cl (fu:=⟨12⟩) J (Tl h) J<|?_;refine pi 12 J ?_;refine gx J<|cl (fu:=⟨0⟩) J (ze (t:=t) (by omega)) J<|cO J (by show some (decide _)=some false;rw[decide_eq_false (by omega)]) J<|cl J (aB8 h.lb h.ok (by omega) (by omega)) J<|?_;exact rz J J
def asF{cs:List ao}(hn: ∀c∈cs,c.length<=100000)(hl:cs.length<=1000000):PF GB prog 97 [.sl (cs.map eC)] (vB (cs.all et)):=by
 have hml:(cs.map eC).length=cs.length:=aK ..;refine fn (fu:=⟨10⟩) func97 J J ntmps97 J J (fun C=>?_);refine aj 6 (.d (vI (cs.length:Nat))) J (by rw[hml]<;>rfl) ?_;refine gx J<|?_;refine lp (X:=Nat) (fun k=>[(7, .d (vI (k:Nat)))]) (fun k=>[]) (fun k=>k<=cs.length/\cs.all et=(cs.drop k).all et) (fun k=>cs.length-k) 0 J ⟨bJ _,by rw[iQ]⟩ (fun _=>J) (fun k hk=>?_);refine br J J J (fun hc8=>?_) (fun hc8=>?_)
 .
  obtain⟨c,hx⟩: ∃u,cs[k]? =some u:=⟨_,aZ (by omega)⟩;refine ix _ J (fe hx) J<|cl J (Vw (c:=c) (hn c (aL hx))) J<|?_;refine bb J J J (fun hc13=>?_) (fun hc13=>?_)
  .
   have hS:cs.all et=false:=by rw[hk.2,AV hx];rw[gL] at hc13;rw[hc13];rfl
   exact rz J (by rw[hS];rfl)
  .
   rw[Bool.not_eq_false'] at hc13;exact at_ (k+1) ⟨⟨by omega,by rw[hk.2,AV hx,hc13,Bool.true_and]⟩,(by omega)⟩
 .
  have hS:cs.all et=true:=by rw[hk.2,fL (by omega)];rfl
  exact rz J (by rw[hS];rfl)
def Ji{k0:Nat}{t:Tr}(h:fh k0 t)(hk0:k0<=900)(hbd:(bP t).all et=true):PF GB prog 38 [eA t] (.tp [.sl ((bP t).map eC), .v .nilIface]):=by
 obtain⟨cs,hcs⟩: ∃cs,cs=bP t:=⟨_,rfl⟩;have hts:=h.s;have htd:=h.dp;have hcl:=FJ t;have hcn:=Ic h.lb h.ok;rw[<-hcs] at hcl hcn;rw[<-hcs] at hbd;refine fn func38 J J ntmps38 J J (fun C=>?_);refine cl (fu:=⟨0⟩) J (Zp h hk0) J<|?_;refine aj 8 (.d (.tp [.sl (cs.map eC), .v .nilIface])) J (by rw[hcs]) ?_;refine gx J<|cl (fu:=⟨0⟩) J (asF (cs:=cs) (fun c hc=>by have:=hcn c hc;omega) (by omega)) J<|?_;refine aj 15 (.d (vB true)) J (by rw[hbd]) ?_;refine pi 15 J ?_;refine gx J<|?_;exact rz J (by rw[<-hcs];rfl)
def Lk{k0:Nat}{t:Tr}(h:fh k0 t)(hk0:k0<=900)(hbd:(bP t).all et=true)(hm:nG (bP t)):PF GB prog 10 [eA t] (.tp [eR (mG t), .v .nilIface]):=by
 haveI:=hm.area;refine fn func10 J J ntmps10 J J (fun C=>?_);refine cl J (Ji h hk0 hbd) J<|cl J (YQ hm.ed (by decide) hm.ar (by decide) hm.cr2) J<|cl J (xi (q:=mG t) (i:=2000003)) J<|?_;exact rz J J
def Tq{k0:Nat}{t:Tr}(h:fh k0 t)(hk0:k0<=900)(hbd:(bP t).all et=true)(hm:nG (bP t)):PF GB prog 19 [eA t] (.tp [pc (nB t), .v .nilIface]):=by
 haveI:=hm.mom;refine fn func19 J J ntmps19 J J (fun C=>?_);refine cl J (Ji h hk0 hbd) J<|cl J (asu hm.ed (by decide) hm.mo (by decide) (by decide) hm.cr) J<|cl J (aBP (p:=nB t) (i:=3000005)) J<|?_;exact rz J J
def vp:Rat:=((1:Int):Rat)/((24:Int):Rat)
def ti(f:ab×ab->Rat)(t:Tr):Rat:=aB f (cC (cv (bP t)))*vp
def WL{G:Gh}{m:List Value}(h:IsLs G [vI 0,vI 0, .v (.pointer none),vI 0,vI 0, .v (.pointer none),vI 0,vI 0, .v (.pointer none)] m):IsLs G [vI (ce 0),vI (cg 0),co 0,vI (ce 0),vI (cg 0),co 0,vI (ce 0),vI (cg 0),co 0] m:=by
 obtain⟨y1,m1,rfl,h1,h⟩:=aH.1 h;obtain⟨y2,m2,rfl,h2,h⟩:=aH.1 h;obtain⟨y3,m3,rfl,h3,h⟩:=aH.1 h;have a:=zF (m:=[y1,y2,y3]) (.cons h1 (.cons h2 (.cons h3 .nil)));exact a.app (zZ h)
theorem aEa:BQ vp 6:=⟨by decide+kernel,by decide+kernel⟩
def SY{k0:Nat}{t:Tr}(h:fh k0 t)(hk0:k0<=900)(hbd:(bP t).all et=true)(hm:nG (bP t)):PF GB prog 58 [eA t] (.tp [eR (ti oI t),eR (ti pp t),eR (ti o9 t), .v .nilIface]):=by
 obtain⟨cs,hcs⟩: ∃cs,cs=bP t:=⟨_,rfl⟩;obtain⟨L,hL⟩: ∃L,L=cC (cv cs):=⟨_,rfl⟩;rw[<-hcs] at hm;obtain⟨Sa,hSa⟩: ∃S:Nat->Rat,S=fun k=>aB oI (L.take k):=⟨_,rfl⟩;obtain⟨Sb,hSb⟩: ∃S:Nat->Rat,S=fun k=>aB pp (L.take k):=⟨_,rfl⟩;obtain⟨Sc,hSc⟩: ∃S:Nat->Rat,S=fun k=>aB o9 (L.take k):=⟨_,rfl⟩;have ha0:Sa 0=0:=by rw[hSa];rfl
 have hb0:Sb 0=0:=by rw[hSb];rfl
 have hc0:Sc 0=0:=by rw[hSc];rfl
 have hSak: ∀k,BQ (Sa k) 4000000:=by rw[hSa,hL];exact hm.sa
 have hSbk: ∀k,BQ (Sb k) 4000000:=by rw[hSb,hL];exact hm.sb
 have hSck: ∀k,BQ (Sc k) 4000000:=by rw[hSc,hL];exact hm.sc
 refine H6 func58 J J ntmps58 J J (fun C h0=>?_);refine cl J (Ji h hk0 hbd) J ?_;refine Hu J J J Hk (fun _=>J) (fun GB1 pv hg1 hpv=>?_);refine ET 8 [vI (ce 0),vI (cg 0),co 0,vI (ce 0),vI (cg 0),co 0,vI (ce 0),vI (cg 0),co 0] rfl (fun G m=>WL) J ?_;refine uE 2 2000002 h0.fx J<|uE 3 2000003 h0.fx J<|uE 4 2000004 h0.fx J<|uE 8 2000008 h0.fx J ?_;refine H3 (σ:=Empty) (fun k=>[(2000002,some (.o 36 [.ff, .nl, .nl] true)),(2000003,some (.o 36 [.ff, .nl, .nl] true)),(2000004,some (.o 36 [.ff, .nl, .nl] true)),(2000008,some (.o 227 [.d (vI (ce (Sa k))), .d (vI (cg (Sa k))), .d (co (Sa k)), .d (vI (ce (Sb k))), .d (vI (cg (Sb k))), .d (co (Sb k)), .d (vI (ce (Sc k))), .d (vI (cg (Sc k))), .d (co (Sc k))] true))]) (fun _=>True) (fun _=>[]) (fun _=>False) [(2, .ov 2000002 0),(3, .ov 2000003 0),(4, .ov 2000004 0),(8, .ov 2000008 0)]
  h0 J (Ie (cs:=bP t) (by rw[<-hcs];exact hm.ed.lb) (by rw[<-hcs];exact hm.ed.sh) (by rw[<-hcs];exact hm.ed.ln) (by rw[<-hcs];exact hm.ed.pt) (by decide)) (.cons hpv .nil) ⟨J,J,J,J,trivial⟩ J (by rw[ha0,hb0,hc0];exact⟨J,J,J,J,trivial⟩) trivial FO J J (fun k e GB' hE hg hp=>?_) (fun D hD hx hp=>?_) (fun D s hD hx hq=>hq.elim)
 ·obtain⟨x,hx,rfl⟩:=Jo hE
  rw[<-hcs] at hx;refine⟨?_,?_,fun C2=>?_,fun C2=>?_⟩
  rotate_left 2
  ·refine gx J<|F9 J J J ⟨J,J,J⟩ J ?_
   exact atR
  ·haveI:=hSak k
   haveI:=hSbk k;haveI:=hSck k;haveI:=hm.cr x (aL hx);haveI hp1:=(hm.ed.pt x (aL hx)).1;haveI hp2:=(hm.ed.pt x (aL hx)).2;haveI:=hp1.x;haveI:=hp1.y;haveI:=hp2.x;haveI:=hp2.y;haveI hp3:aO (x.1.add x.2) 2401:=inferInstance;haveI:=hp3.x;haveI:=hp3.y;rw[<-hL] at hx;refine gx J<|kj 0 (e:=146) (len:=2) (s:=6) J (by kernel_rfl) (by kernel_rfl) (by decide) J<|kj 1 (e:=146) (len:=2) (s:=6) J (by kernel_rfl) (by kernel_rfl) (by decide) J<|?_;refine cl J (C8 (p:=x.1) (q:=x.2) (i:=1200) (j:=1200)) J<|?_;refine cl J (gD (p:=x.1.x) (q:=x.1.x) (i:=1200) (j:=1200)) J<|cl J (gD (p:=x.2.x) (q:=x.2.x) (i:=1200) (j:=1200)) J<|cl J (kg (p:=x.1.x*x.1.x) (q:=x.2.x*x.2.x)) J<|?_;refine cl J (gD (p:=(x.1.add x.2).x) (q:=(x.1.add x.2).x) (i:=2401) (j:=2401)) J<|cl J (kg (p:=x.1.x*x.1.x+x.2.x*x.2.x) (q:=(x.1.add x.2).x*(x.1.add x.2).x)) J<|?_;refine cl J (gD (p:=x.1.x) (q:=x.1.y) (i:=1200) (j:=1200)) J<|cl J (gD (p:=x.2.x) (q:=x.2.y) (i:=1200) (j:=1200)) J<|cl J (kg (p:=x.1.x*x.1.y) (q:=x.2.x*x.2.y)) J<|?_;refine cl J (gD (p:=(x.1.add x.2).x) (q:=(x.1.add x.2).y) (i:=2401) (j:=2401)) J<|cl J (kg (p:=x.1.x*x.1.y+x.2.x*x.2.y) (q:=(x.1.add x.2).x*(x.1.add x.2).y)) J<|?_;refine cl J (gD (p:=x.1.y) (q:=x.1.y) (i:=1200) (j:=1200)) J<|cl J (gD (p:=x.2.y) (q:=x.2.y) (i:=1200) (j:=1200)) J<|cl J (kg (p:=x.1.y*x.1.y) (q:=x.2.y*x.2.y)) J<|?_;refine cl J (gD (p:=(x.1.add x.2).y) (q:=(x.1.add x.2).y) (i:=2401) (j:=2401)) J<|cl J (kg (p:=x.1.y*x.1.y+x.2.y*x.2.y) (q:=(x.1.add x.2).y*(x.1.add x.2).y)) J<|?_;refine MR (len:=3) (s:=3) (e:=96) J (by kernel_rfl) (by kernel_rfl) J<|F9 J J J ⟨J,J,J⟩ J<|R4 9 (len:=3) (e:=96) J (by kernel_rfl) (by kernel_rfl) J<|?_
   refine lp (X:=Nat) (fun i=>[(93, .d (vI (i:Nat)))]) (fun i=>[(2000008,some (.o 227 [.d (vI (ce (if 0<i then Sa k+oI x else Sa k))), .d (vI (cg (if 0<i then Sa k+oI x else Sa k))), .d (co (if 0<i then Sa k+oI x else Sa k)), .d (vI (ce (if 1<i then Sb k+pp x else Sb k))), .d (vI (cg (if 1<i then Sb k+pp x else Sb k))), .d (co (if 1<i then Sb k+pp x else Sb k)), .d (vI (ce (if 2<i then Sc k+o9 x else Sc k))), .d (vI (cg (if 2<i then Sc k+o9 x else Sc k))), .d (co (if 2<i then Sc k+o9 x else Sc k))] true))]) (fun i=>i<=3) (fun i=>3-i) 0 J (by omega) (fun _=>J) (fun i hi=>?_);refine br J J J (fun hc94=>?_) (fun hc94=>?_)
   ·obtain rfl|rfl|rfl:i=0\/i=1\/i=2:=by omega
    ·refine IA 0 (len:=3) (s:=3) (e:=96) J (by kernel_rfl) J J (by decide) J<|kj 0 (e:=96) (len:=3) (s:=3) J (by kernel_rfl) (by kernel_rfl) (by decide) J<|?_
     refine cl J (gD (p:=(x.1.x*x.1.x+x.2.x*x.2.x+(x.1.add x.2).x*(x.1.add x.2).x)) (q:=x.1.cross x.2) (j:=5000)) J<|cl J (kg (p:=Sa k) (q:=(x.1.x*x.1.x+x.2.x*x.2.x+(x.1.add x.2).x*(x.1.add x.2).x)*x.1.cross x.2) (i:=4000000)) J<|kj (hv:=by simp only[ac];exact⟨by kernel_rfl,by omega⟩) 0 (e:=96) (len:=3) (s:=3) J (by kernel_rfl) (by kernel_rfl) (by decide) J<|?_;exact at_ 1 ⟨by omega,by omega⟩
    ·refine IA 1 (len:=3) (s:=3) (e:=96) J (by kernel_rfl) J J (by decide) J<|kj 1 (e:=96) (len:=3) (s:=3) J (by kernel_rfl) (by kernel_rfl) (by decide) J<|?_
     refine cl J (gD (p:=(x.1.x*x.1.y+x.2.x*x.2.y+(x.1.add x.2).x*(x.1.add x.2).y)) (q:=x.1.cross x.2) (j:=5000)) J<|cl J (kg (p:=Sb k) (q:=(x.1.x*x.1.y+x.2.x*x.2.y+(x.1.add x.2).x*(x.1.add x.2).y)*x.1.cross x.2) (i:=4000000)) J<|kj (hv:=by simp only[ac];exact⟨by kernel_rfl,by omega⟩) 1 (e:=96) (len:=3) (s:=3) J (by kernel_rfl) (by kernel_rfl) (by decide) J<|?_;exact at_ 2 ⟨by omega,by omega⟩
    ·refine IA 2 (len:=3) (s:=3) (e:=96) J (by kernel_rfl) J J (by decide) J<|kj 2 (e:=96) (len:=3) (s:=3) J (by kernel_rfl) (by kernel_rfl) (by decide) J<|?_
     refine cl J (gD (p:=(x.1.y*x.1.y+x.2.y*x.2.y+(x.1.add x.2).y*(x.1.add x.2).y)) (q:=x.1.cross x.2) (j:=5000)) J<|cl J (kg (p:=Sc k) (q:=(x.1.y*x.1.y+x.2.y*x.2.y+(x.1.add x.2).y*(x.1.add x.2).y)*x.1.cross x.2) (i:=4000000)) J<|kj (hv:=by simp only[ac];exact⟨by kernel_rfl,by omega⟩) 2 (e:=96) (len:=3) (s:=3) J (by kernel_rfl) (by kernel_rfl) (by decide) J<|?_;exact at_ 3 ⟨by omega,by omega⟩
   ·obtain rfl:i=3:=by omega
    have e1:Sa (k+1)=Sa k+oI x:=by rw[hSa];exact te _ hx
    have e2:Sb (k+1)=Sb k+pp x:=by rw[hSb];exact te _ hx
    have e3:Sc (k+1)=Sc k+o9 x:=by rw[hSc];exact te _ hx
    exact rq trivial (by rw[e1,e2,e3];exact⟨J,J,J,J,trivial⟩)
 ·have eN:((cC (cv (bP t))).map wS).length=L.length:=by rw[aK,<-hcs,<-hL]
  rw[eN];have ea:Sa L.length=aB oI L:=by rw[hSa];show aB _ (List.take _ _)=_;rw[dZ]
  have eb:Sb L.length=aB pp L:=by rw[hSb];show aB _ (List.take _ _)=_;rw[dZ]
  have ec:Sc L.length=aB o9 L:=by rw[hSc];show aB _ (List.take _ _)=_;rw[dZ]
  haveI:BQ (aB oI L) 4000000:=by rw[<-ea];exact hSak _
  haveI:BQ (aB pp L) 4000000:=by rw[<-eb];exact hSbk _
  haveI:BQ (aB o9 L) 4000000:=by rw[<-ec];exact hSck _
  haveI:=aEa;rw[ea,eb,ec];refine gx J<|cl J (Ld (m:=1) (n:=24) (by decide) (by decide)) J<|?_;refine kj 0 (e:=96) (len:=3) (s:=3) J (by kernel_rfl) (by kernel_rfl) (by decide) J<|cl J (gD (p:=aB oI L) (q:=vp) (i:=4000000) (j:=6)) J<|cl J (xi (q:=aB oI L*vp) (i:=4000006)) J<|?_;refine kj 1 (e:=96) (len:=3) (s:=3) J (by kernel_rfl) (by kernel_rfl) (by decide) J<|cl J (gD (p:=aB pp L) (q:=vp) (i:=4000000) (j:=6)) J<|cl J (xi (q:=aB pp L*vp) (i:=4000006)) J<|?_;refine kj 2 (e:=96) (len:=3) (s:=3) J (by kernel_rfl) (by kernel_rfl) (by decide) J<|cl J (gD (p:=aB o9 L) (q:=vp) (i:=4000000) (j:=6)) J<|cl J (xi (q:=aB o9 L*vp) (i:=4000006)) J<|?_;exact FR hD hx J (by unfold ti;rw[<-hcs,<-hL];rfl)
structure DQ (D B:Nat) (x:Rat):Prop where
 ex: ∃n:Int,x*((D:Nat):Rat)=(n:Rat)/\n.natAbs<=B*D
theorem DQ.bq{D B k:Nat}{x:Rat}(h:DQ D B x)(h0:0<D)(h1:D<2^k)(h2:B*D<2^k):BQ x k:=by
 obtain⟨n,e,hn⟩:=h.ex;exact BQ.of_frac h0 e (by omega) h1
def DQ.mono{D B C:Nat}{x:Rat}(h:DQ D B x)(hc:B<=C):DQ D C x:=by
 obtain⟨n,e,hn⟩:=h.ex;exact⟨n,e,cY hn (bK D hc)⟩
def DQ.add{D B C:Nat}{x y:Rat}(h:DQ D B x)(k:DQ D C y):DQ D (B+C) (x+y):=by
 obtain⟨n,e,hn⟩:=h.ex;obtain⟨m,f,hm⟩:=k.ex;refine⟨n+m,by rw[pZ,<-e,<-f];grind,?_⟩;have:=Int.natAbs_add_le n m;rw[cS];omega
def DQ.neg{D B:Nat}{x:Rat}(h:DQ D B x):DQ D B (-x):=by
 obtain⟨n,e,hn⟩:=h.ex;exact⟨-n,by rw[jR,<-e];grind,by rw[iS];exact hn⟩
def DQ.sub{D B C:Nat}{x y:Rat}(h:DQ D B x)(k:DQ D C y):DQ D (B+C) (x-y):=by
 have:=h.add k.neg;rw[show x-y=x+ -y by grind];exact this
def DQ.mul{D E B C:Nat}{x y:Rat}(h:DQ D B x)(k:DQ E C y):DQ (D*E) (B*C) (x*y):=by
 obtain⟨n,e,hn⟩:=h.ex;obtain⟨m,f,hm⟩:=k.ex;refine⟨n*m,?_,?_⟩
 ·rw[cW,<-e,<-f,Rat.natCast_mul];grind
 ·rw[jK]
  refine cY (gW hn hm) (Nat.le_of_eq ?_);rw[Nat.mul_mul_mul_comm]
def DQ.zero(D B:Nat):DQ D B 0:=⟨0,by grind,by simp⟩
def mF(l m:aa):Nat:=if crossI l m=0 then 1 else(crossI l m).natAbs
def Sy(l m:aa):0<mF l m:=by unfold mF;split<;>omega
def Zl(l m:aa):crossI l.rev m= -crossI l m:=by
 unfold crossI aa.rev;show-l.a*m.b-m.a* -l.b=_;rw[Int.neg_mul,sV];omega
def Uc(l m:aa):crossI l m.rev= -crossI l m:=by
 unfold crossI aa.rev;show l.a* -m.b- -m.a*l.b=_;rw[Int.neg_mul,sV];omega
def Wp{l m l' m':aa}(h:l.same l')(k:m.same m'):mF l' m'=mF l m:=by
 have e1:mF l' m'=mF l m':=by
  rcases h with rfl|rfl
  ·rfl
  ·unfold mF;rw[Zl];simp only[Int.neg_eq_zero,iS]
 rw[e1];rcases k with rfl|rfl
 ·rfl
 ·unfold mF;rw[Uc];simp only[Int.neg_eq_zero,iS]
def Dk(K:List aa):List Nat:=K.flatMap fun l=>K.map (mF l)
def CO(K:List aa):Nat:=(Dk K).foldr (· * ·) 1
def Mg{n:Nat}: ∀{l:List Nat},n∈l->n∣l.foldr (· * ·) 1
 |a::t,h=>by
  rw[List.foldr_cons];rcases aY.1 h with rfl|h
  ·exact Nat.dvd_mul_right _ _
  ·exact sJ (Mg h) (Nat.dvd_mul_left _ _)
def O2: ∀{l:List Nat},(∀n∈l,0<n)->0<l.foldr (· * ·) 1
 |[],_=>by decide
 |a::t,h=>by rw[List.foldr_cons];exact iJ (h a aQ) (O2 fun n hn=>h n (aJ _ hn))
def K2{b:Nat}: ∀{l:List Nat},(∀n∈l,n<=2^b)->l.foldr (· * ·) 1<=2^(b*l.length)
 |[],_=>by simp
 |a::t,h=>by
  rw[List.foldr_cons,bZ,Nat.mul_succ,jY,eJ];exact gW (h a aQ) (K2 fun n hn=>h n (aJ _ hn))
def Wy(K:List aa):(Dk K).length=K.length*K.length:=by
 unfold Dk;rw[List.length_flatMap];have: ∀Jv:List aa,(Jv.map fun l=>(K.map (mF l)).length).sum=Jv.length*K.length:=by
  intro Jv
  induction Jv with
  |nil=>simp
  |cons a t ih=>rw[bT,qR,ih,aK,bZ,fN];omega
 exact this K
def Wz(K:List aa):0<CO K:=O2 fun n hn=>by
 obtain⟨l,_,h⟩:=gX.1 hn;obtain⟨m,_,rfl⟩:=bV.1 h;exact Sy l m
def Xa{K:List aa}{l m:aa}(hl:l∈K)(hm:m∈K):mF l m∣CO K:=Mg (gX.2 ⟨l,hl,eX hm⟩)
def Zr{l m:aa}(hl:LB l)(hm:LB m):mF l m<=2^385:=by
 have h1:=(inferInstance:BI (crossI l m) 385).h;generalize 385=kk at h1⊢;unfold mF;split
 ·exact Nat.one_le_two_pow
 ·exact lL h1
def TL{K:List aa}(h: ∀l∈K,LB l):CO K<=2^(385*(K.length*K.length)):=by
 have:=K2 (b:=385) (l:=Dk K) fun n hn=>by
  obtain⟨l,hl,h2⟩:=gX.1 hn;obtain⟨m,hm,rfl⟩:=bV.1 h2;exact Zr (h l hl) (h m hm)
 rw[Wy] at this;exact this
def KF{x:Rat}{n c:Int}{D kk:Nat}(hc:c≠0)(hx:x=(n:Rat)/(c:Rat))(hn:n.natAbs<=2^kk)(hd:c.natAbs∣D):DQ D (2^kk) x:=by
 obtain⟨e,he⟩:=hd;have hc':(c:Rat)≠0:=fun h=>hc (cN.1 h);have hD:((D:Nat):Rat)=((c.natAbs:Int):Rat)*((e:Int):Rat):=by rw[<-cW,<-Rat.intCast_natCast,he];rfl
 have bd:(n*(e:Int)).natAbs<=2^kk*D:=by
  rw[jK,iN];refine gW hn ?_;rw[he];exact Nat.le_mul_of_pos_left e (by omega)
 rcases Int.natAbs_eq c with h|h
 ·refine⟨n*(e:Int),?_,bd⟩
  rw[hD,<-h,hx,cW];grind
 ·refine⟨-(n*(e:Int)),?_,by rw[iS];exact bd⟩
  have h2:(c.natAbs:Int)= -c:=by omega
  rw[hD,h2,hx,jR,jR,cW];grind
structure DP (D B:Nat) (p:ab):Prop where
 x:DQ D B p.x
 y:DQ D B p.y
def VU{l m:aa}(hl:LB l)(hm:LB m)(h:crossI l m≠0){D:Nat}(hd:mF l m∣D):DP D (2^385) (dH l m):=by
 have h1:=(inferInstance:BI (meetX l m) 385).h;have h2:=(inferInstance:BI (meetY l m) 385).h;generalize 385=kk at h1 h2⊢;unfold mF at hd;rw[if_neg h] at hd;have e:dH l m=⟨(meetX l m:Rat)/(crossI l m:Rat),(meetY l m:Rat)/(crossI l m:Rat)⟩:=by unfold dH;rw[if_neg h]
 rw[e];exact⟨KF h J (lL h1) hd,KF h J (lL h2) hd⟩
def DP.cross{D B C:Nat}{p q:ab}(h:DP D B p)(k:DP D C q):DQ (D*D) (2*(B*C)) (p.cross q):=by
 have:=(h.x.mul k.y).sub (h.y.mul k.x);refine DQ.mono this (by omega)
def DP.add{D B C:Nat}{p q:ab}(h:DP D B p)(k:DP D C q):DP D (B+C) (p.add q):=⟨h.x.add k.x,h.y.add k.y⟩
def DP.scale{D E B C:Nat}{p:ab}{c:Rat}(h:DP D B p)(k:DQ E C c):DP (D*E) (B*C) (p.scale c):=⟨h.x.mul k,h.y.mul k⟩
def aCc{k:Nat}{t:Tr}(h:fh k t): ∃K:List aa,K.length<=k/\(∀l∈K,LB l)/\t.all fun l=> ∃m∈K,m.same l:=by
 obtain⟨K,h1,h2,h3⟩:=h.o.am;refine⟨K.filter fun m=>t.lns.any fun l=>decide (m.same l),cY (lY ..) h1,fun m hm=>?_,?_⟩
 ·obtain⟨hm1,hm2⟩:=qM.1 hm
  obtain⟨l,hl,e⟩:=jS.1 hm2;have hb:=vn.1 h.lb l hl;have e':m.same l:=by simpa using e
  rcases e' with rfl|rfl
  ·exact hb
  ·haveI:=hb
   have:LB m.rev.rev:=inferInstance;rwa [show m.rev.rev=m from by unfold aa.rev;cases m;simp] at this
 ·have h3:=vn.1 h3
  refine vn.2 fun l hl=>?_;obtain⟨m,hm,e⟩:=h3 l hl;exact⟨m,qM.2 ⟨hm,jS.2 ⟨l,hl,decide_eq_true e⟩⟩,e⟩
def Ij{P:aa->Prop}(hr: ∀l,P l->P l.rev): ∀{t:Tr} {c:ao} {x:Bool×ao},t.all P->(∀s∈c,P s.l)->x∈t.parts c-> ∀s∈x.2,P s.l
 | .leaf b,c,x,_,hc,h=>by
  rw[Tr.parts,aW] at h;subst h;exact hc
 | .node l u v,c,x,ht,hc,h=>by
  have cl: ∀k,P k-> ∀s∈bg c k,P s.l:=fun k hk s hs=>by
   unfold bg at hs;split at hs
   ·rcases oH.1 hs with rfl|hs
    ·exact hk
    ·obtain⟨s0,g,_,rfl⟩:=rI.1 hs
     exact hc s0 g
   ·exact hc s hs
  rw[Tr.parts] at h;rcases bW.1 h with h|h
  ·split at h
   ·exact Ij hr ht.2.1 (cl l ht.1) h
   ·cases h
  ·split at h
   ·exact Ij hr ht.2.2 (cl l.rev (hr l ht.1)) h
   ·cases h
def ayg{k:Nat}{t:Tr}(h:fh k t): ∃D:Nat,0<D/\D<=2^(385*(k*k))/\ ∀c∈bP t,∀p∈il (c.map (·.l)),DP D (2^385) p:=by
 obtain⟨K,h1,h2,h3⟩:=aCc h;refine⟨CO K,Wz K,cY (TL h2) (bY (by decide) (dS 385 (gW h1 h1))),fun c hc p hp=>?_⟩;have hs:=Ij (P:=fun l=> ∃m∈K,m.same l) (fun l ⟨m,hm,e⟩=>⟨m,hm,by
  rcases e with rfl|rfl
  ·exact .inr J
  ·exact .inl (by unfold aa.rev;cases m;simp)⟩) h3 (fun s hs=>by cases hs) (xJ.1 hc)
 have hb:=Jw h.lb h.ok c hc;obtain⟨i,hi,hp⟩:=gX.1 hp;have hi':=mZ.1 hi;have e1:=aZ hi';have e2:=aZ (l:=c.map (·.l)) (dQ (i+1) (show 0<(c.map (·.l)).length by omega));rw[Ac e1 e2] at hp;split at hp
 ·rename_i hx
  rw[aW.1 hp];obtain⟨s,s1,s2⟩:=bV.1 (cJ hi');obtain⟨u,u1,u2⟩:=bV.1 (cJ (dQ (i+1) (show 0<(c.map (·.l)).length by omega)));rw[<-s2,<-u2] at hx⊢;obtain⟨m,hm,em⟩:=hs s s1;obtain⟨n,hn,en⟩:=hs u u1;exact VU (hb s s1) (hb u u1) (Ja hx) (by rw[Wp em en];exact Xa hm hn)
 ·cases hp
theorem CW{D B a b k:Nat}{x:Rat}(h:DQ D B x)(h0:0<D)(hD:D<=2^a)(hB:B<=2^b)(hk:a+b<k):BQ x k:=by
 refine h.bq h0 (fJ hD (sK (by decide) (by omega))) ?_;refine fJ (gW hB hD) ?_;rw[<-eJ];exact sK (by decide) (by omega)
def Jn{x y a b:Nat}(hx:x<=2^a)(hy:y<=2^b):x*y<=2^(a+b):=by
 rw[eJ];exact gW hx hy
def MS{α:Type}{D B:Nat}{f:α->Rat}: ∀{l:List α},(∀x∈l,DQ D B (f x))->DQ D (l.length*B) (aB f l)
 |[],_=>by show DQ D _ 0;exact DQ.zero D _
 |x::t,h=>by
  have:=(h x aQ).add (MS fun y hy=>h y (aJ _ hy));refine DQ.mono this (Nat.le_of_eq ?_);rw[bZ,cS,lM,jY]
def D2{α:Type}{D B N:Nat}{f:α->Rat}{l:List α}(h: ∀x∈l,DQ D B (f x))(hl:l.length<=N)(k:Nat):DQ D (N*B) (aB f (l.take k)):=by
 have:=MS (l:=l.take k) fun x hx=>h x (fK hx);exact this.mono (bK B (cY (by rw[cR];omega) hl))
def ayT{v:List ab}{x:ab×ab}(h:x∈pn v):x.1∈v/\x.2∈v:=by
 obtain⟨i,hi,rfl⟩:=bV.1 h;have hi':=mZ.1 hi;have hj:(i+1)%v.length<v.length:=dQ _ (by omega);dsimp only;rw[aX,aX,aZ hi',aZ hj];exact⟨cJ _,cJ _⟩
def Q3{cs:List ao}{x:ab×ab}(h:x∈cC (cv cs)): ∃c∈cs,x.1∈il (c.map (·.l))/\x.2∈il (c.map (·.l)):=by
 obtain⟨L,hL,hx⟩:=gX.1 h;obtain⟨c,hc,rfl⟩:=bV.1 hL;exact⟨c,hc,ayT hx⟩
def aCE{k0:Nat}{t:Tr}(h:fh k0 t)(hk:k0<=48):(cC (cv (bP t))).length<=2^18:=by
 have h1: ∀L∈cv (bP t),(pn (il L)).length<=48:=fun L hL=>by
  obtain⟨c,hc,rfl⟩:=bV.1 hL;have h2:=Ic h.lb h.ok c hc;have h3:=Zk (c.map (·.l));have h4:=h.dp;rw[aK] at h3;rw[KJ];omega
 have h2:=Og h1;have h3:=FJ t;have h4:=h.s;have h5:(cv (bP t)).length=(bP t).length:=aK ..;unfold cC;rw[h5] at h2;have:(bP t).length*48<=3001*48:=bK 48 (by omega);omega
def AR{k0:Nat}{t:Tr}(h:fh k0 t)(hk:k0<=48):nG (bP t):=by
 obtain⟨D,hD0,hD1,hv⟩:=ayg h;have hDa:D<=2^887040:=by
  generalize hE:887040=kE;exact cY hD1 (bY (by decide) (by
   have:k0*k0<=48*48:=gW hk hk;omega))
 obtain⟨B,hB⟩: ∃B,B=2^385:=⟨_,rfl⟩;rw[<-hB] at hv;have sqp: ∀X a b:Nat,X=2^a->a+a=b->X*X=2^b:=fun X a b h k=>by rw[h,<-k,eJ]
 have hBB:B*B=2^770:=sqp B 385 770 hB J;have hp: ∀x∈cC (cv (bP t)),DP D B x.1/\DP D B x.2:=fun x hx=>by
  obtain⟨c,hc,h1,h2⟩:=Q3 hx;exact⟨hv c hc _ h1,hv c hc _ h2⟩
 have hpt: ∀x∈cC (cv (bP t)),aO x.1 1200/\aO x.2 1200:=fun x hx=>by
  obtain⟨c,hc,h1,h2⟩:=Q3 hx;have hb: ∀l∈c.map (·.l),LB l:=fun l hl=>by
   obtain⟨s,hs,rfl⟩:=bV.1 hl;exact Jw h.lb h.ok c hc s hs
  exact⟨JL hb _ h1,JL hb _ h2⟩
 have hlen:=aCE h hk;have hDD:=Jn hDa hDa;have hc: ∀x∈cC (cv (bP t)),DQ (D*D) (2*(B*B)) (x.1.cross x.2):=fun x hx=>(hp x hx).1.cross (hp x hx).2;have hn:2^18*(2*(B*B))<=2^789:=by rw[hBB];decide+kernel
 have hs: ∀{u v u' v':Rat},DQ D B u->DQ D B v->DQ D B u'->DQ D B v'-> ∀{c:Rat},DQ (D*D) (2*(B*B)) c->DQ (D*D*(D*D)) (2^1544) ((u*v+u'*v'+(u+u')*(v+v'))*c):=fun hu hv hu' hv' c hc=>by
  refine DQ.mono ((((hu.mul hv).add (hu'.mul hv')).add ((hu.add hu').mul (hv.add hv'))).mul hc) ?_;rw[show(B+B)*(B+B)=4*(B*B) by rw[cS,dK];omega,hBB];decide+kernel
 have hfin:2^18*2^1544<=2^1562:=by decide+kernel
 have fin: ∀f:ab×ab->Rat,(∀x∈cC (cv (bP t)),DQ (D*D*(D*D)) (2^1544) (f x))-> ∀k,BQ (aB f ((cC (cv (bP t))).take k)) 4000000:=fun f hf k=>
  CW (D2 hf hlen k) (iJ (iJ hD0 hD0) (iJ hD0 hD0)) (Jn hDD hDD) hfin (by decide)
 refine⟨⟨Jw h.lb h.ok,fun c hc=>?_,?_,hpt⟩,fun x hx=>?_,fun k=>?_,fun k=>?_,fin _ fun x hx=>?_,fin _ fun x hx=>?_,fin _ fun x hx=>?_⟩
 ·have:=Ic h.lb h.ok c hc;have:=h.dp;omega
 ·have:=FJ t;have:=h.s;omega
 ·haveI:=(hpt x hx).1
  haveI:=(hpt x hx).2;exact BQ.mono (inferInstance:BQ (x.1.cross x.2) _) (by decide)
 ·exact CW (D2 hc hlen k) (iJ hD0 hD0) hDD hn (by decide)
 ·have hm: ∀x∈cC (cv (bP t)),DP (D*(D*D)) ((B+B)*(2*(B*B))) (o7 x):=fun x hx=>((hp x hx).1.add (hp x hx).2).scale (hc x hx)
  have hb:2^18*((B+B)*(2*(B*B)))<=2^1175:=by
   rw[hBB,hB];decide+kernel
  have h3:=Jn hDa hDD;have h0:=iJ hD0 (iJ hD0 hD0);exact⟨CW (D2 (fun x hx=>(hm x hx).x) hlen k) h0 h3 hb (by decide),CW (D2 (fun x hx=>(hm x hx).y) hlen k) h0 h3 hb (by decide)⟩
 ·exact hs (hp x hx).1.x (hp x hx).1.x (hp x hx).2.x (hp x hx).2.x (hc x hx)
 ·exact hs (hp x hx).1.x (hp x hx).1.y (hp x hx).2.x (hp x hx).2.y (hc x hx)
 ·exact hs (hp x hx).1.y (hp x hx).1.y (hp x hx).2.y (hp x hx).2.y (hc x hx)
def Ry{C:az}{n:Nat}{Q0:Exit->Act->World->Prop}{fr:ay}{own:aE}{K:List Kt}{P:Program}(nm:Nat){ty:TypeId}{cs:List FX}{ds:List DV}{lo:Bool}{own1:aE}{c:Code}(ds':List DV)(hl:aP own nm=some (.o ty cs lo))(hc:jc cs=some ds)(hi: ∀G m,IsLs G ds m->IsLs G ds' m)(ho:tv own nm (some (.o ty (ds'.map .d) lo)) id=own1)(h:av P GB C n Q0 fr own1 (.code c K)):av P GB C n Q0 fr own (.code c K):=by
 rw[uj] at ho;subst ho;refine⟨fun ρ G ov a w r=>?_⟩;have old: ∀m B,aP (jP own nm (some (.o ty (ds'.map .d) lo))) m=some B-> ∃B0,aP own m=some B0:=fun m B e=>by
  rw[tM] at e;split at e
  ·rename_i hm;subst hm;exact⟨_,hl⟩
  ·exact⟨_,e⟩
 refine SX.run h ρ G ov a w ⟨r.gb,r.h,r.sz,r.df,r.fx,fun m B e=>?_,fun m m' B B' e e'=>?_,r.fxd⟩
 ·rw[show id (jP own nm (some (.o ty (ds'.map .d) lo)))=jP own nm (some (.o ty (ds'.map .d) lo)) from J,tM] at e
  split at e
  ·rename_i hm;subst hm;cases e
   obtain⟨os,⟨b,q,h1,rfl,h2⟩,h3⟩:=r.bx _ _ hl;exact⟨_,⟨b,q,h1,J,ry (hi G q (q8 h2 hc))⟩,h3⟩
  ·exact r.bx _ _ e
 ·obtain⟨B0,h0⟩:=old _ _ e
  obtain⟨B1,h1⟩:=old _ _ e';exact r.dj m m' B0 B1 h0 h1
def Hx{t:Tr}(h:t.all aa.ok):yX (mB t [])=cv (bP t):=atF h
def eM(a b c d e f:Rat):DV:= .ag [(.v (.bool (decide ((a).num<0)))),(dN (a).num.natAbs),(dD (a).den),(.v (.bool (decide ((b).num<0)))),(dN (b).num.natAbs),(dD (b).den),(.v (.bool (decide ((c).num<0)))),(dN (c).num.natAbs),(dD (c).den),(.v (.bool (decide ((d).num<0)))),(dN (d).num.natAbs),(dD (d).den),(.v (.bool (decide ((e).num<0)))),(dN (e).num.natAbs),(dD (e).den),(.v (.bool (decide ((f).num<0)))),(dN (f).num.natAbs),(dD (f).den)]
def CU:List DV:=[.v (.bool (decide ((0:Rat).num<0))),dN (0:Rat).num.natAbs,dD (0:Rat).den]
def Qi:CU=[vB false, .sl [], .sl []]:=by unfold CU;rw[show dN (0:Rat).num.natAbs= .sl [] from oE];rfl
def WJ{j:Nat}(h:j<4):([vI 1,vI 2,vI 3,vI 4]:List DV)[((j:Nat):Int).toNat]? =some (vI (1+(j:Int))):=by
 have:j=0\/j=1\/j=2\/j=3:=by omega
 rcases this with rfl|rfl|rfl|rfl<;>rfl
def ao8{b:Nat}{es:List Int}(hes:es.length<=400){a:Nat}(ha:a<=es.length){n:Int}(hn:n=0):PM GB prog 9 (jj [none,some (.v (.int .i64 n))] b) b 87 [.sl (es.map vI), .v (.int .i64 (a:Nat))] (eT (ek es 0 a).1) [.sl (es.map vI), .v (.int .i64 ((ek es 0 a).2:Nat))]:=by
 refine vZ (fu:=⟨9⟩) func9 J J ntmps9 J J (fun C b m lo hmb=>?_);refine cO J (by show some (decide _)=some false;rw[decide_eq_false (by omega)]) J<|cm J (fun b=>(QX hes ha)) J<|?_;exact mj hmb J J J J
def SA{b:Nat}{es:List Int}(hes:es.length<=400){a:Nat}(ha:a<=es.length){d:Nat}{n:Int}(hn:n=((d+1:Nat):Int))(hd:d<=1)(ih: ∀{GB:Gh} {b a:Nat} {n:Int},a<=es.length->n=(d:Int)->PM GB prog 9 (jj [none,some (.v (.int .i64 n))] b) b 87 [.sl (es.map vI), .v (.int .i64 (a:Nat))] (eT (ek es d a).1) [.sl (es.map vI), .v (.int .i64 ((ek es d a).2:Nat))]):PM GB prog 9 (jj [none,some (.v (.int .i64 n))] b) b 87 [.sl (es.map vI), .v (.int .i64 (a:Nat))] (eT (ek es (d+1) a).1) [.sl (es.map vI), .v (.int .i64 ((ek es (d+1) a).2:Nat))]:=by
 have hk0:=iA (n:=3) ha;obtain⟨g1,_,_,g2⟩:=AA (d:=d) hk0;have hj:=iA (n:=4) g2;have hjl:=mn (es:=es) (n:=4) (a:=(ek es d (aw es 3 a).2).2) (by decide);obtain⟨g3,_,_,g4⟩:=AA (d:=d) hj;have hpw:12*2^d<=12*2^1:=dS _ (bY (by decide) hd);refine vZ (fu:=⟨9⟩) func9 J J ntmps9 J J (fun C b m lo hmb=>?_);refine dm J (by show some (decide _)=some true;rw[decide_eq_true (by omega)]) J<|cm J (fun b=>(pj (n:=3) hes ha (by decide) (by decide))) J<|?_;refine br J J J (fun hc12=>?_) (fun hc12=>?_)
 .
  refine cm J (fun b=>(ih hk0 (by omega))) J<|rf J J<|cm J (fun b=>(pj (n:=4) hes g2 (by decide) (by decide))) J<|ix (vI (1+((aw es 4 (ek es d (aw es 3 a).2).2).1:Int))) J (WJ (by omega)) J<|?_;refine cm J (fun b=>(ih hj (by omega))) J<|cl J (HH (op:=1+((aw es 4 (ek es d (aw es 3 a).2).2).1:Int)) (t:=(ek es d (aw es 3 a).2).1) (u:=(ek es d (aw es 4 (ek es d (aw es 3 a).2).2).2).1) (c:=[]) g3.gd.lb g3.gd.ok g1.gd.lb g1.gd.ok (fun m h=>by cases h) (fun m h=>by cases h) (by have:=g1.dp;have:=g3.dp;rw[fX];omega)) J<|?_;exact mj hmb J J (by rw[show ek es (d+1) a=_ from if_pos hc12];show eT (Tr.mergeL _ _ _ _)=eT (Tr.mergeQ _ _ _ _);rw[Tr.mergeL_nil (by omega) g1.gd.ok g3.gd.ok]) (by rw[show ek es (d+1) a=_ from if_pos hc12])
 .
  refine cm J (fun b=>(QX hes hk0)) J<|?_;exact mj hmb J J (by rw[show ek es (d+1) a=_ from if_neg hc12];rfl) (by rw[show ek es (d+1) a=_ from if_neg hc12])
def Mh{es:List Int}(hes:es.length<=400): ∀{d:Nat} {GB:Gh} {b a:Nat} {n:Int},d<=2->a<=es.length->n=(d:Int)->PM GB prog 9 (jj [none,some (.v (.int .i64 n))] b) b 87 [.sl (es.map vI), .v (.int .i64 (a:Nat))] (eT (ek es d a).1) [.sl (es.map vI), .v (.int .i64 ((ek es d a).2:Nat))]
 |0,_,_,_,_,_,ha,hn=>ao8 hes ha hn
 |d+1,_,_,_,_,hd,ha,hn=>SA hes ha hn (by omega) (fun h1 h2=>Mh hes (by omega) h1 h2)
def YF{es:List Int}(hes:es.length<=400){a d b:Nat}(ha:a<=es.length)(hd:d<=2):PM GB prog 9 (jj [none,some (.v (.int .i64 (d:Nat)))] b) b 87 [.sl (es.map vI), .v (.int .i64 (a:Nat))] (eT (ek es d a).1) [.sl (es.map vI), .v (.int .i64 ((ek es d a).2:Nat))]:=Mh (GB:=GB) hes hd ha J
def CZ{C:az}{n:Nat}{Q0:Exit->Act->World->Prop}{fr fr':ay}{own own':aE}{cf cf':Cf}{vc:List Prop}[fu:Fu]{f:FuncId}{ds:List DV}(ha:xV fr cf=some (f,ds))(hF:PF GB prog f ds (.v (.bool true)))(hgo:cP tt n fu.n fr own cf .tt [] []=⟨vc,fr',own',cf'⟩)(k:av prog GB C n Q0 fr' own' cf')
  (hv:ac vc:=by first|exact trivial|(simp only[ac];kernel_rfl)|(simp only[ac];omega)):av prog GB C n Q0 fr own cf:=by
 unfold xV at ha;split at ha<;>try (cases ha;done)
 rename_i hh;exact us hh (b8.to (g:= .tt) (Jd ha hF) fun ρ G y hy=>(aD (G:=G)).1 hy) hgo hv k
def Pr{p:Rat}{i:Nat}[hp:BQ p i](hi:i<=100000000:=by decide):PF GB prog 60 [eR p,eR p] (.v (.bool true)):=by
 have:=aBG (GB:=GB) (p:=p) (q:=p) (i:=i) (j:=i) hi;rwa [decide_eq_true J] at this
def yG:List ZP:=[(0,0),(2,0),(2,2),(0,2)]
def Td:dO yG:=⟨by decide,by decide,fun p hp=>by
 unfold yG at hp;simp only[aY,iT,or_false] at hp;rcases hp with rfl|rfl|rfl|rfl<;>exact⟨by decide,by decide⟩,by decide⟩
def D4: ∀r∈[yG],dO r:=fun r hr=>by rw[aW] at hr;subst hr;exact Td
def qd:Tr:=pz [yG] 2
def uV:fh 12 qd:=(Im D4 (by decide)).x (Me _ _) (by decide)
def RO:(bP qd).all et=true:=tn uV.ok (Es D4)
def GR:aB (fun x=>x.1.cross x.2) (cC (yX (mB qd [])))=8/\aB oI (cC (yX (mB qd [])))=128/\aB o9 (cC (yX (mB qd [])))=128:=by decide+kernel
def ZL:mG qd=((4:Int):Rat):=by
 unfold mG;rw[<-Hx uV.ok,GR.1];decide+kernel
def Y4:ti oI qd=mkRat (16:Nat) 3:=by
 unfold ti;rw[<-Hx uV.ok,GR.2.1];decide+kernel
def TE:ti o9 qd=mkRat (16:Nat) 3:=by
 unfold ti;rw[<-Hx uV.ok,GR.2.2];decide+kernel
def WH:PF GB prog 15 [] (.v (.bool true)):=by
 have hm:=AR uV (by decide);haveI bA:BQ (mG qd) 2000003:=hm.area;haveI b4:BQ ((4:Int):Rat) 4:=⟨by decide,by decide⟩;haveI b16:BQ (mkRat (16:Nat) 3) 6:=⟨by decide+kernel,by decide+kernel⟩;refine fn func15 J J ntmps15 J J (fun C=>?_);refine cl J (lG (by omega) (by omega)) J<|cl J (lG (by omega) (by omega)) J<|cl J (lG (by omega) (by omega)) J<|cl J (lG (by omega) (by omega)) J<|?_;refine rf J J<|cl J (N1 (ps:=[iP 0 0,iP 2 0,iP 2 2,iP 0 2]) (fun p hp=>by
  simp only[aY,iT,or_false] at hp;rcases hp with rfl|rfl|rfl|rfl<;>exact⟨BQ.int1200 (by decide),BQ.int1200 (by decide)⟩) (by decide)) rfl<|?_
 refine rf J J<|cl J (Ns (rs:=[yG]) (fill:=2) D4 (by decide)) J<|cl J (QC (rs:=[yG]) (fill:=2) D4 (by decide)) J<|?_;refine cl J (E7 (t:=qd) uV) J<|cl (fu:=⟨0⟩) J (Lk uV (by decide) RO hm) J<|?_;refine aj 20 (.d (.tp [eR ((4:Int):Rat), .v .nilIface])) J (by rw[ZL]) ?_;refine gx J<|cl (fu:=⟨0⟩) J (SY uV (by decide) RO hm) J<|?_;refine aj 25 (.d (.tp [eR (mkRat (16:Nat) 3),eR (ti pp qd),eR (mkRat (16:Nat) 3), .v .nilIface])) J (by rw[Y4,TE]) ?_;refine gx J<|cl J (El (q:=((4:Int):Rat)) (i:=4)) J<|cl J (lc (n:=4) (by decide) (by decide)) J<|cl (fu:=⟨0⟩) J (lu (a:=((4:Int):Rat)) (b:=((4:Int):Rat)) (i:=4) (j:=4)) J<|?_;refine dm J (by show some (decide _)=some true;rw[decide_eq_true];decide+kernel) J<|cl J (Vx (n:=16) (d:=3) (by decide) (by decide) (by decide)) J<|?_;refine cl J (HA (q:=mkRat (16:Nat) 3) (i:=6)) J<|CZ J (Pr (p:=mkRat (16:Nat) 3) (i:=6)) J<|CZ J (Pr (p:=mkRat (16:Nat) 3) (i:=6)) J<|?_;exact rz J J



def My(s p:ab):ab:=⟨if p.x<s.x then p.x else s.x,if p.y<s.y then p.y else s.y⟩
def Lj(s p:ab):ab:=⟨if s.x<p.x then p.x else s.x,if s.y<p.y then p.y else s.y⟩
def K7(cs:List ao):ab:=((il ((cs.getD 0 []).map (·.l))).getD 0 ⟨0,0⟩)
def aJ1(t:Tr):ab:=(cC (cv (bP t))).foldl (fun s x=>My s x.1) (K7 (bP t))
def aJI(t:Tr):ab:=(cC (cv (bP t))).foldl (fun s x=>Lj s x.1) (K7 (bP t))
def pts(cs:List (List aa)):List ab:=cs.flatMap il
def loS(W:List ab)(n:Nat):ab:=if n=0 then⟨0,0⟩ else(W.take n).foldl My (W.getD 0 ⟨0,0⟩)
def hiS(W:List ab)(n:Nat):ab:=if n=0 then⟨0,0⟩ else(W.take n).foldl Lj (W.getD 0 ⟨0,0⟩)
structure aJf (p lo hi:ab):Prop where
 x1:lo.x<=p.x
 x2:p.x<=hi.x
 y1:lo.y<=p.y
 y2:p.y<=hi.y
def GU(f:ab->ab->Rat)(cs:List ao):aB (fun x=>f x.1 x.2) (cC (cv cs))=aB (eH f) cs:=by
 unfold cC cv;rw[JG,yQ];refine uB fun c _=>?_;unfold eH pn AZ;rw[yQ]
def aDf(t:Tr):mG t=aB (eH ab.cross) (bP t)*(1/2):=by
 unfold mG;rw[GU ab.cross,show mkRat 1 2=(1:Rat)/2 from KY]
def MD(t:Tr):(nB t).x=aB (eH fun p q=>(p.x+q.x)*p.cross q) (bP t)*(1/6)/\(nB t).y=aB (eH fun p q=>(p.y+q.y)*p.cross q) (bP t)*(1/6):=by
 have h6:(((1:Int):Rat)/((6:Int):Rat))=1/6:=by decide+kernel
 unfold nB mA ab.scale;dsimp only;rw[h6,<-GU,<-GU];exact⟨J,J⟩
def eCA(L:List aa):DV:= .ag [.sl (L.map eL)]
def Zq(v:List ab):Rat:=aB (fun x=>x.1.cross x.2) (pn v)
def MH{b:Nat}{es:List Int}(hes:es.length<=400){a d a':Nat}(ha:a<=es.length)(hd:d<=2){A:Tr}(hA:A=(ek es d a).1)(ha':a'=(ek es d a).2):PM GB prog 9 (jj [none,some (.v (.int .i64 (d:Nat)))] b) b 87 [.sl (es.map vI), .v (.int .i64 (a:Nat))] (eT A) [.sl (es.map vI), .v (.int .i64 (a':Nat))]:=by
 subst hA ha';exact YF hes ha hd
def aJo(cs:List ao)(k:Nat):Rat:=aB (fun c=>Zq (il (c.map (·.l)))*mkRat 1 2) (cs.take k)
def q3(q:Rat):List DV:=[.v (.bool (decide (q.num<0))),dN q.num.natAbs,dD q.den]
def VM{G:Gh}{m:List Value}(h:IsLs G [vB false, .sl [], .sl []] m):IsLs G [.v (.bool (decide ((0:Rat).num<0))),dN (0:Rat).num.natAbs,dD (0:Rat).den] m:=by
 have:=Qi;unfold CU at this;rw[this];exact h
def AY(ws:List (Int×Tr))(k:Nat):Rat:=aB (fun w=>(w.1:Rat)*mG w.2) (ws.take k)
def xL(ws:List (Int×Tr))(k:Nat):ab:=⟨aB (fun w=>(w.1:Rat)*(nB w.2).x) (ws.take k),aB (fun w=>(w.1:Rat)*(nB w.2).y) (ws.take k)⟩
def asE{ws:List (Int×Tr)}{k:Nat}{z:Int}{t:Tr}(h:ws[k]? =some (z,t)):AY ws (k+1)=AY ws k+(z:Rat)*mG t:=te _ h
def XZ{ws:List (Int×Tr)}{k:Nat}{z:Int}{t:Tr}(h:ws[k]? =some (z,t)):xL ws (k+1)=ck (xL ws k) (nB t) (z:Rat):=by
 unfold xL ck;simp only[ab.mk.injEq];exact⟨te _ h,te _ h⟩
theorem Dq{f:Int×Tr->Rat}{m:Nat}: ∀{ws:List (Int×Tr)},(∀w∈ws,BQ (f w) m)-> ∀k,BQ (aB f (ws.take k)) (ws.length*(m+1)+1)
 |[],_,k=>by rw[List.take_nil];exact⟨by show 0<_;exact Nat.two_pow_pos _,by show 1<2^_;exact Nat.one_lt_two_pow (by simp)⟩
 |w::ws,h,0=>by rw[pR];exact⟨by show 0<_;exact Nat.two_pow_pos _,by show 1<2^_;exact Nat.one_lt_two_pow (by omega)⟩
 |w::ws,h,k+1=>by
  haveI:=h w aQ;haveI:=Dq (fun x hx=>h x (aJ w hx)) k;rw[lK];show BQ (f w+aB f (ws.take k)) _;exact BQ.mono (inferInstance:BQ (f w+aB f (ws.take k)) _) (by rw[bZ,fN];omega)
def aCZ{G:Gh}{m:List Value}(h:IsLs G [vB false, .sl [], .sl [],vB false, .sl [], .sl []] m):IsLs G [.v (.bool (decide ((0:Rat).num<0))),dN (0:Rat).num.natAbs,dD (0:Rat).den, .v (.bool (decide ((0:Rat).num<0))),dN (0:Rat).num.natAbs,dD (0:Rat).den] m:=by
 have:=Qi;unfold CU at this;have e: ∀x y z:DV,[x,y,z]=[vB false, .sl [], .sl []]->[x,y,z,x,y,z]=[vB false, .sl [], .sl [],vB false, .sl [], .sl []]:=fun x y z h=>by simp only[List.cons.injEq,and_true] at h⊢;exact⟨h.1,h.2.1,h.2.2,h.1,h.2.1,h.2.2⟩
 rw[e _ _ _ this];exact h
def Sq{A B:Tr}(hA:A.all aa.ok)(hB:B.all aa.ok)(hU:(A.mergeQ 1 B []).all aa.ok)(hI:(A.mergeQ 2 B []).all aa.ok)(ba:oC A)(bb:oC B):AY [(1,A),(1,B),(-1,A.mergeQ 1 B []),(-1,A.mergeQ 2 B [])] 4=0/\xL [(1,A),(1,B),(-1,A.mergeQ 1 B []),(-1,A.mergeQ 2 B [])] 4=⟨0,0⟩:=by
 have h1:=Jj Zb hA hB hU hI ba bb;have h2:=Jj ay9 hA hB hU hI ba bb;have h3:=Jj ayt hA hB hU hI ba bb;have i1:((1:Int):Rat)=1:=J;have i2:((-1:Int):Rat)= -1:=by decide+kernel
 unfold AY xL;simp only[List.take,aB,aDf,(MD _).1,(MD _).2,i1,i2,ab.mk.injEq];refine⟨?_,?_,?_⟩
 ·generalize aB (eH ab.cross) (bP A)=a at*
  generalize aB (eH ab.cross) (bP B)=b at*;generalize aB (eH ab.cross) (bP (A.mergeQ 1 B []))=u at*;generalize aB (eH ab.cross) (bP (A.mergeQ 2 B []))=i at*;grind
 ·generalize aB (eH fun p q=>(p.x+q.x)*p.cross q) (bP A)=a at*
  generalize aB (eH fun p q=>(p.x+q.x)*p.cross q) (bP B)=b at*;generalize aB (eH fun p q=>(p.x+q.x)*p.cross q) (bP (A.mergeQ 1 B []))=u at*;generalize aB (eH fun p q=>(p.x+q.x)*p.cross q) (bP (A.mergeQ 2 B []))=i at*;grind
 ·generalize aB (eH fun p q=>(p.y+q.y)*p.cross q) (bP A)=a at*
  generalize aB (eH fun p q=>(p.y+q.y)*p.cross q) (bP B)=b at*;generalize aB (eH fun p q=>(p.y+q.y)*p.cross q) (bP (A.mergeQ 1 B []))=u at*;generalize aB (eH fun p q=>(p.y+q.y)*p.cross q) (bP (A.mergeQ 2 B []))=i at*;grind
def aJN{A B U I:Tr}{k:Nat}{z:Int}{t:Tr}(h:[((1:Int),A),(1,B),(-1,U),(-1,I)][k]? =some (z,t)):(1:Int)-((k/2:Nat):Int)*2=z:=by
 rcases k with _|_|_|_|k
 ·cases h;rfl
 ·cases h;rfl
 ·cases h;rfl
 ·cases h;rfl
 ·simp at h
def U3:PF GB prog 24 [eP ⟨0,0⟩, .ag [vB false, .sl [], .sl [],vB false, .sl [], .sl []]] (.v (.bool true)):=by
 have h:PF GB prog 24 [eP ⟨0,0⟩,eP ⟨0,0⟩] (.v (.bool true)):=DK (GB:=GB) (m:=0) (n:=0) (m':=0) (n':=0) (by decide) (by decide) (by decide) (by decide);rw[Hc] at h⊢;exact h
def VY{k:Nat}(h:k<4):FX.d (vI (IntKind.i64.wrap ((k:Int).tdiv 2)))= .d (vI ((k/2:Nat):Int)):=match k,h with
 |0,_=>rfl
 |1,_=>rfl
 |2,_=>rfl
 |3,_=>rfl
def JW{es:List Int}{a:Nat}(ha:a<=es.length):fh 24 (ek es 1 a).1/\oC (ek es 1 a).1/\(ek es 1 a).2<=es.length/\gi 24 (ek es 1 a).1:=by
 obtain⟨h1,h2,h3,h4⟩:=AA (es:=es) (d:=1) ha;exact⟨(h1.mono (by decide)).x h3 (by decide),h2,h4,h1.mono (by decide)⟩
def QM{A B:Tr}(hA:gi 24 A)(hB:gi 24 B)(op:Int):fh 48 (A.mergeQ op B []):=(hA.merge hB).x (Tr.merge_red _ _ _ _) (by decide)
def alN{ai al ae au:Addr}(hE:Bx GB ai al ae au){es0:List Int}(hb:es0.length<=1125899906842624):PF GB prog 4 [.sl (es0.map vI)] (.v (.bool true)):=by
 obtain⟨es,hee⟩: ∃es,es=es0.take 400:=⟨_,rfl⟩;have hes:es.length<=400:=by rw[hee];simp;omega
 obtain⟨A,hAe⟩: ∃A,A=(ek es 1 0).1:=⟨_,rfl⟩;obtain⟨a1,ha1⟩: ∃a1,a1=(ek es 1 0).2:=⟨_,rfl⟩;obtain⟨hA,bA,hal,kA⟩:=JW (es:=es) (a:=0) (bJ _);rw[<-hAe] at hA bA kA;rw[<-ha1] at hal;obtain⟨B,hBe⟩: ∃B,B=(ek es 1 a1).1:=⟨_,rfl⟩;obtain⟨a2,ha2⟩: ∃a2,a2=(ek es 1 a1).2:=⟨_,rfl⟩;obtain⟨hB,bB,_,kB⟩:=JW (es:=es) (a:=a1) hal;rw[<-hBe] at hB bB kB;have hU:=QM kA kB 1;have hI:=QM kA kB 2;obtain⟨ws,hws⟩: ∃ws:List (Int×Tr),ws=[(1,A),(1,B),(-1,A.mergeQ 1 B []),(-1,A.mergeQ 2 B [])]:=⟨_,rfl⟩;have hwl:ws.length=4:=by rw[hws];rfl
 have hwm:(ws.map fun w=>eA w.2).length=4:=by rw[aK,hwl]
 have hwx: ∀w∈ws,fh 48 w.2/\(bP w.2).all et=true/\(w.1=1\/w.1= -1):=fun w hw=>by
  rw[hws] at hw;simp only[aY,iT,or_false] at hw;rcases hw with rfl|rfl|rfl|rfl
  ·exact⟨hA.mono (by decide),tn hA.ok bA, .inl J⟩
  ·exact⟨hB.mono (by decide),tn hB.ok bB, .inl J⟩
  ·exact⟨hU,tn hU.ok (bA.merge bB hA.ok hB.ok 1), .inr J⟩
  ·exact⟨hI,tn hI.ok (bA.merge bB hA.ok hB.ok 2), .inr J⟩
 have hzb: ∀w∈ws,BQ (w.1:Rat) 2:=fun w hw=>by
  rcases(hwx w hw).2.2 with e|e<;>rw[e]
  ·exact⟨by decide,by decide⟩
  ·exact BQ.m1'
 obtain⟨S,hS⟩: ∃S,S=AY ws:=⟨_,rfl⟩;obtain⟨P,hP⟩: ∃P,P=xL ws:=⟨_,rfl⟩;have hSk: ∀k,BQ (S k) 8100000:=fun k=>by
  rw[hS];refine BQ.mono (Dq (m:=2000006) (fun w hw=>?_) k) (by rw[hwl];decide);haveI:=(AR (hwx w hw).1 (by decide)).area;haveI:=hzb w hw;exact BQ.mono (inferInstance:BQ ((w.1:Rat)*mG w.2) _) (by decide)
 have hPk: ∀k,aO (P k) 12100000:=fun k=>by
  rw[hP];refine⟨BQ.mono (Dq (m:=3000008) (fun w hw=>?_) k) (by rw[hwl];decide),BQ.mono (Dq (m:=3000008) (fun w hw=>?_) k) (by rw[hwl];decide)⟩
  ·haveI:=(AR (hwx w hw).1 (by decide)).mom.x
   haveI:=hzb w hw;exact BQ.mono (inferInstance:BQ ((w.1:Rat)*(nB w.2).x) _) (by decide)
  ·haveI:=(AR (hwx w hw).1 (by decide)).mom.y
   haveI:=hzb w hw;exact BQ.mono (inferInstance:BQ ((w.1:Rat)*(nB w.2).y) _) (by decide)
 have h00:S 0=0:=by rw[hS];rfl
 have h01:P 0=⟨0,0⟩:=by rw[hP];rfl
 obtain⟨hS4,hP4⟩:S 4=0/\P 4=⟨0,0⟩:=by rw[hS,hP,hws];exact Sq hA.ok hB.ok hU.ok hI.ok bA bB
 refine fn func4 J J ntmps4 J J (fun C=>?_);refine cn J ((XH hb hee)) (fun _=>J) (fun _=>?_);refine cm J (fun b=>(MH (d:=1) hes (bJ _) (by decide) hAe ha1)) J<|cl J (E7 hA) J<|cm J (fun b=>(MH (d:=1) hes hal (by decide) hBe ha2)) J<|?_;refine cl J (E7 hB) J<|cl J (Mb hE.toEG (by decide) hA hB (by decide)) J<|cl J (Mb hE.toEG (by decide) hA hB (by decide)) J<|?_;refine rf (fu:=⟨0⟩) J J<|?_;refine aj 49 (.d (.sl (ws.map fun w=>eA w.2))) J (by rw[hws];rfl) ?_;refine gx (fu:=⟨1⟩) J<|?_;refine aj 50 (.d (vI (4:Nat))) J (by rw[hwm]<;>rfl) ?_;refine gx J<|?_;refine Ry 10 [.v (.bool (decide ((S 0).num<0))),dN (S 0).num.natAbs,dD (S 0).den] J J (fun G m=>by rw[h00];exact VM) J ?_;refine Ry 11 [.v (.bool (decide (((P 0).x).num<0))),dN ((P 0).x).num.natAbs,dD ((P 0).x).den, .v (.bool (decide (((P 0).y).num<0))),dN ((P 0).y).num.natAbs,dD ((P 0).y).den] J J (fun G m=>by rw[h01];exact aCZ) J ?_;refine lp (X:=Nat) (fun k=>[(51, .d (vI (k:Nat))),(10, .ov 10 0),(11, .ov 11 0)]) (fun k=>[(10,some (.o 48 [.d (.v (.bool (decide ((S k).num<0)))), .d (dN (S k).num.natAbs), .d (dD (S k).den)] true)),(11,some (.o 62 [.d (.v (.bool (decide (((P k).x).num<0)))), .d (dN ((P k).x).num.natAbs), .d (dD ((P k).x).den), .d (.v (.bool (decide (((P k).y).num<0)))), .d (dN ((P k).y).num.natAbs), .d (dD ((P k).y).den)] true))]) (fun k=>k<=4) (fun k=>4-k) 0 J (bJ _) (fun _=>J) (fun k hk=>?_);haveI:=hSk k;haveI:=hPk k;refine br J J J (fun hc52=>?_) (fun hc52=>?_)
 .
  obtain⟨⟨z,t⟩,hx⟩: ∃u,ws[k]? =some u:=⟨_,aZ (by omega)⟩;have hwm2:=aL hx;obtain⟨ht,htb,_⟩:=hwx _ hwm2;have hm:=AR ht (by decide);haveI:=hm.area;haveI:=hm.mom;haveI:=hm.mom.x;haveI:=hm.mom.y;haveI:BQ (z:Rat) 2:=hzb _ hwm2;have eS:S (k+1)=S k+(z:Rat)*mG t:=by rw[hS];exact asE hx
  have eP':P (k+1)=ck (P k) (nB t) (z:Rat):=by rw[hP];exact XZ hx
  have hz:=aJN (by rw[<-hws];exact hx);have hzn:z.natAbs<=1:=by rcases(hwx _ hwm2).2.2 with e|e<;>(dsimp only at e;rw[e];decide)
  refine ix _ J (fe hx) J<|cl J (Lk ht (by decide) htb hm) J<|cl (fu:=⟨26⟩) J (Tq ht (by decide) htb hm) J<|?_;refine aj 73 (.d (vI ((k/2:Nat):Int))) J (VY (by omega)) ?_;refine gx (fu:=⟨2⟩) J<|?_;refine aj 75 (.d (vI z)) J (by rw[<-hz];rfl) ?_;refine gx J<|cl J (lc (n:=z) (by omega) (by omega)) J<|cl J (El (q:=mG t) (i:=2000003)) J<|cl J (i6 (a:=(z:Rat)) (b:=mG t) (i:=2) (j:=2000003)) J<|?_;refine cl (fu:=⟨0⟩) J (oD (a:=S k) (b:=(z:Rat)*mG t) (i:=8100000) (j:=2000005)) J<|?_;refine aj 82 (.d (eQ (S (k+1)))) J (by rw[eS]) ?_;refine gx J<|cl J (QU (p:=nB t) (i:=3000005)) J<|cl (fu:=⟨0⟩) J (yq (p:=P k) (q:=nB t) (c:=(z:Rat)) (i:=12100000) (j:=3000005) (k:=2)) J<|?_;refine aj 87 (.d (eP (P (k+1)))) J (by rw[eP']) ?_;refine gx (hv:=by simp only[ac];exact⟨by kernel_rfl,by omega⟩) J<|?_;exact at_ (k+1) ⟨(by omega),(by omega)⟩
 .
  obtain rfl:k=4:=by omega
  rw[hS4,hP4];refine CZ J WH J<|cl (fu:=⟨0⟩) J (qa (q:=0)) J<|dm J J J<|CZ J U3 J<|?_;exact rz J J
end Go.Sx
end
section
namespace Go.Sx
open Go Go.Proofs Go.ChangeShapes Go.WideShapes Go.ChangeAt Go.RowKit
def GW(w:World):Gh:=fun b=>match w.heap[b]? with|some (.cells cs _ _)=>some cs.toList|_=>none
def GW.sub{w:World}{b:Nat}{cs:List Value}(h:GW w b=some cs): ∃ty fz,w.heap[b]? =some (.cells ⟨cs⟩ ty fz):=by
 unfold GW at h;split at h
 ·rename_i c t f e
  cases h
  exact⟨t,f,by rw[e]⟩
 ·cases h
def GW.of_cell{w:World}{b off:Nat}{v:Value}(h:w.cell? ⟨b,off,none⟩=some v): ∃cs,GW w b=some cs/\cs[off]? =some v:=by
 unfold World.cell? at h;unfold GW;split at h
 ·rename_i c t f e
  simp only at e;refine⟨c.toList,by rw[e],?_⟩;simpa using h
 all_goals first|(rename_i e;cases h)|cases h
def bz.below{w w':World}{G G':Gh}{own:List ak}(h:bz ⟨w,G,[],[],[],none,fun _=>none⟩ own G' w'):Below w.heap.size w w':=
 ⟨h.os,h.tape,h.output,h.size,fun k hk=>h.keep k hk (by simp)⟩
def Rb{G:Gh}: ∀es:List Int,IsLs G (es.map vI) (es.map fun n=>Value.int .i64 n)
 |[]=> .nil
 |n::t=> .cons (aD.2 J) (Rb t)
def T3{base:Nat}{H:Type}{enc:TypeId×Value->H}{P:Program}{w:World}{t e:TypeId}{v:Value}{d:DataW H}{ps:List MemPlace}(ht:P.underlying t=some (.slice e))(he:P.underlying e=some (.int .i64))(hc:P.cellsOf e=1)
  (hv:Value.okWide P w .any base t v)(h:DataW.Trod enc P w 0 (fun _=>true) true t v d ps):
  ∃es:List Int,Is (GW w) (.sl (es.map vI)) v/\(d= .nil/\es=[]\/ ∃sp,d= .slice (lits .i64 es) sp)/\(∀n∈es,(Lit.int .i64 n).wf=true):=by
 obtain⟨a0,len,cap,rfl⟩:=okWide_slice ht hv;obtain⟨fuel,hf⟩:=h;rcases open_ints ht he hc hf with⟨hcs,hx⟩|⟨a,len',cap',zs,hcs,_,hl,hm,hz,hx,hcell,hwz⟩
 ·simp[Value.cells] at hcs
  obtain⟨rfl,rfl,rfl⟩:=hcs;simp only[Prod.mk.injEq] at hx;exact⟨[],iH.2 ⟨0,⟨none,0,0⟩,[],J,d8.nil _ 0, .nil⟩, .inl ⟨hx.1,J⟩,by simp⟩
 ·simp[Value.cells] at hcs
  obtain⟨rfl,rfl,rfl⟩:=hcs;simp only[Prod.mk.injEq] at hx;simp only[if_true] at hz;refine⟨zs.take len,iH.2 ⟨1,⟨some a,len,cap⟩,(zs.take len).map fun n=>Value.int .i64 n,J,⟨by simp;omega,hl,?_⟩,Rb _⟩, .inr ⟨_,hx.1⟩,fun n hn=>hwz n (fK hn)⟩;by_cases h0:len=0
  ·exact .inl (by simp[h0])
  ·right
   obtain⟨b,off,spot⟩:=a;have hspot:spot=none:=by simpa[Addr.add] using World.cell?_spot (hcell 0 (by omega))
   subst hspot;have c0: ∀i,i<zs.length->w.cell? ⟨b,off+i,none⟩=some (.int .i64 (zs.getD i 0)):=fun i hi=>by
    have:=hcell i hi;rwa [Go.WideShapes.add_plain] at this
   obtain⟨cs,hcs,_⟩:=GW.of_cell (by have h9:=c0 0 (by omega);rw[eY] at h9;exact h9);refine⟨b,off,cs,J,hcs,fun i hi=>?_⟩;simp only[aK,cR] at hi;obtain⟨cs',hcs',hi'⟩:=GW.of_cell (c0 i (by omega));rw[hcs] at hcs'
   cases hcs'
   rw[iX,Yv.2 hi'];simp[aA,List.getD,aZ (show i<zs.length by omega)]
end Go.Sx
end
