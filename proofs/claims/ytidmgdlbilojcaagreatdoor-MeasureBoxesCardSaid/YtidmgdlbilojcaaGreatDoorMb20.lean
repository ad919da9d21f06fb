import Derived.Test.YtidmgdlbilojcaaGreatDoorMb19
set_option linter.all false
set_option maxHeartbeats 8000000
set_option maxRecDepth 100000
section
namespace Go.Sx
open Go Go.Proofs Tryz
variable {GB:Gh}
section
variable {GB:Gh} {C:aB} {n:Nat} {Q0:Exit->Act->World->Prop} {fr fr':az} {own own':aC} {cf cf':Cf} {vc:List Prop} {ops:Array Oper} {o:Oper} {r:List Oper} {K:List Kt}
def OV{p q:Nat->Option (Nat×Nat)}(h: ∀i x,p i=some x->q i=some x): ∀(ps:List (Nat×Value)) (cs out:Array Value),Instr.fill p cs ps=some out->Instr.fill q cs ps=some out
 |[],cs,out,e=>e
 |(i,v)::ps,cs,out,e=>by
  simp only[Instr.fill] at e⊢;split at e
  ·cases e
  ·rename_i off size hp
   rw[h i _ hp];dsimp only;split at e
   ·cases e
   ·rename_i hc
    rw[if_neg hc];exact OV h ps _ _ e
def au7{P:Program}{fr:Fr}{own:List av}{G:Gh}{t e s len:Nat}{j:TypeInfo}{parts:Array (Nat×Operand)}{z:Value}{out:List Value}{dst:Option Nat}{ty':TypeId}{pos:String}{af:Array Edge}{gd:Option (Nat×Bool)}[hz:iu P t z](hu:P.underlying t=some (.array len e))(hj:P.info? e=some j)(hs:j.size=s)
  (hb:uY fr ((List.range len).map fun i=>(i*s,s)) (aD z) parts.toList=some out):Yd P C fr own G ⟨dst, .build t parts,ty',pos,af,gd⟩ (.agg ⟨out⟩):=by
 intro a w hf hh;simp only[execOp];have:(Instr.build t (parts.map fun(i,x)=>(i,a.eval x))).run P w= .ok (.agg ⟨out⟩) w:=by
  unfold Instr.build;rw[aG (hz.zero w),qI];rw[aG (pI hu w)];simp only[];rw[aG (uS hj w),hs];have:=OV (q:=fun i=>some (i*s,s)) (fun i x hx=>by
   have hx':((List.range len).map fun i=>(i*s,s))[i]? =some x:=by simpa using hx
   rw[cV] at hx'
   cases hr:(List.range len)[i]? with
   |none=>rw[hr] at hx';cases hx'
   |some y=>
    rw[hr] at hx';cases hx';obtain⟨h1,h2⟩:=aS.1 hr;rw[List.getElem_range] at h2;rw[h2]) _ _ _ (JU hf ((List.range len).map fun i=>(i*s,s)) parts.toList _ _ hb)
  simp only[pQ,this];rfl
 exact cO this
def Fk:Nat->Nat->Nat->List (Nat×Nat×Nat)
 |_,0,_=>[]
 |i,k+1,s=>(i*s,0,s)::Fk (i+1) k s
def MX: ∀(i k s:Nat),(Fk i k s).map (fun x=>(x.1,x.2.2))=(List.range' i k).map fun j=>(j*s,s)
 |_,0,_=>rfl
 |i,k+1,s=>by simp only[Fk,cK,List.range',MX (i+1) k s]
def Qf(fr:az)(cf:Cf)(len s:Nat):Option (TypeId×FX):=match cx fr cf with
 |some ⟨_, .build t parts,_,_,_,_⟩=>match dl tt t with
  |some ⟨.o,_,some zx,_⟩=>match tB (bC fr cf) (Fk 0 len s) zx parts.toList with
   |some cs=>match xt cs with
    |some f=>some (t,f)
    |none=>none
   |none=>none
  |_=>none
 |_=>none
def PY[fu:Fu]{t e len s:Nat}{f:FX}(h:Qf fr cf len s=some (t,f))(hu:prog.underlying t=some (.array len e))(hs:(prog.info? e).map (·.size)=some s)
  (hgo:cF tt n fu.n fr own cf f [] []=⟨vc,fr',own',cf'⟩)(k:ak prog GB C n Q0 fr' own' cf')
  (hv:ac vc:=by first|exact trivial|(simp only[ac];kernel_rfl)|(simp only[ac];omega)):ak prog GB C n Q0 fr own cf:=by
 unfold Qf at h;split at h<;>try (cases h;done)
 rename_i hh;split at h<;>try (cases h;done)
 rename_i hT;split at h<;>try (cases h;done)
 rename_i hb;split at h<;>cases h;rename_i hf;refine us hh (.yd fun ρ G ov a w r=>?_) hgo hv k
 cases hj:prog.info? e with
 |none=>rw[hj] at hs;cases hs
 |some j=>
 rw[hj] at hs;obtain⟨v,hv,hv'⟩:=Bg (dP _ _ hT) rfl;obtain⟨l,h1,h2⟩:=Fh r _ _ _ _ hb (hv' ρ G);rw[MX,<-List.range_eq_range'] at h1;exact⟨.agg ⟨l⟩,Db h2 hf,au7 hu hj (Option.some.inj hs) h1⟩
def Ga{P:Program}(nm:Nat){ty:TypeId}{ds:List DV}{lo:Bool}{own1:aC}{c:Code}(ds':List DV)(hl:aP own nm=some (.o ty (ds.map .d) lo))(hi: ∀G m,IsLs G ds m->IsLs G ds' m)(ho:ux own nm (some (.o ty (ds'.map .d) lo)) id=own1)(h:ak P GB C n Q0 fr own1 (.code c K)):ak P GB C n Q0 fr own (.code c K):=by
 rw[xo] at ho;subst ho;refine⟨fun ρ G ov a w r=>?_⟩;have old: ∀m B,aP (mh own nm (some (.o ty (ds'.map .d) lo))) m=some B-> ∃B0,aP own m=some B0:=fun m B e=>by
  rw[vX] at e;split at e
  ·rename_i hm;subst hm;exact⟨_,hl⟩
  ·exact⟨_,e⟩
 refine SX.run h ρ G ov a w ⟨r.gb,r.h,r.sz,r.df,r.fx,fun m B e=>?_,fun m m' B B' e e'=>?_,r.fxd⟩
 ·rw[show id (mh own nm (some (.o ty (ds'.map .d) lo)))=mh own nm (some (.o ty (ds'.map .d) lo)) from J,vX] at e
  split at e
  ·rename_i hm;subst hm;cases e
   obtain⟨os,⟨b,q,h1,rfl,h2⟩,h3⟩:=r.bx _ _ hl;exact⟨_,⟨b,q,h1,J,s5 (hi G q (TH h2))⟩,h3⟩
  ·exact r.bx _ _ e
 ·obtain⟨B0,h0⟩:=old _ _ e
  obtain⟨B1,h1⟩:=old _ _ e';exact r.dj m m' B0 B1 h0 h1
def Ns(fr:az)(own:aC)(cf:Cf)(k:Nat):Option (TypeId×FX):=match cx fr cf with
 |some ⟨_, .load t x,_,_,_,_⟩=>match aF (bC fr cf) x with
  |some (.ov nm off)=>match ij fr own cf nm with
   |some (.o _ cs _)=>match takeX cs off k with
    |some l=>match xt l with
     |some f=>some (t,f)
     |none=>none
    |none=>none
   |_=>none
  |_=>none
 |_=>none
def ldA[fu:Fu](k:Nat){t e len:Nat}{f:FX}(h:Ns fr own cf k=some (t,f))(hu:prog.underlying t=some (.array len e))(hs:(prog.info? t).map (·.size)=some k)
  (hgo:cF tt n fu.n fr own cf f [] []=⟨vc,fr',own',cf'⟩)(k':ak prog GB C n Q0 fr' own' cf')
  (hv:ac vc:=by first|exact trivial|(simp only[ac];kernel_rfl)|(simp only[ac];omega)):ak prog GB C n Q0 fr own cf:=by
 unfold Ns at h;split at h<;>try (cases h;done)
 rename_i hh;split at h<;>try (cases h;done)
 rename_i hx;split at h<;>try (cases h;done)
 rename_i hb;split at h<;>try (cases h;done)
 rename_i l hl;split at h<;>cases h;rename_i hf
 cases hj:prog.info? t with
 |none=>rw[hj] at hs;cases hs
 |some j=>
 rw[hj] at hs;have hs':j.size=k:=Option.some.inj hs;have:lu prog t k:=⟨fun w=>Cz hu w,fun w=>by rw[uS hj w,hs']⟩;refine us hh ?_ hgo hv k';refine .yd fun ρ G ov a w r=>?_;obtain⟨y,h1,h2⟩:=r.ev hx;obtain⟨b,m,rfl,h3,h4,h5⟩:=r.own h2 hb;obtain⟨l',h6,h7⟩:=h4.takeX hl;have:io ov b m _ _:=⟨h5⟩;exact⟨.agg ⟨l'⟩,Db h7 hf,Bh h1 h6⟩
def QY(fr:az)(cf:Cf)(off s:Nat):Option (TypeId×List DV×Int):=match cx fr cf with
 |some ⟨_, .index t x y,_,_,_,_⟩=>match aF (bC fr cf) x with
  |some (.d (.ag ms))=>match aF (bC fr cf) y with
   |some (.d (.v (.int _ i)))=>match takeD ms off s with
    |some l=>some (t,l,i)
    |none=>none
   |_=>none
  |_=>none
 |_=>none
def F7[fu:Fu](i:Nat){t e len s:Nat}{l:List DV}{ie:TI}(h:QY fr cf (i*s) s=some (t,l,((i:Nat):Int)))(hu:prog.underlying t=some (.array len e))(he:dl tt e=some ie)(hag:ie.ag=some (some s))(hi:i<len)
  (hgo:cF tt n fu.n fr own cf (.d (.ag l)) [] []=⟨vc,fr',own',cf'⟩)(k':ak prog GB C n Q0 fr' own' cf')
  (hv:ac vc:=by first|exact trivial|(simp only[ac];kernel_rfl)|(simp only[ac];omega)):ak prog GB C n Q0 fr own cf:=by
 unfold QY at h;split at h<;>try (cases h;done)
 rename_i hh;split at h<;>try (cases h;done)
 rename_i ms hx;split at h<;>try (cases h;done)
 rename_i kd i0 hy;split at h<;>cases h;rename_i hl;have hA:=wZ (dP _ _ he) hag;refine us hh ?_ hgo hv k';refine .yd fun ρ G ov a w r=>?_;obtain⟨p,h1,h2⟩:=r.ev hx;obtain⟨q,h3,h4⟩:=r.ev hy;rw[c8] at h4;subst h4;obtain⟨m,rfl,hm⟩:=d6.1 (show Is G _ p from h2);obtain⟨l',h5,h6⟩:=hm.takeD hl;refine⟨.agg ⟨l'⟩,d6.2 ⟨l',J,h6⟩,?_⟩;intro a' w' hf hw;simp only[execOp,bc hf h1,bc hf h3];have:(Instr.index t (.agg ⟨m⟩) (.int kd (i:Nat))).run prog w'= .ok (.agg ⟨l'⟩) w':=by
  unfold Instr.index;show(underlying t>>=_).run prog w'=_;rw[aG (pI hu w')];have g0:0<=((i:Nat):Int):=rX i;have g1:((i:Nat):Int)<((len:Nat):Int):=by omega
  simp only[g0,g1,and_self,if_true];rw[aG (hA.siz w'),bJ];unfold part;rw[aG (hA.agg w')];simp only[if_true];rw[aG (hA.siz w')];obtain⟨k1,k2⟩:=pi _ _ _ _ h5;have:(⟨m⟩:Array Value).extract (i*s) (i*s+s)=⟨l'⟩:=by
   apply Array.ext';rw[Array.toList_extract];apply jW;intro j;rw[List.extract_eq_take_drop,pW];split
   ·rw[lM];exact k2 j (by omega)
   ·exact(cM (show l'.length<=j by omega)).symm
  rw[this];rfl
 exact cO this
end
def mA(v:List ab):List (ab×ab):=(List.range v.length).map fun i=>(v.getD i ⟨0,0⟩,v.getD ((i+1)%v.length) ⟨0,0⟩)
def cd(cs:List (List aa)):List (ab×ab):=cs.flatMap fun c=>mA (ey c)
def bH(cs:List aw):List (List aa):=cs.map fun c=>c.map (·.l)
def eZZ(p q:ab):DV:= .ag [vI (ce p.x),vI (b9 p.x),cg p.x,vI (ce p.y),vI (b9 p.y),cg p.y,vI (ce q.x),vI (b9 q.x),cg q.x,vI (ce q.y),vI (b9 q.y),cg q.y]
def uA(x:ab×ab):List DV:=[eZZ x.1 x.2,eF (x.1.cross x.2)]
def Rs{α β:Type}(f:α->List β): ∀{l:List α} {k:Nat} {x:α} {i:Nat} {y:β},l[k]? =some x->(f x)[i]? =some y->(l.flatMap f)[((l.take k).flatMap f).length+i]? =some y
 |z::t,0,x,i,y,h,e=>by
  cases h
  simp only[rY,List.flatMap_nil,fU,eK,kU];rw[cN (aS.1 e).1];exact e
 |z::t,k+1,x,i,y,h,e=>by
  simp only[mL,kU,aV];rw[fM (by omega)];rw[show(f z).length+((t.take k).flatMap f).length+i-(f z).length=((t.take k).flatMap f).length+i by omega];exact Rs f (by simpa using h) e
def atF{α β:Type}(f:α->List β){l:List α}{k:Nat}{x:α}(h:l[k]? =some x):((l.take (k+1)).flatMap f).length=((l.take k).flatMap f).length+(f x).length:=by
 have:l.take (k+1)=l.take k++[x]:=by rw[iQ,h];rfl
 rw[this,mN,aV];simp
def Wv(v:List ab){i:Nat}{p q:ab}(h1:v[i]? =some p)(h2:v[(i+1)%v.length]? =some q):(mA v)[i]? =some (p,q):=by
 have hi:=(aS.1 h1).1;unfold mA;rw[cV,oR hi,jR,aX,aX,h1,h2];rfl
def Md(v:List ab):(mA v).length=v.length:=by unfold mA;simp
def ptE{C:aB}{n:Nat}{Q0:Exit->Act->World->Prop}{fr:az}{own:aC}{ops:Array Oper}{r:List Oper}{K:List Kt}(k:Nat){l:List DV}(hl:aH fr k=some (.d (.pt l)))(h:ak prog GB C n Q0 ((k, .ep l)::fr) own (.ops ops r K)):ak prog GB C n Q0 fr own (.ops ops r K):=
 qc hl (fun ρ G y hy=>by
  obtain⟨b,m,rfl,h1,h2⟩:=so.1 hy;have e:=h2.len;exact⟨b,0,m,m,J,h1,by rw[mj m 0 l.length (by omega),iX,<-e,dJ],h2⟩) h
def D5{cs:List aw}{b:Nat}(hb: ∀c∈cs,∀s∈c,LB s.l)(hn: ∀c∈cs,c.length<=100000)(hl:cs.length<=1000000)(hpt: ∀x∈cd (bH cs),ay x.1 b/\ay x.2 b)(hb4:b<=40000000):It GB prog 147 [.pt [.sl (cs.map eC)]] ((cd (bH cs)).map uA):=by
 have hml:(cs.map eC).length=cs.length:=aK ..;refine Z1 func147 J J ntmps147 J (fun _=>J) (fun l Jv Jx GB' hg H C hp hJ=>?_);obtain⟨n0,hn0⟩: ∃n0:Nat->Nat,n0=fun k=>(((bH cs).take k).flatMap fun c=>mA (ey c)).length:=⟨_,rfl⟩;refine ptE 1 J<|gx J<|?_;refine aj 10 (.d (vI (cs.length:Nat))) J (by rw[hml]<;>rfl) ?_;refine Ou (X:=Nat) (fun k=>[(0, .d (.v (.func (.yield l) #[] #[]))),(9, .d (.sl (cs.map eC))),(10, .d (vI (cs.length:Nat))),(11, .d (vI (k:Nat)))]) (fun k C=>k<=cs.length/\Jv (n0 k) C.G0 C.w0) (fun k=>cs.length-k) 0 hp ⟨bV _,by rw[hn0];exact hJ⟩ (fun _=>J) (fun k C1 hp1 hk=>?_);obtain⟨hk1,hJ1⟩:=hk;refine br J J J (fun hc12=>?_) (fun hc12=>?_)
 ·obtain⟨c,hx⟩: ∃u,cs[k]? =some u:=⟨_,aZ (by omega)⟩
  have hcm:=aT hx;have hxl:(bH cs)[k]? =some (c.map (·.l)):=by unfold bH;rw[cV,hx];rfl
  refine ix _ J (d8 hx) J<|cl J (Li (c:=c) (hb c hcm) (hn c hcm)) J<|?_;obtain⟨V,hV⟩: ∃V,V=ey (c.map (·.l)):=⟨_,rfl⟩;rw[<-hV];have hVl:(V.map eZ).length=V.length:=aK ..;have hVs:V.length<=100000:=by
   have:=DX (c.map (·.l)) (c.map (·.l)).length;have h2:V.length<=(c.map (·.l)).length:=by rw[hV];exact this
   rw[aK] at h2;exact cR h2 (hn c hcm)
  refine aj 18 (.d (vI (V.length:Nat))) J (by rw[hVl]<;>rfl) ?_;refine Ou (X:=Nat) (fun i=>[(0, .d (.v (.func (.yield l) #[] #[]))),(9, .d (.sl (cs.map eC))),(10, .d (vI (cs.length:Nat))),(11, .d (vI (k:Nat))),(5, .d (.sl (V.map eZ))),(17, .d (.sl (V.map eZ))),(18, .d (vI (V.length:Nat))),(19, .d (vI (i:Nat)))]) (fun i C=>i<=V.length/\Jv (n0 k+i) C.G0 C.w0) (fun i=>V.length-i) 0 hp1 ⟨bV _,hJ1⟩ (fun _=>J) (fun i C2 hp2 hi=>?_);obtain⟨hi1,hJ2⟩:=hi;refine br J J J (fun hc20=>?_) (fun hc20=>?_)
  ·obtain⟨p,hpx⟩: ∃u,V[i]? =some u:=⟨_,aZ (by omega)⟩
   obtain⟨q,hqx⟩: ∃u,V[(i+1)%V.length]? =some u:=⟨_,aZ (dX _ (by omega))⟩;have hpair:(cd (bH cs))[n0 k+i]? =some (p,q):=by
    rw[hn0];exact Rs (fun c=>mA (ey c)) hxl (by rw[<-hV];exact Wv V hpx hqx)
   have hpq:=hpt _ (aT hpair);haveI:=hpq.1;haveI:=hpq.2;refine ix _ J (d8 hpx) J<|?_;refine aj 29 (.d (vI (((i+1)%V.length:Nat):Int))) J (by rw[hVl]<;>rfl) ?_;refine gx J<|ix _ J (d8 hqx) J<|PY (len:=2) (s:=6) (e:=146) J (by kernel_rfl) (by kernel_rfl) J<|cl J (Bo (p:=p) (q:=q) (i:=b) (j:=b) hb4 hb4) J<|?_;refine XF (by kernel_rfl) J ?_;refine cy [(0, .d (.v (.func (.yield l) #[] #[]))),(9, .d (.sl (cs.map eC))),(10, .d (vI (cs.length:Nat))),(11, .d (vI (k:Nat))),(5, .d (.sl (V.map eZ))),(17, .d (.sl (V.map eZ))),(18, .d (vI (V.length:Nat))),(19, .d (vI (i:Nat)))] H hp2 hJ2 J (by rw[cV,hpair];rfl) J (by repeat (first|exact trivial|refine And.intro J ?_)) J J J (fun C3 hp3 hJ3=>?_) (fun C3 hp3 hJ3=>?_)
   ·exact LL (i+1) hp3 ⟨⟨by omega,hJ3⟩,by omega⟩
   ·exact Mf H hp3 (.inr hJ3) J
  ·have hi2:i=V.length:=by omega
   refine LL (k+1) hp2 ⟨⟨by omega,?_⟩,by omega⟩;have e:n0 (k+1)=n0 k+i:=by
    rw[hn0];show _=_+i;rw[hi2];have:=atF (fun c=>mA (ey c)) hxl;rw[<-hV,Md] at this;exact this
   rw[e];exact hJ2
 ·refine Mf H hp1 (.inl ?_) J
  rw[aK];have e:n0 k=(cd (bH cs)).length:=by
   rw[hn0];show((List.take k (bH cs)).flatMap _).length=_;rw[aL (by unfold bH;rw[aK];omega)];rfl
  rw[<-e];exact hJ1
def CZ{cs:List aw}:KT GB prog 81 [.sl (cs.map eC)] 147 (.pt [.sl (cs.map eC)]):=by
 refine aJw func81 J J ntmps81 J J (fun C=>?_);refine fz 1 J J ?_;refine aHW 1 J (fun GB' pv hg hp=>?_);refine UB J J ?_;exact X5 J J hp
def zF{G:Gh}{m:List Value}(h:IsLs G [vI 0,vI 0, .v (.pointer none)] m):IsLs G [vI (ce 0),vI (b9 0),cg 0] m:=by
 obtain⟨l,e,k⟩:=d6.1 (y5 G (.agg ⟨m⟩) (d6.2 ⟨m,rfl,h⟩))
 cases e;exact k

def eCl(x:List aa×Bool):DV:= .ag [.sl (x.1.map eL),vB x.2]
def eSd(c:List aa):DV:= .sl (c.map eL)
def Cq(ps:List (List aa×Bool)):List (List aa):=(ps.filter (·.2)).map (·.1)
def eRp(v:List ab):DV:= .sl (v.map eP)
structure OZ (GB:Gh) (ai al ae au:Addr):Prop extends EG GB ai al ae where
 ErrUnbounded:GB 1=some [.iface 405 (.pointer (some au))]
def PH{α:Type}{f:α->DV}{l:List α}{s:α}(h:l[0]? =some s):(l.map f)[(0:Int).toNat]? =some (f s):=by simp[h]
def aJC(c:aw):List (List ab):=NV (ey (c.map (·.l)))
def Zb(c:List aa):(ey c).length<=c.length:=DX c _
theorem Jr{c:List aa}(hb: ∀l∈c,LB l): ∀p∈ey c,ay p 1200:=fun p hp=>by
 obtain⟨l,hl,m,hm,rfl⟩:=ZV hp;have:= @ay.imeet l m (hb l hl) (hb m hm);exact⟨this.x.mono (by decide),this.y.mono (by decide)⟩
def Ys{p q:Rat}{i j:Nat}[hp:BQ p i][hq:BQ q j](hi:i<=100000000:=by decide):PF GB prog 60 [eR p,eR q] (vB (decide (p=q))):=by
 refine fn func60 J J ntmps60 J J (fun C=>?_);refine cl J (Z5 (a:=p.num) (b:=q.num) (i:=i) (j:=j) (by omega)) J<|?_;refine csd 10 J J J (fun hg10=>?_) (fun hg10=>?_)
 .
  refine cl J (S1 (a:=p.den) (b:=q.den) (i:=i) (j:=j) (by omega)) J<|?_;exact rz J (by rw[show decide (p=q)=decide (p.den=q.den) from decide_eq_decide.2 ⟨fun e=>by rw[e],fun e=>Rat.ext hg10 e⟩]<;>rfl)
 .
  exact rz J (by rw[decide_eq_false (fun e:p=q=>hg10 (by rw[e]))]<;>rfl)
def avq{t:Tr}(h:t.all aa.ok):Cq (mB t [])=(aO t).map fun c=>c.map (·.l):=Wg h
def OQ{α β:Type}{f:α->List β}{k:Nat}: ∀{l:List α},(∀x∈l,(f x).length<=k)->(l.flatMap f).length<=l.length*k
 |[],_=>by simp
 |a::t,h=>by
  have h1:=h a aQ;have h2:=OQ (f:=f) fun x hx=>h x (aJ a hx);rw[kU,aV,bX,iR];omega
def aJQ:List ZP:=[(0,0),(1,0),(0,1)]
structure EGS (GB:Gh) (ai al ae au ar:Addr):Prop extends OZ GB ai al ae au where
 ErrEmpty:GB 0=some [.iface 405 (.pointer (some ae))]
 ErrRange:GB 3=some [.iface 405 (.pointer (some ar))]
def PC(r:List ab)(j:Nat):Nat->ab
 |0=>(((r.getD 0 ⟨0,0⟩).add (r.getD 1 ⟨0,0⟩)).add (r.getD 2 ⟨0,0⟩)).scale (((1:Int):Rat)/((3:Int):Rat))
 |k+1=>((PC r j k).add (r.getD j ⟨0,0⟩)).scale (((1:Int):Rat)/((2:Int):Rat))
def smp(ts:List (List ab))(i:Nat):ab:=PC (ts.getD (i%ts.length) []) (i%3) (i/ts.length)
theorem ay.mono{p:ab}{i j:Nat}(h:ay p i)(hj:i<=j):ay p j:=⟨h.x.mono hj,h.y.mono hj⟩
def Ru{m n:Int}(hm:m.natAbs<=1000)(hn:n.natAbs<=1000):PF GB prog 72 [vI m,vI n] (eF ((m:Rat)/(n:Rat))):=by
 haveI:=ja (k:=11) hm (by decide);haveI:=ja (k:=11) hn (by decide);refine fn func72 J J ntmps72 J J (fun C=>?_);refine cl J (qa (m:=m) (by omega)) J<|cl J (qa (m:=n) (by omega)) J<|cl J (Ap (p:=(m:Rat)) (q:=(n:Rat)) (i:=12) (j:=12)) J<|?_;exact rz J J
def zg{α:Type}(f:α->Rat){l:List α}{k:Nat}{x:α}(h:l[k]? =some x):aE f (l.take (k+1))=aE f (l.take k)+f x:=by
 have:l.take (k+1)=l.take k++[x]:=by rw[iQ,h];rfl
 rw[this,C8];show _+(f x+0)=_;grind
structure K0 (cs:List aw) (b:Nat):Prop where
 lb: ∀c∈cs,∀s∈c,LB s.l
 sh: ∀c∈cs,c.length<=100000
 ln:cs.length<=1000000
 pt: ∀x∈cd (bH cs),ay x.1 b/\ay x.2 b
def Dm{L:List (ab×ab)}: ∀e∈L.map uA,e.length=2:=fun e he=>by
 obtain⟨x,_,rfl⟩:=bQ.1 he;rfl
def Ea{L:List (ab×ab)}{k:Nat}{e:List DV}(h:(L.map uA)[k]? =some e): ∃x,L[k]? =some x/\e=uA x:=by
 rw[cV] at h
 cases hl:L[k]? with
 |none=>rw[hl] at h;cases h
 |some x=>rw[hl] at h;cases h;exact⟨x,J,J⟩
def MA{cs:List aw}{b m:Nat}(ho:K0 cs b)(hb:b<=40000000)(hs: ∀k,BQ (aE (fun x=>x.1.cross x.2) ((cd (bH cs)).take k)) m)(hm:m<=100000000)(hc: ∀x∈cd (bH cs),BQ (x.1.cross x.2) m):
  PF GB prog 39 [.sl (cs.map eC)] (eF (aE (fun x=>x.1.cross x.2) (cd (bH cs))*mkRat 1 2)):=by
 obtain⟨L,hL⟩: ∃L,L=cd (bH cs):=⟨_,rfl⟩;obtain⟨Sm,hSm⟩: ∃Sm:Nat->Rat,Sm=fun k=>aE (fun x=>x.1.cross x.2) (L.take k):=⟨_,rfl⟩;have h00:Sm 0=0:=by rw[hSm];rfl
 have hSk: ∀k,BQ (Sm k) m:=by rw[hSm,hL];exact hs
 refine Du func39 J J ntmps39 J J (fun C h0=>?_);refine EW J J J CZ (fun _=>J) (fun GB1 pv hg1 hpv=>?_);refine Ga 3 [vI (ce 0),vI (b9 0),cg 0] rfl (fun G m=>zF) J ?_;refine px 2 2000002 h0.fx J<|px 3 2000003 h0.fx J ?_;refine FM (σ:=Empty) (fun k=>[(2000002,some (.o 96 [.d (vI 0), .d (vI 0), .d (.v (.pointer none))] true)),(2000003,some (.o 96 [.d (vI (ce (Sm k))), .d (vI (b9 (Sm k))), .d (cg (Sm k))] true))]) (fun _=>True) (fun _=>[]) (fun _=>False) [(2, .ov 2000002 0),(3, .ov 2000003 0)]
  h0 J (D5 ho.lb ho.sh ho.ln ho.pt hb) (.cons hpv .nil) ⟨J,J,trivial⟩ J (by rw[h00];exact⟨J,J,trivial⟩) trivial Dm J J (fun k e GB' hE hg hp=>?_) (fun D hD hx hp=>?_) (fun D s hD hx hq=>hq.elim)
 ·obtain⟨x,hx,rfl⟩:=Ea hE
  refine⟨?_,?_,fun C2=>?_,fun C2=>?_⟩
  rotate_left 2
  ·refine gx J ?_
   exact atR
  ·haveI:=hs k
   haveI:=hc x (aT hx);rw[<-hL] at hx;refine gx J<|cl J (kh (p:=Sm k) (q:=x.1.cross x.2) (i:=m) (j:=m) hm hm) J ?_;have e1:Sm (k+1)=Sm k+x.1.cross x.2:=by rw[hSm];exact zg _ hx
   exact rq trivial (by rw[e1];exact⟨J,J,trivial⟩)
 ·have eN:Sm (((cd (bH cs)).map uA).length)=aE (fun x=>x.1.cross x.2) (cd (bH cs)):=by
   rw[hSm,hL,aK];show aE _ (List.take _ _)=_;rw[dJ]
  haveI:BQ (aE (fun x=>x.1.cross x.2) (cd (bH cs))) m:=by rw[<-eN];exact hSk _
  rw[eN];refine gx J<|cl J (Jm (q:=aE (fun x=>x.1.cross x.2) (cd (bH cs))) hm) J ?_;exact Eq hD hx J J
def oO(x:ab×ab):ab:=(x.1.add x.2).scale (x.1.cross x.2)
def mG{α:Type}(f:α->ab)(l:List α):ab:=⟨aE (fun x=>(f x).x) l,aE (fun x=>(f x).y) l⟩
def UO{α:Type}(f:α->ab){l:List α}{k:Nat}{x:α}(h:l[k]? =some x):mG f (l.take (k+1))=(mG f (l.take k)).add (f x):=by
 unfold mG ab.add;rw[zg _ h,zg _ h]
def zZ{G:Gh}{m:List Value}(h:IsLs G [vI 0,vI 0, .v (.pointer none),vI 0,vI 0, .v (.pointer none)] m):IsLs G [vI (ce 0),vI (b9 0),cg 0,vI (ce 0),vI (b9 0),cg 0] m:=by
 obtain⟨y1,m1,rfl,h1,h⟩:=bh.1 h;obtain⟨y2,m2,rfl,h2,h⟩:=bh.1 h;obtain⟨y3,m3,rfl,h3,h⟩:=bh.1 h;have a:=zF (m:=[y1,y2,y3]) (.cons h1 (.cons h2 (.cons h3 .nil)));exact a.app (zF h)
def XS{cs:List aw}{b m M:Nat}(ho:K0 cs b)(hb:b<=10000000)(hs: ∀k,ay (mG oO ((cd (bH cs)).take k)) M)(hm:m<=10000000)(hM:M<=10000000)(hc: ∀x∈cd (bH cs),BQ (x.1.cross x.2) m):
  PF GB prog 68 [.sl (cs.map eC)] (eZ ((mG oO (cd (bH cs))).scale (((1:Int):Rat)/((6:Int):Rat)))):=by
 obtain⟨L,hL⟩: ∃L,L=cd (bH cs):=⟨_,rfl⟩;obtain⟨Sm,hSm⟩: ∃Sm:Nat->ab,Sm=fun k=>mG oO (L.take k):=⟨_,rfl⟩;have h00:Sm 0=⟨0,0⟩:=by rw[hSm];rfl
 have hSk: ∀k,ay (Sm k) M:=by rw[hSm,hL];exact hs
 refine Du func68 J J ntmps68 J J (fun C h0=>?_);refine EW J J J CZ (fun _=>J) (fun GB1 pv hg1 hpv=>?_);refine Ga 3 [vI (ce 0),vI (b9 0),cg 0,vI (ce 0),vI (b9 0),cg 0] rfl (fun G m=>zZ) J ?_;refine px 2 2000002 h0.fx J<|px 3 2000003 h0.fx J ?_;refine FM (σ:=Empty) (fun k=>[(2000002,some (.o 146 [.d (vI 0), .d (vI 0), .d (.v (.pointer none)), .d (vI 0), .d (vI 0), .d (.v (.pointer none))] true)),(2000003,some (.o 146 [.d (vI (ce (Sm k).x)), .d (vI (b9 (Sm k).x)), .d (cg (Sm k).x), .d (vI (ce (Sm k).y)), .d (vI (b9 (Sm k).y)), .d (cg (Sm k).y)] true))]) (fun _=>True) (fun _=>[]) (fun _=>False) [(2, .ov 2000002 0),(3, .ov 2000003 0)]
  h0 J (D5 ho.lb ho.sh ho.ln ho.pt (by omega)) (.cons hpv .nil) ⟨J,J,trivial⟩ J (by rw[h00];exact⟨J,J,trivial⟩) trivial Dm J J (fun k e GB' hE hg hp=>?_) (fun D hD hx hp=>?_) (fun D s hD hx hq=>hq.elim)
 ·obtain⟨x,hx,rfl⟩:=Ea hE
  refine⟨?_,?_,fun C2=>?_,fun C2=>?_⟩
  rotate_left 2
  ·refine gx J<|Dk J J J ⟨J,J,J⟩ J ?_
   exact atR
  ·haveI:=hSk k
   haveI:=hc x (aT hx);haveI:=(ho.pt x (aT hx)).1;haveI:=(ho.pt x (aT hx)).2;rw[<-hL] at hx;refine gx J<|jH 0 (e:=146) (len:=2) (s:=6) J (by kernel_rfl) (by kernel_rfl) (by decide) J<|jH 1 (e:=146) (len:=2) (s:=6) J (by kernel_rfl) (by kernel_rfl) (by decide) J<|?_;refine cl J (Ce (p:=x.1) (q:=x.2) (i:=b) (j:=b) (by omega) (by omega)) J<|cl J (Aw (p:=x.1.add x.2) (c:=x.1.cross x.2) (i:=b+b+1) (j:=m) (by omega) (by omega)) J<|?_;refine cl J (Ce (p:=Sm k) (q:=oO x) (i:=M) (j:=b+b+1+m) (hq:=inferInstanceAs (ay ((x.1.add x.2).scale (x.1.cross x.2)) _)) (by omega) (by omega)) J<|?_;have e1:Sm (k+1)=(Sm k).add (oO x):=by rw[hSm];exact UO _ hx
   exact rq trivial (by rw[e1];exact⟨J,J,trivial⟩)
 ·have eN:Sm (((cd (bH cs)).map uA).length)=mG oO (cd (bH cs)):=by
   rw[hSm,hL,aK];show mG _ (List.take _ _)=_;rw[dJ]
  haveI:ay (mG oO (cd (bH cs))) M:=by rw[<-eN];exact hSk _
  haveI:BQ (((1:Int):Rat)/((6:Int):Rat)) 3:=⟨by decide+kernel,by decide+kernel⟩;rw[eN];refine gx J<|cl J (Ru (m:=1) (n:=6) (by decide) (by decide)) J<|cl J (Aw (p:=mG oO (cd (bH cs))) (c:=((1:Int):Rat)/((6:Int):Rat)) (i:=M) (j:=3) (by omega) (by decide)) J<|?_;exact Eq hD hx J J
def QO{n:Int}{d:Nat}(hn:n.natAbs<=1000)(hd:0<d)(hd1:d<=1000):PF GB prog 62 [vI n, .v (.int .i64 (d:Nat))] (eQ (mkRat n d)):=by
 haveI:BI n 10:=y7 (by omega);haveI:BN d 10:=⟨by omega⟩;refine fn func62 J J ntmps62 J J (fun C=>?_);refine cl J (HX (n:=n) (by omega) (by omega)) J<|cl J (sG (u:=d) (by omega)) J<|cl J (uT (x:=n) (d:=d) hd) J<|?_;exact rz J J
def qF(es:List Int)(a:Nat):Rat×Nat:=
 (if((ao es 6 (ao es 9 a).2).1:Int)=0 then mkRat (2*(((ao es 9 a).1:Int)-4)+1) 2 else if((ao es 6 (ao es 9 a).2).1:Int)=1 then mkRat (3*(((ao es 9 a).1:Int)-4)+1) 3 else(((ao es 9 a).1:Rat)-4:Rat),(ao es 6 (ao es 9 a).2).2)
theorem Je{es:List Int}{a:Nat}(ha:a<=es.length):BQ (qF es a).1 12/\(qF es a).2<=es.length:=by
 have h1:=kI (es:=es) (n:=9) (a:=a) (by decide);refine⟨?_,gD (gD ha)⟩;unfold qF;dsimp only;split
 ·exact wm (by decide) (by omega) (by decide)
 ·split
  ·exact wm (by decide) (by omega) (by decide)
  ·haveI:BI (((ao es 9 a).1:Int)-4:Int) 11:=y7 (by omega)
   have e:((((ao es 9 a).1:Rat)-4):Rat)=((((ao es 9 a).1:Int)-4:Int):Rat):=by rw[jL];rfl
   rw[e];exact inferInstance
def uI(es:List Int)(a:Nat):ab×Nat:=(⟨(qF es a).1,(qF es (qF es a).2).1⟩,(qF es (qF es a).2).2)
theorem aBF{es:List Int}{a:Nat}(ha:a<=es.length):ay (uI es a).1 1200/\(uI es a).2<=es.length:=by
 obtain⟨h1,h2⟩:=Je ha;obtain⟨h3,h4⟩:=Je h2;exact⟨⟨h1.mono (by decide),h3.mono (by decide)⟩,h4⟩
def q9(z:Nat):(z:Rat)-4=(((z:Int)-4:Int):Rat):=by rw[jL];rfl
def Be:aa:=⟨1,0,0⟩
def aJM(es:List Int)(L:List aa)(a:Nat):ab×Nat:=
 if L.length=0 then uI es a else
 if((ao es 3 (ao es L.length a).2).1:Int)=0 then
  (if crossI (L.getD (ao es L.length a).1 Be) (L.getD (ao es L.length (ao es 3 (ao es L.length a).2).2).1 Be)≠0 then(d9 (L.getD (ao es L.length a).1 Be) (L.getD (ao es L.length (ao es 3 (ao es L.length a).2).2).1 Be),(ao es L.length (ao es 3 (ao es L.length a).2).2).2) else uI es (ao es L.length (ao es 3 (ao es L.length a).2).2).2)
 else if((ao es 3 (ao es L.length a).2).1:Int)=1 then((L.getD (ao es L.length a).1 Be).at (qF es (ao es 3 (ao es L.length a).2).2).1,(qF es (ao es 3 (ao es L.length a).2).2).2) else uI es (ao es 3 (ao es L.length a).2).2
def N6{b:Nat}{es:List Int}(hes:es.length<=400){a:Nat}(ha:a<=es.length):PM GB prog 84 (i5 [none] b) b 87 [.sl (es.map vI), .v (.int .i64 (a:Nat))] (eQ (qF es a).1) [.sl (es.map vI), .v (.int .i64 ((qF es a).2:Nat))]:=by
 have h1:=kI (es:=es) (n:=9) (a:=a) (by decide);refine tH func84 J J ntmps84 J J (fun C b m lo hmb=>?_);refine cm J (fun b=>(nE (n:=9) hes ha (by decide) (by decide))) J<|cm J (fun b=>(nE (n:=6) hes (gD ha) (by decide) (by decide))) J<|?_;refine br J J J (fun hc9=>?_) (fun hc9=>?_)
 .
  refine cl J (QO (n:=2*(((ao es 9 a).1:Int)-4)+1) (d:=2) (by omega) (by decide) (by decide)) J<|?_;exact jF hmb J J (by unfold qF;dsimp only;rw[if_pos hc9];rfl) J
 .
  refine br J J J (fun hc15=>?_) (fun hc15=>?_)
  .
   refine cl J (QO (n:=3*(((ao es 9 a).1:Int)-4)+1) (d:=3) (by omega) (by decide) (by decide)) J<|?_;exact jF hmb J J (by unfold qF;dsimp only;rw[if_neg hc9,if_pos hc15];rfl) J
  .
   refine cl J (ku (n:=(((ao es 9 a).1:Int)-4)) (by omega) (by omega)) J<|?_;exact jF hmb J J (by unfold qF;dsimp only;rw[if_neg hc9,if_neg hc15,q9];rfl) J
def MM{b:Nat}{es:List Int}(hes:es.length<=400){a:Nat}(ha:a<=es.length):PM GB prog 31 (i5 [none] b) b 87 [.sl (es.map vI), .v (.int .i64 (a:Nat))] (eP (uI es a).1) [.sl (es.map vI), .v (.int .i64 ((uI es a).2:Nat))]:=by
 refine tH func31 J J ntmps31 J J (fun C b m lo hmb=>?_);refine cm J (fun b=>(N6 hes ha)) J<|cm J (fun b=>(N6 hes (Je ha).2)) J<|?_;exact jF hmb J J J J

structure Ib (GB:Gh) (ai al ae au:Addr):Prop extends OZ GB ai al ae au where
 ErrEmpty:GB 0=some [.iface 405 (.pointer (some ae))]
def o8(x:ab×ab):Rat:=(x.1.x*x.1.x+x.2.x*x.2.x+(x.1.add x.2).x*(x.1.add x.2).x)*x.1.cross x.2
def pA(x:ab×ab):Rat:=(x.1.x*x.1.y+x.2.x*x.2.y+(x.1.add x.2).x*(x.1.add x.2).y)*x.1.cross x.2
def oC(x:ab×ab):Rat:=(x.1.y*x.1.y+x.2.y*x.2.y+(x.1.add x.2).y*(x.1.add x.2).y)*x.1.cross x.2
structure lB (cs:List aw):Prop where
 ed:K0 cs 1200
 cr: ∀x∈cd (bH cs),BQ (x.1.cross x.2) 5000
 ar: ∀k,BQ (aE (fun x=>x.1.cross x.2) ((cd (bH cs)).take k)) 2000000
 mo: ∀k,ay (mG oO ((cd (bH cs)).take k)) 3000000
 sa: ∀k,BQ (aE o8 ((cd (bH cs)).take k)) 4000000
 sb: ∀k,BQ (aE pA ((cd (bH cs)).take k)) 4000000
 sc: ∀k,BQ (aE oC ((cd (bH cs)).take k)) 4000000
def jn(t:Tr):Rat:=aE (fun x=>x.1.cross x.2) (cd (bH (aO t)))*mkRat 1 2
def ql(t:Tr):ab:=(mG oO (cd (bH (aO t)))).scale (((1:Int):Rat)/((6:Int):Rat))
theorem lB.cr2{cs:List aw}(h:lB cs): ∀x∈cd (bH cs),BQ (x.1.cross x.2) 2000000:=fun x hx=>(h.cr x hx).mono (by decide)
theorem lB.ar1{cs:List aw}(h:lB cs):BQ (aE (fun x=>x.1.cross x.2) (cd (bH cs))) 2000000:=by
 have:=h.ar (cd (bH cs)).length;rwa [dJ] at this
theorem lB.mo1{cs:List aw}(h:lB cs):ay (mG oO (cd (bH cs))) 3000000:=by
 have:=h.mo (cd (bH cs)).length;rwa [dJ] at this
theorem lB.area{t:Tr}(h:lB (aO t)):BQ (jn t) 2000003:=by
 haveI:=h.ar1;exact BQ.mono (inferInstance:BQ (aE (fun x=>x.1.cross x.2) (cd (bH (aO t)))*mkRat 1 2) _) (by decide)
def zR0:DV:= .ag [vB false, .sl [], .sl []]
def QB:DV:= .ag [vB false, .sl [], .sl [],vB false, .sl [], .sl []]
theorem TS:BQ (((1:Int):Rat)/((6:Int):Rat)) 3:=⟨by decide+kernel,by decide+kernel⟩
theorem lB.mom{t:Tr}(h:lB (aO t)):ay (ql t) 3000005:=by
 haveI:=h.mo1;haveI:=TS;exact ay.mono (inferInstance:ay ((mG oO (cd (bH (aO t)))).scale (((1:Int):Rat)/((6:Int):Rat))) _) (by decide)
def XK{k0:Nat}{t:Tr}(h:gP k0 t)(hk0:k0<=900):PF GB prog 96 [eA t] (.tp [.sl ((aO t).map eC), .v .nilIface]):=by
 have hts:=h.s;have htd:=h.dp;refine fn func96 J J ntmps96 J J (fun C=>?_);refine cl (fu:=⟨12⟩) J (MG h) J<|?_;refine tO 12 J ?_;refine gx J<|cl (fu:=⟨0⟩) J (Kx (t:=t) (by omega)) J<|cG J (by show some (decide _)=some false;rw[decide_eq_false (by omega)]) J<|cl J (aBC h.lb h.ok (by omega) (by omega)) J<|?_;exact rz J J
def asz{cs:List aw}(hn: ∀c∈cs,c.length<=100000)(hl:cs.length<=1000000):PF GB prog 97 [.sl (cs.map eC)] (vB (cs.all dw)):=by
 have hml:(cs.map eC).length=cs.length:=aK ..;refine fn (fu:=⟨10⟩) func97 J J ntmps97 J J (fun C=>?_);refine aj 6 (.d (vI (cs.length:Nat))) J (by rw[hml]<;>rfl) ?_;refine gx J<|?_;refine lp (X:=Nat) (fun k=>[(7, .d (vI (k:Nat)))]) (fun k=>[]) (fun k=>k<=cs.length/\cs.all dw=(cs.drop k).all dw) (fun k=>cs.length-k) 0 J ⟨bV _,by rw[iX]⟩ (fun _=>J) (fun k hk=>?_);refine br J J J (fun hc8=>?_) (fun hc8=>?_)
 .
  obtain⟨c,hx⟩: ∃u,cs[k]? =some u:=⟨_,aZ (by omega)⟩;refine ix _ J (d8 hx) J<|cl J (UZ (c:=c) (hn c (aT hx))) J<|?_;refine bb J J J (fun hc13=>?_) (fun hc13=>?_)
  .
   have hS:cs.all dw=false:=by rw[hk.2,BZ hx];rw[gV] at hc13;rw[hc13];rfl
   exact rz J (by rw[hS];rfl)
  .
   rw[Bool.not_eq_false'] at hc13;exact at_ (k+1) ⟨⟨by omega,by rw[hk.2,BZ hx,hc13,Bool.true_and]⟩,(by omega)⟩
 .
  have hS:cs.all dw=true:=by rw[hk.2,fL (by omega)];rfl
  exact rz J (by rw[hS];rfl)
def CJ{k0:Nat}{t:Tr}(h:gP k0 t)(hk0:k0<=900)(hbd:(aO t).all dw=true):PF GB prog 38 [eA t] (.tp [.sl ((aO t).map eC), .v .nilIface]):=by
 obtain⟨cs,hcs⟩: ∃cs,cs=aO t:=⟨_,rfl⟩;have hts:=h.s;have htd:=h.dp;have hcl:=HA t;have hcn:=Hk h.lb h.ok;rw[<-hcs] at hcl hcn;rw[<-hcs] at hbd;refine fn func38 J J ntmps38 J J (fun C=>?_);refine cl (fu:=⟨0⟩) J (XK h hk0) J<|?_;refine aj 8 (.d (.tp [.sl (cs.map eC), .v .nilIface])) J (by rw[hcs]) ?_;refine gx J<|cl (fu:=⟨0⟩) J (asz (cs:=cs) (fun c hc=>by have:=hcn c hc;omega) (by omega)) J<|?_;refine aj 15 (.d (vB true)) J (by rw[hbd]) ?_;refine tO 15 J ?_;refine gx J<|?_;exact rz J (by rw[<-hcs];rfl)
def aBh{k0:Nat}{t:Tr}(h:gP k0 t)(hk0:k0<=900)(hbd:(aO t).all dw=true)(hm:lB (aO t)):PF GB prog 10 [eA t] (.tp [eR (jn t), .v .nilIface]):=by
 haveI:=hm.area;refine fn func10 J J ntmps10 J J (fun C=>?_);refine cl J (CJ h hk0 hbd) J<|cl J (MA hm.ed (by decide) hm.ar (by decide) hm.cr2) J<|cl J (Ar (q:=jn t) (i:=2000003)) J<|?_;exact rz J J
def YH{k0:Nat}{t:Tr}(h:gP k0 t)(hk0:k0<=900)(hbd:(aO t).all dw=true)(hm:lB (aO t))(h0:(aO t).length≠0):PF GB prog 32 [eA t] (.tp [jG ((ql t).scale (jn t)⁻¹), .v .nilIface]):=by
 have hml:((aO t).map eC).length=(aO t).length:=aK ..;haveI:=hm.mom;haveI:=hm.area;refine fn func32 J J ntmps32 J J (fun C=>?_);refine cl (fu:=⟨21⟩) J (CJ h hk0 hbd) J<|?_;refine aj 18 (.d (vI ((aO t).length:Nat))) J (by rw[hml]<;>rfl) ?_;refine gx (fu:=⟨0⟩) J<|cG J (by show some (decide _)=some false;rw[decide_eq_false (by omega)]) J<|cl J (XS hm.ed (by decide) hm.mo (by decide) (by decide) hm.cr) J<|?_;refine cl J (MA hm.ed (by decide) hm.ar (by decide) hm.cr2) J<|cl J (Ic (q:=jn t) (i:=2000003)) J<|cl J (Aw (p:=ql t) (c:=(jn t)⁻¹) (i:=3000005) (j:=2000003)) J<|?_;refine cl J (KL (p:=(ql t).scale (jn t)⁻¹) (i:=3000005+2000003)) J<|?_;exact rz J J
def va:Rat:=((1:Int):Rat)/((24:Int):Rat)
def tD(f:ab×ab->Rat)(t:Tr):Rat:=aE f (cd (bH (aO t)))*va
def TU{G:Gh}{m:List Value}(h:IsLs G [vI 0,vI 0, .v (.pointer none),vI 0,vI 0, .v (.pointer none),vI 0,vI 0, .v (.pointer none)] m):IsLs G [vI (ce 0),vI (b9 0),cg 0,vI (ce 0),vI (b9 0),cg 0,vI (ce 0),vI (b9 0),cg 0] m:=by
 obtain⟨y1,m1,rfl,h1,h⟩:=bh.1 h;obtain⟨y2,m2,rfl,h2,h⟩:=bh.1 h;obtain⟨y3,m3,rfl,h3,h⟩:=bh.1 h;have a:=zF (m:=[y1,y2,y3]) (.cons h1 (.cons h2 (.cons h3 .nil)));exact a.app (zZ h)
theorem Ua:BQ va 6:=⟨by decide+kernel,by decide+kernel⟩
def aDM{k0:Nat}{t:Tr}(h:gP k0 t)(hk0:k0<=900)(hbd:(aO t).all dw=true)(hm:lB (aO t)):PF GB prog 58 [eA t] (.tp [eR (tD o8 t),eR (tD pA t),eR (tD oC t), .v .nilIface]):=by
 obtain⟨cs,hcs⟩: ∃cs,cs=aO t:=⟨_,rfl⟩;obtain⟨L,hL⟩: ∃L,L=cd (bH cs):=⟨_,rfl⟩;rw[<-hcs] at hm;obtain⟨Sa,hSa⟩: ∃S:Nat->Rat,S=fun k=>aE o8 (L.take k):=⟨_,rfl⟩;obtain⟨Sb,hSb⟩: ∃S:Nat->Rat,S=fun k=>aE pA (L.take k):=⟨_,rfl⟩;obtain⟨Sc,hSc⟩: ∃S:Nat->Rat,S=fun k=>aE oC (L.take k):=⟨_,rfl⟩;have ha0:Sa 0=0:=by rw[hSa];rfl
 have hb0:Sb 0=0:=by rw[hSb];rfl
 have hc0:Sc 0=0:=by rw[hSc];rfl
 have hSak: ∀k,BQ (Sa k) 4000000:=by rw[hSa,hL];exact hm.sa
 have hSbk: ∀k,BQ (Sb k) 4000000:=by rw[hSb,hL];exact hm.sb
 have hSck: ∀k,BQ (Sc k) 4000000:=by rw[hSc,hL];exact hm.sc
 refine Du func58 J J ntmps58 J J (fun C h0=>?_);refine cl J (CJ h hk0 hbd) J ?_;refine EW J J J CZ (fun _=>J) (fun GB1 pv hg1 hpv=>?_);refine Ga 8 [vI (ce 0),vI (b9 0),cg 0,vI (ce 0),vI (b9 0),cg 0,vI (ce 0),vI (b9 0),cg 0] rfl (fun G m=>TU) J ?_;refine px 2 2000002 h0.fx J<|px 3 2000003 h0.fx J<|px 4 2000004 h0.fx J<|px 8 2000008 h0.fx J ?_;refine FM (σ:=Empty) (fun k=>[(2000002,some (.o 36 [.ff, .nl, .nl] true)),(2000003,some (.o 36 [.ff, .nl, .nl] true)),(2000004,some (.o 36 [.ff, .nl, .nl] true)),(2000008,some (.o 227 [.d (vI (ce (Sa k))), .d (vI (b9 (Sa k))), .d (cg (Sa k)), .d (vI (ce (Sb k))), .d (vI (b9 (Sb k))), .d (cg (Sb k)), .d (vI (ce (Sc k))), .d (vI (b9 (Sc k))), .d (cg (Sc k))] true))]) (fun _=>True) (fun _=>[]) (fun _=>False) [(2, .ov 2000002 0),(3, .ov 2000003 0),(4, .ov 2000004 0),(8, .ov 2000008 0)]
  h0 J (D5 (cs:=aO t) (by rw[<-hcs];exact hm.ed.lb) (by rw[<-hcs];exact hm.ed.sh) (by rw[<-hcs];exact hm.ed.ln) (by rw[<-hcs];exact hm.ed.pt) (by decide)) (.cons hpv .nil) ⟨J,J,J,J,trivial⟩ J (by rw[ha0,hb0,hc0];exact⟨J,J,J,J,trivial⟩) trivial Dm J J (fun k e GB' hE hg hp=>?_) (fun D hD hx hp=>?_) (fun D s hD hx hq=>hq.elim)
 ·obtain⟨x,hx,rfl⟩:=Ea hE
  rw[<-hcs] at hx;refine⟨?_,?_,fun C2=>?_,fun C2=>?_⟩
  rotate_left 2
  ·refine gx J<|Dk J J J ⟨J,J,J⟩ J ?_
   exact atR
  ·haveI:=hSak k
   haveI:=hSbk k;haveI:=hSck k;haveI:=hm.cr x (aT hx);haveI hp1:=(hm.ed.pt x (aT hx)).1;haveI hp2:=(hm.ed.pt x (aT hx)).2;haveI:=hp1.x;haveI:=hp1.y;haveI:=hp2.x;haveI:=hp2.y;haveI hp3:ay (x.1.add x.2) 2401:=inferInstance;haveI:=hp3.x;haveI:=hp3.y;rw[<-hL] at hx;refine gx J<|jH 0 (e:=146) (len:=2) (s:=6) J (by kernel_rfl) (by kernel_rfl) (by decide) J<|jH 1 (e:=146) (len:=2) (s:=6) J (by kernel_rfl) (by kernel_rfl) (by decide) J<|?_;refine cl J (Ce (p:=x.1) (q:=x.2) (i:=1200) (j:=1200)) J<|?_;refine cl J (gt (p:=x.1.x) (q:=x.1.x) (i:=1200) (j:=1200)) J<|cl J (gt (p:=x.2.x) (q:=x.2.x) (i:=1200) (j:=1200)) J<|cl J (kh (p:=x.1.x*x.1.x) (q:=x.2.x*x.2.x)) J<|?_;refine cl J (gt (p:=(x.1.add x.2).x) (q:=(x.1.add x.2).x) (i:=2401) (j:=2401)) J<|cl J (kh (p:=x.1.x*x.1.x+x.2.x*x.2.x) (q:=(x.1.add x.2).x*(x.1.add x.2).x)) J<|?_;refine cl J (gt (p:=x.1.x) (q:=x.1.y) (i:=1200) (j:=1200)) J<|cl J (gt (p:=x.2.x) (q:=x.2.y) (i:=1200) (j:=1200)) J<|cl J (kh (p:=x.1.x*x.1.y) (q:=x.2.x*x.2.y)) J<|?_;refine cl J (gt (p:=(x.1.add x.2).x) (q:=(x.1.add x.2).y) (i:=2401) (j:=2401)) J<|cl J (kh (p:=x.1.x*x.1.y+x.2.x*x.2.y) (q:=(x.1.add x.2).x*(x.1.add x.2).y)) J<|?_;refine cl J (gt (p:=x.1.y) (q:=x.1.y) (i:=1200) (j:=1200)) J<|cl J (gt (p:=x.2.y) (q:=x.2.y) (i:=1200) (j:=1200)) J<|cl J (kh (p:=x.1.y*x.1.y) (q:=x.2.y*x.2.y)) J<|?_;refine cl J (gt (p:=(x.1.add x.2).y) (q:=(x.1.add x.2).y) (i:=2401) (j:=2401)) J<|cl J (kh (p:=x.1.y*x.1.y+x.2.y*x.2.y) (q:=(x.1.add x.2).y*(x.1.add x.2).y)) J<|?_;refine PY (len:=3) (s:=3) (e:=96) J (by kernel_rfl) (by kernel_rfl) J<|Dk J J J ⟨J,J,J⟩ J<|ldA 9 (len:=3) (e:=96) J (by kernel_rfl) (by kernel_rfl) J<|?_
   refine lp (X:=Nat) (fun i=>[(93, .d (vI (i:Nat)))]) (fun i=>[(2000008,some (.o 227 [.d (vI (ce (if 0<i then Sa k+o8 x else Sa k))), .d (vI (b9 (if 0<i then Sa k+o8 x else Sa k))), .d (cg (if 0<i then Sa k+o8 x else Sa k)), .d (vI (ce (if 1<i then Sb k+pA x else Sb k))), .d (vI (b9 (if 1<i then Sb k+pA x else Sb k))), .d (cg (if 1<i then Sb k+pA x else Sb k)), .d (vI (ce (if 2<i then Sc k+oC x else Sc k))), .d (vI (b9 (if 2<i then Sc k+oC x else Sc k))), .d (cg (if 2<i then Sc k+oC x else Sc k))] true))]) (fun i=>i<=3) (fun i=>3-i) 0 J (by omega) (fun _=>J) (fun i hi=>?_);refine br J J J (fun hc94=>?_) (fun hc94=>?_)
   ·obtain rfl|rfl|rfl:i=0\/i=1\/i=2:=by omega
    ·refine F7 0 (len:=3) (s:=3) (e:=96) J (by kernel_rfl) J J (by decide) J<|jH 0 (e:=96) (len:=3) (s:=3) J (by kernel_rfl) (by kernel_rfl) (by decide) J<|?_
     refine cl J (gt (p:=(x.1.x*x.1.x+x.2.x*x.2.x+(x.1.add x.2).x*(x.1.add x.2).x)) (q:=x.1.cross x.2) (j:=5000)) J<|cl J (kh (p:=Sa k) (q:=(x.1.x*x.1.x+x.2.x*x.2.x+(x.1.add x.2).x*(x.1.add x.2).x)*x.1.cross x.2) (i:=4000000)) J<|jH (hv:=by simp only[ac];exact⟨by kernel_rfl,by omega⟩) 0 (e:=96) (len:=3) (s:=3) J (by kernel_rfl) (by kernel_rfl) (by decide) J<|?_;exact at_ 1 ⟨by omega,by omega⟩
    ·refine F7 1 (len:=3) (s:=3) (e:=96) J (by kernel_rfl) J J (by decide) J<|jH 1 (e:=96) (len:=3) (s:=3) J (by kernel_rfl) (by kernel_rfl) (by decide) J<|?_
     refine cl J (gt (p:=(x.1.x*x.1.y+x.2.x*x.2.y+(x.1.add x.2).x*(x.1.add x.2).y)) (q:=x.1.cross x.2) (j:=5000)) J<|cl J (kh (p:=Sb k) (q:=(x.1.x*x.1.y+x.2.x*x.2.y+(x.1.add x.2).x*(x.1.add x.2).y)*x.1.cross x.2) (i:=4000000)) J<|jH (hv:=by simp only[ac];exact⟨by kernel_rfl,by omega⟩) 1 (e:=96) (len:=3) (s:=3) J (by kernel_rfl) (by kernel_rfl) (by decide) J<|?_;exact at_ 2 ⟨by omega,by omega⟩
    ·refine F7 2 (len:=3) (s:=3) (e:=96) J (by kernel_rfl) J J (by decide) J<|jH 2 (e:=96) (len:=3) (s:=3) J (by kernel_rfl) (by kernel_rfl) (by decide) J<|?_
     refine cl J (gt (p:=(x.1.y*x.1.y+x.2.y*x.2.y+(x.1.add x.2).y*(x.1.add x.2).y)) (q:=x.1.cross x.2) (j:=5000)) J<|cl J (kh (p:=Sc k) (q:=(x.1.y*x.1.y+x.2.y*x.2.y+(x.1.add x.2).y*(x.1.add x.2).y)*x.1.cross x.2) (i:=4000000)) J<|jH (hv:=by simp only[ac];exact⟨by kernel_rfl,by omega⟩) 2 (e:=96) (len:=3) (s:=3) J (by kernel_rfl) (by kernel_rfl) (by decide) J<|?_;exact at_ 3 ⟨by omega,by omega⟩
   ·obtain rfl:i=3:=by omega
    have e1:Sa (k+1)=Sa k+o8 x:=by rw[hSa];exact zg _ hx
    have e2:Sb (k+1)=Sb k+pA x:=by rw[hSb];exact zg _ hx
    have e3:Sc (k+1)=Sc k+oC x:=by rw[hSc];exact zg _ hx
    exact rq trivial (by rw[e1,e2,e3];exact⟨J,J,J,J,trivial⟩)
 ·have eN:((cd (bH (aO t))).map uA).length=L.length:=by rw[aK,<-hcs,<-hL]
  rw[eN];have ea:Sa L.length=aE o8 L:=by rw[hSa];show aE _ (List.take _ _)=_;rw[dJ]
  have eb:Sb L.length=aE pA L:=by rw[hSb];show aE _ (List.take _ _)=_;rw[dJ]
  have ec:Sc L.length=aE oC L:=by rw[hSc];show aE _ (List.take _ _)=_;rw[dJ]
  haveI:BQ (aE o8 L) 4000000:=by rw[<-ea];exact hSak _
  haveI:BQ (aE pA L) 4000000:=by rw[<-eb];exact hSbk _
  haveI:BQ (aE oC L) 4000000:=by rw[<-ec];exact hSck _
  haveI:=Ua;rw[ea,eb,ec];refine gx J<|cl J (Ru (m:=1) (n:=24) (by decide) (by decide)) J<|?_;refine jH 0 (e:=96) (len:=3) (s:=3) J (by kernel_rfl) (by kernel_rfl) (by decide) J<|cl J (gt (p:=aE o8 L) (q:=va) (i:=4000000) (j:=6)) J<|cl J (Ar (q:=aE o8 L*va) (i:=4000006)) J<|?_;refine jH 1 (e:=96) (len:=3) (s:=3) J (by kernel_rfl) (by kernel_rfl) (by decide) J<|cl J (gt (p:=aE pA L) (q:=va) (i:=4000000) (j:=6)) J<|cl J (Ar (q:=aE pA L*va) (i:=4000006)) J<|?_;refine jH 2 (e:=96) (len:=3) (s:=3) J (by kernel_rfl) (by kernel_rfl) (by decide) J<|cl J (gt (p:=aE oC L) (q:=va) (i:=4000000) (j:=6)) J<|cl J (Ar (q:=aE oC L*va) (i:=4000006)) J<|?_;exact Eq hD hx J (by unfold tD;rw[<-hcs,<-hL];rfl)
structure DQ (D B:Nat) (x:Rat):Prop where
 ex: ∃n:Int,x*((D:Nat):Rat)=(n:Rat)/\n.natAbs<=B*D
theorem DQ.bq{D B k:Nat}{x:Rat}(h:DQ D B x)(h0:0<D)(h1:D<2^k)(h2:B*D<2^k):BQ x k:=by
 obtain⟨n,e,hn⟩:=h.ex;exact BQ.of_frac h0 e (by omega) h1
def DQ.mono{D B C:Nat}{x:Rat}(h:DQ D B x)(hc:B<=C):DQ D C x:=by
 obtain⟨n,e,hn⟩:=h.ex;exact⟨n,e,cR hn (bW D hc)⟩
def DQ.add{D B C:Nat}{x y:Rat}(h:DQ D B x)(k:DQ D C y):DQ D (B+C) (x+y):=by
 obtain⟨n,e,hn⟩:=h.ex;obtain⟨m,f,hm⟩:=k.ex;refine⟨n+m,by rw[pT,<-e,<-f];grind,?_⟩;have:=Int.natAbs_add_le n m;rw[cS];omega
def DQ.neg{D B:Nat}{x:Rat}(h:DQ D B x):DQ D B (-x):=by
 obtain⟨n,e,hn⟩:=h.ex;exact⟨-n,by rw[lR,<-e];grind,by rw[iJ];exact hn⟩
def DQ.sub{D B C:Nat}{x y:Rat}(h:DQ D B x)(k:DQ D C y):DQ D (B+C) (x-y):=by
 have:=h.add k.neg;rw[show x-y=x+ -y by grind];exact this
def DQ.mul{D E B C:Nat}{x y:Rat}(h:DQ D B x)(k:DQ E C y):DQ (D*E) (B*C) (x*y):=by
 obtain⟨n,e,hn⟩:=h.ex;obtain⟨m,f,hm⟩:=k.ex;refine⟨n*m,?_,?_⟩
 ·rw[cY,<-e,<-f,Rat.natCast_mul];grind
 ·rw[jK]
  refine cR (iW hn hm) (Nat.le_of_eq ?_);rw[Nat.mul_mul_mul_comm]
def DQ.zero(D B:Nat):DQ D B 0:=⟨0,by grind,by simp⟩
def m9(l m:aa):Nat:=if crossI l m=0 then 1 else(crossI l m).natAbs
def Wk(l m:aa):0<m9 l m:=by unfold m9;split<;>omega
def W6(l m:aa):crossI l.rev m= -crossI l m:=by
 unfold crossI aa.rev;show-l.a*m.b-m.a* -l.b=_;rw[Int.neg_mul,sU];omega
def Zh(l m:aa):crossI l m.rev= -crossI l m:=by
 unfold crossI aa.rev;show l.a* -m.b- -m.a*l.b=_;rw[Int.neg_mul,sU];omega
def XZ{l m l' m':aa}(h:l.same l')(k:m.same m'):m9 l' m'=m9 l m:=by
 have e1:m9 l' m'=m9 l m':=by
  rcases h with rfl|rfl
  ·rfl
  ·unfold m9;rw[W6];simp only[Int.neg_eq_zero,iJ]
 rw[e1];rcases k with rfl|rfl
 ·rfl
 ·unfold m9;rw[Zh];simp only[Int.neg_eq_zero,iJ]
def FF(K:List aa):List Nat:=K.flatMap fun l=>K.map (m9 l)
def Ev(K:List aa):Nat:=(FF K).foldr (· * ·) 1
def RB{n:Nat}: ∀{l:List Nat},n∈l->n∣l.foldr (· * ·) 1
 |a::t,h=>by
  rw[List.foldr_cons];rcases aW.1 h with rfl|h
  ·exact Nat.dvd_mul_right _ _
  ·exact sV (RB h) (Nat.dvd_mul_left _ _)
def PO: ∀{l:List Nat},(∀n∈l,0<n)->0<l.foldr (· * ·) 1
 |[],_=>by decide
 |a::t,h=>by rw[List.foldr_cons];exact gU (h a aQ) (PO fun n hn=>h n (aJ _ hn))
def QT{b:Nat}: ∀{l:List Nat},(∀n∈l,n<=2^b)->l.foldr (· * ·) 1<=2^(b*l.length)
 |[],_=>by simp
 |a::t,h=>by
  rw[List.foldr_cons,bX,Nat.mul_succ,kZ,fJ];exact iW (h a aQ) (QT fun n hn=>h n (aJ _ hn))
def ZK(K:List aa):(FF K).length=K.length*K.length:=by
 unfold FF;rw[List.length_flatMap];have: ∀Jv:List aa,(Jv.map fun l=>(K.map (m9 l)).length).sum=Jv.length*K.length:=by
  intro Jv
  induction Jv with
  |nil=>simp
  |cons a t ih=>rw[cK,List.sum_cons,ih,aK,bX,iR];omega
 exact this K
def ayV(K:List aa):0<Ev K:=PO fun n hn=>by
 obtain⟨l,_,h⟩:=gQ.1 hn;obtain⟨m,_,rfl⟩:=bQ.1 h;exact Wk l m
def axz{K:List aa}{l m:aa}(hl:l∈K)(hm:m∈K):m9 l m∣Ev K:=RB (gQ.2 ⟨l,hl,eJ hm⟩)
def aFC{l m:aa}(hl:LB l)(hm:LB m):m9 l m<=2^385:=by
 have h1:=(inferInstance:BI (crossI l m) 385).h;generalize 385=kk at h1⊢;unfold m9;split
 ·exact Nat.one_le_two_pow
 ·exact mX h1
def Uw{K:List aa}(h: ∀l∈K,LB l):Ev K<=2^(385*(K.length*K.length)):=by
 have:=QT (b:=385) (l:=FF K) fun n hn=>by
  obtain⟨l,hl,h2⟩:=gQ.1 hn;obtain⟨m,hm,rfl⟩:=bQ.1 h2;exact aFC (h l hl) (h m hm)
 rw[ZK] at this;exact this
def Pw{x:Rat}{n c:Int}{D kk:Nat}(hc:c≠0)(hx:x=(n:Rat)/(c:Rat))(hn:n.natAbs<=2^kk)(hd:c.natAbs∣D):DQ D (2^kk) x:=by
 obtain⟨e,he⟩:=hd;have hc':(c:Rat)≠0:=fun h=>hc (dV.1 h);have hD:((D:Nat):Rat)=((c.natAbs:Int):Rat)*((e:Int):Rat):=by rw[<-cY,<-Rat.intCast_natCast,he];rfl
 have bd:(n*(e:Int)).natAbs<=2^kk*D:=by
  rw[jK,iL];refine iW hn ?_;rw[he];exact Nat.le_mul_of_pos_left e (by omega)
 rcases Int.natAbs_eq c with h|h
 ·refine⟨n*(e:Int),?_,bd⟩
  rw[hD,<-h,hx,cY];grind
 ·refine⟨-(n*(e:Int)),?_,by rw[iJ];exact bd⟩
  have h2:(c.natAbs:Int)= -c:=by omega
  rw[hD,h2,hx,lR,lR,cY];grind
structure DP (D B:Nat) (p:ab):Prop where
 x:DQ D B p.x
 y:DQ D B p.y
def WU{l m:aa}(hl:LB l)(hm:LB m)(h:crossI l m≠0){D:Nat}(hd:m9 l m∣D):DP D (2^385) (d9 l m):=by
 have h1:=(inferInstance:BI (meetX l m) 385).h;have h2:=(inferInstance:BI (meetY l m) 385).h;generalize 385=kk at h1 h2⊢;unfold m9 at hd;rw[if_neg h] at hd;have e:d9 l m=⟨(meetX l m:Rat)/(crossI l m:Rat),(meetY l m:Rat)/(crossI l m:Rat)⟩:=by unfold d9;rw[if_neg h]
 rw[e];exact⟨Pw h J (mX h1) hd,Pw h J (mX h2) hd⟩
def DP.cross{D B C:Nat}{p q:ab}(h:DP D B p)(k:DP D C q):DQ (D*D) (2*(B*C)) (p.cross q):=by
 have:=(h.x.mul k.y).sub (h.y.mul k.x);refine DQ.mono this (by omega)
def DP.add{D B C:Nat}{p q:ab}(h:DP D B p)(k:DP D C q):DP D (B+C) (p.add q):=⟨h.x.add k.x,h.y.add k.y⟩
def DP.scale{D E B C:Nat}{p:ab}{c:Rat}(h:DP D B p)(k:DQ E C c):DP (D*E) (B*C) (p.scale c):=⟨h.x.mul k,h.y.mul k⟩
def aAV{k:Nat}{t:Tr}(h:gP k t): ∃K:List aa,K.length<=k/\(∀l∈K,LB l)/\t.all fun l=> ∃m∈K,m.same l:=by
 obtain⟨K,h1,h2,h3⟩:=h.o.am;refine⟨K.filter fun m=>t.lns.any fun l=>decide (m.same l),cR (lL ..) h1,fun m hm=>?_,?_⟩
 ·obtain⟨hm1,hm2⟩:=jS.1 hm
  obtain⟨l,hl,e⟩:=jV.1 hm2;have hb:=sd.1 h.lb l hl;have e':m.same l:=by simpa using e
  rcases e' with rfl|rfl
  ·exact hb
  ·haveI:=hb
   have:LB m.rev.rev:=inferInstance;rwa [show m.rev.rev=m from by unfold aa.rev;cases m;simp] at this
 ·have h3:=sd.1 h3
  refine sd.2 fun l hl=>?_;obtain⟨m,hm,e⟩:=h3 l hl;exact⟨m,jS.2 ⟨hm,jV.2 ⟨l,hl,decide_eq_true e⟩⟩,e⟩
def Dl{P:aa->Prop}(hr: ∀l,P l->P l.rev): ∀{t:Tr} {c:aw} {x:Bool×aw},t.all P->(∀s∈c,P s.l)->x∈t.parts c-> ∀s∈x.2,P s.l
 | .leaf b,c,x,_,hc,h=>by
  rw[Tr.parts,aU] at h;subst h;exact hc
 | .node l u v,c,x,ht,hc,h=>by
  have cl: ∀k,P k-> ∀s∈cj c k,P s.l:=fun k hk s hs=>by
   unfold cj at hs;split at hs
   ·rcases q7.1 hs with rfl|hs
    ·exact hk
    ·obtain⟨s0,g,_,rfl⟩:=rm.1 hs
     exact hc s0 g
   ·exact hc s hs
  rw[Tr.parts] at h;rcases bK.1 h with h|h
  ·split at h
   ·exact Dl hr ht.2.1 (cl l ht.1) h
   ·cases h
  ·split at h
   ·exact Dl hr ht.2.2 (cl l.rev (hr l ht.1)) h
   ·cases h
def Wq{k:Nat}{t:Tr}(h:gP k t): ∃D:Nat,0<D/\D<=2^(385*(k*k))/\ ∀c∈aO t,∀p∈ey (c.map (·.l)),DP D (2^385) p:=by
 obtain⟨K,h1,h2,h3⟩:=aAV h;refine⟨Ev K,ayV K,cR (Uw h2) (bY (by decide) (fZ 385 (iW h1 h1))),fun c hc p hp=>?_⟩;have hs:=Dl (P:=fun l=> ∃m∈K,m.same l) (fun l ⟨m,hm,e⟩=>⟨m,hm,by
  rcases e with rfl|rfl
  ·exact .inr J
  ·exact .inl (by unfold aa.rev;cases m;simp)⟩) h3 (fun s hs=>by cases hs) (xh.1 hc)
 have hb:=GP h.lb h.ok c hc;obtain⟨i,hi,hp⟩:=gQ.1 hp;have hi':=kJ.1 hi;have e1:=aZ hi';have e2:=aZ (l:=c.map (·.l)) (dX (i+1) (show 0<(c.map (·.l)).length by omega));rw[CC e1 e2] at hp;split at hp
 ·rename_i hx
  rw[aU.1 hp];obtain⟨s,s1,s2⟩:=bQ.1 (bM hi');obtain⟨u,u1,u2⟩:=bQ.1 (bM (dX (i+1) (show 0<(c.map (·.l)).length by omega)));rw[<-s2,<-u2] at hx⊢;obtain⟨m,hm,em⟩:=hs s s1;obtain⟨n,hn,en⟩:=hs u u1;exact WU (hb s s1) (hb u u1) (Hb hx) (by rw[XZ em en];exact axz hm hn)
 ·cases hp
theorem EE{D B a b k:Nat}{x:Rat}(h:DQ D B x)(h0:0<D)(hD:D<=2^a)(hB:B<=2^b)(hk:a+b<k):BQ x k:=by
 refine h.bq h0 (fT hD (sY (by decide) (by omega))) ?_;refine fT (iW hB hD) ?_;rw[<-fJ];exact sY (by decide) (by omega)
def Ip{x y a b:Nat}(hx:x<=2^a)(hy:y<=2^b):x*y<=2^(a+b):=by
 rw[fJ];exact iW hx hy
def P5{α:Type}{D B:Nat}{f:α->Rat}: ∀{l:List α},(∀x∈l,DQ D B (f x))->DQ D (l.length*B) (aE f l)
 |[],_=>by show DQ D _ 0;exact DQ.zero D _
 |x::t,h=>by
  have:=(h x aQ).add (P5 fun y hy=>h y (aJ _ hy));refine DQ.mono this (Nat.le_of_eq ?_);rw[bX,cS,oZ,kZ]
def EJ{α:Type}{D B N:Nat}{f:α->Rat}{l:List α}(h: ∀x∈l,DQ D B (f x))(hl:l.length<=N)(k:Nat):DQ D (N*B) (aE f (l.take k)):=by
 have:=P5 (l:=l.take k) fun x hx=>h x (dZ hx);exact this.mono (bW B (cR (by rw[cW];omega) hl))
def Xt{v:List ab}{x:ab×ab}(h:x∈mA v):x.1∈v/\x.2∈v:=by
 obtain⟨i,hi,rfl⟩:=bQ.1 h;have hi':=kJ.1 hi;have hj:(i+1)%v.length<v.length:=dX _ (by omega);dsimp only;rw[aX,aX,aZ hi',aZ hj];exact⟨bM _,bM _⟩
def QE{cs:List aw}{x:ab×ab}(h:x∈cd (bH cs)): ∃c∈cs,x.1∈ey (c.map (·.l))/\x.2∈ey (c.map (·.l)):=by
 obtain⟨L,hL,hx⟩:=gQ.1 h;obtain⟨c,hc,rfl⟩:=bQ.1 hL;exact⟨c,hc,Xt hx⟩
def XV{k0:Nat}{t:Tr}(h:gP k0 t)(hk:k0<=48):(cd (bH (aO t))).length<=2^18:=by
 have h1: ∀L∈bH (aO t),(mA (ey L)).length<=48:=fun L hL=>by
  obtain⟨c,hc,rfl⟩:=bQ.1 hL;have h2:=Hk h.lb h.ok c hc;have h3:=Zb (c.map (·.l));have h4:=h.dp;rw[aK] at h3;rw[Md];omega
 have h2:=OQ h1;have h3:=HA t;have h4:=h.s;have h5:(bH (aO t)).length=(aO t).length:=aK ..;unfold cd;rw[h5] at h2;have:(aO t).length*48<=3001*48:=bW 48 (by omega);omega
def LE{k0:Nat}{t:Tr}(h:gP k0 t)(hk:k0<=48):lB (aO t):=by
 obtain⟨D,hD0,hD1,hv⟩:=Wq h;have hDa:D<=2^887040:=by
  generalize hE:887040=kE;exact cR hD1 (bY (by decide) (by
   have:k0*k0<=48*48:=iW hk hk;omega))
 obtain⟨B,hB⟩: ∃B,B=2^385:=⟨_,rfl⟩;rw[<-hB] at hv;have sqp: ∀X a b:Nat,X=2^a->a+a=b->X*X=2^b:=fun X a b h k=>by rw[h,<-k,fJ]
 have hBB:B*B=2^770:=sqp B 385 770 hB J;have hp: ∀x∈cd (bH (aO t)),DP D B x.1/\DP D B x.2:=fun x hx=>by
  obtain⟨c,hc,h1,h2⟩:=QE hx;exact⟨hv c hc _ h1,hv c hc _ h2⟩
 have hpt: ∀x∈cd (bH (aO t)),ay x.1 1200/\ay x.2 1200:=fun x hx=>by
  obtain⟨c,hc,h1,h2⟩:=QE hx;have hb: ∀l∈c.map (·.l),LB l:=fun l hl=>by
   obtain⟨s,hs,rfl⟩:=bQ.1 hl;exact GP h.lb h.ok c hc s hs
  exact⟨Jr hb _ h1,Jr hb _ h2⟩
 have hlen:=XV h hk;have hDD:=Ip hDa hDa;have hc: ∀x∈cd (bH (aO t)),DQ (D*D) (2*(B*B)) (x.1.cross x.2):=fun x hx=>(hp x hx).1.cross (hp x hx).2;have hn:2^18*(2*(B*B))<=2^789:=by rw[hBB];decide+kernel
 have hs: ∀{u v u' v':Rat},DQ D B u->DQ D B v->DQ D B u'->DQ D B v'-> ∀{c:Rat},DQ (D*D) (2*(B*B)) c->DQ (D*D*(D*D)) (2^1544) ((u*v+u'*v'+(u+u')*(v+v'))*c):=fun hu hv hu' hv' c hc=>by
  refine DQ.mono ((((hu.mul hv).add (hu'.mul hv')).add ((hu.add hu').mul (hv.add hv'))).mul hc) ?_;rw[show(B+B)*(B+B)=4*(B*B) by rw[cS,dY];omega,hBB];decide+kernel
 have hfin:2^18*2^1544<=2^1562:=by decide+kernel
 have fin: ∀f:ab×ab->Rat,(∀x∈cd (bH (aO t)),DQ (D*D*(D*D)) (2^1544) (f x))-> ∀k,BQ (aE f ((cd (bH (aO t))).take k)) 4000000:=fun f hf k=>
  EE (EJ hf hlen k) (gU (gU hD0 hD0) (gU hD0 hD0)) (Ip hDD hDD) hfin (by decide)
 refine⟨⟨GP h.lb h.ok,fun c hc=>?_,?_,hpt⟩,fun x hx=>?_,fun k=>?_,fun k=>?_,fin _ fun x hx=>?_,fin _ fun x hx=>?_,fin _ fun x hx=>?_⟩
 ·have:=Hk h.lb h.ok c hc;have:=h.dp;omega
 ·have:=HA t;have:=h.s;omega
 ·haveI:=(hpt x hx).1
  haveI:=(hpt x hx).2;exact BQ.mono (inferInstance:BQ (x.1.cross x.2) _) (by decide)
 ·exact EE (EJ hc hlen k) (gU hD0 hD0) hDD hn (by decide)
 ·have hm: ∀x∈cd (bH (aO t)),DP (D*(D*D)) ((B+B)*(2*(B*B))) (oO x):=fun x hx=>((hp x hx).1.add (hp x hx).2).scale (hc x hx)
  have hb:2^18*((B+B)*(2*(B*B)))<=2^1175:=by
   rw[hBB,hB];decide+kernel
  have h3:=Ip hDa hDD;have h0:=gU hD0 (gU hD0 hD0);exact⟨EE (EJ (fun x hx=>(hm x hx).x) hlen k) h0 h3 hb (by decide),EE (EJ (fun x hx=>(hm x hx).y) hlen k) h0 h3 hb (by decide)⟩
 ·exact hs (hp x hx).1.x (hp x hx).1.x (hp x hx).2.x (hp x hx).2.x (hc x hx)
 ·exact hs (hp x hx).1.x (hp x hx).1.y (hp x hx).2.x (hp x hx).2.y (hc x hx)
 ·exact hs (hp x hx).1.y (hp x hx).1.y (hp x hx).2.y (hp x hx).2.y (hc x hx)
def GS{t:Tr}(h:t.all aa.ok):Cq (mB t [])=bH (aO t):=avq h
def eM(a b c d e f:Rat):DV:= .ag [(.v (.bool (decide ((a).num<0)))),(dN (a).num.natAbs),(dD (a).den),(.v (.bool (decide ((b).num<0)))),(dN (b).num.natAbs),(dD (b).den),(.v (.bool (decide ((c).num<0)))),(dN (c).num.natAbs),(dD (c).den),(.v (.bool (decide ((d).num<0)))),(dN (d).num.natAbs),(dD (d).den),(.v (.bool (decide ((e).num<0)))),(dN (e).num.natAbs),(dD (e).den),(.v (.bool (decide ((f).num<0)))),(dN (f).num.natAbs),(dD (f).den)]
def zq3:List DV:=[.v (.bool (decide ((0:Rat).num<0))),dN (0:Rat).num.natAbs,dD (0:Rat).den]
def XU{j:Nat}(h:j<4):([vI 1,vI 2,vI 3,vI 4]:List DV)[((j:Nat):Int).toNat]? =some (vI (1+(j:Int))):=by
 have:j=0\/j=1\/j=2\/j=3:=by omega
 rcases this with rfl|rfl|rfl|rfl<;>rfl
def apz{b:Nat}{es:List Int}(hes:es.length<=400){a:Nat}(ha:a<=es.length){n:Int}(hn:n=0):PM GB prog 9 (i5 [none,some (.v (.int .i64 n))] b) b 87 [.sl (es.map vI), .v (.int .i64 (a:Nat))] (eT (er es 0 a).1) [.sl (es.map vI), .v (.int .i64 ((er es 0 a).2:Nat))]:=by
 refine tH (fu:=⟨9⟩) func9 J J ntmps9 J J (fun C b m lo hmb=>?_);refine cG J (by show some (decide _)=some false;rw[decide_eq_false (by omega)]) J<|cm J (fun b=>(M9 hes ha)) J<|?_;exact jF hmb J J J J
def aps{b:Nat}{es:List Int}(hes:es.length<=400){a:Nat}(ha:a<=es.length){d:Nat}{n:Int}(hn:n=((d+1:Nat):Int))(hd:d<=1)(ih: ∀{GB:Gh} {b a:Nat} {n:Int},a<=es.length->n=(d:Int)->PM GB prog 9 (i5 [none,some (.v (.int .i64 n))] b) b 87 [.sl (es.map vI), .v (.int .i64 (a:Nat))] (eT (er es d a).1) [.sl (es.map vI), .v (.int .i64 ((er es d a).2:Nat))]):PM GB prog 9 (i5 [none,some (.v (.int .i64 n))] b) b 87 [.sl (es.map vI), .v (.int .i64 (a:Nat))] (eT (er es (d+1) a).1) [.sl (es.map vI), .v (.int .i64 ((er es (d+1) a).2:Nat))]:=by
 have hk0:=gD (n:=3) ha;obtain⟨g1,_,_,g2⟩:=BD (d:=d) hk0;have hj:=gD (n:=4) g2;have hjl:=kI (es:=es) (n:=4) (a:=(er es d (ao es 3 a).2).2) (by decide);obtain⟨g3,_,_,g4⟩:=BD (d:=d) hj;have hpw:12*2^d<=12*2^1:=fZ _ (bY (by decide) hd);refine tH (fu:=⟨9⟩) func9 J J ntmps9 J J (fun C b m lo hmb=>?_);refine cB J (by show some (decide _)=some true;rw[decide_eq_true (by omega)]) J<|cm J (fun b=>(nE (n:=3) hes ha (by decide) (by decide))) J<|?_;refine br J J J (fun hc12=>?_) (fun hc12=>?_)
 .
  refine cm J (fun b=>(ih hk0 (by omega))) J<|rf J J<|cm J (fun b=>(nE (n:=4) hes g2 (by decide) (by decide))) J<|ix (vI (1+((ao es 4 (er es d (ao es 3 a).2).2).1:Int))) J (XU (by omega)) J<|?_;refine cm J (fun b=>(ih hj (by omega))) J<|cl J (J0 (op:=1+((ao es 4 (er es d (ao es 3 a).2).2).1:Int)) (t:=(er es d (ao es 3 a).2).1) (u:=(er es d (ao es 4 (er es d (ao es 3 a).2).2).2).1) (c:=[]) g3.gd.lb g3.gd.ok g1.gd.lb g1.gd.ok (fun m h=>by cases h) (fun m h=>by cases h) (by have:=g1.dp;have:=g3.dp;rw[fU];omega)) J<|?_;exact jF hmb J J (by rw[show er es (d+1) a=_ from if_pos hc12];show eT (Tr.mergeL _ _ _ _)=eT (Tr.mergeQ _ _ _ _);rw[Tr.mergeL_nil (by omega) g1.gd.ok g3.gd.ok]) (by rw[show er es (d+1) a=_ from if_pos hc12])
 .
  refine cm J (fun b=>(M9 hes hk0)) J<|?_;exact jF hmb J J (by rw[show er es (d+1) a=_ from if_neg hc12];rfl) (by rw[show er es (d+1) a=_ from if_neg hc12])
def Tc{es:List Int}(hes:es.length<=400): ∀{d:Nat} {GB:Gh} {b a:Nat} {n:Int},d<=2->a<=es.length->n=(d:Int)->PM GB prog 9 (i5 [none,some (.v (.int .i64 n))] b) b 87 [.sl (es.map vI), .v (.int .i64 (a:Nat))] (eT (er es d a).1) [.sl (es.map vI), .v (.int .i64 ((er es d a).2:Nat))]
 |0,_,_,_,_,_,ha,hn=>apz hes ha hn
 |d+1,_,_,_,_,hd,ha,hn=>aps hes ha hn (by omega) (fun h1 h2=>Tc hes (by omega) h1 h2)
def aBq{es:List Int}(hes:es.length<=400){a d b:Nat}(ha:a<=es.length)(hd:d<=2):PM GB prog 9 (i5 [none,some (.v (.int .i64 (d:Nat)))] b) b 87 [.sl (es.map vI), .v (.int .i64 (a:Nat))] (eT (er es d a).1) [.sl (es.map vI), .v (.int .i64 ((er es d a).2:Nat))]:=Tc (GB:=GB) hes hd ha J
def zh{C:aB}{n:Nat}{Q0:Exit->Act->World->Prop}{fr fr':az}{own own':aC}{cf cf':Cf}{vc:List Prop}[fu:Fu]{f:FuncId}{ds:List DV}(ha:AG fr cf=some (f,ds))(hF:PF GB prog f ds (.v (.bool true)))(hgo:cF tt n fu.n fr own cf .tt [] []=⟨vc,fr',own',cf'⟩)(k:ak prog GB C n Q0 fr' own' cf')
  (hv:ac vc:=by first|exact trivial|(simp only[ac];kernel_rfl)|(simp only[ac];omega)):ak prog GB C n Q0 fr own cf:=by
 unfold AG at ha;split at ha<;>try (cases ha;done)
 rename_i hh;exact us hh (bD.to (g:= .tt) (H2 ha hF) fun ρ G y hy=>(aI (G:=G)).1 hy) hgo hv k
def Rj{p:Rat}{i:Nat}[hp:BQ p i](hi:i<=100000000:=by decide):PF GB prog 60 [eR p,eR p] (.v (.bool true)):=by
 have:=Ys (GB:=GB) (p:=p) (q:=p) (i:=i) (j:=i) hi;rwa [decide_eq_true J] at this
def As:List ZP:=[(0,0),(2,0),(2,2),(0,2)]
def XG:d5 As:=⟨by decide,by decide,fun p hp=>by
 unfold As at hp;simp only[aW,kW,or_false] at hp;rcases hp with rfl|rfl|rfl|rfl<;>exact⟨by decide,by decide⟩,by decide⟩
def Di: ∀r∈[As],d5 r:=fun r hr=>by rw[aU] at hr;subst hr;exact XG
def qE:Tr:=pf [As] 2
def uB:gP 12 qE:=(GI Di (by decide)).x (Oi _ _) (by decide)
def QP:(aO qE).all dw=true:=Pi uB.ok (IG Di)
def HC:aE (fun x=>x.1.cross x.2) (cd (Cq (mB qE [])))=8/\aE o8 (cd (Cq (mB qE [])))=128/\aE oC (cd (Cq (mB qE [])))=128:=by decide+kernel
def Zi:jn qE=((4:Int):Rat):=by
 unfold jn;rw[<-GS uB.ok,HC.1];decide+kernel
def Zu:tD o8 qE=mkRat (16:Nat) 3:=by
 unfold tD;rw[<-GS uB.ok,HC.2.1];decide+kernel
def aBN:tD oC qE=mkRat (16:Nat) 3:=by
 unfold tD;rw[<-GS uB.ok,HC.2.2];decide+kernel
def N5:PF GB prog 15 [] (.v (.bool true)):=by
 have hm:=LE uB (by decide);haveI bA:BQ (jn qE) 2000003:=hm.area;haveI b4:BQ ((4:Int):Rat) 4:=⟨by decide,by decide⟩;haveI b16:BQ (mkRat (16:Nat) 3) 6:=⟨by decide+kernel,by decide+kernel⟩;refine fn func15 J J ntmps15 J J (fun C=>?_);refine cl J (mf (by omega) (by omega)) J<|cl J (mf (by omega) (by omega)) J<|cl J (mf (by omega) (by omega)) J<|cl J (mf (by omega) (by omega)) J<|?_;refine rf J J<|cl J (Pj (ps:=[iP 0 0,iP 2 0,iP 2 2,iP 0 2]) (fun p hp=>by
  simp only[aW,kW,or_false] at hp;rcases hp with rfl|rfl|rfl|rfl<;>exact⟨BQ.int1200 (by decide),BQ.int1200 (by decide)⟩) (by decide)) rfl<|?_
 refine rf J J<|cl J (Tv (rs:=[As]) (fill:=2) Di (by decide)) J<|cl J (Rb (rs:=[As]) (fill:=2) Di (by decide)) J<|?_;refine cl J (Of (t:=qE) uB) J<|cl (fu:=⟨0⟩) J (aBh uB (by decide) QP hm) J<|?_;refine aj 20 (.d (.tp [eR ((4:Int):Rat), .v .nilIface])) J (by rw[Zi]) ?_;refine gx J<|cl (fu:=⟨0⟩) J (aDM uB (by decide) QP hm) J<|?_;refine aj 25 (.d (.tp [eR (mkRat (16:Nat) 3),eR (tD pA qE),eR (mkRat (16:Nat) 3), .v .nilIface])) J (by rw[Zu,aBN]) ?_;refine gx J<|cl J (Jq (q:=((4:Int):Rat)) (i:=4)) J<|cl J (ku (n:=4) (by decide) (by decide)) J<|cl (fu:=⟨0⟩) J (jm (a:=((4:Int):Rat)) (b:=((4:Int):Rat)) (i:=4) (j:=4)) J<|?_;refine cB J (by show some (decide _)=some true;rw[decide_eq_true];decide+kernel) J<|cl J (V2 (n:=16) (d:=3) (by decide) (by decide) (by decide)) J<|?_;refine cl J (JQ (q:=mkRat (16:Nat) 3) (i:=6)) J<|zh J (Rj (p:=mkRat (16:Nat) 3) (i:=6)) J<|zh J (Rj (p:=mkRat (16:Nat) 3) (i:=6)) J<|?_;exact rz J J
def vk{t:Tr}(ht:t.all aa.ok): ∀c∈aO t,jb c:=fun c hc=>JI ht bP.nil (show jb [] from .nil) _ (xh.1 hc)
def asO{t:Tr}(ht:t.all aa.ok)(hb:(aO t).all dw=true):jn t=aE vY (aO t)*mkRat 1 2:=by
 have e:aE (fun x:ab×ab=>x.1.cross x.2) (cd (bH (aO t)))=aE vY (aO t):=by
  unfold cd bH;rw[He,vO];refine q8 fun c hc=>?_;rw[<-WN (vJ ht c hc) (vk ht c hc) (dK.1 hb c hc)];unfold mA ww;rw[vO]
 unfold jn;rw[e]

def Rl{t:Tr}(ht:t.all aa.ok){p:ab}(h:qk t p≠0): ∃c∈aO t,lD c p:=by
 have hd:DU t p true:=Classical.byContradiction fun k=>h ((Zf ht).2 k);obtain⟨w,k1,k2⟩:=Vy hd (qP ht);obtain⟨e,e0,he⟩:=HZ k1;obtain⟨o,hv⟩:=he e e0 dR;rw[hv] at k2;obtain⟨b,c,hc,hi⟩:=Gd (c:=[]) ht bP.nil (fun s hs=>by cases hs) o;have hb:=((A1 ht bP.nil hc).2 _ hi).2;have:b=true:=by rw[<-hb];exact k2
 subst this;refine⟨c,xh.2 hc,fun s hs=>?_⟩;have hl:s.l∈t.lns\/s.l.rev∈t.lns:=Dl (P:=fun l=>l∈t.lns\/l.rev∈t.lns) (fun l h=>h.elim (fun h=> .inr (by rw[HJ];exact h)) .inl) (sd.2 fun l hl=> .inl hl) (fun s hs=>by cases hs) hc s hs;have h1:=hi s hs;rw[gv] at h1;apply Classical.byContradiction;intro hn;have hn':s.l.value p<0:=by grind
 -- somewhere on the way it is 0
 have kp:0<s.l.nor.dot w:=(gy (s:=s.l.nor.dot w) (k:=e) e0).1 (by grind);obtain⟨d,hd⟩: ∃d,d= -s.l.value p/s.l.nor.dot w:=⟨_,rfl⟩;have ed:d*s.l.nor.dot w= -s.l.value p:=by rw[hd];generalize s.l.nor.dot w=z at*;grind
 have d0:0<d:=(gy kp).1 (by rw[ed];grind);have d1:d<=e:=by
  have:0<=(e-d)*s.l.nor.dot w:=by grind
  have:=(kw kp).1 this;grind
 have ho:=(he d d0 d1).1;have hz:s.l.value (bF p w d)=0:=by rw[gv];grind
 rcases hl with hl|hl
 ·exact ho _ hl hz
 ·exact ho _ hl (by rw[fh,hz];rfl)
def WV{c:aw}{s:ba}(hs:s∈c): ∃i w,c[i]? =some w/\c[(i+1)%c.length]? =some s:=by
 obtain⟨j,hj,e⟩:=oN hs
 cases j with
 |zero=>
  refine⟨c.length-1,c[c.length-1],aZ (by omega),?_⟩;rw[show c.length-1+1=c.length by omega,tX,aZ hj,e]
 |succ j=>
  refine⟨j,c[j],aZ (by omega),?_⟩;rw[eX hj,aZ hj,e]
def Fi{c:aw}(hc:bP c)(ha:jb c)(hb:dw c=true){s:ba}(hs:s∈c):s.l.at s.v.lo∈ey (c.map (·.l))/\s.l.at s.v.hi∈ey (c.map (·.l)):=by
 rw[Ff hc ha hb];refine⟨?_,eJ hs⟩;obtain⟨i,w,h1,h2⟩:=WV hs;rw[(H9 hc ha hb h1 h2).2.2];exact eJ (aT h1)
def XN(n q p:ab)(e:Rat):n.dot (bj q p e)=n.dot q+e*(n.dot p-n.dot q):=by
 unfold ab.dot bj;grind
def M3(n q u:ab)(e:Rat):n.dot (bF q u e)=n.dot q+e*n.dot u:=by
 unfold ab.dot bF;grind
def below{c:aw}(hc:bP c)(ha:jb c)(hb:dw c=true){p:ab}(hp:lD c p)(n:ab): ∃v∈ey (c.map (·.l)),n.dot v<=n.dot p:=by
 have side: ∀s∈c,∀q,s.l.value q=0->lD c q->n.dot q<=n.dot p-> ∃v∈ey (c.map (·.l)),n.dot v<=n.dot p:=fun s hs q hz hq hn=>by
  obtain⟨t,rfl⟩:=zz (hc.ok s hs).ne hz;have ht:=((hc.edge s hs).2 t).2 hq;obtain⟨e1,e2⟩:=Fi hc ha hb hs;obtain⟨n1,n2⟩:=(qD hb).2 s hs;unfold ah.has at ht;rw[n1,n2] at ht;obtain⟨t1,t2⟩:=ht;have t1:=t1.resolve_left (by simp);have t2:=t2.resolve_left (by simp);have f: ∀u,n.dot (s.l.at u)=n.dot (s.l.at 0)+u*n.dot s.l.dir:=fun u=>by rw[aC0 s.l u,M3]
  rw[f] at hn;by_cases k:0<=n.dot s.l.dir
  ·refine⟨_,e1,?_⟩
   rw[f];have:=cD (show 0<=t-s.v.lo by grind) k;grind
  ·refine⟨_,e2,?_⟩
   rw[f];have:=cD (show 0<=s.v.hi-t by grind) (show 0<= -n.dot s.l.dir by grind);grind
 by_cases hd:bm c p
 ·by_cases h0:n=⟨0,0⟩
  ·obtain⟨s,hs⟩: ∃s,s∈c:=by
    have hne:=(qD hb).1
    cases c with
    |nil=>exact absurd J hne
    |cons s t=>exact⟨s,aQ⟩
   refine⟨_,(Fi hc ha hb hs).1,?_⟩;rw[h0];unfold ab.dot;grind
  ·obtain⟨d,hd'⟩: ∃d:ab,d=⟨-n.x, -n.y⟩:=⟨_,rfl⟩
   have hne: ¬ ∀u∈c,0<=u.l.nor.dot d:=fun k=>h0 (by
    have:=Zl hc ha hb k;rw[hd'] at this;simp only[ab.mk.injEq] at this
    cases n
    simp only[ab.mk.injEq] at*;constructor<;>grind)
   have hex: ∃u∈c,u.l.nor.dot d<0:=by
    apply Classical.byContradiction;intro k;refine hne fun u hu=>?_;apply Classical.byContradiction;intro k2;exact k ⟨u,hu,by grind⟩
   obtain⟨u,hu,hk⟩:=hex;have v0:=hd u hu;obtain⟨T,hT⟩: ∃T,T=u.l.value p/ -(u.l.nor.dot d):=⟨_,rfl⟩;have e:T* -(u.l.nor.dot d)=u.l.value p:=by rw[hT];generalize u.l.nor.dot d=z at*;grind
   have T0:0<T:=(gy (k:= -(u.l.nor.dot d)) (by grind)).1 (by rw[e];exact v0);obtain⟨r,r0,r1,⟨s,ms,_,zs⟩,hC⟩:=KP (p:=bF p d T) hd ⟨u,hu,by rw[gv];grind⟩;refine side s ms _ zs hC ?_;rw[XN,M3];have h1:0<= -(n.dot d):=by
    have:=sF n.x;have:=sF n.y;rw[hd'];unfold ab.dot;grind
   have:=cD r0 (cD (dQ T0) h1);grind
 ·have: ∃s∈c,¬0<s.l.value p:=by
   apply Classical.byContradiction;intro k;exact hd fun s hs=>Classical.byContradiction fun k2=>k ⟨s,hs,k2⟩
  obtain⟨s,hs,k⟩:=this;have:=hp s hs;exact side s hs p (by grind) hp (by grind)
def aDi{c:aw}(hc:bP c)(ha:jb c)(hb:dw c=true){n:ab}{m:Rat}(hm: ∀v∈ey (c.map (·.l)),m<=n.dot v):3*m*l5 ab.cross c<=l5 (fun p q=>n.dot (p.add q)*p.cross q) c:=by
 obtain⟨s0,hs0⟩: ∃s,s∈c:=by
  have hne:=(qD hb).1
  cases c with
  |nil=>exact absurd J hne
  |cons s t=>exact⟨s,aQ⟩
 obtain⟨o,ho⟩: ∃o,o=s0.l.at s0.v.lo:=⟨_,rfl⟩;have ov:m<=n.dot o:=by rw[ho];exact hm _ (Fi hc ha hb hs0).1
 have oc:lD c o:=by rw[ho];exact((hc.edge s0 hs0).2 _).1 (KO (hc.edge s0 hs0).1 ((qD hb).2 s0 hs0).1)
 unfold l5;rw[Fm hc ha hb,Fm hc ha hb];have hsh:=HE hc ha hb fun q=>(n.dot (o.add q)-3*m)*o.cross q;have hp:0<=aE (fun s:ba=>(n.dot (s.l.at s.v.lo)+n.dot (s.l.at s.v.hi)+n.dot o-3*m)*((s.v.hi-s.v.lo)*s.l.value o)) c:=C7 fun s hs=>by
  obtain⟨e1,e2⟩:=Fi hc ha hb hs;have a1:=hm _ e1;have a2:=hm _ e2;have a3:=IR hc hb hs;have a4:=oc s hs;exact cD (by grind) (cD (by grind) a4)
 have e:aE (fun s:ba=>(n.dot (s.l.at s.v.lo)+n.dot (s.l.at s.v.hi)+n.dot o-3*m)*((s.v.hi-s.v.lo)*s.l.value o)) c=aE (fun s:ba=>((n.dot ((s.l.at s.v.lo).add (s.l.at s.v.hi))*(s.l.at s.v.lo).cross (s.l.at s.v.hi))+(-(3*m))*(s.l.at s.v.lo).cross (s.l.at s.v.hi))+(-1)*((n.dot (o.add (s.l.at s.v.hi))-3*m)*o.cross (s.l.at s.v.hi)-(n.dot (o.add (s.l.at s.v.lo))-3*m)*o.cross (s.l.at s.v.lo))) c:=q8 fun s hs=>by
  have h1:=lm (hc.ok s hs).ne s.v.lo;rw[PK s];have e2:(s.v.hi-s.v.lo)*s.l.value o=(bF (s.l.at s.v.lo) s.l.dir (s.v.hi-s.v.lo)).cross o+o.cross (s.l.at s.v.lo)+(s.l.at s.v.lo).cross (bF (s.l.at s.v.lo) s.l.dir (s.v.hi-s.v.lo)):=by
   rw[iG] at*;generalize s.l.at s.v.lo=q at*;generalize s.v.hi-s.v.lo=T at*;unfold bF aa.dir ab.cross;grind
  rw[e2];generalize bF (s.l.at s.v.lo) s.l.dir (s.v.hi-s.v.lo)=r;generalize s.l.at s.v.lo=q;unfold ab.cross ab.dot ab.add;grind
 rw[e,B9,B9,A',A',hsh] at hp;grind
def boxL(s p:ab):ab:=⟨if p.x<s.x then p.x else s.x,if p.y<s.y then p.y else s.y⟩
def boxH(s p:ab):ab:=⟨if s.x<p.x then p.x else s.x,if s.y<p.y then p.y else s.y⟩
theorem ay.boxL{s p:ab}{i:Nat}(h:ay s i)(k:ay p i):ay (boxL s p) i:=by
 unfold Sx.boxL;exact⟨by show BQ (if p.x<s.x then p.x else s.x) i;split;exact k.x;exact h.x,by show BQ (if p.y<s.y then p.y else s.y) i;split;exact k.y;exact h.y⟩
theorem ay.boxH{s p:ab}{i:Nat}(h:ay s i)(k:ay p i):ay (boxH s p) i:=by
 unfold Sx.boxH;exact⟨by show BQ (if s.x<p.x then p.x else s.x) i;split;exact k.x;exact h.x,by show BQ (if s.y<p.y then p.y else s.y) i;split;exact k.y;exact h.y⟩
theorem By{f:ab->ab->ab}{i:Nat}(hf: ∀s p,ay s i->ay p i->ay (f s p) i): ∀{l:List (ab×ab)} {a:ab},ay a i->(∀x∈l,ay x.1 i)->ay (l.foldl (fun s x=>f s x.1) a) i
 |[],_,h,_=>h
 |x::t,a,h,k=>By (l:=t) (a:=f a x.1) hf (hf a x.1 h (k x aQ)) fun y hy=>k y (aJ _ hy)
def K7{α β:Type}(f:β->α->β)(a:β){l:List α}{k:Nat}{x:α}(h:l[k]? =some x):(l.take (k+1)).foldl f a=f ((l.take k).foldl f a) x:=by
 have:l.take (k+1)=l.take k++[x]:=by rw[iQ,h];rfl
 rw[this,pL];rfl
def qA(cs:List aw):ab:=((ey ((cs.getD 0 []).map (·.l))).getD 0 ⟨0,0⟩)
def mO(t:Tr):ab:=(cd (bH (aO t))).foldl (fun s x=>boxL s x.1) (qA (aO t))
def nf(t:Tr):ab:=(cd (bH (aO t))).foldl (fun s x=>boxH s x.1) (qA (aO t))
def Yj{k0:Nat}{t:Tr}(h:gP k0 t)(hk0:k0<=900)(hbd:(aO t).all dw=true)(hm:lB (aO t))(h0l:(aO t).length≠0):PF GB prog 29 [eA t] (.tp [jG (mO t),jG (nf t), .v .nilIface]):=by
 obtain⟨cs,hcs⟩: ∃cs,cs=aO t:=⟨_,rfl⟩;obtain⟨L,hL⟩: ∃L,L=cd (bH cs):=⟨_,rfl⟩;have hms:=hm;rw[<-hcs] at hm h0l;have hml:(cs.map eC).length=cs.length:=aK ..;obtain⟨c0,hc0⟩: ∃u,cs[0]? =some u:=⟨_,aZ (by omega)⟩;have hcm:c0∈cs:=aT hc0;have hcq:c0∈aO t:=by rw[<-hcs];exact hcm
 have hve:=Ff (vJ h.ok c0 hcq) (vk h.ok c0 hcq) (dK.1 hbd c0 hcq);have h3:=Mv (vJ h.ok c0 hcq) (vk h.ok c0 hcq) (dK.1 hbd c0 hcq);obtain⟨v,hv⟩: ∃v,v=ey (c0.map (·.l)):=⟨_,rfl⟩;have hvl:0<v.length:=by rw[hv,hve,aK];exact h3
 obtain⟨p0,hp0⟩: ∃u,v[0]? =some u:=⟨_,aZ hvl⟩;have hf0:qA cs=p0:=by
  unfold qA;rw[aX,aX,hc0];show(ey (c0.map (·.l)))[0]?.getD _=_;rw[<-hv,hp0];rfl
 have hbp0:ay p0 1200:=Jr (fun l hl=>by
  obtain⟨s,hs,rfl⟩:=bQ.1 hl;exact hm.ed.lb c0 hcm s hs) _ (by rw[<-hv];exact aT hp0)
 obtain⟨Lo,hLo⟩: ∃S:Nat->ab,S=fun k=>(L.take k).foldl (fun s x=>boxL s x.1) p0:=⟨_,rfl⟩;obtain⟨Hi,hHi⟩: ∃S:Nat->ab,S=fun k=>(L.take k).foldl (fun s x=>boxH s x.1) p0:=⟨_,rfl⟩;have hpt: ∀x∈L,ay x.1 1200:=fun x hx=>(hm.ed.pt x (by rw[<-hL];exact hx)).1;have hl0:Lo 0=p0:=by rw[hLo];rfl
 have hh0:Hi 0=p0:=by rw[hHi];rfl
 have hLk: ∀k,ay (Lo k) 1200:=fun k=>by rw[hLo];exact By (fun s p=>ay.boxL) hbp0 fun x hx=>hpt x (dZ hx)
 have hHk: ∀k,ay (Hi k) 1200:=fun k=>by rw[hHi];exact By (fun s p=>ay.boxH) hbp0 fun x hx=>hpt x (dZ hx)
 refine Du func29 J J ntmps29 J J (fun C h0=>?_);refine cl (fu:=⟨0⟩) J (CJ h hk0 hbd) J ?_;refine aj 13 (.d (.tp [.sl (cs.map eC), .v .nilIface])) J (by rw[hcs]) ?_;refine gx J ?_;refine br J J J (fun hc22=>absurd hc22 (by rw[hml];omega)) (fun hc22=>?_) (v1:=fun hc22=>absurd hc22 (by rw[hml];omega));refine ix _ J (PH hc0) J<|cl (fu:=⟨0⟩) J (Li (c:=c0) (hm.ed.lb c0 hcm) (hm.ed.sh c0 hcm)) J<|?_;refine aj 32 (.d (.sl (v.map eZ))) J (by rw[hv]) ?_;refine gx J<|ix _ J (PH hp0) J<|?_;refine EW J J J CZ (fun _=>J) (fun GB1 pv hg1 hpv=>?_);refine px 2 2000002 h0.fx J<|px 3 2000003 h0.fx J<|px 7 2000007 h0.fx J<|px 8 2000008 h0.fx J ?_;refine FM (σ:=Empty) (fun k=>[(2000002,some (.o 65 [.ff, .nl, .nl, .ff, .nl, .nl] true)),(2000003,some (.o 65 [.ff, .nl, .nl, .ff, .nl, .nl] true)),(2000007,some (.o 146 [.d (vI (ce (Lo k).x)), .d (vI (b9 (Lo k).x)), .d (cg (Lo k).x), .d (vI (ce (Lo k).y)), .d (vI (b9 (Lo k).y)), .d (cg (Lo k).y)] true)),(2000008,some (.o 146 [.d (vI (ce (Hi k).x)), .d (vI (b9 (Hi k).x)), .d (cg (Hi k).x), .d (vI (ce (Hi k).y)), .d (vI (b9 (Hi k).y)), .d (cg (Hi k).y)] true))]) (fun _=>True) (fun _=>[]) (fun _=>False) [(2, .ov 2000002 0),(3, .ov 2000003 0),(7, .ov 2000007 0),(8, .ov 2000008 0)]
  h0 J (D5 (cs:=cs) hm.ed.lb hm.ed.sh hm.ed.ln hm.ed.pt (by decide)) (.cons hpv .nil) ⟨J,J,J,J,trivial⟩ J (by rw[hl0,hh0];exact⟨J,J,J,J,trivial⟩) trivial Dm J J (fun k e GB' hE hg hp=>?_) (fun D hD hx hp=>?_) (fun D s hD hx hq=>hq.elim)
 ·obtain⟨x,hx,rfl⟩:=Ea hE
  refine⟨?_,?_,fun C2=>?_,fun C2=>?_⟩
  rotate_left 2
  ·refine gx J<|Dk J J J ⟨J,J,J⟩ J ?_
   exact atR
  ·rw[<-hL] at hx
   haveI k1:=hLk k;haveI k2:=hHk k;haveI k3:=hpt x (aT hx);haveI:=k1.x;haveI:=k1.y;haveI:=k2.x;haveI:=k2.y;haveI:=k3.x;haveI:=k3.y;refine gx J<|jH 0 (e:=146) (len:=2) (s:=6) J (by kernel_rfl) (by kernel_rfl) (by decide) J<|?_;refine cl J (IE (p:=(Lo k).x) (q:=x.1.x) (i:=1200) (j:=1200)) J<|cl J (IE (p:=(Lo k).y) (q:=x.1.y) (i:=1200) (j:=1200)) J<|?_;refine cl J (Hv (p:=(Hi k).x) (q:=x.1.x) (i:=1200) (j:=1200)) J<|cl J (Hv (p:=(Hi k).y) (q:=x.1.y) (i:=1200) (j:=1200)) J<|?_;have e1:Lo (k+1)=boxL (Lo k) x.1:=by rw[hLo];exact K7 _ _ hx
   have e2:Hi (k+1)=boxH (Hi k) x.1:=by rw[hHi];exact K7 _ _ hx
   exact rq trivial (by rw[e1,e2];exact⟨J,J,J,J,trivial⟩)
 ·have eN:((cd (bH cs)).map uA).length=L.length:=by rw[aK,<-hL]
  have ea:Lo L.length=mO t:=by rw[hLo];show List.foldl _ _ (List.take _ _)=_;rw[dJ];unfold mO;rw[<-hcs,hf0,<-hL]
  have eb:Hi L.length=nf t:=by rw[hHi];show List.foldl _ _ (List.take _ _)=_;rw[dJ];unfold nf;rw[<-hcs,hf0,<-hL]
  haveI:ay (mO t) 1200:=by rw[<-ea];exact hLk _
  haveI:ay (nf t) 1200:=by rw[<-eb];exact hHk _
  rw[eN,ea,eb];refine gx J<|cl J (KL (p:=mO t) (i:=1200)) J<|cl J (KL (p:=nf t) (i:=1200)) J<|?_;exact Eq hD hx J J
def aDC{ai al ae au:Addr}(hE:Ib GB ai al ae au){k0:Nat}{t:Tr}(h:gP k0 t)(hk0:k0<=900)(hbd:(aO t).all dw=true)(h0:(aO t).length=0):PF GB prog 29 [eA t] (.tp [QB,QB,vC ae]):=by
 have hml:((aO t).map eC).length=(aO t).length:=aK ..;refine fn func29 J J ntmps29 J J (fun C=>?_);refine cl (fu:=⟨21⟩) J (CJ h hk0 hbd) J<|?_;refine aj 24 (.d (vI ((aO t).length:Nat))) J (by rw[hml]<;>rfl) ?_;refine gx (fu:=⟨0⟩) J<|cB J (by show some (decide _)=some true;rw[decide_eq_true (by omega)]) J<|gl J hE.ErrEmpty J<|?_;exact rz J J
def ui(cs:List (List aa)):List ab:=cs.flatMap ey
def awT(v:List ab):(mA v).map (·.1)=v:=by
 unfold mA;rw[pU];apply jW;intro i;rw[cV];by_cases h:i<v.length
 ·rw[oR h,aZ h]
  show some (v.getD i ⟨0,0⟩)=_;rw[aX,aZ h];rfl
 ·rw[cM (by simpa using h),cM (by omega)];rfl
def MJ(cs:List (List aa)):(cd cs).map (·.1)=ui cs:=by
 unfold cd ui;rw[List.map_flatMap];exact HO fun c _=>awT _
def loS(W:List ab)(n:Nat):ab:=if n=0 then⟨0,0⟩ else(W.take n).foldl boxL (W.getD 0 ⟨0,0⟩)
def hiS(W:List ab)(n:Nat):ab:=if n=0 then⟨0,0⟩ else(W.take n).foldl boxH (W.getD 0 ⟨0,0⟩)
end Go.Sx
end
