import Derived.Test.YtefoocgiaegobaaGreatDoorPc13
set_option linter.all false
set_option maxHeartbeats 4000000
set_option maxRecDepth 100000
section
namespace Go.Sx
open Go Go.Proofs Tryz
variable {GB:Gh}
def qP(l:List aa):dq 6 (l.map eZ):=fun d hd=>by
 obtain⟨x,_,rfl⟩:=bY.1 hd;exact⟨J,J⟩
instance aw.negp (p:aa) (i:Nat) [h:aw p i]:aw (d4 p) i:=⟨inferInstanceAs (BQ (-p.x) i),inferInstanceAs (BQ (-p.y) i)⟩
instance aw.prip (l:ab) [LB l]:aw (cA l.dir) 500:=by
 have h:=(inferInstance:aw (l.dir.scale (rgcd l.dir.x l.dir.y)⁻¹) _);exact⟨h.x.mono (by decide),h.y.mono (by decide)⟩
def I9{p:aa}{i:Nat}[h:aw p i](hi:i<=900000000:=by decide):PF GB prog 320 [eZ p] (eZ (d4 p)):=by
 refine fn func320 J J ntmps320 J J (fun C=>?_);refine cl J (lO (q:=p.x) (i:=i) hi) J<|cl J (lO (q:=p.y) (i:=i) hi) J<|?_;exact rz J J
def Hz{p:aa}{i:Nat}[h:aw p i](hi:i<=900000000:=by decide):PF GB prog 242 [eZ p] (eZ (l5 p)):=by
 refine fn func242 J J ntmps242 J J (fun C=>?_);refine cl J (lO (q:=p.y) (i:=i) hi) J<|?_;exact rz J J
def QU{p:aa}{i:Nat}[h:aw p i](hi:i<=1000000:=by decide):PF GB prog 319 [eZ p] (eZ (cA p)):=by
 refine fn func319 J J ntmps319 J J (fun C=>?_);refine cl J (vg (p:=p.x) (q:=p.y) (i:=i) (j:=i) (by omega) (by omega)) J<|cl J (xi (q:=rgcd p.x p.y) (i:=i+i+(i+i)) (by omega)) J<|?_;refine cl J (uC (p:=p) (c:=(rgcd p.x p.y)⁻¹) (i:=i) (j:=i+i+(i+i)) (by omega) (by omega)) J<|?_;exact rz J J
def JL{q:Rat}{i:Nat}[h:BQ q i](hi:i<=400000000:=by decide):PF GB prog 198 [eR q] (eF q):=by
 haveI:BN q.num.natAbs i:=⟨h.hn⟩;haveI:BN q.den i:=⟨h.hd⟩;refine fn func198 J J ntmps198 J J (fun C=>?_);refine cl (fu:=⟨0⟩) J (qB (n:=decide (q.num<0)) (a:=q.num.natAbs) (d:=q.den) (i:=i) (j:=i) (by omega) (by omega)) J<|?_;refine aj 7 (.d (eF q)) J (by rw[jm,qS]) ?_;refine gx J<|?_;exact rz J J
def sG{p:aa}{i:Nat}[h:aw p i](hi:i<=400000000:=by decide):PF GB prog 110 [gh p] (eZ p):=by
 refine fn func110 J J ntmps110 J J (fun C=>?_);refine cl J (JL (q:=p.x) (i:=i) hi) J<|cl J (JL (q:=p.y) (i:=i) hi) J<|?_;exact rz J J
def N6(G:Gh)(y:Value)(h:Is G (.sl [.ag [vI (di 1),vI (c7 1),cH 1,vI 0,vI 0, .v (.pointer none)]]) y):Is G (.sl ((gz []).map eZ)) y:=by
 obtain⟨s,x,es,rfl,h1,h2⟩:=gP.1 h;obtain⟨v,m,rfl,k,h3⟩:=bD.1 h2
 cases cp.1 h3
 refine gP.2 ⟨s,x,_,J,h1, .cons ?_ .nil⟩;obtain⟨m4,rfl,g4⟩:=ef.1 k;obtain⟨v1,m1,rfl,k1,g1⟩:=bD.1 g4;obtain⟨v2,m2,rfl,k2,g2⟩:=bD.1 g1;obtain⟨v3,m3,rfl,k3,g3⟩:=bD.1 g2;obtain⟨m5,q5,g5⟩:=ef.1 (sI _ _ (ef.2 ⟨m3,rfl,g3⟩))
 cases q5
 exact ef.2 ⟨_,J, .cons k1 (.cons k2 (.cons k3 g5))⟩
def DI{ds:List aa}{k:Nat}{u w:aa}(h1:ds[k]? =some u)(h2:ds[(k+1)%ds.length]? =some w):pf ds k=if 0<Int.sign (u.cross w).num then u.add w else l5 u:=by
 unfold pf;rw[aJ,aJ,h1,h2];rfl
def IE(ds:List aa)(k:Nat):(List.range (k+1)).map (pf ds)=(List.range k).map (pf ds)++[pf ds k]:=by rw[List.range_succ,cX];rfl
def SO:PF GB prog 220 [.sl []] (.sl ((gz []).map eZ)):=by
 refine fn (fu:=⟨10⟩) func220 J J ntmps220 J J (fun C=>?_);refine iB J (by rfl) J<|cl J (tF (by omega)) J<|rf J J<|?_;exact ig J N6
def US{ds:List aa}{i:Nat}(h0:0<ds.length)(hb: ∀d∈ds,aw d i)(hn:ds.length<=10000000)(hi:i<=1000000:=by decide):PF GB prog 220 [.sl (ds.map eZ)] (.sl ((gz ds).map eZ)):=by
 have hml:(ds.map eZ).length=ds.length:=aX ..;refine fn (fu:=⟨10⟩) func220 J J ntmps220 J J (fun C=>?_);refine aj 8 (.d (vI (ds.length:Nat))) J (by rw[hml]<;>rfl) ?_;refine gx (fu:=⟨0⟩) J<|fq (fu:=⟨15⟩) J (by show some (decide _)=some false;rw[decide_eq_false (by omega)]) J<|?_;refine aj 14 (.d (vI (ds.length:Nat))) J (by rw[hml]<;>rfl) ?_;refine gx J<|?_;refine nr 3 3 141 6 J J J ?_;refine lp (X:=List aa×Nat) (fun⟨acc,k⟩=>[(15, .d (vI (k:Nat))),(3, .rw 3)]) (fun⟨acc,k⟩=>[(3,some (.b 141 6 (acc.map eZ) true))]) (fun⟨acc,k⟩=>acc=(List.range k).map (pf ds)/\k<=ds.length) (fun⟨acc,k⟩=>ds.length-k) ⟨[],0⟩ J ⟨J,bJ _⟩ (fun _=>J) (fun⟨acc,k⟩ hk=>?_)
 try dsimp only at hk⊢
 obtain⟨h1,h2⟩:=hk;have hal:acc.length=k:=by rw[h1,aX,pV]
 have ham:(acc.map eZ).length=acc.length:=aX ..;refine br J J J (fun hc16=>?_) (fun hc16=>?_)
 .
  obtain⟨u,hx⟩: ∃u,ds[k]? =some u:=⟨_,aQ (by omega)⟩;obtain⟨w,hw⟩: ∃w,ds[(k+1)%ds.length]? =some w:=⟨_,aQ (cV _ (by omega))⟩;haveI:=hb u (aU hx);haveI:=hb w (aU hw);refine ix (fu:=⟨13⟩) _ J (cO hx) J<|?_;refine aj 24 (.d (vI (ds.length:Nat))) J (by rw[hml]<;>rfl) ?_;refine gx (fu:=⟨1⟩) J<|?_;refine aj 25 (.d (vI (((k+1)%ds.length:Nat):Int))) J J ?_;refine gx J<|ix _ J (cO hw) J<|cl J (Dp (p:=u) (q:=w) (by omega) (by omega)) J<|cl J (jj (q:=u.cross w) (by omega)) J<|?_;refine br J J J (fun hc32=>?_) (fun hc32=>?_)
  .
   refine cl J (wV (p:=u) (q:=w) (by omega) (by omega)) J<|rf J J<|ap ((acc++[u.add w]).map eZ) J (by rw[cX]<;>rfl) (qP [u.add w]) J<|?_;refine fA 38 3 J ?_;exact at_ ⟨acc++[u.add w],k+1⟩ (by dsimp only;exact⟨⟨by rw[IE,DI hx hw,if_pos hc32,<-h1],by omega⟩,(by omega)⟩)
  .
   refine cl J (Hz (p:=u) (by omega)) J<|rf J J<|ap ((acc++[l5 u]).map eZ) J (by rw[cX]<;>rfl) (qP [l5 u]) J<|?_;refine fA 43 3 J ?_;exact at_ ⟨acc++[l5 u],k+1⟩ (by dsimp only;exact⟨⟨by rw[IE,DI hx hw,if_neg hc32,<-h1],by omega⟩,(by omega)⟩)
 .
  obtain rfl:k=ds.length:=by omega
  have hS:gz ds=acc:=by unfold gz;rw[if_neg (by omega),h1]
  refine jw 3 J ?_;exact rz J (by rw[hS];rfl)
def U9{ds:List aa}{i:Nat}(hb: ∀d∈ds,aw d i)(hn:ds.length<=10000000)(hi:i<=1000000:=by decide):PF GB prog 220 [.sl (ds.map eZ)] (.sl ((gz ds).map eZ)):=by
 cases ds with
 |nil=>exact SO
 |cons d ds=>exact US (i:=i) (Nat.zero_lt_succ _) hb hn hi
def fh(a b p:aa):Rat:=(b.x-a.x)*(p.y-a.y)-(b.y-a.y)*(p.x-a.x)
def tK(v w p:aa):Int:=(if v.y<=p.y/\ ¬w.y<=p.y/\0<fh v w p then 1 else 0)-(if¬v.y<=p.y/\w.y<=p.y/\fh v w p<0 then 1 else 0)
def Mu(v w q p:aa):Prop:= ∀s t:Rat,0<=s->s<=1->0<=t->t<=1->kg v w s≠kg q p t
def bI(b:Prop)[Decidable b]:Int:=if b then 1 else 0
def X4(q p u:aa):Int:=if q.y<u.y/\u.y<=p.y/\fh q p u<0 then 1 else 0
def xm(r:List ZP)(p:aa):Nat->Int
 |0=>0
 |k+1=>xm r p k+tK (r.getD k (0,0)).q (dF r k).q p
def W7(r:List ZP)(q p:aa):Prop:= ∀k,k<r.length->Mu (r.getD k (0,0)).q (dF r k).q q p
def KZ(a b c:aa):oz a b c=(fh a b c).num.sign:=by
 unfold oz fh aa.cross cC;congr 2;grind
def Br(a b:Rat):bt a b<=0↔a<=b:=by
 have:=IK a b;constructor
 ·intro h
  by_cases q:b<a
  ·have:=this.2 q;omega
  ·grind
 ·intro h
  by_cases q:0<bt a b
  ·have:=this.1 q;grind
  ·omega
def NC(v w p:aa):lB v w p=tK v w p:=by
 unfold lB tK;simp only[KZ,um,se,Br]
def z'(r:List ZP)(p:aa): ∀k,jE r p k=xm r p k
 |0=>rfl
 |k+1=>by rw[jE,xm,z' r p k,NC]
def LW(R:Rat)(p:aa):Prop:=p.x< -R\/R<p.x\/p.y< -R\/R<p.y
structure WE (v:bi):Prop where
 lo:BQ v.lo 1200
 hi:BQ v.hi 1200
def Wl(l:List bi)(k:Nat):List Rat:=BJ (l.take k)
def Xa(o:List Rat)(v:bi)(j:Nat):List Rat:=if j=0 then o else if j=1 then(if v.nl then o else tw v.lo o) else F0 o v
def Ya(v:bi)(j:Nat):Rat:=if j=0 then v.lo else v.hi
def WW(v:bi)(j:Nat):Bool:=if j=0 then v.nl else v.nh
def WB(l m:ab)(side:Int):DV:= .tp [.sl ((Fc l m side).map eV),vB (Jg l m)]
def rI(f:aI):DV:= .ag [.v (.bool (decide (f.l.a<0))),dN f.l.a.natAbs, .v (.bool (decide (f.l.b<0))),dN f.l.b.natAbs, .v (.bool (decide (f.l.c<0))),dN f.l.c.natAbs, .v (.bool (decide (f.v.lo.num<0))),dN f.v.lo.num.natAbs,dD f.v.lo.den, .v (.bool (decide (f.v.hi.num<0))),dN f.v.hi.num.natAbs,dD f.v.hi.den, .v (.bool f.v.nl), .v (.bool f.v.nh)]
def M7(fs:List aI):dq 14 (fs.map rI):=fun d hd=>by
 obtain⟨u,_,rfl⟩:=bY.1 hd;exact⟨rfl,rfl⟩
theorem uv{p:ZP}(h:ZP.le 100 p):aw p.q 12:=by
 haveI:BI p.1 11:=gg (by have:=h.1;omega) (by decide);haveI:BI p.2 11:=gg (by have:=h.2;omega) (by decide);exact(inferInstance:aw (iP p.1 p.2) 12)
def T4{v w:ZP}(hv:ZP.le 100 v)(hw:ZP.le 100 w)(h:v≠w):PF GB prog 173 [eP v.q,eP w.q] (.tp [rI (bP v w),vB true]):=by
 have hne: ¬(w.1=v.1/\w.2=v.2):=fun e=>h (Prod.ext e.1.symm e.2.symm);obtain⟨hlb,hlo⟩:=GC (m:=v.1) (n:=v.2) (p:=w.1) (q:=w.2) (by have:=hv.1;omega) (by have:=hv.2;omega) (by have:=hw.1;omega) (by have:=hw.2;omega) hne;haveI:=hlb;haveI:=uv hv;haveI:=uv hw;refine fn func173 J J ntmps173 J J (fun C=>?_);refine cl (fu:=⟨3⟩) J (TQ (m:=v.1) (n:=v.2) (m':=w.1) (n':=w.2) (by have:=hv.1;omega) (by have:=hv.2;omega) (by have:=hw.1;omega) (by have:=hw.2;omega) (fun e=>hne ⟨e.1.symm,e.2.symm⟩)) J<|?_;refine ke 13 J ?_;refine gx J<|cl J (EJ (l:=fp v.1 v.2 w.1 w.2) (p:=v.q) hlo.ne) J<|cl J (EJ (l:=fp v.1 v.2 w.1 w.2) (p:=w.q) hlo.ne) J<|?_;exact rz J J
def Xc(v w:bi):bi:=⟨v.lo,w.hi,v.nl,v.nh⟩

section
variable {GB:Gh} {C:aA} {n:Nat} {Q0:Exit->Act->World->Prop} {fr fr':ao} {own own':aB} {cf cf':Cf} {vc:List Prop}
def MY{lk:LK}{bk:BM}{dst:Option Nat}{t ty':TypeId}{pos:String}{af:Array Edge}{gd:Option (Nat×Bool)}{x y:Operand}{e len s nm off:Nat}{k:IntKind}{i:Nat}(hu:prog.underlying t=some (.array len e))(hs:(prog.info? e).map (·.size)=some s)
  (e1:aC lk x=some (.ov nm off))(e2:aC lk y=some (.d (.v (.int k (i:Nat)))))(hi:i<len):bm prog GB C n lk bk ⟨dst, .indexAddr t x y,ty',pos,af,gd⟩ (.ov nm (off+i*s)) [] []:= .yd fun ρ G ov a w r=>by
 obtain⟨p,h1,h2⟩:=r.ev e1;obtain⟨q,h3,h4⟩:=r.ev e2;rw[cj] at h4;subst h4;obtain⟨b,hb,rfl⟩:=h2;refine⟨_,⟨b,hb,J⟩,?_⟩;obtain⟨j,hj,hjs⟩: ∃j,prog.info? e=some j/\j.size=s:=by
  cases h:prog.info? e with
  |none=>rw[h] at hs;cases hs
  |some j=>rw[h] at hs;exact⟨j,J,by simpa using hs⟩
 intro a' w' hf hh;simp only[execOp,aP hf h1,aP hf h3];have:(Instr.indexAt t (.pointer (some ⟨b,off,none⟩)) (.int k (i:Nat))).run prog w'= .ok (.pointer (some ⟨b,off+i*s,none⟩)) w':=by
  unfold Instr.indexAt;show(underlying t>>=_).run prog w'=_;rw[aE (mf hu w')];show(underlying t>>=_).run prog w'=_;rw[aE (mf hu w')];have h0:0<=((i:Nat):Int):=Int.natCast_nonneg i;have h1:((i:Nat):Int)<((len:Nat):Int):=by omega
  simp only[h0,h1,and_self,if_true];show(sizeOf e>>=_).run prog w'=_;rw[aE (qf hj w'),mO,hjs,bT];rfl
 exact cv this
def Iw(fr:ao)(cf:Cf):Option (TypeId×Nat×Nat×Int):=match bw fr cf with
 |some ⟨_, .indexAddr t x y,_,_,_,_⟩=>match aC (ba fr cf) x with
  |some (.ov nm off)=>match aC (ba fr cf) y with
   |some (.d (.v (.int _ i)))=>some (t,nm,off,i)
   |_=>none
  |_=>none
 |_=>none
def wz[fu:Fu](i:Nat){t nm off e len s:Nat}(h:Iw fr cf=some (t,nm,off,((i:Nat):Int)))(hu:prog.underlying t=some (.array len e))(hs:(prog.info? e).map (·.size)=some s)(hi:i<len)
  (hgo:bG tt n fu.n fr own cf (.ov nm (off+i*s)) [] []=⟨vc,fr',own',cf'⟩)(k:ak prog GB C n Q0 fr' own' cf')
  (hv:ah vc:=by first|exact trivial|(simp only[ah];kernel_rfl)|(simp only[ah];omega)):ak prog GB C n Q0 fr own cf:=by
 unfold Iw at h;split at h<;>try (cases h;done)
 rename_i hh;split at h<;>try (cases h;done)
 rename_i hx;split at h<;>cases h;rename_i hy;exact us hh (MY hu hs hx hy hi) hgo hv k
def Qf{lk:LK}{bk:BM}{d s:Nat}{e t ty':TypeId}{pos:String}{af:Array Edge}{gd:Option (Nat×Bool)}{ps:List (Nat×Operand)}{fo:List (Nat×Nat×Nat)}{i:TI}{z zx:List FX}{k:Nat}{pre post:List DV}(hi:dO prog t=some i)(hk:i.k= .st fo)(hz:i.z=some z)
  (hb:om lk fo z ps=some zx)(h0:zx[k]? =some .nl)(h1:gj (zx.take k)=some pre)(h2:gj (zx.drop (k+1))=some post):bm prog GB C n lk bk ⟨some d, .build t ⟨ps⟩,ty',pos,af,gd⟩ (.bx false pre d post) [(d,some (.b e s [] true))] [d]:=by
 intro hd tl tb K' s1 s2 hf hk';refine⟨fun ρ G ov a w r Q=>?_⟩;obtain⟨v,hv,hv'⟩:=tM hi hz;have:=Kw hi hk;have hsp:zx=zx.take k++ .nl::zx.drop (k+1):=by
  obtain⟨hk1,hk2⟩:=aL.1 h0
  conv=>lhs;rw[<-lV k zx,bS hk1,hk2]
 obtain⟨l,h1',h2'⟩:=xR (r.mono s1 s2) (fo:=fo) ps _ _ _ hb (hv' ρ G);rw[hsp] at h2';obtain⟨m1,m2',rfl,k1,y,m2,rfl,k2,k3⟩:=Ku h2'
 cases (show y= .slice none 0 0 from k2)
 have hy:Yd prog C (b9 a) ov G ⟨some d, .build t ⟨ps⟩,ty',pos,af,gd⟩ (.agg ⟨m1++Value.slice none 0 0::m2⟩):=K4 h1';have r3:=r.new' (x:=⟨none,0,0⟩) (B':= .b e s [] true) (os:=[]) (ov':=ov) (f:= .bx false pre d post) (y:= .agg ⟨m1++Value.slice none 0 0::m2⟩) hf (bg.refl G) r.h
  ⟨[],by simp only[if_true];exact .inl ⟨J,J,J⟩, .nil,by simp,fun _ o ho=>by cases ho⟩ (fun o ho=>by cases ho) (fun m B _ _ o ho _=>⟨ho,by simp⟩)
  ⟨m1,m2,by simp,od k1 h1,od k3 h2⟩ (r.putA _ hd)
 exact kr (hy a w (co a) r.h) (hk'.run _ G ov _ w r3)
def DJ(fr:ao)(cf:Cf):Option (Nat×List FX):=match bw fr cf with
 |some ⟨some d, .build t ⟨ps⟩,_,_,_,_⟩=>match cd tt t with
  |some ⟨.st fo,_,some zx,_⟩=>match om (ba fr cf) fo zx ps with
   |some l=>some (d,l)
   |none=>none
  |_=>none
 |_=>none
def Rv[fu:Fu]{d:Nat}{zx:List FX}(e s kk:Nat)(pre post:List DV)(h:DJ fr cf=some (d,zx))(h0:zx[kk]? =some .nl)(h1:gj (zx.take kk)=some pre)(h2:gj (zx.drop (kk+1))=some post)(hgo:bG tt n fu.n fr own cf (.bx false pre d post) [(d,some (.b e s [] true))] [d]=⟨vc,fr',own',cf'⟩)(k:ak prog GB C n Q0 fr' own' cf')
  (hv:ah vc:=by first|exact trivial|(simp only[ah];kernel_rfl)|(simp only[ah];omega)):ak prog GB C n Q0 fr own cf:=by
 unfold DJ at h;split at h<;>try (cases h;done)
 rename_i hh;split at h<;>try (cases h;done)
 rename_i hT;split at h<;>cases h;rename_i hb;exact us hh (Qf (dG _ _ hT) J J hb h0 h1 h2) hgo hv k
end
def X2(f:aI)(m:ab)(k:Nat):List aI:=if k=0 then [] else xz f m 1
def XJ(f:aI)(m:ab)(k:Nat):List aI:=if k<=1 then [] else xz f m (-1)
def ew(p:ZP):DV:=eP p.q
def gk(r:List ZP):DV:= .sl (r.map ew)
def A7(l:List ZP):dq 6 (l.map ew):=fun d hd=>by
 obtain⟨u,_,rfl⟩:=bY.1 hd;exact⟨rfl,rfl⟩
def ES(l:List (List ZP)):dq 1 (l.map gk):=fun d hd=>by
 obtain⟨u,_,rfl⟩:=bY.1 hd;exact⟨rfl,rfl⟩
def wU{r:List ZP}{i:Nat}(h:i<r.length):(r.map ew)[((i:Nat):Int).toNat]? =some (ew (r.getD i (0,0))):=by
 rw[bT,fW,aJ,aQ h];rfl
def Bt{r:List ZP}{i:Nat}(h:i<r.length):(r.map ew)[(((i+1)%r.length:Nat):Int).toNat]? =some (ew (dF r i)):=wU (cV _ (by omega))
def PJ(v w p:aa):(lB v w p).natAbs<=1:=by
 unfold lB;split<;>split<;>decide
def Al(r:List ZP)(p:aa): ∀k,(jE r p k).natAbs<=k
 |0=>aS _
 |k+1=>by rw[jE];have:=Al r p k;have:=PJ (r.getD k (0,0)).q (dF r k).q p;omega
def La{r:List ZP}(h:dt r):PF GB prog 82 [.sl (r.map ew)] (.sl ((eh r).map rI)):=by
 have hm:=jI ew r;have h3:=h.n3;have h6:=h.n6;refine fn (fu:=⟨15⟩) func82 J J ntmps82 J J (fun C=>?_);refine aj 8 (.d (vI (r.length:Nat))) J (by rw[hm]<;>rfl) ?_;refine gx J<|?_;refine nr 3 3 161 14 J J J ?_;refine lp (X:=Nat) (fun k=>[(9, .d (vI (k:Nat))),(3, .rw 3)]) (fun k=>[(3,some (.b 161 14 ((gp r k).map rI) true))]) (fun k=>k<=r.length) (fun k=>r.length-k) 0 J (bJ _) (fun _=>J) (fun k hk=>?_);have hel:=fun hh=>(AZ (k:=k) h hh).1;refine br J J J (fun hc10=>?_) (fun hc10=>?_)
 .
  have hkr:k<r.length:=by omega
  have hel:=hel (by omega);have hem:=jI rI (gp r k);refine ix (fu:=⟨7⟩) _ J (wU hkr) J<|?_;refine aj 22 (.d (vI ((k+1)%r.length:Nat))) J (by rw[hm]<;>rfl) ?_;refine gx J<|ix _ J (Bt hkr) J<|cl J (T4 (v:=r.getD k (0,0)) (w:=dF r k) (h.le _ (pD hkr)) (h.le _ (rm hkr)) (h.ne k hkr)) J<|?_;refine rf J J<|ap ((gp r (k+1)).map rI) J (by rw[gp,cX];rfl) (M7 [bP (r.getD k (0,0)) (dF r k)]) J<|?_;refine fA 31 3 J ?_;exact at_ (k+1) ⟨(by omega),(by omega)⟩
 .
  obtain rfl:k=r.length:=by omega
  refine jw 3 J ?_;exact rz J J
def Py{r:List ZP}{p:aa}{i:Nat}[hp:aw p i](h:dt r)(hi:i<=80000:=by decide):PF GB prog 140 [.sl (r.map ew),eP p] (vI (f9 r p)):=by
 have hm:=jI ew r;have h3:=h.n3;have h6:=h.n6;refine fn (fu:=⟨16⟩) func140 J J ntmps140 J J (fun C=>?_);refine aj 12 (.d (vI (r.length:Nat))) J (by rw[hm]<;>rfl) ?_;refine gx J<|?_;refine lp (X:=Nat×Int) (fun⟨k,c⟩=>[(13, .d (vI (k:Nat))),(5, .d (vI c))]) (fun⟨k,c⟩=>[]) (fun⟨k,c⟩=>c=jE r p k/\k<=r.length) (fun⟨k,c⟩=>r.length-k) (0,0) J ⟨J,bJ _⟩ (fun _=>J) (fun⟨k,c⟩ hk=>?_);dsimp only at hk⊢;obtain⟨h1,h2⟩:=hk;have hcl:c.natAbs<=k:=by rw[h1];exact Al r p k
 refine br J J J (fun hc14=>?_) (fun hc14=>?_)
 .
  have hkr:k<r.length:=by omega
  obtain⟨v,hv⟩: ∃v,v=r.getD k (0,0):=⟨_,rfl⟩;obtain⟨w,hw⟩: ∃v,v=dF r k:=⟨_,rfl⟩;haveI hvb:aw v.q 12:=by rw[hv];exact uv (h.le _ (pD hkr))
  haveI hwb:aw w.q 12:=by rw[hw];exact uv (h.le _ (rm hkr))
  refine ix (fu:=⟨1⟩) _ J (wU hkr) J<|?_;refine aj 19 (.d (eP v.q)) J (by rw[hv];rfl) ?_;refine gx (fu:=⟨6⟩) J<|?_;refine aj 25 (.d (vI ((k+1)%r.length:Nat))) J (by rw[hm]<;>rfl) ?_;refine gx J<|ix (fu:=⟨1⟩) _ J (Bt hkr) J<|?_;refine aj 27 (.d (eP w.q)) J (by rw[hw];rfl) ?_;refine gx J<|cl J (sV (a:=v.q.y) (b:=p.y) (i:=12) (j:=i) (by decide) (by omega)) J<|cl (fu:=⟨9⟩) J (sV (a:=w.q.y) (b:=p.y) (i:=12) (j:=i) (by decide) (by omega)) J<|?_;rcases(show(bt v.q.y p.y<=0/\bt w.q.y p.y<=0)\/(bt v.q.y p.y<=0/\ ¬bt w.q.y p.y<=0)\/(¬bt v.q.y p.y<=0/\bt w.q.y p.y<=0)\/(¬bt v.q.y p.y<=0/\ ¬bt w.q.y p.y<=0) by omega) with⟨ca,cb⟩|⟨ca,cb⟩|⟨ca,cb⟩|⟨ca,cb⟩
  .
   refine iB (fu:=⟨3⟩) J (by show some (decide _)=some true;rw[decide_eq_true (by omega)]) J<|fq (fu:=⟨15⟩) J (by show some (decide _)=some false;rw[decide_eq_false (by omega)]) J<|?_;refine fq (fu:=⟨20⟩) J (by show some (decide _)=some false;rw[decide_eq_false (by omega)]) J<|?_;exact at_ (k+1,c) (by dsimp only;exact⟨⟨by rw[jE,<-h1,<-hv,<-hw];unfold lB;split<;>split<;>omega,by omega⟩,(by omega)⟩)
  .
   refine iB (fu:=⟨3⟩) J (by show some (decide _)=some true;rw[decide_eq_true (by omega)]) J<|iB J (by show some (decide _)=some true;rw[decide_eq_true (by omega)]) J<|?_;refine cl J (Az (a:=v.q) (b:=w.q) (c:=p) (i:=12) (j:=12) (k:=i) (by decide) (by decide) hi) J<|?_;refine br (fu1:=⟨10⟩) (fu2:=⟨6⟩) J J J (fun hc51=>?_) (fun hc51=>?_)
   .
    refine fq J (by show some (decide _)=some false;rw[decide_eq_false (by omega)]) J<|?_;exact at_ (k+1,c+1) (by dsimp only;exact⟨⟨by rw[jE,<-h1,<-hv,<-hw];unfold lB;split<;>split<;>omega,by omega⟩,(by omega)⟩)
   .
    refine fq (fu:=⟨20⟩) J (by show some (decide _)=some false;rw[decide_eq_false (by omega)]) J<|?_;exact at_ (k+1,c) (by dsimp only;exact⟨⟨by rw[jE,<-h1,<-hv,<-hw];unfold lB;split<;>split<;>omega,by omega⟩,(by omega)⟩)
  .
   refine fq (fu:=⟨19⟩) J (by show some (decide _)=some false;rw[decide_eq_false (by omega)]) J<|iB (fu:=⟨2⟩) J (by show some (decide _)=some true;rw[decide_eq_true (by omega)]) J<|?_;refine iB J (by show some (decide _)=some true;rw[decide_eq_true (by omega)]) J<|cl J (Az (a:=v.q) (b:=w.q) (c:=p) (i:=12) (j:=12) (k:=i) (by decide) (by decide) hi) J<|?_;refine br (fu2:=⟨8⟩) J J J (fun hc65=>?_) (fun hc65=>?_)
   .
    exact at_ (k+1,c-1) (by dsimp only;exact⟨⟨by rw[jE,<-h1,<-hv,<-hw];unfold lB;split<;>split<;>omega,by omega⟩,(by omega)⟩)
   .
    exact at_ (k+1,c) (by dsimp only;exact⟨⟨by rw[jE,<-h1,<-hv,<-hw];unfold lB;split<;>split<;>omega,by omega⟩,(by omega)⟩)
  .
   refine fq (fu:=⟨19⟩) J (by show some (decide _)=some false;rw[decide_eq_false (by omega)]) J<|iB (fu:=⟨2⟩) J (by show some (decide _)=some true;rw[decide_eq_true (by omega)]) J<|?_;refine fq J (by show some (decide _)=some false;rw[decide_eq_false (by omega)]) J<|?_;exact at_ (k+1,c) (by dsimp only;exact⟨⟨by rw[jE,<-h1,<-hv,<-hw];unfold lB;split<;>split<;>omega,by omega⟩,(by omega)⟩)
 .
  obtain rfl:k=r.length:=by omega
  have hfin:f9 r p=c:=h1.symm;exact rz J (by rw[hfin];rfl)
def px(rs:List (List ZP)):List ab:=(ck rs).map aI.l
def Rx(rs:List (List ZP))(fill:Int):DV:= .ag [.sl (rs.map gk), .v (.int .i64 fill), .sl ((jr (px rs)).map eL)]
def JR{rs:List (List ZP)}{p:aa}(h: ∀r∈rs,dt r)(k:Nat):((rs.take k).foldl (fun n r=>n+f9 r p) 0).natAbs<=6*k:=by
 induction k with
 |zero=>rw[List.take_zero];exact bJ _
 |succ k ih=>
  rw[cJ,nV]
  cases e:rs[k]? with
  |none=>exact fQ ih (by omega)
  |some r=>
   have h1:(f9 r p).natAbs<=r.length:=Al r p r.length;have h2:=(h r (aU e)).n6;show(List.foldl _ 0 (rs.take k)+f9 r p).natAbs<=_;omega
def ic(r:List ZP):DV:= .sl ((r.map ZP.q).map gh)
def UU(l:List (List ZP)):dq 1 (l.map ic):=fun d hd=>by
 obtain⟨u,_,rfl⟩:=bY.1 hd;exact⟨rfl,rfl⟩
theorem zn{r:List ZP}(h: ∀p∈r,ZP.le 100 p): ∀p∈r.map ZP.q,aw p 1200:=fun p hp=>by
 obtain⟨z,hz,rfl⟩:=bY.1 hp;have:=uv (h z hz);exact⟨BQ.mono this.x (by decide),BQ.mono this.y (by decide)⟩
def Hv(r:List ZP):DV.sl ((r.map ZP.q).map eP)=gk r:=by unfold gk;rw[List.map_map];rfl
def IP{rs:List (List ZP)}{k:Nat}{r:List ZP}(h:rs[k]? =some r):ck (rs.take (k+1))=ck (rs.take k)++eh r:=by
 unfold ck;rw[cJ,h,List.flatMap_append];simp
def AW{rs:List (List ZP)}(h: ∀r∈rs,dt r)(k:Nat):(ck (rs.take k)).length<=6*k:=by
 have:=(pg (rs:=rs.take k) (fun r hr=>h r (fJ hr))).1;have h2:(rs.take k).length<=k:=by rw[bR];omega
 omega
def Ga{rs:List (List ZP)}{fill:Int}(h: ∀r∈rs,dt r)(hn:rs.length<=100):PF GB prog 24 [.sl (rs.map ic), .v (.int .i64 fill)] (Rx rs fill):=by
 have hm:=jI ic rs;refine fn (fu:=⟨8⟩) func24 J J ntmps24 J J (fun C=>?_);refine Rv (fu:=⟨14⟩) 62 1 0 [] [.v (.int .i64 fill), .sl []] J J J J J<|?_;refine aj 15 (.d (vI (rs.length:Nat))) J (by rw[hm]<;>rfl) ?_;refine gx J<|?_;refine nr 6 6 115 6 J J J ?_;refine lp (X:=Nat) (fun k=>[(16, .d (vI (k:Nat))),(6, .rw 6),(5, .ov 5 0)]) (fun k=>[(5,some (.o 44 [.rw 13, .d (.v (.int .i64 fill)), .d (.sl [])] true)),(13,some (.b 62 1 ((rs.take k).map gk) true)),(6,some (.b 115 6 (((ck (rs.take k)).map aI.l).map eL) true))]) (fun k=>k<=rs.length) (fun k=>rs.length-k) 0 J (bJ _) (fun _=>J) (fun k hk=>?_);refine br (fu2:=⟨0⟩) J J J (fun hc17=>?_) (fun hc17=>?_)
 .
  obtain⟨r,hz⟩: ∃s,rs[k]? =some s:=⟨_,aQ (by omega)⟩;have hr:=h r (aU hz);have hel:(eh r).length<=6:=by have:=(rQ hr).1;have:=hr.n6;omega
  have het:=AW h k;have hrl:((rs.take k).map gk).length=k:=by rw[aX,bR];omega
  refine ix _ J (cO hz) J<|cl (fu:=⟨0⟩) J (SJ (ps:=r.map ZP.q) (zn hr.le) (by rw[aX];have:=hr.n6;omega)) J<|?_;refine aj 21 (.d (gk r)) J (by rw[Hv]) ?_;refine gx J<|rf J J<|ap ((rs.take (k+1)).map gk) J (ye hz) (ES [r]) J<|cl (fu:=⟨1⟩) J (La (r:=r) hr) J<|?_;refine aj 30 (.d (vI ((eh r).length:Nat))) J (by rw[jI rI (eh r)]<;>rfl) ?_;refine gx J<|?_;rw[<-kY (ck (rs.take k)),<-List.take_zero (l:=eh r)];refine lp (X:=Nat) (fun j=>[(31, .d (vI (j:Nat))),(6, .rw 6)]) (fun j=>[(6,some (.b 115 6 (((ck (rs.take k)++(eh r).take j).map aI.l).map eL) true))]) (fun j=>j<=(eh r).length) (fun j=>(eh r).length-j) 0 J (bJ _) (fun _=>J) (fun j hk=>?_);have hml:(((ck (rs.take k)++(eh r).take j).map aI.l).map eL).length<=6*k+6:=by rw[aX,aX,bK,bR];omega
  refine br J J J (fun hc32=>?_) (fun hc32=>?_)
  .
   obtain⟨e,he⟩: ∃s,(eh r)[j]? =some s:=⟨_,aQ (by omega)⟩;refine ix _ J (cO he) J<|rf J J<|ap (((ck (rs.take k)++(eh r).take (j+1)).map aI.l).map eL) J (by rw[cJ,he];simp only[cX,fX];rfl) (kz [e.l]) J<|?_;refine fA 39 6 J ?_;exact at_ (j+1) ⟨(by omega),(by omega)⟩
  .
   obtain rfl:j=(eh r).length:=by omega
   rw[bN,<-IP hz];refine fA 26 13 J ?_;exact at_ (k+1) ⟨(by omega),(by omega)⟩
 .
  obtain rfl:k=rs.length:=by omega
  rw[bN];refine uq 6 J ?_;refine uq 13 J ?_;refine gx rfl<|cl rfl (Tj (ls:=px rs) (fun l hl=>by obtain⟨f,hf,rfl⟩:=bY.1 hl;exact((pg h).2 f hf).lb) (by unfold px;rw[aX];have:=(pg h).1;omega)) rfl<|?_;exact rz J J
def R4{rs:List (List ZP)}(h: ∀r∈rs,dt r)(hn:rs.length<=100):PF GB prog 16 [.sl (rs.map gk)] (.sl (rs.map ic)):=by
 have hm:=jI gk rs;refine fn (fu:=⟨15⟩) func16 J J ntmps16 J J (fun C=>?_);refine aj 7 (.d (vI (rs.length:Nat))) J (by rw[hm]<;>rfl) ?_;refine gx J<|?_;refine nr 3 3 48 1 J J J ?_;refine lp (X:=Nat) (fun k=>[(8, .d (vI (k:Nat))),(3, .rw 3)]) (fun k=>[(3,some (.b 48 1 ((rs.take k).map ic) true))]) (fun k=>k<=rs.length) (fun k=>rs.length-k) 0 J (bJ _) (fun _=>J) (fun k hk=>?_);have hml:((rs.take k).map ic).length<=k:=by rw[aX,bR];omega
 refine br J J J (fun hc9=>?_) (fun hc9=>?_)
 .
  obtain⟨r,hz⟩: ∃s,rs[k]? =some s:=⟨_,aQ (by omega)⟩;have hr:=h r (aU hz);refine ix (fu:=⟨1⟩) _ J (cO hz) J<|?_;refine aj 11 (.d (.sl ((r.map ZP.q).map eP))) J (by rw[Hv]) ?_;refine gx J<|cl J (El (ps:=r.map ZP.q) (zn hr.le) (by rw[aX];have:=hr.n6;omega)) J<|rf J J<|ap ((rs.take (k+1)).map ic) J (ye hz) (UU [r]) J<|?_;refine fA 16 3 J ?_;exact at_ (k+1) ⟨(by omega),(by omega)⟩
 .
  obtain rfl:k=rs.length:=by omega
  refine jw 3 J ?_;exact rz J (by rw[bN];rfl)

def p7:aa:=⟨mkRat 1 7,mkRat 1 5⟩
structure LP (l:ab):Prop where
 s:LS l
 p:0<l.value p7
def yF(es:List Int):Nat->Nat->List ab×Nat
 |0,a=>([],a)
 |i+1,a=>((lF es a).1::(yF es i (lF es a).2).1,(yF es i (lF es a).2).2)
def DX(es:List Int)(most a:Nat):List ab×Nat:=yF es (aq es ((most:Int)+1) a).1 (aq es ((most:Int)+1) a).2
def Hn(l:ab):ab:=if(l.value p7).num.sign<0 then l.rev else l
def V4(xs:List ab)(i:Nat):List ab:=(xs.take i).map Hn++xs.drop i
def XS(es:List Int)(a:Nat):List ab×Nat:=((DX es 3 a).1.map Hn,(DX es 3 a).2)

def TU(ds:List Int):dq 1 (ds.map vI):=fun d hd=>by
 obtain⟨n,_,rfl⟩:=bY.1 hd;exact⟨rfl,rfl⟩
def NG(es:List Int):(es.map vI).take (min es.length 400)=(es.take 400).map vI:=by
 rw[kK];rcases Nat.le_total es.length 400 with h|h
 ·rw[fV h,aT (by simp),aT (by simpa using h)]
 ·rw[Nat.min_eq_right h]
def MA{es:List Int}(hb:es.length<=1125899906842624):PN GB prog 15 [.sl (es.map vI)] 126 Unit (fun _=>[.sl ((es.take 400).map vI), .v (.int .i64 (0:Nat))]):=by
 have hel:(es.map vI).length=es.length:=by simp
 refine O4 func15 J J ntmps15 J J (fun C hmb=>?_);refine n7 0 (min es.length 400) ((es.take 400).map vI) J J (by rw[hel];show(if _ then _ else _:Int)=_;split<;>omega) (NG es) (TU _) (by omega) (by omega) J<|?_;exact OD () J J J J J


def Rq(p r:ZP):(ek p.q r.q<0↔iF p r<0)/\(ek p.q r.q=0↔iF p r=0):=by
 have e1: ∀a b:Int,bt (a:Rat) (b:Rat)<0↔a<b:=fun a b=>by rw[Nv,kM]
 have e2: ∀a b:Int,bt (a:Rat) (b:Rat)=0↔a=b:=fun a b=>by rw[qi,nX]
 have f1:=e1 p.1 r.1;have f2:=e2 p.1 r.1;have f3:=e1 p.2 r.2;have f4:=e2 p.2 r.2;show(ek ⟨(p.1:Rat),(p.2:Rat)⟩ ⟨(r.1:Rat),(r.2:Rat)⟩<0↔_)/\(ek ⟨(p.1:Rat),(p.2:Rat)⟩ ⟨(r.1:Rat),(r.2:Rat)⟩=0↔_);unfold ek iF;dsimp only;generalize bt (p.1:Rat) (r.1:Rat)=u at*;generalize bt (p.2:Rat) (r.2:Rat)=v at*;by_cases h:p.1<r.1
 ·rw[if_pos (by omega),if_pos h];omega
 ·by_cases h2:r.1<p.1
  ·rw[if_pos (by omega),if_neg h,if_pos h2];omega
  ·rw[if_neg (by omega),if_neg h,if_neg h2]
   by_cases h3:p.2<r.2
   ·rw[if_pos h3];omega
   ·rw[if_neg h3]
    split<;>omega
def Ia(x:ZP): ∀l:List ZP,c9 ek x.q (l.map ZP.q)=(gI x l).map ZP.q
 |[]=>rfl
 |u::t=>by
  obtain⟨h1,h2⟩:=Rq u x;rw[cZ,c9,gI,Ia x t];by_cases k1:iF u x<0
  ·rw[if_pos (h1.2 k1),if_pos k1];rfl
  ·rw[if_neg (fun e=>k1 (h1.1 e)),if_neg k1]
   by_cases k2:iF u x=0
   ·rw[if_pos (h2.2 k2),if_pos k2];rfl
   ·rw[if_neg (fun e=>k2 (h2.1 e)),if_neg k2];rfl
def Pb(l:List ZP):n5 ek (l.map ZP.q)=(kP l).map ZP.q:=by
 have key: ∀(l o:List ZP),(l.map ZP.q).foldl (fun out x=>c9 ek x out) (o.map ZP.q)=(l.foldl (fun out x=>gI x out) o).map ZP.q:=by
  intro l
  induction l with
  |nil=>intro o;rfl
  |cons x t ih=>intro o;rw[cZ,iK,iK,Ia,ih]
 exact key l []
def Ho(l:List ZP):(l.map ZP.q).map eP=l.map ew:=by rw[List.map_map];rfl
def IN{l:List ZP}(h: ∀p∈l,ZP.le 100 p)(hn:l.length<=100000):PF GB prog 90 [.sl (l.map ew)] (.sl ((kP l).map ew)):=by
 have:=SA (GB:=GB) (ps:=l.map ZP.q) (zn h) (by rw[aX];exact hn);rw[Pb,Ho,Ho] at this;exact this
def PC(u v:ZP):(aa.cross (iP u.1 u.2) (iP v.1 v.2))=((mF u v:Int):Rat):=by
 unfold aa.cross iP mF;push_cast;rfl
def Ah(u v:ZP):(aa.cross (iP u.1 u.2) (iP v.1 v.2)).num.sign≠0↔mF u v≠0:=by
 rw[PC,oU];exact not_congr gJ
def TM{α β:Type}(f:α->β)(l:List α):((l.map f).take (l.length-1)).drop 0=l.dropLast.map f:=by
 rw[gV,<-kK,List.dropLast_eq_take]
def Ie{l:List ZP}(h:0<l.length): ∃u,l.getLast? =some u/\l[l.length-1]? =some u/\l.getD (l.length-1) (0,0)=u:=by
 refine⟨l[l.length-1],?_,aQ (by omega),?_⟩
 ·rw[lW];exact aQ (by omega)
 ·rw[aJ,aQ (by omega)];rfl
def L9{l:List ZP}(h:0<l.length): ∃u,l[0]? =some u/\l.getD 0 (0,0)=u:=by
 refine⟨l[0],aQ (by omega),?_⟩;rw[aJ,aQ (by omega)];rfl
def wG{u p:ZP}:(u.1=p.1/\u.2=p.2)↔u=p:=⟨fun h=>Prod.ext h.1 h.2,fun h=>by rw[h];exact⟨J,J⟩⟩
def Lb{b:Nat}{es:List Int}(hes:es.length<=400){a:Nat}(ha:a<=es.length):PM GB prog 33 (gv [none] b) b 126 [.sl (es.map vI), .v (.int .i64 (a:Nat))] (gk (fg es a).1) [.sl (es.map vI), .v (.int .i64 ((fg es a).2:Nat))]:=by
 have hk0:=fH (n:=4) ha;refine qI (fu:=⟨6⟩) func33 J J ntmps33 J J (fun C b m lo hmb=>?_);refine mg (X:=Nat) (fun a2=>[]) (fun a2=>[(1000000,some (.o 126 [.d (.sl (es.map vI)), .d (.v (.int .i64 (a2:Nat)))] false))]) (fun a2=>fg es a=kI es a2/\a2<=es.length) [] [1000000] rfl ?_ (fun _=>J) (fun a2 ⟨hR,ha2⟩=>?_)
 .
  refine gx J<|cm J (fun b=>(lz (n:=4) hes ha (by decide) (by decide))) J<|?_;refine br J J J (fun hc15=>?_) (fun hc15=>?_)
  .
   have hx1:=fH (n:=5) hk0;have hy1:=fH (n:=5) hx1;have hz1:=fH (n:=4) hy1;have hw1:=fH (n:=4) hz1;have hl0:=iu (es:=es) (n:=5) (a:=(aq es 4 a).2) (by decide);have hl1:=iu (es:=es) (n:=5) (a:=(aq es 5 (aq es 4 a).2).2) (by decide);have hl2:=iu (es:=es) (n:=4) (a:=(aq es 5 (aq es 5 (aq es 4 a).2).2).2) (by decide);have hl3:=iu (es:=es) (n:=4) (a:=(aq es 4 (aq es 5 (aq es 5 (aq es 4 a).2).2).2).2) (by decide);refine cm J (fun b=>(lz (n:=5) hes hk0 (by decide) (by decide))) J<|cm J (fun b=>(lz (n:=5) hes hx1 (by decide) (by decide))) J<|?_;refine cm J (fun b=>(lz (n:=4) hes hy1 (by decide) (by decide))) J<|cm J (fun b=>(lz (n:=4) hes hz1 (by decide) (by decide))) J<|?_;refine cl J (ja (m:=(((aq es 5 (aq es 4 a).2).1:Int)-4)) (n:=(((aq es 5 (aq es 5 (aq es 4 a).2).2).1:Int)-4)) (by omega) (by omega)) J<|?_;refine cl J (ja (m:=(((aq es 5 (aq es 4 a).2).1:Int)-4+1+((aq es 4 (aq es 5 (aq es 5 (aq es 4 a).2).2).2).1:Int))) (n:=(((aq es 5 (aq es 5 (aq es 4 a).2).2).1:Int)-4)) (by omega) (by omega)) J<|?_;refine cl J (ja (m:=(((aq es 5 (aq es 4 a).2).1:Int)-4+1+((aq es 4 (aq es 5 (aq es 5 (aq es 4 a).2).2).2).1:Int))) (n:=(((aq es 5 (aq es 5 (aq es 4 a).2).2).1:Int)-4+1+((aq es 4 (aq es 4 (aq es 5 (aq es 5 (aq es 4 a).2).2).2).2).1:Int))) (by omega) (by omega)) J<|?_;refine cl J (ja (m:=(((aq es 5 (aq es 4 a).2).1:Int)-4)) (n:=(((aq es 5 (aq es 5 (aq es 4 a).2).2).1:Int)-4+1+((aq es 4 (aq es 4 (aq es 5 (aq es 5 (aq es 4 a).2).2).2).2).1:Int))) (by omega) (by omega)) J<|?_;refine rf J J<|?_
   exact i5 hmb J J (by rw[show fg es a=_ from if_pos hc15];rfl) (by rw[show fg es a=_ from if_pos hc15];rfl)
  .
   refine br J J J (fun hc46=>?_) (fun hc46=>?_)
   .
    obtain⟨hp1,hp2,hp3⟩:=qp hk0;obtain⟨hu1,hu2,hu3,hu4⟩:=te hp3;obtain⟨hv1,hv2,hv3,hv4⟩:=te hu4;haveI:=gg (k:=10) (m:=(vF es (pF es (aq es 4 a).2).2).1.1) (by omega) (by decide);haveI:=gg (k:=10) (m:=(vF es (pF es (aq es 4 a).2).2).1.2) (by omega) (by decide);haveI:=gg (k:=10) (m:=(vF es (vF es (pF es (aq es 4 a).2).2).2).1.1) (by omega) (by decide);haveI:=gg (k:=10) (m:=(vF es (vF es (pF es (aq es 4 a).2).2).2).1.2) (by omega) (by decide);refine cm J (fun b=>(Cb hes hk0)) J<|cm J (fun b=>(KC hes hp3)) J<|cm J (fun b=>(KC hes hu4)) J<|cl J (JK (p:=iP (vF es (pF es (aq es 4 a).2).2).1.1 (vF es (pF es (aq es 4 a).2).2).1.2) (q:=iP (vF es (vF es (pF es (aq es 4 a).2).2).2).1.1 (vF es (vF es (pF es (aq es 4 a).2).2).2).1.2)) J<|?_;refine cl J (wh (q:=aa.cross (iP (vF es (pF es (aq es 4 a).2).2).1.1 (vF es (pF es (aq es 4 a).2).2).1.2) (iP (vF es (vF es (pF es (aq es 4 a).2).2).2).1.1 (vF es (vF es (pF es (aq es 4 a).2).2).2).1.2))) J<|?_;refine br J J J (fun hc58=>?_) (fun hc58=>?_)
    .
     refine cl J (rN (n:=1) (by decide) (by decide)) J<|cl J (BS (m:=(pF es (aq es 4 a).2).1.1) (n:=(pF es (aq es 4 a).2).1.2) (m':=(vF es (pF es (aq es 4 a).2).2).1.1) (n':=(vF es (pF es (aq es 4 a).2).2).1.2) (k:=1) (by omega) (by omega) (by omega) (by omega) (by decide)) J<|?_;refine cl J (rN (n:=1) (by decide) (by decide)) J<|cl J (BS (m:=(pF es (aq es 4 a).2).1.1) (n:=(pF es (aq es 4 a).2).1.2) (m':=(vF es (vF es (pF es (aq es 4 a).2).2).2).1.1) (n':=(vF es (vF es (pF es (aq es 4 a).2).2).2).1.2) (k:=1) (by omega) (by omega) (by omega) (by omega) (by decide)) J<|?_;refine rf J J<|?_;exact i5 hmb J J (by rw[show fg es a=_ from(if_neg hc15).trans ((if_pos hc46).trans (if_pos ((Ah _ _).1 hc58)))];rfl) (by rw[show fg es a=_ from(if_neg hc15).trans ((if_pos hc46).trans (if_pos ((Ah _ _).1 hc58)))])
    .
     exact at_ (vF es (vF es (pF es (aq es 4 a).2).2).2).2 ⟨(if_neg hc15).trans ((if_pos hc46).trans (if_neg (fun e=>hc58 ((Ah _ _).2 e)))),hv4⟩
   .
    exact at_ (aq es 4 a).2 ⟨(if_neg hc15).trans (if_neg hc46),hk0⟩
 .
  have hj1:=iu (es:=es) (n:=4) (a:=a2) (by decide);have hj2:=fH (n:=4) ha2;refine cm J (fun b=>(lz (n:=4) hes ha2 (by decide) (by decide))) J<|?_;refine nr 10 10 81 6 J J J ?_;refine lp (X:=List ZP×Nat×Nat) (fun⟨r,i,a3⟩=>[(11, .d (vI (i:Nat))),(10, .rw 10)]) (fun⟨r,i,a3⟩=>[(1000000,some (.o 126 [.d (.sl (es.map vI)), .d (.v (.int .i64 (a3:Nat)))] false)),(10,some (.b 81 6 (r.map ew) true))]) (fun⟨r,i,a3⟩=>kh es i a3 r=kh es (3+(aq es 4 a2).1) (aq es 4 a2).2 []/\a3<=es.length/\iw r/\r.length+i<=6) (fun⟨r,i,a3⟩=>i) ⟨[],3+(aq es 4 a2).1,(aq es 4 a2).2⟩ J ⟨J,hj2,iw.nil,by simp;omega⟩ (fun _=>J) (fun⟨r,i,a3⟩ hk=>?_)
  try dsimp only at hk⊢
  obtain⟨h1,h2,h3,h4⟩:=hk;have hrl:(r.map ew).length=r.length:=by simp
  refine br (fu2:=⟨0⟩) J J J (fun hc73=>?_) (fun hc73=>?_)
  .
   obtain⟨j,rfl⟩: ∃j,i=j+1:=⟨i-1,by omega⟩;obtain⟨hq1,hq2,hq3⟩:=qp h2;refine cm (fu:=⟨8⟩) J (fun b=>(Cb hes h2)) J<|?_;refine oB (v1:=fun hg80=>by simp only[ah];kernel_rfl) J J J J (fun hg80=>?_) (fun hg80=>?_)
   .
    have hlast: ¬r.getLast? =some (pF es a3).1:=by rw[bM (l:=r) (by omega)];simp
    refine rf J J<|ap ((r++[(pF es a3).1]).map ew) J (by rw[cX];rfl) (A7 [_]) J<|?_;refine fA 95 10 J ?_;exact at_ ⟨r++[(pF es a3).1],j,(pF es a3).2⟩ (by dsimp only;exact⟨⟨by rw[<-h1,kh,if_neg hlast],hq3,h3.snoc ⟨by omega,by omega⟩ hlast,by simp;omega⟩,(by omega)⟩)
   .
    obtain⟨q,hq,hqi,hqd⟩:=Ie (l:=r) (by omega);have hqm:=h3.le q (List.mem_of_getLast? hq);unfold ZP.le at hqm;refine lb (ew q) J (by rw[show(((r.map ew).length:Nat):Int)-1=((r.length-1:Nat):Int) by omega];exact cO hqi) J<|cl J (y5 (m:=q.1) (n:=q.2) (m':=(pF es a3).1.1) (n':=(pF es a3).1.2) (by omega) (by omega) (by omega) (by omega)) J<|?_;refine bb J J J (fun hc91=>?_) (fun hc91=>?_)
    .
     have hlast: ¬r.getLast? =some (pF es a3).1:=by rw[hq];intro e;have:=wG.2 (Option.some.inj e);simp[this] at hc91
     refine rf J J<|ap ((r++[(pF es a3).1]).map ew) J (by rw[cX];rfl) (A7 [_]) J<|?_;refine fA 95 10 J ?_;exact at_ ⟨r++[(pF es a3).1],j,(pF es a3).2⟩ (by dsimp only;exact⟨⟨by rw[<-h1,kh,if_neg hlast],hq3,h3.snoc ⟨by omega,by omega⟩ hlast,by simp;omega⟩,(by omega)⟩)
    .
     have hlast:r.getLast? =some (pF es a3).1:=by rw[hq];congr 1;exact wG.1 (by simpa using hc91)
     exact at_ ⟨r,j,(pF es a3).2⟩ (by dsimp only;exact⟨⟨by rw[<-h1,kh,if_pos hlast],hq3,h3,by omega⟩,(by omega)⟩)
  .
   obtain rfl:i=0:=by omega
   have hg:=h1;rw[kh] at hg;refine uq 10 J ?_;refine gx J<|?_;refine lp (fu:=⟨5⟩) (X:=List ZP×Nat) (fun⟨l,m⟩=>[(10, .d (.sl (l.map ew)))]) (fun⟨l,m⟩=>[]) (fun⟨l,m⟩=>ip m l=ip 6 r/\l.length<=m+1/\iw l/\l.length<=6) (fun⟨l,m⟩=>m) ⟨r,6⟩ J ⟨J,by omega,h3,by omega⟩ (fun _=>J) (fun⟨l,m⟩ hk=>?_)
   try dsimp only at hk⊢
   obtain⟨t1,t2,t3,t4⟩:=hk;have hll:(l.map ew).length=l.length:=by simp
   refine oB (v2:=fun hg98=>by simp only[ah];kernel_rfl) J J J J (fun hg98=>?_) (fun hg98=>?_)
   .
    obtain⟨q,hqi,hqd⟩:=L9 (l:=l) (by omega);obtain⟨q2,hq0,hqi2,hqd2⟩:=Ie (l:=l) (by omega);have hqm:=t3.le q (aU hqi);have hqm2:=t3.le q2 (aU hqi2);unfold ZP.le at hqm hqm2;refine ix _ J (cO (i:=0) hqi) J<|ix (ew q2) J (by rw[show(((l.map ew).length:Nat):Int)-1=((l.length-1:Nat):Int) by omega];exact cO hqi2) J<|?_;refine cl J (y5 (m:=q.1) (n:=q.2) (m':=q2.1) (n':=q2.2) (by omega) (by omega) (by omega) (by omega)) J<|?_;refine bd J J J (fun hc110=>?_) (fun hc110=>?_)
    .
     have hcond:1<l.length/\l.getD 0 (0,0)=l.getD (l.length-1) (0,0):=⟨by omega,by rw[hqd,hqd2];exact wG.1 hc110⟩;refine n7 0 (l.length-1) (l.dropLast.map ew) J J (by omega) (TM ew l) (A7 l) (bJ _) (by omega) J<|?_;exact at_ ⟨l.dropLast,m-1⟩ (by dsimp only;exact⟨⟨by rw[<-t1];obtain⟨m,rfl⟩: ∃q,m=q+1:=⟨m-1,by omega⟩;rw[ip,if_pos hcond];rfl,by rw[lM];omega,t3.drop,by rw[lM];omega⟩,(by omega)⟩)
    .
     have hcond: ¬(1<l.length/\l.getD 0 (0,0)=l.getD (l.length-1) (0,0)):=fun e=>hc110 (wG.2 (by rw[<-hqd,<-hqd2];exact e.2));refine cl (fu:=⟨1⟩) J (IN (l:=l) t3.le (by omega)) J<|?_;have hgen:ip 6 r=l:=by rw[<-t1];cases m with|zero=>rfl|succ m=>rw[ip,if_neg hcond]
     refine aj 118 (.d (vI ((kP l).length:Nat))) J (by rw[aX];rfl) ?_;refine gx J<|?_;refine br J J J (fun hc119=>?_) (fun hc119=>?_)
     .
      have hfin:fg es a=(tu,a3):=by rw[hR,kI,<-hg,hgen,if_pos (by omega)]
      refine cl J (ja (m:=0) (n:=0) (by decide) (by decide)) J<|cl J (ja (m:=2) (n:=0) (by decide) (by decide)) J<|cl J (ja (m:=0) (n:=2) (by decide) (by decide)) J<|?_;refine rf J J<|?_;exact i5 hmb J J (by rw[hfin];rfl) (by rw[hfin])
     .
      have hfin:fg es a=(l,a3):=by rw[hR,kI,<-hg,hgen,if_neg (by omega)]
      exact i5 hmb J J (by rw[hfin];rfl) (by rw[hfin])
   .
    have hcond: ¬(1<l.length/\l.getD 0 (0,0)=l.getD (l.length-1) (0,0)):=fun e=>by omega
    refine cl (fu:=⟨1⟩) J (IN (l:=l) t3.le (by omega)) J<|?_;have hgen:ip 6 r=l:=by rw[<-t1];cases m with|zero=>rfl|succ m=>rw[ip,if_neg hcond]
    refine aj 118 (.d (vI ((kP l).length:Nat))) J (by rw[aX];rfl) ?_;refine gx J<|?_;refine br J J J (fun hc119=>?_) (fun hc119=>?_)
    .
     have hfin:fg es a=(tu,a3):=by rw[hR,kI,<-hg,hgen,if_pos (by omega)]
     refine cl J (ja (m:=0) (n:=0) (by decide) (by decide)) J<|cl J (ja (m:=2) (n:=0) (by decide) (by decide)) J<|cl J (ja (m:=0) (n:=2) (by decide) (by decide)) J<|?_;refine rf J J<|?_;exact i5 hmb J J (by rw[hfin];rfl) (by rw[hfin])
    .
     have hfin:fg es a=(l,a3):=by rw[hR,kI,<-hg,hgen,if_neg (by omega)]
     exact i5 hmb J J (by rw[hfin];rfl) (by rw[hfin])
def Dj:DV:= .v (.pointer none)
def QG(l:ab)(p q:DV):List DV:=[.v (.bool false), .v (.bool false), .v (.bool (decide (l.a<0))),dN l.a.natAbs, .v (.bool (decide (l.b<0))),dN l.b.natAbs, .v (.bool (decide (l.c<0))),dN l.c.natAbs,p,q]
inductive RF (ns:List RN):Int->(Nat->Bool)->DV->Bool->(Nat->Bool)->Prop where
 |leaf (b:Bool) (f:Nat->Bool):RF ns (wn b) f (eT (.leaf b)) true f
 |j0 (rt:Int) (f:Nat->Bool) (h1:rt≠ -1) (h2:rt≠ -2) (h:rt<0\/(ns.length:Int)<=rt\/(∃k:Nat,rt=k/\k<ns.length/\f k=true)):RF ns rt f Dj false f
 |line (k:Nat) (n:RN) (f:Nat->Bool) (h:ns[k]? =some n) (hf:f k=false) (hl:n.g.ln=none):RF ns (k:Int) f Dj false (qt f k)
 |left (k:Nat) (n:RN) (l:ab) (f f2:Nat->Bool) (p:DV) (h:ns[k]? =some n) (hf:f k=false) (hl:n.g.ln=some l) (h1:RF ns n.l (qt f k) p false f2):RF ns (k:Int) f Dj false f2
 |node (k:Nat) (n:RN) (l:ab) (f f2 f3:Nat->Bool) (p q:DV) (ok:Bool) (h:ns[k]? =some n) (hf:f k=false) (hl:n.g.ln=some l) (h1:RF ns n.l (qt f k) p true f2) (h2:RF ns n.r f2 q ok f3):RF ns (k:Int) f (.pt (QG l p q)) ok f3
def Xs(n:Nat)(f:Nat->Bool):Bool:=(List.range n).all f
def QS:ab:=⟨0,1,0⟩
def WO:Tr:= .node QS (.leaf true) (.leaf false)
structure VV (k:Nat) (t:Tr):Prop where
 o:SN k t
 s:t.size<=3000
def Xt(es:List Int)(a:Nat):(Tr×Tr)×Nat:=
 let x:=oe es 0 a
 let y:=oe es 0 x.2
 let k:=aq es 3 y.2
 let u:=if(k.1:Int)=0 then js es 3 k.2 else(x.1,k.2)
 let j:=aq es 3 u.2
 let v:=if(j.1:Int)=0 then js es 3 j.2 else(y.1,j.2)
 ((u.1,v.1),v.2)
def XG(es:List Int)(a:Nat):(Tr×Tr)×Nat:=
 let x:=oe es 0 a
 let y:=oe es 0 x.2
 let k:=aq es 6 y.2
 if(k.1:Int)=0 then((x.1, .node (lF es k.2).1 x.1 x.1),(lF es k.2).2)
 else if(k.1:Int)=1 then((x.1,y.1.mergeQ 1 x.1 []),k.2)
 else if(k.1:Int)=2 then((x.1,y.1.mergeQ 3 x.1 []),k.2)
 else if(k.1:Int)=3 then((x.1,(js es 3 k.2).1),(js es 3 k.2).2)
 else((x.1,y.1),k.2)
def Jb(es:List Int):Nat->Nat->List Tr×Nat
 |0,a=>([],a)
 |n+1,a=>((oe es 0 a).1::(Jb es n (oe es 0 a).2).1,(Jb es n (oe es 0 a).2).2)
def RO(r:List ZP)(i k:Nat):Bool:=decide (k=i)||decide (k=(i+1)%r.length)||decide (0<oz (r.getD i (0,0)).q (dF r i).q (r.getD k (0,0)).q)
def Wc(r:List ZP):Bool:=(List.range r.length).all fun i=>(List.range r.length).all fun k=>RO r i k
section
variable {GB:Gh} {C:aA} {n:Nat} {Q0:Exit->Act->World->Prop} {fr fr' fr1 fr2:ao} {own own' own1 own2:aB} {cf cf' cf1 cf2:Cf} {vc vc1 vc2:List Prop}
def Xi(fr:ao)(cf:Cf):Option Int:=match bw fr cf with
 |some ⟨_, .binOp .and _ x (.const (.int .i64 3)) _,_,_,_,_⟩=>match aC (ba fr cf) x with
  |some (.d (.v (.int .i64 p)))=>some p
  |_=>none
 |_=>none
end
def L7{es0 es:List Int}(hb:es0.length<=1125899906842624)(he:es=es0.take 400):PN GB prog 15 [.sl (es0.map vI)] 126 Unit (fun _=>[.sl (es.map vI), .v (.int .i64 (0:Nat))]):=by
 subst he;exact MA hb
def W3(a b:Tr):DV:= .ag [eU a,eU b]
def W1:DV:= .ag [.v (.pointer none), .v (.pointer none)]
def VD(a:ab)(t:List ab):List Rat:=t.filterMap fun b=>if crossI a b=0 then none else some (mc a b).x
def V2(l:List ab)(x:Rat):List aa:=(yu (y0 (Eo l x))).map fun y=>⟨x,y⟩
def Gw:Tr->aa->Bool
 | .leaf _,_=>true
 | .node l x y,p=>if(l.value p).num.sign=1 then Gw x p else if(l.value p).num.sign= -1 then Gw y p else false
structure Xq (a b:Tr):Prop where
 ga:a.gd
 gb:b.gd
 sa:a.size<=3000
 sb:b.size<=3000
def VA(x y:Bool):Bool:=x&&!y
def Xe(x y:Bool):Bool:=y&&!x
def X8(x y:Bool):Bool:=x&&y
def WC(x y:Bool):Bool:=!x&&!y
def WN(f:Bool->Bool->Bool)(a b:Tr)(k:Nat):Bool:=((ze a b).take k).any fun p=>f (pm a p) (pm b p)
def F9:Tr->List ab->List (List ab×Bool)
 | .leaf b,c=>if FP c then [(nG c,b)] else []
 | .node l x y,c=>if FP c then F9 x (nG c++[l])++F9 y (nG c++[l.rev]) else []
def Nl(c:List ab)(p:aa):Bool:=c.all fun l=>decide (0<Int.sign (l.value p).num)
def VR(c:List ab):Option aa:=(H3 (jr c)).find? (Nl c)
def WU(c:b7):Prop:=(c.map fun s=>s.l.dir).Pairwise c6
def W6(c:List ab):Prop:=(c.map ab.dir).Pairwise c6
def LE(c:b7):Bool:=!c.isEmpty&&c.all fun s=>!s.v.nl&&!s.v.nh
def UX(c:List ab)(v:aa):Bool:=c.all fun l=>decide (0<=Int.sign (l.dir.cross v).num)
def Xg(c:List ab):Bool:=!c.isEmpty&&(c.flatMap fun l=>[l.dir,d4 l.dir]).all fun v=>!UX c v
def xM:ab:=⟨1,0,0⟩
def Ok(c:List ab)(i:Nat):List aa:=
 if 0<Int.sign ((c.getD i xM).dir.cross (c.getD ((i+1)%c.length) xM).dir).num then [mc (c.getD i xM) (c.getD ((i+1)%c.length) xM)] else []
def xp(c:List ab):List aa:=(List.range c.length).flatMap (Ok c)
def SF(v:List aa)(i:Nat):List aa:=[v.getD 0 ⟨0,0⟩,v.getD (i+1) ⟨0,0⟩,v.getD (i+2) ⟨0,0⟩]
def Ii(v:List aa):List (List aa):=(List.range (v.length-2)).map (SF v)
def XI(cs:List (List ab)):List (List aa):=cs.flatMap fun c=>Ii (xp c)
def LF(l:ab)(t u:Rat):l.at (t+u)=cC (l.at t) l.dir u:=by
 rw[<-rk,<-rk];unfold cC;simp only[aa.mk.injEq];constructor<;>grind
def EC(l:ab)(a b s:Rat):kg (l.at a) (l.at b) s=l.at (a+s*(b-a)):=by
 rw[<-rk,<-rk,<-rk];unfold kg cC;simp only[aa.mk.injEq];constructor<;>grind
def zr{l:ab}(h:l.Ne)(t:Rat):dl l (l.at t)=t:=by
 obtain⟨q,_,hq⟩:=x6 h;have h2:=vl h;have e0:l.dir.dot l.dir=l.nor.dot l.nor:=by unfold ab.dir ab.nor aa.dot;grind
 have e1:(l.at t).dot l.dir=t*l.dir.dot l.dir:=by
  rw[<-rk,hq];unfold cC ab.dir aa.dot;grind
 unfold dl;rw[e1];rw[<-e0] at h2;generalize l.dir.dot l.dir=d at*;have:d≠0:=by grind
 grind
def Cr{l:ab}(h:l.Ne){p:aa}(hp:l.value p=0):l.at (dl l p)=p:=by
 obtain⟨t,rfl⟩:=I8 h hp;rw[zr h]
def Ab(a:Int){g:Nat}(h:g∣a.natAbs):(g:Int)*zv (decide (a<0)) (a.natAbs/g)=a:=by
 obtain⟨k,hk⟩:=h;by_cases g0:g=0
 ·subst g0;simp at hk⊢;omega
 have e:a.natAbs/g=k:=by rw[hk];exact oN k (fT g0)
 rw[e];unfold zv;have hc:((g*k:Nat):Int)=(g:Int)*(k:Int):=by push_cast;rfl
 by_cases n:a<0
 ·simp only[n,decide_true,if_true];rw[Int.mul_neg];omega
 ·simp only[n,decide_false];show(g:Int)*(k:Int)=a;omega
def Pf{a b c:Int}(h: ¬(a=0/\b=0)): ∃g:Int,0<g/\g*(er a b c).a=a/\g*(er a b c).b=b/\g*(er a b c).c=c:=by
 have hg:0<Nat.gcd (Nat.gcd a.natAbs b.natAbs) c.natAbs:=jK _ (fT fun e=>h ⟨jQ.1 (jM e),jQ.1 (jS e)⟩);refine⟨(Nat.gcd (Nat.gcd a.natAbs b.natAbs) c.natAbs:Nat),by omega,?_,?_,?_⟩
 ·exact Ab a (oV (iY _ _) (iY _ _))
 ·exact Ab b (oV (iY _ _) (jR _ _))
 ·exact Ab c (jR _ _)
def F7{v w:ZP}(h:v≠w): ∃g:Rat,0<g/\(fp v.1 v.2 w.1 w.2).value v.q=0/\(fp v.1 v.2 w.1 w.2).value w.q=0/\w.q=cC v.q (fp v.1 v.2 w.1 w.2).dir g:=by
 obtain⟨m,n⟩:=v;obtain⟨p,q⟩:=w;have hne: ¬(gy n q=0/\gu m p=0):=fun e=>h (by unfold gy gu at e;rw[Prod.mk.injEq];omega);obtain⟨g,g0,ga,gb,gc⟩:=Pf (c:=mm m n p q) hne;dsimp only;unfold fp;generalize er (gy n q) (gu m p) (mm m n p q)=l at*;have g0':(0:Rat)<(g:Rat):=by exact_mod_cast g0
 have ra:(g:Rat)*(l.a:Rat)= -((q:Rat)-(n:Rat)):=by rw[<-dW,ga];unfold gy;push_cast;grind
 have rb:(g:Rat)*(l.b:Rat)=(p:Rat)-(m:Rat):=by rw[<-dW,gb];unfold gu;push_cast;grind
 have rc:(g:Rat)*(l.c:Rat)= -(-((q:Rat)-(n:Rat))*(m:Rat)+((p:Rat)-(m:Rat))*(n:Rat)):=by rw[<-dW,gc];unfold mm gy gu;push_cast;grind
 have z: ∀x:Rat,(g:Rat)*x=0->x=0:=fun x hx=>by
  rcases oR.1 hx with e|e
  ·rw[e] at g0';exact absurd g0' (by decide)
  ·exact e
 refine⟨g,g0',z _ ?_,z _ ?_,?_⟩
 ·rw[n8];unfold ZP.q iP;dsimp only;grind
 ·rw[n8];unfold ZP.q iP;dsimp only;grind
 ·unfold ZP.q iP cC ab.dir;simp only[aa.mk.injEq];constructor<;>grind
def HU{v w:ZP}(h:v≠w)(ho:(bP v w).l.ok):(bP v w).l.at (bP v w).v.lo=v.q/\(bP v w).l.at (bP v w).v.hi=w.q/\(bP v w).v.lo<(bP v w).v.hi:=by
 obtain⟨g,g0,h1,h2,h3⟩:=F7 h;unfold bP at ho⊢;dsimp only at ho⊢;generalize fp v.1 v.2 w.1 w.2=l at*;have e1:=Cr ho.ne h1;have e2:=Cr ho.ne h2;refine⟨e1,e2,?_⟩;have:dl l w.q=dl l v.q+g:=by
  have e3:=LF l (dl l v.q) g;rw[e1,<-h3] at e3;rw[<-e3,zr ho.ne]
 rw[this];grind
def CU{r:List ZP}{k:Nat}: ∀{n:Nat},k<n->bP (r.getD k (0,0)) (dF r k)∈gp r n
 |n+1,h=>by
  rw[gp];by_cases e:k=n
  ·subst e;exact fZ _ (aN.2 J)
  ·exact cW _ (CU (by omega))
def Wt(E:List aI)(c:List ab)(l:List aI):Prop:= ∀e∈E,∀t,e.v.ins t->OH c (e.l.at t)-> ∃f∈l,f.l=e.l/\f.v.ins t
structure wR where
 ax:Rat
 ay:Rat
 ac:Rat
def wR.ev(g:wR)(p:aa):Rat:=g.ax*p.x+g.ay*p.y+g.ac
def wR.li(g:wR)(u:aa):Rat:=g.ax*u.x+g.ay*u.y
def qj(a b x:aa):Prop:= ∃s:Rat,0<=s/\s<=1/\x=kg a b s
def SK{x y:Rat}(h: ¬(x=0/\y=0)):0<x*x+y*y:=by
 have h1:=wQ x;have h2:=wQ y;rcases tY (x*x+y*y) with k|k|k
 ·exfalso
  refine h ⟨?_,?_⟩
  ·have:x*x=0:=by grind
   exact(oR.1 this).elim id id
  ·have:y*y=0:=by grind
   exact(oR.1 this).elim id id
 ·exact k
 ·grind
def Sm{a b:aa}(h:a≠b): ¬(b.x-a.x=0/\b.y-a.y=0):=fun k=>h (by
 cases a;cases b
 simp only[aa.mk.injEq] at*;constructor<;>grind)
def Od(a b p r:aa):Prop:=qj a b p/\((r=⟨b.x-p.x,b.y-p.y⟩/\b≠p)\/(r=⟨a.x-p.x,a.y-p.y⟩/\a≠p))
def J5(r u:aa):Prop:= ∃k:Rat,0<k/\u=⟨k*r.x,k*r.y⟩
def Mn(E:List (aa×aa))(p u:aa):Prop:=u≠⟨0,0⟩/\ ∀f∈E,∀r,Od f.1 f.2 p r-> ¬J5 r u
def mA(r:List ZP):List (aa×aa):=(List.range r.length).map fun k=>((r.getD k (0,0)).q,(dF r k).q)
def ER(rs:List (List ZP)):List (aa×aa):=rs.flatMap mA
def qA{a b:ZP}(h:a.q=b.q):a=b:=by
 have hx:(a.1:Rat)=(b.1:Rat):=congrArg aa.x h;have hy:(a.2:Rat)=(b.2:Rat):=congrArg aa.y h;exact Prod.ext (by exact_mod_cast hx) (by exact_mod_cast hy)
def Uw(rs:List (List ZP))(fill:Int)(p v:aa)(b:Bool):Prop:= ∃e:Rat,0<e/\ ∀d,0<d->d<=e->xP rs fill (cC p v d)=b
section
variable {rs:List (List ZP)} {fill:Int} {p v w:aa} {b c:Bool}
end
def Ra(ds:List aa)(u:aa):Prop:=u≠⟨0,0⟩/\ ∀r∈ds,¬J5 r u
def Wf(ds:List aa)(v w:aa):Prop:= ∀s,0<=s->s<=1->Ra ds (kg v w s)
def sB(x y:aa):Nat:=if x.cross y<0 then 1 else if 0<x.cross y then 3 else if 0<x.dot y then 0 else 2
def Yq(x y z:aa):Prop:=sB x y<sB x z\/(sB x y=sB x z/\(sB x y=1\/sB x y=3)/\0<z.cross y)
section
variable {ds:List aa}
end
def V'(v:List aa):DV:= .sl (v.map eZ)
def Yp(v:List aa):DV:= .sl (v.map gh)
def lr{α:Type}(f:α->Rat):List α->Rat
 |[]=>0
 |a::t=>f a+lr f t
def QO(f:aa->aa->Rat)(v:List aa):Rat:=lr (fun i=>f (v.getD i ⟨0,0⟩) (v.getD ((i+1)%v.length) ⟨0,0⟩)) (List.range v.length)
def WD(c:b7):Rat:=lr (fun s=>(s.v.hi-s.v.lo)*(s.l.c:Rat)) c
def XK(t:Tr):Prop:= ∃(L:List ab) (R:Rat),(∀l∈L,l.ok)/\ ∀p,Ta L p->LW R p->t.val p=false
def Eq(es:List Int):Nat->Nat->Tr×Nat
 |0,a=>o3 es a
 |d+1,a=>
  let k:=aq es 3 a
  if(k.1:Int)=0 then
   let x:=Eq es d k.2
   let o:=aq es 4 x.2
   let y:=Eq es d o.2
   (x.1.mergeQ (1+(o.1:Int)) y.1 [],y.2)
  else o3 es k.2
def VC(f:aa->aa->Rat):Prop:= ∀(l:ab) (a b c:Rat),l.Ne->f (l.at a) (l.at c)=f (l.at a) (l.at b)+f (l.at b) (l.at c)
def Yu(f:aa->aa->Rat)(s:aI):Rat:=f (s.l.at s.v.lo) (s.l.at s.v.hi)
def Pv(f:aa->aa->Rat)(c:b7):Rat:=QO f (xp (c.map (·.l)))
def PP(f:aa->aa->Rat)(t:Tr)(c:b7):Rat:=lr (fun x:Bool×b7=>if x.1 then Pv f x.2 else 0) (t.parts c)
def W4(f:aa->aa->Rat)(t:Tr)(c:b7)(l:ab):Rat:=if jD c l then PP f t (jh c l) else 0
def Wh(t:Tr)(c:b7):Prop:= ∀x∈t.parts c,x.1=true->LE x.2=true
def Ua(v:List aa):List (aa×aa):=(List.range v.length).map fun i=>(v.getD i ⟨0,0⟩,v.getD ((i+1)%v.length) ⟨0,0⟩)
def my(cs:List (List ab)):List (aa×aa):=cs.flatMap fun c=>Ua (xp c)
def mC(cs:List b7):List (List ab):=cs.map fun c=>c.map (·.l)
def Wq(x:aa×aa):List DV:=[wg x.1 x.2,eF (x.1.cross x.2)]

def V8(x:List ab×Bool):DV:= .ag [.sl (x.1.map eL),vB x.2]
def VE(c:List ab):DV:= .sl (c.map eL)
def WV(ps:List (List ab×Bool)):List (List ab):=(ps.filter (·.2)).map (·.1)
def Xf(v:List aa):DV:= .sl (v.map eP)
structure Gd (GB:Gh) (ai al ae au:Addr):Prop extends EG GB ai al ae where
 ErrUnbounded:GB 5=some [.iface 499 (.pointer (some au))]
def W5(c:b7):List (List aa):=Ii (xp (c.map (·.l)))


def Yk:List ZP:=[(0,0),(1,0),(0,1)]
structure WK (GB:Gh) (ai al ae au ar:Addr):Prop extends Gd GB ai al ae au where
 ErrEmpty:GB 4=some [.iface 499 (.pointer (some ae))]
 ErrRange:GB 2=some [.iface 499 (.pointer (some ar))]
def GK(r:List aa)(j:Nat):Nat->aa
 |0=>(((r.getD 0 ⟨0,0⟩).add (r.getD 1 ⟨0,0⟩)).add (r.getD 2 ⟨0,0⟩)).scale (((1:Int):Rat)/((3:Int):Rat))
 |k+1=>((GK r j k).add (r.getD j ⟨0,0⟩)).scale (((1:Int):Rat)/((2:Int):Rat))
def VP(ts:List (List aa))(i:Nat):aa:=GK (ts.getD (i%ts.length) []) (i%3) (i/ts.length)
theorem aw.mono{p:aa}{i j:Nat}(h:aw p i)(hj:i<=j):aw p j:=⟨h.x.mono hj,h.y.mono hj⟩
structure Us (cs:List b7) (b:Nat):Prop where
 lb: ∀c∈cs,∀s∈c,LB s.l
 sh: ∀c∈cs,c.length<=100000
 ln:cs.length<=1000000
 pt: ∀x∈my (mC cs),aw x.1 b/\aw x.2 b
def FS(x:aa×aa):aa:=(x.1.add x.2).scale (x.1.cross x.2)
def DC{α:Type}(f:α->aa)(l:List α):aa:=⟨lr (fun x=>(f x).x) l,lr (fun x=>(f x).y) l⟩
def EM{n:Int}{d:Nat}(hn:n.natAbs<=1000)(hd:0<d)(hd1:d<=1000):PF GB prog 64 [vI n, .v (.int .i64 (d:Nat))] (eQ (mkRat n d)):=by
 haveI:BI n 10:=ug (by omega);haveI:BN d 10:=⟨by omega⟩;refine fn func64 J J ntmps64 J J (fun C=>?_);refine cl J (Ev (n:=n) (by omega) (by omega)) J<|cl J (oH (u:=d) (by omega)) J<|cl J (rj (x:=n) (d:=d) hd) J<|?_;exact rz J J
def qF(es:List Int)(a:Nat):Rat×Nat:=
 (if((aq es 6 (aq es 9 a).2).1:Int)=0 then mkRat (2*(((aq es 9 a).1:Int)-4)+1) 2 else if((aq es 6 (aq es 9 a).2).1:Int)=1 then mkRat (3*(((aq es 9 a).1:Int)-4)+1) 3 else(((aq es 9 a).1:Rat)-4:Rat),(aq es 6 (aq es 9 a).2).2)
theorem yL{es:List Int}{a:Nat}(ha:a<=es.length):BQ (qF es a).1 12/\(qF es a).2<=es.length:=by
 have h1:=iu (es:=es) (n:=9) (a:=a) (by decide);refine⟨?_,fH (fH ha)⟩;unfold qF;dsimp only;split
 ·exact rD (by decide) (by omega) (by decide)
 ·split
  ·exact rD (by decide) (by omega) (by decide)
  ·haveI:BI (((aq es 9 a).1:Int)-4:Int) 11:=ug (by omega)
   have e:((((aq es 9 a).1:Rat)-4):Rat)=((((aq es 9 a).1:Int)-4:Int):Rat):=by rw[qJ];rfl
   rw[e];exact inferInstance
def nA(es:List Int)(a:Nat):aa×Nat:=(⟨(qF es a).1,(qF es (qF es a).2).1⟩,(qF es (qF es a).2).2)
theorem R7{es:List Int}{a:Nat}(ha:a<=es.length):aw (nA es a).1 1200/\(nA es a).2<=es.length:=by
 obtain⟨h1,h2⟩:=yL ha;obtain⟨h3,h4⟩:=yL h2;exact⟨⟨h1.mono (by decide),h3.mono (by decide)⟩,h4⟩
def q9(z:Nat):(z:Rat)-4=(((z:Int)-4:Int):Rat):=by rw[qJ];rfl
def vo:ab:=⟨1,0,0⟩
def Yb(es:List Int)(L:List ab)(a:Nat):aa×Nat:=
 if L.length=0 then nA es a else
 if((aq es 3 (aq es L.length a).2).1:Int)=0 then
  (if crossI (L.getD (aq es L.length a).1 vo) (L.getD (aq es L.length (aq es 3 (aq es L.length a).2).2).1 vo)≠0 then(mc (L.getD (aq es L.length a).1 vo) (L.getD (aq es L.length (aq es 3 (aq es L.length a).2).2).1 vo),(aq es L.length (aq es 3 (aq es L.length a).2).2).2) else nA es (aq es L.length (aq es 3 (aq es L.length a).2).2).2)
 else if((aq es 3 (aq es L.length a).2).1:Int)=1 then((L.getD (aq es L.length a).1 vo).at (qF es (aq es 3 (aq es L.length a).2).2).1,(qF es (aq es 3 (aq es L.length a).2).2).2) else nA es (aq es 3 (aq es L.length a).2).2
def D0{b:Nat}{es:List Int}(hes:es.length<=400){a:Nat}(ha:a<=es.length):PM GB prog 72 (gv [none] b) b 126 [.sl (es.map vI), .v (.int .i64 (a:Nat))] (eQ (qF es a).1) [.sl (es.map vI), .v (.int .i64 ((qF es a).2:Nat))]:=by
 have h1:=iu (es:=es) (n:=9) (a:=a) (by decide);refine qI func72 J J ntmps72 J J (fun C b m lo hmb=>?_);refine cm J (fun b=>(lz (n:=9) hes ha (by decide) (by decide))) J<|cm J (fun b=>(lz (n:=6) hes (fH ha) (by decide) (by decide))) J<|?_;refine br J J J (fun hc9=>?_) (fun hc9=>?_)
 .
  refine cl J (EM (n:=2*(((aq es 9 a).1:Int)-4)+1) (d:=2) (by omega) (by decide) (by decide)) J<|?_;exact i5 hmb J J (by unfold qF;dsimp only;rw[if_pos hc9];rfl) J
 .
  refine br J J J (fun hc15=>?_) (fun hc15=>?_)
  .
   refine cl J (EM (n:=3*(((aq es 9 a).1:Int)-4)+1) (d:=3) (by omega) (by decide) (by decide)) J<|?_;exact i5 hmb J J (by unfold qF;dsimp only;rw[if_neg hc9,if_pos hc15];rfl) J
  .
   refine cl J (rN (n:=(((aq es 9 a).1:Int)-4)) (by omega) (by omega)) J<|?_;exact i5 hmb J J (by unfold qF;dsimp only;rw[if_neg hc9,if_neg hc15,q9];rfl) J
def NF{b:Nat}{es:List Int}(hes:es.length<=400){a:Nat}(ha:a<=es.length):PM GB prog 36 (gv [none] b) b 126 [.sl (es.map vI), .v (.int .i64 (a:Nat))] (eP (nA es a).1) [.sl (es.map vI), .v (.int .i64 ((nA es a).2:Nat))]:=by
 refine qI func36 J J ntmps36 J J (fun C b m lo hmb=>?_);refine cm J (fun b=>(D0 hes ha)) J<|cm J (fun b=>(D0 hes (yL ha).2)) J<|?_;exact i5 hmb J J J J

structure XQ (GB:Gh) (ai al ae au:Addr):Prop extends Gd GB ai al ae au where
 ErrEmpty:GB 4=some [.iface 499 (.pointer (some ae))]
def Sc(x:aa×aa):Rat:=(x.1.x*x.1.x+x.2.x*x.2.x+(x.1.add x.2).x*(x.1.add x.2).x)*x.1.cross x.2
def Oa(x:aa×aa):Rat:=(x.1.x*x.1.y+x.2.x*x.2.y+(x.1.add x.2).x*(x.1.add x.2).y)*x.1.cross x.2
def QJ(x:aa×aa):Rat:=(x.1.y*x.1.y+x.2.y*x.2.y+(x.1.add x.2).y*(x.1.add x.2).y)*x.1.cross x.2
structure Xv (cs:List b7):Prop where
 ed:Us cs 1200
 cr: ∀x∈my (mC cs),BQ (x.1.cross x.2) 5000
 ar: ∀k,BQ (lr (fun x=>x.1.cross x.2) ((my (mC cs)).take k)) 2000000
 mo: ∀k,aw (DC FS ((my (mC cs)).take k)) 3000000
 sa: ∀k,BQ (lr Sc ((my (mC cs)).take k)) 4000000
 sb: ∀k,BQ (lr Oa ((my (mC cs)).take k)) 4000000
 sc: ∀k,BQ (lr QJ ((my (mC cs)).take k)) 4000000
def VB(t:Tr):Rat:=lr (fun x=>x.1.cross x.2) (my (mC (zt t)))*mkRat 1 2
def WQ(t:Tr):aa:=(DC FS (my (mC (zt t)))).scale (((1:Int):Rat)/((6:Int):Rat))
def XX:DV:= .ag [vB false, .sl [], .sl []]
def Xj:DV:= .ag [vB false, .sl [], .sl [],vB false, .sl [], .sl []]
def Pz:Rat:=((1:Int):Rat)/((24:Int):Rat)
def Wp(f:aa×aa->Rat)(t:Tr):Rat:=lr f (my (mC (zt t)))*Pz
structure DQ (D B:Nat) (x:Rat):Prop where
 ex: ∃n:Int,x*((D:Nat):Rat)=(n:Rat)/\n.natAbs<=B*D
def Vd(l m:ab):Nat:=if crossI l m=0 then 1 else(crossI l m).natAbs
def PG(K:List ab):List Nat:=K.flatMap fun l=>K.map (Vd l)
def XZ(K:List ab):Nat:=(PG K).foldr (· * ·) 1
structure DP (D B:Nat) (p:aa):Prop where
 x:DQ D B p.x
 y:DQ D B p.y

def eM(a b c d e f:Rat):DV:= .ag [(.v (.bool (decide ((a).num<0)))),(dN (a).num.natAbs),(dD (a).den),(.v (.bool (decide ((b).num<0)))),(dN (b).num.natAbs),(dD (b).den),(.v (.bool (decide ((c).num<0)))),(dN (c).num.natAbs),(dD (c).den),(.v (.bool (decide ((d).num<0)))),(dN (d).num.natAbs),(dD (d).den),(.v (.bool (decide ((e).num<0)))),(dN (e).num.natAbs),(dD (e).den),(.v (.bool (decide ((f).num<0)))),(dN (f).num.natAbs),(dD (f).den)]
def Xr:List DV:=[.v (.bool (decide ((0:Rat).num<0))),dN (0:Rat).num.natAbs,dD (0:Rat).den]

def vq{C:aA}{n:Nat}{Q0:Exit->Act->World->Prop}{fr fr':ao}{own own':aB}{cf cf':Cf}{vc:List Prop}[fu:Fu]{f:FuncId}{ds:List DV}(ha:sY fr cf=some (f,ds))(hF:PF GB prog f ds (.v (.bool true)))(hgo:bG tt n fu.n fr own cf .tt [] []=⟨vc,fr',own',cf'⟩)(k:ak prog GB C n Q0 fr' own' cf')
  (hv:ah vc:=by first|exact trivial|(simp only[ah];kernel_rfl)|(simp only[ah];omega)):ak prog GB C n Q0 fr own cf:=by
 unfold sY at ha;split at ha<;>try (cases ha;done)
 rename_i hh;exact us hh (bm.to (g:= .tt) (yK ha hF) fun ρ G y hy=>(bc (G:=G)).1 hy) hgo hv k
def Nk:List ZP:=[(0,0),(2,0),(2,2),(0,2)]
def VJ:Tr:=xH [Nk] 2



def V1(M:List ab)(E:List (aa×aa)):Prop:= ∀f∈E,∃m∈M,m.value f.1=0/\m.value f.2=0
section
variable {rs:List (List ZP)} {fill:Int} {p:aa}
def XP(rs:List (List ZP))(fill:Int)(p:aa)(b:Bool):Prop:= ∃x,Mn (ER rs) p x/\Uw rs fill p x b
end
section
variable {rs:List (List ZP)} {fill:Int} {L:List ab} {p:aa}
end
def l8(v:bi)(t:Rat):Bool:=(v.nl||decide (bt v.lo t<=0))&&(v.nh||decide (0<=bt v.hi t))
def P3{v:bi}{t:Rat}:l8 v t=true↔v.has t:=by
 unfold l8 bi.has;simp only[bZ,gK,decide_eq_true_eq,Br,RJ]
def ir(f:aI)(p:aa):Bool:=decide (Int.sign (f.l.value p).num=0)&&l8 f.v (dl f.l p)
def HJ{f:aI}{p:aa}:ir f p=true↔f.l.value p=0/\f.v.has (dl f.l p):=by
 unfold ir;rw[bZ,decide_eq_true_eq,qr,P3]
def Fa{a b:Rat}(h:b≠0):a/b*b=a:=by grind
def Hc{v w:ZP}(h:v≠w)(ho:(bP v w).l.ok){x:aa}:ir (bP v w) x=true↔qj v.q w.q x:=by
 obtain⟨e1,e2,e3⟩:=HU h ho;have hv: ∀t,(bP v w).v.has t↔(bP v w).v.lo<=t/\t<=(bP v w).v.hi:=fun t=>by
  unfold bi.has bP;simp
 rw[HJ,hv];generalize (bP v w).v.lo=lo at*;generalize (bP v w).v.hi=hi at*;generalize (bP v w).l=l at*;constructor
 ·rintro ⟨hz,h1,h2⟩
  have ex:=Cr ho.ne hz;generalize dl l x=t at*;have e:(t-lo)/(hi-lo)*(hi-lo)=t-lo:=Fa (by grind);refine⟨(t-lo)/(hi-lo),(y8 (k:=hi-lo) (by grind)).1 (by rw[e];grind),?_,?_⟩
  ·have:=(y8 (s:=1-(t-lo)/(hi-lo)) (k:=hi-lo) (by grind)).1 (by
    have e4:(1-(t-lo)/(hi-lo))*(hi-lo)=(hi-lo)-(t-lo)/(hi-lo)*(hi-lo):=by generalize (t-lo)/(hi-lo)=q;grind
    rw[e4,e];grind)
   grind
  ·rw[<-e1,<-e2,EC,<-ex]
   congr 1;rw[e];grind
 ·rintro ⟨s,s0,s1,rfl⟩
  rw[<-e1,<-e2,EC];rw[zr ho.ne];have:=lx s0 (show 0<=hi-lo by grind);have:=lx (show 0<=1-s by grind) (show 0<=hi-lo by grind);exact⟨Mm ho.ne _,by grind,by grind⟩
def nE(f:aI)(p:aa):Int:=
 if Int.sign f.l.dir.y.num=0\/Int.sign (f.l.value p).num≠Int.sign f.l.dir.y.num then 0
 else if(if Int.sign f.l.dir.y.num<0 then f.v.nh=false/\0<bt (f.l.at f.v.hi).y p.y else f.v.nl=false/\0<bt (f.l.at f.v.lo).y p.y) then 0
 else if(if Int.sign f.l.dir.y.num<0 then f.v.nl=false/\bt (f.l.at f.v.lo).y p.y<=0 else f.v.nh=false/\bt (f.l.at f.v.hi).y p.y<=0) then 0
 else Int.sign f.l.dir.y.num
def eo(E:List aI)(p:aa):Int:=E.foldl (fun n f=>n+nE f p) 0
def Mq{v w:ZP}(h:v≠w)(p:aa): ∃g:Rat,0<g/\fh v.q w.q p=g*(bP v w).l.value p/\w.q.y-v.q.y=g*(bP v w).l.dir.y:=by
 obtain⟨g,g0,h1,h2,h3⟩:=F7 h;refine⟨g,g0,?_,by rw[h3];unfold cC;show _=g*(fp v.1 v.2 w.1 w.2).dir.y;dsimp only;grind⟩;show _=g*(fp v.1 v.2 w.1 w.2).value p;rw[h3];generalize fp v.1 v.2 w.1 w.2=l at*;rw[n8] at*;unfold fh cC ab.dir;dsimp only;grind
def QY{v w:ZP}(h:v≠w)(ho:(bP v w).l.ok)(p:aa):nE (bP v w) p=tK v.q w.q p:=by
 obtain⟨e1,e2,e3⟩:=HU h ho;obtain⟨g,g0,o1,o2⟩:=Mq h p;have b1:(bP v w).v.nl=false:=J;have b2:(bP v w).v.nh=false:=J;have so:(0<fh v.q w.q p↔0<(bP v w).l.value p)/\(fh v.q w.q p<0↔(bP v w).l.value p<0):=by
  rw[o1];constructor
  ·rw[Rat.mul_comm];exact pn g0
  ·have:=pn (s:= -(bP v w).l.value p) g0
   grind
 have sy:(v.q.y<w.q.y↔0<(bP v w).l.dir.y)/\(w.q.y<v.q.y↔(bP v w).l.dir.y<0):=by
  have t1:=pn (s:=(bP v w).l.dir.y) g0;have t2:=pn (s:= -(bP v w).l.dir.y) g0;constructor<;>grind
 unfold nE;rw[b1,b2,e1,e2];simp only[true_and,Br,IK];generalize (bP v w).l.value p=z at*;generalize (bP v w).l.dir.y=u at*;unfold tK;rcases tY u with k|k|k
 ·rw[if_pos (.inl ((qr _).2 k))]
  have: ¬(v.q.y<=p.y/\ ¬w.q.y<=p.y/\0<fh v.q w.q p):=fun q=>by grind
  have: ¬(¬v.q.y<=p.y/\w.q.y<=p.y/\fh v.q w.q p<0):=fun q=>by grind
  rw[if_neg ‹_›,if_neg ‹_›];rfl
 ·have su:Int.sign u.num=1:=(vK _).2 k
  rw[su];have n2: ¬(¬v.q.y<=p.y/\w.q.y<=p.y/\fh v.q w.q p<0):=fun q=>by grind
  rw[if_neg n2];simp only[show¬((1:Int)<0) by decide,if_false,show¬((1:Int)=0) by decide,false_or];by_cases hz:0<z
  ·rw[if_neg (by rw[(vK _).2 hz];simp)]
   by_cases a1:v.q.y<=p.y
   ·rw[if_neg (by grind)]
    by_cases a2:w.q.y<=p.y
    ·rw[if_pos a2,if_neg (by grind)];rfl
    ·rw[if_neg a2,if_pos ⟨a1,a2,so.1.2 hz⟩];rfl
   ·rw[if_pos (by grind),if_neg (by grind)];rfl
  ·rw[if_pos (fun q=>hz ((vK _).1 q)),if_neg (by grind)];rfl
 ·have su:Int.sign u.num= -1:=EE k
  rw[su];have n2: ¬(v.q.y<=p.y/\ ¬w.q.y<=p.y/\0<fh v.q w.q p):=fun q=>by grind
  rw[if_neg n2];simp only[show(-1:Int)<0 by decide,if_true,show¬((-1:Int)=0) by decide,false_or];by_cases hz:z<0
  ·rw[if_neg (by rw[EE hz];simp)]
   by_cases a1:w.q.y<=p.y
   ·rw[if_neg (by grind)]
    by_cases a2:v.q.y<=p.y
    ·rw[if_pos a2,if_neg (by grind)];rfl
    ·rw[if_neg a2,if_pos ⟨a2,a1,so.2.2 hz⟩];rfl
   ·rw[if_pos (by grind),if_neg (by grind)];rfl
  ·rw[if_pos (fun q=>hz (by
    have h4:Int.sign z.num<0:=by rw[q];decide
    exact(se _).1 h4)),if_neg (by grind)];rfl
def wI{α:Type}(f:α->Int): ∀(l:List α) (n:Int),l.foldl (fun n x=>n+f x) n=n+l.foldl (fun n x=>n+f x) 0
 |[],n=>by simp
 |a::t,n=>by
  rw[iK,iK,wI f t (n+f a),wI f t (0+f a)];omega
def zg(E F:List aI)(p:aa):eo (E++F) p=eo E p+eo F p:=by
 unfold eo;rw[nV,wI]
def NZ{r:List ZP}(hr:dt r)(p:aa):eo (eh r) p=f9 r p:=by
 have key: ∀k,k<=r.length->eo (gp r k) p=jE r p k:=by
  intro k
  induction k with
  |zero=>intro _;rfl
  |succ k ih=>
   intro hk;have hm:=CU (r:=r) (k:=k) (n:=r.length) (by omega);have ho:=((rQ hr).2 _ hm).ok;rw[gp,zg,ih (by omega),z',z',xm];have e:eo [bP (r.getD k (0,0)) (dF r k)] p=nE (bP (r.getD k (0,0)) (dF r k)) p:=by unfold eo;simp
   rw[e,QY (hr.ne k (by omega)) ho]
 exact key r.length (aS _)
def Kq: ∀{rs:List (List ZP)},(∀r∈rs,dt r)-> ∀p,eo (ck rs) p=rs.foldl (fun n r=>n+f9 r p) 0
 |[],_,p=>rfl
 |r::rs,h,p=>by
  have e:ck (r::rs)=eh r++ck rs:=J;rw[e,zg,NZ (h r aZ),Kq fun q hq=>h q (aK _ hq),iK,wI _ rs (0+f9 r p)];omega
end Go.Sx
end
