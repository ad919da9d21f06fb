import Derived.Test.YtochlbkonkgedaaGreatDoorQb5
set_option linter.all false
set_option maxRecDepth 100000
section
namespace Go.Sx
open Go Go.Proofs Tryz
section
variable {P:Program} {T:TT} {GB:Gh} {C:aD} {n:Nat} {lk:LK} {bk:BM} {ρ:NE} {G:Gh} {ov:List ak} {a:Act} {w:World}
variable {dst:Option Nat} {t t' ty':TypeId} {pos:String} {af:Array Edge} {gd:Option (Nat×Bool)} {x y:Operand} {e s by_:Nat}
def aDn[hT:cv P t e s by_]{k:IntKind}{l:List DV}{d:DV}{i:Int}(hx:evD lk x=some (.sl l))(hy:aO lk y=some (.d (.v (.int k i))))(h0:0<=i)(he:l[i.toNat]? =some d)(hd:(d.okc&&Nat.beq d.cells.length s)=true):
  b8 P GB C n lk bk ⟨dst, .indexAddr t x y,ty',pos,af,gd⟩ (.ep d.cells) [] []:= .yd fun ρ G ov a w r=>by
 simp only[aL] at hd;obtain⟨hd,hs⟩:=hd;obtain⟨u,h1,h2⟩:=r.evD hx;obtain⟨q,g1,g2⟩:=r.ev hy;rw[dl] at g2;subst g2;obtain⟨s',z,es,rfl,hsl,hl⟩:=iu.1 h2;obtain⟨v,h3,h4⟩:=hl.get he;obtain⟨h5,h6⟩:=aS.1 h3;have hc:=(h4.cells hd).1.len;replace hs:=aT hs;rcases hsl.mem with h|⟨b,off,cs,ha,hg,hcs⟩
 ·rw[h] at h5;simp at h5
 ·have h7:=hcs i.toNat h5
  rw[h6] at h7;have h8:=Ep h7;have:s'=s:=by omega
  subst this;rw[ha] at h1;have hn:=hsl.len;refine⟨.pointer (some ⟨b,off+i.toNat*s',none⟩),⟨b,_,cs,aF v,J,hg,?_,(h4.cells hd).1⟩,Cd h1 g1 h0 (by omega)⟩;rw[<-hc,h8];exact h7
def Dd(ag:Option Nat)(cs:List DV)(j:Nat):Option DV:=match ag with
 |some k=>match takeD cs j k with
  |some l=>some (.ag l)
  |none=>none
 |none=>cs[j]?
def aEU{i:TI}{ag:Option Nat}{nm sz k j:Nat}{ty:TypeId}{ds:List DV}{lo:Bool}{d c:DV}(hi:fg P t=some i)(ha:i.ag=some ag)(hx:aO lk x=some (.be nm sz k j))(hb:bk nm=some (.b ty sz ds lo))(he:ds[k]? =some d)(hd:d.okc=true)(hl:Dd ag d.cells j=some c):
  b8 P GB C n lk bk ⟨dst, .load t x,ty',pos,af,gd⟩ (.d c) [] []:= .x1 hx fun ρ G ov a w y _ r h1 h2=>by
 obtain⟨b,hwb,rfl⟩:=h2;obtain⟨B,hB,hmem⟩:=r.row (y:= .nilFunc) hb;obtain⟨b',m,rest,lo',l0,e1,rfl,h3,h4⟩:=hB.elem he hd;simp only[] at e1 h3;rw[hwb] at e1;cases e1;have oat:im ov b (m++rest) ty lo':=⟨hmem _ aQ⟩
 cases ag with
 |some k'=>
  have:=Aq hi ha;simp only[Dd] at hl;split at hl<;>cases hl;rename_i hl;obtain⟨l',h5,h6⟩:=h4.takeD hl;exact⟨.agg ⟨l'⟩,c7.2 ⟨l',J,h6⟩,Eo h1 (MT h3 h5)⟩
 |none=>
  have:=A3 hi ha;simp only[Dd] at hl;obtain⟨l',h5,h6⟩:=h4.get hl;have hj:j<sz:=by
   have:=Ep h3;have h7:=(aS.1 h5).1;omega
  exact⟨l',h6,lE h1 (by rw[Kq h3 hj];exact h5)⟩
def du.toBk{nm:Nat}{s:Nat}{ty:TypeId}{ds:List DV}{lo:Bool}{B:List ak}{x:SV}(h:du G ⟨x,s,ty,ds,lo⟩ B)(e:ρ nm=x):lC ρ G nm (.b ty s ds lo) B:=by
 obtain⟨vs,h1,h2,h3,h4⟩:=h;exact⟨vs,by rw[e];exact h1,h2,h3,h4⟩
def bG.newRow(r:bG GB C n lk bk ρ G ov a w){d:Nat}{z:SV}{ty:TypeId}{s:Nat}{ds:List DV}{B ov':List ak}{K:Act->World->Prop}{a':Act}{w':World}(hf:kz [d] (some d) lk bk)(hB:du G ⟨z,s,ty,ds,true⟩ B)(hos: ∀o∈B,o∈ov')
  (hov: ∀m B',m≠d->bk m=some B'-> ∀o∈ov,(ρ m).a=some ⟨o.b,0,none⟩->o∈ov'/\z.a≠some ⟨o.b,0,none⟩)
  (hk:SX GB C n (ey lk (some d) (.rw d)) (Sx.upB bk [(d,some (.b ty s ds true))]) K)(rl:gu C n (Sx.put (cG a) (some d) (.slice z.a z.n z.c)) ov' G a' w'):K a' w':=
 hk.run _ _ _ a' w' (r.new' (x:=z) (f:= .rw d) (y:= .slice z.a z.n z.c) hf (bD.refl _) rl.h (hB.toBk (by simp)) hos hov (by show _=_;simp) (kG rl))
def m9(i:TI):Option DV:=match i.z with
 |some z=>match js z with
  |some zs=>bif i.za then(bif zs.all DV.flat then some (.ag zs) else none) else(match zs with
   |[d]=>bif d.flat then some d else none
   |_=>none)
  |none=>none
 |none=>none
def apr{d:DV}(h:d.flat=true):d.cells=[d]/\d.okc=true:=by
 cases d<;>first|exact⟨J,h⟩|cases h
theorem yh{i:TI}{d:DV}(hi:fg P e=some i)(h:m9 i=some d): ∃v,gh P e v/\(∀G,Is G d v)/\d.okc=true:=by
 obtain⟨j,hj,hij⟩:=qE hi;unfold m9 at h;split at h<;>try (cases h;done)
 rename_i z hz;split at h<;>try (cases h;done)
 rename_i zs hzs;obtain⟨v,h1,h2⟩:=Bs hi hz;have h3: ∀G,IsLs G zs (aF v):=fun G=>tv (h2 (fun _=>⟨none,0,0⟩) G) hzs;have hzv:j.zero=some v:=by have:=h1.inf;rw[hj] at this;simpa using this
 have hza:i.za=Lx (some v):=by rw[hij,<-hzv]
 cases hb:i.za with
 |true=>
  rw[hb] at h hza
  cases hc:zs.all DV.flat with
  |false=>rw[hc] at h;cases h
  |true=>
   rw[hc] at h;cases h
   cases v<;>first|(cases hza;done)|skip
   rename_i cs;exact⟨_,h1,fun G=>c7.2 ⟨cs.toList,by simp,h3 G⟩,hc⟩
 |false=>
  rw[hb,cond_false] at h;rw[hb] at hza;split at h<;>try (cases h;done)
  rename_i u
  cases hc:u.flat with
  |false=>rw[hc] at h;cases h
  |true=>
   rw[hc] at h;cases h;have hv:aF v=[v]:=by cases v<;>first|rfl|(cases hza;done)
   refine⟨v,h1,fun G=>?_,(apr hc).2⟩;have:=h3 G;rw[hv] at this;exact this.uncons.1
def aCO{d:Nat}{i:TI}{z:DV}{k k':IntKind}{l:Int}{ds:List DV}[hT:cv P t e s by_](hi:fg P e=some i)(hz:m9 i=some z)(hs:Nat.beq z.cells.length s=true)(hx:aO lk x=some (.d (.v (.int k l))))(hy:aO lk y=some (.d (.v (.int k' l))))(h0:0<=l)(hb:by_*l<=140737488355328)(hl:l<=1152921504606846976)(hds:List.replicate l.toNat z=ds):
  b8 P GB C n lk bk ⟨some d, .makeSlice t x y,ty',pos,af,gd⟩ (.rw d) [(d,some (.b e s ds true))] [d]:=by
 intro hd tl tb K s1 s2 hf hk;refine⟨fun ρ G ov a w r Q=>?_⟩;subst hds;obtain⟨v,hz1,hz2,hz3⟩:=yh hi hz;obtain⟨q1,p1,p2⟩:=(r.mono s1 s2).ev hx;obtain⟨q2,p3,p4⟩:=(r.mono s1 s2).ev hy;rw[dl] at p2 p4;subst p2 p4;have c1:=((hz2 G).cells hz3).1.len;replace hs:=aT hs;have e1: ∀u∈List.replicate l.toNat v,(aF u).length=s:=fun u hu=>by rw[mV hu,c1,hs]
 refine ud p1 p3 h0 hb hl (by rw[c1,hs]) hd (fun b a' w' rl=>?_) a w Q ⟨r.h,r.sz,c9 a,r.df⟩;have hnd:=(bK.1 rl.h.nd).1;refine r.newRow (z:=⟨some ⟨b,0,none⟩,l.toNat,l.toNat⟩) (B:=[⟨b,cP v l.toNat,e,true⟩]) hf ⟨List.replicate l.toNat v, .inr ⟨b,[],true,by simp,by rw[ajj,iU],ew _ e1,by rw[ew _ e1];simp,by simp⟩,SI (hz2 G) _,e1,fun _ o ho=>by rw[aV.1 ho]⟩
  (fun o ho=>by rw[aV.1 ho];exact aQ) (fun m B' _ _ o ho _=>⟨aZ _ ho,fun e'=>?_⟩) hk rl
 cases e';exact hnd o ho J
def ye(lk:LK):Nat->List (Nat×Operand)->Option (List DV)
 |_,[]=>some []
 |j,(i,x)::r=>match evD lk x,ye lk (j+1) r with
  |some d,some l=>bif Nat.beq i j then some (d::l) else none
  |_,_=>none
def LN(r:bG GB C n lk bk ρ G ov a w){zv:Value}(hz:(aF zv).length=s): ∀(ps:List (Nat×Operand)) (j:Nat) (pre:List Value) (ds:List DV),ye lk j ps=some ds->pre.length=j*s->(∀d∈ds,d.okc=true/\d.cells.length=s)->
  ∃vs,vR (cG a) s (pre++cP zv ps.length) ps=some (pre++aC vs)/\IsLs G ds vs/\(∀v∈vs,(aF v).length=s)/\vs.length=ps.length
 |[],j,pre,ds,e,hp,hd=>by
  simp only[ye] at e;cases e;exact⟨[],by simp[vR,cP,aC], .nil,by simp,J⟩
 |(i,x)::ps,j,pre,ds,e,hp,hd=>by
  simp only[ye] at e;split at e
  ·rename_i d l hx hl
   cases hb:Nat.beq i j with
   |false=>rw[hb] at e;cases e
   |true=>
    rw[hb] at e
    cases e
    have:=aT hb;subst this;obtain⟨y,hy,hy'⟩:=r.evD hx;obtain⟨k1,k2⟩:=hd d aQ;have c1:=(hy'.cells k1).1.len;have hov:cE (pre++cP zv (ps.length+1)) (i*s) (aF y)=(pre++aF y)++cP zv ps.length:=by
     rw[Yv,<-hp,Qr _ _ _ _ (by rw[c1,k2,hz]),dX]
    obtain⟨vs,h1,h2,h3,h4⟩:=LN r hz ps (i+1) (pre++aF y) l hl (by rw[aR,c1,k2,hp,gS]) (fun d hd'=>hd d (aZ _ hd'));refine⟨y::vs,?_, .cons hy' h2,fun v hv=>?_,by simp[h4]⟩
    ·simp only[vR,hy,bV]
     rw[if_pos ⟨by rw[c1,k2],by rw[aR,nG,hz,hp,gS];omega⟩,hov,h1];simp[aC]
    ·rcases aW.1 hv with rfl|hv
     ·rw[c1,k2]
     ·exact h3 v hv
  ·cases e
def TM{d:Nat}{i:TI}{z:DV}{len:Nat}{parts:Array (Nat×Operand)}{ds:List DV}[hT:cv P t e s by_](hi:fg P e=some i)(hz:m9 i=some z)(hs:Nat.beq z.cells.length s=true)(hb:ye lk 0 parts.toList=some ds)(hok:Ej s ds=true)(hlen:Nat.beq parts.toList.length len=true)(hsm:Nat.ble (len*s) 1000=true)(hs0:Nat.blt 0 (len*s)=true):
  b8 P GB C n lk bk ⟨some d, .buildSlice t len parts,ty',pos,af,gd⟩ (.rw d) [(d,some (.b e s ds true))] [d]:=by
 intro hd tl tb K s1 s2 hf hk;refine⟨fun ρ G ov a w r Q=>?_⟩;obtain⟨v,hz1,hz2,hz3⟩:=yh hi hz;have c1:=((hz2 G).cells hz3).1.len;replace hs:=aT hs;have hlen':=aT hlen;obtain⟨vs,h1,h2,h3,h4⟩:=LN (r.mono s1 s2) (s:=s) (zv:=v) (by rw[c1,hs]) parts.toList 0 [] ds hb (by simp) (IB hok);rw[cY,cY] at h1;refine Io (z:=v) (out:=aC vs) (by rw[c1,hs]) (by rw[<-hlen'];exact h1) hsm hs0 hd (fun b a' w' rl=>?_) a w Q ⟨r.h,r.sz,c9 a,r.df⟩;have hnd:=(bK.1 rl.h.nd).1;have hvl:vs.length=len:=by rw[h4,hlen']
 refine r.newRow (z:=⟨some ⟨b,0,none⟩,len,len⟩) (B:=[⟨b,aC vs,e,true⟩]) hf ⟨vs, .inr ⟨b,[],true,by rw[hvl],by rw[iU],ew _ h3,by rw[ew _ h3,hvl];simp,by rw[hvl];exact bQ _⟩,h2,h3,fun _ o ho=>by rw[aV.1 ho]⟩
  (fun o ho=>by rw[aV.1 ho];exact aQ) (fun m B' _ _ o ho _=>⟨aZ _ ho,fun e'=>?_⟩) hk rl
 cases e';exact hnd o ho J
def Uw{d:Nat}[hT:cv P t e s by_]:b8 P GB C n lk bk ⟨some d, .buildSlice t 0 #[],ty',pos,af,gd⟩ (.rw d) [(d,some (.b e s [] true))] [d]:=by
 intro hd tl tb K s1 s2 hf hk;refine⟨fun ρ G ov a w r Q=>?_⟩;refine L3 hd (fun b a' w' rl=>?_) a w Q ⟨r.h,r.sz,c9 a,r.df⟩;have hnd:=(bK.1 rl.h.nd).1;refine r.newRow (z:=⟨some ⟨b,0,none⟩,0,0⟩) (B:=[⟨b,[],e,true⟩]) hf ⟨[], .inr ⟨b,[],true,J,by simp[aC],by simp[aC],by simp[aC],by simp⟩, .nil,by simp,fun _ o ho=>by rw[aV.1 ho]⟩
  (fun o ho=>by rw[aV.1 ho];exact aQ) (fun m B' _ _ o ho _=>⟨aZ _ ho,fun e'=>?_⟩) hk rl
 cases e';exact hnd o ho J
def b8.frz{o:Oper}{d:Nat}{B:Bk}{f:FX}{v:DV}(hd:o.dst=some d)(h:b8 P GB C n lk bk o f [(d,some B)] [d])
  (hz: ∀lk bk ρ G ov a w,bG GB C n lk bk ρ G ov a w->bk d=some B-> ∃G' ov',bD G G'/\bu C ov' G' w/\(∀o∈ov,(ρ d).a≠some ⟨o.b,0,none⟩->o∈ov')/\ ∀y,cb ρ G f y->Is G' v y):b8 P GB C n lk bk o (.d v) [(d,none)] [d]:=by
 intro hd' tl tb K s1 s2 hf hk;refine h hd' tl tb K s1 s2 hf ?_;rw[hd] at hk⊢;refine⟨fun ρ G ov a w r=>?_⟩;have hbd:Sx.upB tb [(d,some B)] d=some B:=by simp[Sx.upB]
 obtain⟨G',ov',h1,h2,h3,h4⟩:=hz _ _ ρ G ov a w r hbd;refine hk.run ρ G' ov' a w ⟨r.gb.trans h1,h2,r.sz,r.df,fun k g e=>?_,fun m B' e=>?_,fun m m' B1 B2 e e'=>?_,r.fxd⟩
 ·by_cases hk:k=d
  ·subst hk
   simp only[ey,if_true] at e;cases e;obtain⟨y,g1,g2⟩:=r.fx k f (by simp[ey]);exact⟨y,g1,h4 y g2⟩
  ·simp only[ey,hk,if_false] at e
   obtain⟨y,g1,g2⟩:=r.fx k g (by simp[ey,hk,e]);exact⟨y,g1,g2.up h1⟩
 ·simp only[Sx.upB] at e
  split at e
  ·cases e
  ·rename_i hm
   have e':Sx.upB tb [(d,some B)] m=some B':=by simp[Sx.upB,hm,e]
   obtain⟨os,g1,g2⟩:=r.bx m B' e';exact⟨os,g1.up h1,fun o ho=>h3 o (g2 o ho) fun hc=>r.dj m d B' B e' hbd hm _ (g1.blk ho) hc⟩
 ·simp only[Sx.upB] at e e'
  split at e
  ·cases e
  ·rename_i hm
   split at e'
   ·cases e'
   ·rename_i hm'
    exact r.dj m m' B1 B2 (by simp[Sx.upB,hm,e]) (by simp[Sx.upB,hm',e'])
def b8.frzRow{o:Oper}{d:Nat}{ty:TypeId}{s:Nat}{ds:List DV}(hd:o.dst=some d)(h:b8 P GB C n lk bk o (.rw d) [(d,some (.b ty s ds true))] [d]):b8 P GB C n lk bk o (.d (.sl ds)) [(d,none)] [d]:=
 h.frz hd fun _ _ _ _ _ _ _ r hb=>r.frzRow hb
def aAH{d:Nat}{f:FX}{l:List DV}(e:aO lk x=some f)(hc:f.okc=true)(hn:AQ f d=true)(hl:js f.cells=some l):b8 P GB C n lk bk ⟨some d, .box t x,ty',pos,af,gd⟩ (.d (.pt l)) [(d,none)] [d]:=
 (NP e hc hn).frz J fun _ _ _ _ _ _ _ r hb=>r.frzVar hb hl
def qH(lk:LK)(bk:BM)(s:Nat)(y:Operand):Option (List DV):=match aO lk y with
 |some (.rw nm)=>match bk nm with
  |some (.b _ s' ds _)=>bif Nat.beq s' s then some ds else none
  |_=>none
 |some f=>match lh f with
  |some (.sl l)=>some l
  |_=>none
 |none=>none
def Cx{ds:List DV}(r:bG GB C n lk bk ρ G ov a w)(h:qH lk bk s y=some ds)(hk:dH s ds):
  ∃(z:SV) (vs:List Value),aw (cG a) y=some (.slice z.a z.n z.c)/\z.n=vs.length/\IsLs G ds vs/\(∀v∈vs,(aF v).length=s)/\(∀v∈aC vs,Sx.flat v=true)/\mO P C ov G s z.n (.slice z.a z.n z.c) (aC vs):=by
 have hfl: ∀vs:List Value,IsLs G ds vs->(∀v∈vs,(aF v).length=s)/\ ∀v∈aC vs,Sx.flat v=true:=by
  intro vs hl;refine⟨fun v hv=>?_,fun v hv=>?_⟩
  ·obtain⟨d,hd,h3⟩:=hl.all v hv
   obtain⟨k1,k2⟩:=hk d hd;rw[(h3.cells k1).1.len,k2]
  ·simp only[aC,List.mem_flatten,bJ] at hv
   obtain⟨l,⟨u,hu,rfl⟩,hv⟩:=hv;obtain⟨d,hd,h3⟩:=hl.all u hu;exact(h3.cells (hk d hd).1).2 v hv
 unfold qH at h;split at h
 ·rename_i nm hy
  split at h<;>try (cases h;done)
  rename_i ty s' ds' lo hb
  cases hs:Nat.beq s' s with
  |false=>rw[hs] at h;cases h
  |true=>
   rw[hs] at h;cases h
   cases aT hs
   obtain⟨u,h1,h2⟩:=r.ev hy
   cases h2
   obtain⟨B,⟨vs,hB,hv,hs,_⟩,hmem⟩:=r.row (y:= .nilFunc) hb;obtain⟨f1,f2⟩:=hfl _ hv;refine⟨ρ nm,vs,h1,hB.len,hv,f1,f2,?_⟩;rcases hB with⟨e1,e2,e3⟩|⟨b,rest,lo',h3,h4,h5,h6,h7⟩
   ·simp only[] at e2
    subst e1;rw[e2];exact vU
   ·simp only[] at h3 h4 h5 h6 h7
    have oat:im ov b (aC vs++rest) ty lo':=⟨hmem _ (by rw[h4];exact aQ)⟩;rw[show(ρ nm).a=some ⟨b,0,none⟩ by rw[h3],show(ρ nm).n=vs.length by rw[h3]];refine y7 oat ?_;rw[ma _ _ _ (by rw[aR];omega),jW,fV (by omega),bX (by omega)]
 ·rename_i f _ hy
  split at h<;>cases h;rename_i hd;obtain⟨u,h3,h4⟩:=r.ev hy;obtain⟨s',z,es,rfl,hsl,hl⟩:=iu.1 (oy h4 hd);obtain⟨f1,f2⟩:=hfl _ hl;refine⟨z,es,h3,hsl.len,hl,f1,f2,?_⟩;rcases C7 hsl hl hk with he|he
  ·subst he
   rw[hsl.len];exact vU
  ·subst he;exact Ys hsl
 ·cases h
def aBS{d nm:Nat}{i:TI}{z:DV}{ds ds2:List DV}[hT:cv P t e s by_][hN:kj P t'](hi:fg P e=some i)(hz:m9 i=some z)(hs:Nat.beq z.cells.length s=true)(hx:aO lk x=some (.rw nm))(hb:bk nm=some (.b e s ds true))(hy:qH lk bk s y=some ds2)(hk2:dH s ds2)
  (hby:Nat.blt 0 by_=true)(hbd:(ds.length+ds2.length)*by_<=140737488355328)(hnd:Nat.beq nm d=false){ds':List DV}(hds:ds++ds2=ds'):
  b8 P GB C n lk bk ⟨some d, .call ⟨.builtin .append, #[x,y], #[t,t']⟩,ty',pos,af,gd⟩ (.rw d) [(nm,none),(d,some (.b e s ds' true))] [d]:=by
 intro hd tl tb K s1 s2 hf hk;refine⟨fun ρ G ov a w r Q=>?_⟩;subst hds;have r1:=r.mono s1 s2;obtain⟨v,hz1,hz2,hz3⟩:=yh hi hz;have cz:=((hz2 G).cells hz3).1.len;replace hs:=aT hs;rw[mT] at hby
 have hne:nm≠d:=fun e=>by subst e;simp at hnd
 obtain⟨u,hx',hx2⟩:=r1.ev hx
 cases hx2
 obtain⟨B,⟨vs,hB,hv,hvs,hlo⟩,hBo⟩:=r1.row (y:= .nilFunc) hb;simp only[] at hB hv hvs;obtain⟨w2,us,hy',h2,h3,h4,h5,h6⟩:=Cx (P:=P) r1 hy hk2;have hus:(aC us).length=us.length*s:=ew us h4;have hbd':(vs.length+us.length)*by_<=140737488355328:=by rw[hv.len,h3.len];exact hbd
 have hall: ∀v∈vs++us,(aF v).length=s:=fun v hv=>by
  rcases bW.1 hv with hv|hv
  ·exact hvs v hv
  ·exact h4 v hv
 have rd:=r.dropB nm;have hf':kz [d] (some d) tl (Sx.upB tb [(nm,none)]):=fun m hm=>by
  obtain⟨g1,g2⟩:=hf m hm;refine⟨g1,fun k B' hk e=>g2 k B' hk ?_⟩;simp only[Sx.upB] at e;split at e
  ·cases e
  ·exact e
 have hbk: ∀m B',(Sx.upB tb [(nm,none)]) m=some B'->m≠nm/\tb m=some B':=fun m B' e=>by
  simp only[Sx.upB] at e;split at e
  ·cases e
  ·exact⟨by assumption,e⟩
 have hfin: ∀(b:Nat) (cap':Nat) (rest':List Value) (ov1:List ak) a' w',vs.length+us.length<=cap'->rest'.length+(vs.length+us.length)*s=cap'*s->(∀o∈ov,(ρ nm).a≠some ⟨o.b,0,none⟩->o∈ov1)->
   gu C n (put (cG a) (some d) (.slice (some ⟨b,0,none⟩) (vs.length+us.length) cap')) (⟨b,aC (vs++us)++rest',e,true⟩::ov1) G a' w'->K a' w':=by
  intro b cap' rest' ov1 a' w' hc hr ho1 rl;have hnd':=(bK.1 rl.h.nd).1;refine rd.newRow (z:=⟨some ⟨b,0,none⟩,vs.length+us.length,cap'⟩) (B:=[⟨b,aC (vs++us)++rest',e,true⟩]) hf' ⟨vs++us, .inr ⟨b,rest',true,by simp,J,ew _ hall,?_,by simpa using hc⟩,hv.app h3,hall,fun _ o ho=>by rw[aV.1 ho]⟩
   (fun o ho=>by rw[aV.1 ho];exact aQ) (fun m B' hm e o ho hmo=>?_) hk rl
  ·rw[ew _ hall,aR]
   simp only[];omega
  ·obtain⟨h7,h8⟩:=hbk m B' e
   have ho2:=ho1 o ho fun hc=>r.dj m nm B' _ h8 (s2 _ _ hb) h7 _ hmo hc;exact⟨aZ _ ho2,fun e'=>by cases e';exact hnd' o ho2 J⟩
 rcases hB with⟨e1,e2,e3⟩|⟨b,rest,lo',k3,k4,k5,k6,k7⟩
 ·subst e1
  rw[e2] at hx';by_cases hne:us=[]
  ·subst hne
   have:ds2=[]:=bU (by rw[<-h3.len];rfl);subst this;rw[h2] at hy';refine Mk hx' hy' hd (fun a' w' rl=>?_) a w Q ⟨r.h,r.sz,c9 a,r.df⟩;refine rd.newRow (z:=⟨none,0,0⟩) (B:=[]) hf' ⟨[], .inl ⟨J,J,J⟩,by simpa using hv,by simp,fun _ o ho=>by cases ho⟩ (fun o ho=>by cases ho) (fun m B' hm e o ho hmo=>⟨ho,fun e'=>by cases e'⟩) hk rl
  ·have hup:0<us.length:=qU.2 hne
   rw[h2] at hy' h6;refine BS (z:=v) (xs:=[]) (ys:=aC us) hx' hy' vU h6 (by show(0:Nat)<0+us.length;omega) hby (by simpa using hbd') hd (fun b cap' hc a' w' rl=>?_) a w Q ⟨r.h,r.sz,c9 a,r.df⟩;exact hfin b cap' (cP v (cap'-us.length)) ov a' w' (by simpa using hc) (by rw[nG,cz,hs,<-dQ];simp at hc⊢;congr 1;omega) (fun o ho _=>ho) (by simpa using rl)
 ·have hl:=hlo J
  subst k4;have hlo':lo'=true:=hl _ aQ;subst hlo';have ha:(ρ nm).a=some ⟨b,0,none⟩:=by rw[k3]
  have hn:(ρ nm).n=vs.length:=by rw[k3]
  rw[ha,hn] at hx';rw[h2] at hy' h6;obtain⟨ov1,o1,o2⟩:=jy.of_mem (hBo _ aQ);refine Ug (z:=v) (xs:=aC vs) (ys:=aC us) (rest:=rest) (own1:=ov1) hx' hy' o1 k5 k6 k7 h6 hus h5 hby hbd' (by rw[cz,hs]) hd (fun b' cap' rest' hc hr a' w' rl=>?_) a w Q ⟨r.h,r.sz,c9 a,r.df⟩;rw[<-nq] at rl;exact hfin b' cap' rest' ov1 a' w' hc hr (fun o ho hne=>o2 o ho fun e'=>hne (by rw[ha,e'])) rl
end
section
variable {P:Program} {T:TT} {GB:Gh} {C:aD} {n:Nat} {lk:LK} {bk:BM} {ρ:NE} {G:Gh} {ov:List ak} {a:Act} {w:World}
variable {dst:Option Nat} {t t' ty':TypeId} {pos:String} {af:Array Edge} {gd:Option (Nat×Bool)} {x y:Operand} {e s by_:Nat}
def H2{vs:List Value}{rest cs:List Value}{i sz j:Nat}{v':Value}(hil:i<vs.length)(hvs: ∀v∈vs,(aF v).length=sz)(hv':aF v'=cE (aF vs[i]) j cs)(hj:j+cs.length<=sz):cE (aC vs++rest) (i*sz+j) cs=aC (vs.set i v')++rest:=by
 have hm:(aF vs[i]).length=sz:=hvs _ (gV hil);have hl':(aF v').length=sz:=by rw[hv',Dq,hm]
 rw[<-Ve (rest:=rest) (u:=v') vs i hil hvs hl',hv'];have hlv:=ew vs hvs;have hle:i*sz+sz<=vs.length*sz:=by rw[<-gS];exact bR _ hil
 generalize hmm:aF vs[i]=m at*;have hX:aC vs++rest=(aC vs).take (i*sz)++(m++((aC vs).drop (i*sz+sz)++rest)):=by
  have t1:=HH (rest:=rest) hvs hil;rw[hmm] at t1;obtain⟨_,t2⟩:=BW t1;have t3:m=((aC vs).drop (i*sz)).take sz:=by
   have:m=((aC vs++rest).drop (i*sz)).take sz:=t2;rw[this,jR (by omega),fV (by rw[iW];omega)]
  rw[t3]
  conv=>lhs;rw[<-lM (i*sz) (aC vs),<-lM sz ((aC vs).drop (i*sz)),tW]
  simp[dX]
 have hP:((aC vs).take (i*sz)).length=i*sz:=by rw[cK];omega
 generalize (aC vs).take (i*sz)=A at hX hP;generalize (aC vs).drop (i*sz+sz)++rest=Z at hX;rw[hX,<-hP,Qr A m Z (cE m j cs) (by rw[Dq])];rw[pD _ m j (by omega),pD _ _ _ (by simp only[aR];omega)];rw[List.take_append,bX (by omega),Nat.add_sub_cancel_left,fV (by omega)];rw[nZ,iQ (by omega),cY,show A.length+j+cs.length-A.length=j+cs.length by omega,jR (by omega)];simp[dX]
def Em(ag:Option Nat)(d:DV)(j:Nat)(u:DV):Option DV:=match d with
 | .ag l=>match ag with
  |some k=>bif u.okc&&(Nat.beq u.cells.length k&&Nat.ble (j+k) l.length) then some (.ag (CJ l j u.cells)) else none
  |none=>bif u.flat&&Nat.blt j l.length then some (.ag (l.set j u)) else none
 |d=>match ag with
  |some _=>none
  |none=>bif d.flat&&(u.flat&&Nat.beq j 0) then some u else none
def bG.wroteRow{nm b:Nat}{ty:TypeId}{sz:Nat}{ds ds':List DV}{lo lo':Bool}{m':List Value}{own':List ak}(r:bG GB C n lk bk ρ G ov a w)(hb:bk nm=some (.b ty sz ds lo))(ha:(ρ nm).a=some ⟨b,0,none⟩)(hB:du G ⟨ρ nm,sz,ty,ds',lo⟩ [⟨b,m',ty,lo'⟩])
  (h1:⟨b,m',ty,lo'⟩∈own')(h2: ∀o∈ov,o.b≠b->o∈own'){K:Act->World->Prop}(hk:SX GB C n (ey lk dst .un) (Sx.upB bk [(nm,some (.b ty sz ds' lo))]) K){a':Act}{w':World}(rl:gu C n (Sx.put (cG a) dst undef) own' G a' w'):K a' w':=by
 have r2:=r.upB (G':=G) (ov':=own') (w':=w') (B':= .b ty sz ds' lo) (bD.refl _) rl.h (hB.toBk J) (fun o ho=>by rw[aV.1 ho];exact h1) (fun o ho hne=>h2 o ho fun e=>hne (by rw[ha,e])) ⟨_,hb⟩;exact hk.run _ _ _ a' w' (r2.put J (kG rl))
def QU(cs:List Value)(o:Nat)(v:Value):cE cs o [v]=cs.set o v:=rfl
def XQ{i:TI}{ag:Option Nat}{nm sz k j:Nat}{ty:TypeId}{ds ds':List DV}{lo:Bool}{d d' u:DV}(hi:fg P t=some i)(ha:i.ag=some ag)(hx:aO lk x=some (.be nm sz k j))(hb:bk nm=some (.b ty sz ds lo))(hy:evD lk y=some u)(he:ds[k]? =some d)(hl:Em ag d j u=some d')(hds:ds.set k d'=ds'):
  b8 P GB C n lk bk ⟨dst, .store t x y,ty',pos,af,gd⟩ .un [(nm,some (.b ty sz ds' lo))] []:=by
 intro hd tl tb K s1 s2 hf hk;refine⟨fun ρ G ov a w r Q=>?_⟩;subst hds;have r1:=r.mono s1 s2;obtain⟨y',h1,h2⟩:=r1.evD hy;obtain⟨x',h3,b,hwb,rfl⟩:=r1.ev hx;obtain⟨B,hB,hBo⟩:=r1.row (y:= .nilFunc) hb;obtain⟨b',vs,rest,lo',e1,rfl,hv,hvs,hil,hup⟩:=hB.upd he;rw[hwb] at e1;cases e1;obtain⟨v,g1,g2⟩:=hv.get he;obtain⟨g3,g4⟩:=aS.1 g1;have hlv:=ew vs hvs;have hle:k*sz+sz<=vs.length*sz:=by rw[<-gS];exact bR _ hil
 have hml:(aF v).length=sz:=hvs _ (aM g1)
 cases ag with
 |some q=>
  have:=Aq hi ha;unfold Em at hl;split at hl
  ·rename_i l
   simp only at hl
   cases hc:(u.okc&&(Nat.beq u.cells.length q&&Nat.ble (j+q) l.length)) with
   |false=>rw[hc] at hl;cases hl
   |true=>
    rw[hc] at hl;cases hl;simp only[aL,Nat.ble_eq] at hc;obtain⟨c1,c2,c3⟩:=hc;replace c2:=aT c2;obtain⟨c4,c5⟩:=h2.cells c1;obtain⟨m,rfl,hm⟩:=c7.1 g2;have hcl:(aF y').length=q:=by rw[c4.len,c2]
    have hmd:=hm.len;have hsz:m.length=sz:=hml;have key:=hup (.agg ⟨cE m j (aF y')⟩) (.ag (CJ l j u.cells)) (c7.2 ⟨_,J,hm.ov c4⟩) (by show(cE m j (aF y')).length=sz;rw[Dq,hsz]);have hov:=H2 (rest:=rest) (v':= .agg ⟨cE m j (aF y')⟩) (cs:=aF y') (j:=j) hil hvs (by rw[g4];rfl) (by omega);obtain⟨own',u1,u2,u3⟩:=fG.of_mem (cs':=cE (aC vs++rest) (k*sz+j) (aF y')) (hBo _ aQ);refine Fi h3 h1 u1 hcl (by rw[aR];omega) (fW.2 c5) hd (fun a' w' rl=>?_) a w Q ⟨r.h,r.sz,c9 a,r.df⟩;rw[hov] at u2;exact r.wroteRow (s2 _ _ hb) hwb key u2 u3 hk rl
  ·simp at hl
 |none=>
  have:=A3 hi ha;unfold Em at hl;split at hl
  ·rename_i l
   simp only at hl
   cases hc:(u.flat&&Nat.blt j l.length) with
   |false=>rw[hc] at hl;cases hl
   |true=>
    rw[hc] at hl;cases hl;simp only[aL,mT] at hc;obtain⟨c1,c2⟩:=hc;have hfl:=h2.flat c1;have hcl:=BF hfl;obtain⟨m,rfl,hm⟩:=c7.1 g2;have hmd:=hm.len;have hsz:m.length=sz:=hml;have key:=hup (.agg ⟨m.set j y'⟩) (.ag (l.set j u)) (c7.2 ⟨_,J,hm.set j h2⟩) (by show(m.set j y').length=sz;rw[aN,hsz]);have hov:=H2 (rest:=rest) (v':= .agg ⟨m.set j y'⟩) (cs:=[y']) (j:=j) hil hvs (by rw[g4];rfl) (by simp;omega);rw[QU] at hov;obtain⟨own',u1,u2,u3⟩:=fG.of_mem (cs':=(aC vs++rest).set (k*sz+j) y') (hBo _ aQ);refine tM h3 h1 u1 (by rw[aR];omega) hfl hd (fun a' w' rl=>?_) a w Q ⟨r.h,r.sz,c9 a,r.df⟩;rw[hov] at u2;exact r.wroteRow (s2 _ _ hb) hwb key u2 u3 hk rl
  ·rename_i hna
   simp only at hl
   cases hc:(d.flat&&(u.flat&&Nat.beq j 0)) with
   |false=>rw[hc] at hl;cases hl
   |true=>
    rw[hc] at hl;cases hl;simp only[aL] at hc;obtain⟨c0,c1,c2⟩:=hc
    cases aT c2
    have hfl:=h2.flat c1;have hcl:=BF hfl;have hvl:=BF (g2.flat c0);have h1z:1=sz:=by rw[<-hml,hvl];rfl
    have key:=hup y' d' h2 (by rw[hcl,<-h1z];rfl);have hov:=H2 (rest:=rest) (v':=y') (cs:=[y']) (j:=0) hil hvs (by rw[g4,hvl,hcl];rfl) (by simp;omega);rw[QU] at hov;obtain⟨own',u1,u2,u3⟩:=fG.of_mem (cs':=(aC vs++rest).set (k*sz+0) y') (hBo _ aQ);refine tM h3 h1 u1 (by rw[aR];omega) hfl hd (fun a' w' rl=>?_) a w Q ⟨r.h,r.sz,c9 a,r.df⟩;rw[hov] at u2;exact r.wroteRow (s2 _ _ hb) hwb key u2 u3 hk rl
def mG(lk:LK)(dflt:Nat):Option Operand->Option Int
 |none=>some (dflt:Nat)
 |some o=>match aO lk o with
  |some (.d (.v (.int .i64 i)))=>some i
  |_=>none
def aEi{l:List DV}{lo hi:Option Operand}{nlo nhi:Nat}[hT:cv P t e s by_](hx:evD lk x=some (.sl l))(ho:dH s l)(hlo:mG lk 0 lo=some (nlo:Int))(hhi:mG lk l.length hi=some (nhi:Int))(h1:nlo<=nhi)(h2:nhi<=l.length):
  b8 P GB C n lk bk ⟨dst, .slice t x lo hi none,ty',pos,af,gd⟩ (.d (.sl ((l.take nhi).drop nlo))) [] []:= .yd fun ρ G ov a w r=>by
 obtain⟨u,h3,h4⟩:=r.evD hx;obtain⟨s',z,es,rfl,hsl,hl⟩:=iu.1 h4;have hn:=hsl.len;have hcap:=hsl.cap;have hll:=hl.len;have key: ∀mx',nhi<=mx'->mx'<=z.c->Is G (.sl ((l.take nhi).drop nlo)) (nn z.a z.n z.c nlo nhi mx' s):=by
  intro mx' hm1 hm2;rcases C7 hsl hl ho with he|he
  ·subst he
   have:l=[]:=bU (by rw[<-hll];rfl);subst this;have e1:nhi=0:=by simp at h2;exact h2
   have e2:nlo=0:=by omega
   subst e1 e2;refine iu.2 ⟨s,⟨_,0,mx'⟩,[],J,⟨J,bT _, .inl J⟩,by simpa using IsLs.nil⟩
  ·subst he
   refine iu.2 ⟨s',⟨_,_,_⟩,_,J,hsl.sub nlo nhi mx' h1 (by omega) hm1 hm2,(hl.take nhi).drop nlo⟩
 have bnd: ∀{o:Operand} {d:Nat} {i:Int},mG lk d (some o)=some i->aw (cG a) o=some (.int .i64 i):=fun{o d i} h=>by
  simp only[mG] at h;split at h<;>cases h;rename_i he;obtain⟨q,g1,g2⟩:=r.ev he;rw[dl] at g2;subst g2;exact g1
 match lo,hi,hlo,hhi with
 |none,none,hlo,hhi=>
  simp only[mG,Option.some.injEq] at hlo hhi;have e1:nlo=0:=by omega
  have e2:nhi=l.length:=by omega
  subst e1 e2;refine⟨_,key z.c (by omega) (bQ _),?_⟩;intro a w0 hf hh;simp only[execOp,bm hf h3,rQ];have h9:=Bv (P:=P) (t:=t) (ad:=z.a) (len:=z.n) (cap:=z.c) w0 (lo:=none) (hi:=none) (mx:=none) (l:=0) (h:=l.length) (m:=z.c) (fun w0=>by
   simp[Instr.sliceBounds,Result.andThen,run_pure];omega)
  exact c6 h9
 |none,some o2,hlo,hhi=>
  simp only[mG,Option.some.injEq] at hlo;have e1:nlo=0:=by omega
  subst e1;refine⟨_,key z.c (by omega) (bQ _),?_⟩;have h9:=Bo (P:=P) (C:=C) (own:=ov) (G:=G) (t:=t) (dst:=dst) (ty':=ty') (pos:=pos) (af:=af) (gd:=gd) h3 (bnd hhi) (by omega) (by omega);have e9:nn z.a z.n z.c 0 nhi z.c s= .slice z.a nhi z.c:=by
   unfold nn
   cases z.a with
   |none=>simp
   |some ad=>simp[Addr.add]
  rw[e9];simpa using h9
 |some o1,none,hlo,hhi=>
  simp only[mG,Option.some.injEq] at hhi;have e2:nhi=l.length:=by omega
  subst e2;refine⟨_,key z.c (by omega) (bQ _),?_⟩;have h9:=D0 (P:=P) (C:=C) (own:=ov) (G:=G) (t:=t) (dst:=dst) (ty':=ty') (pos:=pos) (af:=af) (gd:=gd) h3 (bnd hlo) (by omega) (by omega);have e9:z.n=l.length:=by omega
  rw[bZ,e9] at h9;rw[e9];exact h9
 |some o1,some o2,hlo,hhi=>
  refine⟨_,key z.c (by omega) (bQ _),?_⟩;have h9:=al3 (P:=P) (C:=C) (own:=ov) (G:=G) (t:=t) (dst:=dst) (ty':=ty') (pos:=pos) (af:=af) (gd:=gd) h3 (bnd hlo) (bnd hhi) (by omega) (by omega) (by omega);simpa using h9
def Yw{l:List DV}{hi mx:Operand}{nhi:Nat}[hT:cv P t e s by_](hx:evD lk x=some (.sl l))(ho:dH s l)(hhi:mG lk 0 (some hi)=some (nhi:Int))(hmx:mG lk 0 (some mx)=some (nhi:Int))(h2:nhi<=l.length):
  b8 P GB C n lk bk ⟨dst, .slice t x none (some hi) (some mx),ty',pos,af,gd⟩ (.ct (l.take nhi)) [] []:= .yd fun ρ G ov a w r=>by
 obtain⟨u,h3,h4⟩:=r.evD hx;obtain⟨s',z,es,rfl,hsl,hl⟩:=iu.1 h4;have hn:=hsl.len;have hcap:=hsl.cap;have hll:=hl.len;have bnd: ∀{o:Operand} {d:Nat} {i:Int},mG lk d (some o)=some i->aw (cG a) o=some (.int .i64 i):=fun{o d i} h=>by
  simp only[mG] at h;split at h<;>cases h;rename_i he;obtain⟨q,g1,g2⟩:=r.ev he;rw[dl] at g2;subst g2;exact g1
 refine⟨.slice z.a nhi nhi,⟨⟨_,_,J⟩,Z0 hsl hl ho h2 (bQ _) (by omega)⟩,?_⟩;have h9:=ZX (P:=P) (C:=C) (own:=ov) (G:=G) (t:=t) (dst:=dst) (ty':=ty') (pos:=pos) (af:=af) (gd:=gd) h3 (bnd hhi) (bnd hmx) (by omega) (Int.le_refl _) (by omega);simpa using h9
def RB{d:Nat}{i:TI}{z:DV}{ds ds2:List DV}[hT:cv P t e s by_][hN:kj P t'](hi:fg P e=some i)(hz:m9 i=some z)(hs:Nat.beq z.cells.length s=true)(hx:aO lk x=some (.ct ds)\/(aO lk x=some .nl/\ds=[]))(ox:dH s ds)(hy:qH lk bk s y=some ds2)(hk2:dH s ds2)(hne:0<ds2.length)
  (hby:Nat.blt 0 by_=true)(hbd:(ds.length+ds2.length)*by_<=140737488355328){ds':List DV}(hds:ds++ds2=ds'):
  b8 P GB C n lk bk ⟨some d, .call ⟨.builtin .append, #[x,y], #[t,t']⟩,ty',pos,af,gd⟩ (.rw d) [(d,some (.b e s ds' true))] [d]:=by
 intro hd tl tb K s1 s2 hf hk;refine⟨fun ρ G ov a w r Q=>?_⟩;subst hds;have r1:=r.mono s1 s2;obtain⟨v,hz1,hz2,hz3⟩:=yh hi hz;have cz:=((hz2 G).cells hz3).1.len;replace hs:=aT hs;rw[mT] at hby
 obtain⟨w2,us,h1,h2,h3,h4,h5,h6⟩:=Cx (P:=P) r1 hy hk2;have hxs:qH lk bk s x=some ds:=by
  unfold qH;rcases hx with hx|⟨hx,rfl⟩<;>rw[hx]<;>rfl
 obtain⟨w1,vs,g1,g2,g3,g4,g5,g6⟩:=Cx (P:=P) r1 hxs ox;have hc1:w1.c=w1.n:=by
  rcases hx with hx|⟨hx,rfl⟩
  ·obtain⟨y1,k1,⟨a1,n1,rfl⟩,_⟩:=r1.ev hx
   rw[k1] at g1;simp only[Option.some.injEq,Value.slice.injEq] at g1;omega
  ·obtain⟨y1,k1,k2⟩:=r1.ev hx
   cases k2
   rw[k1] at g1;simp only[Option.some.injEq,Value.slice.injEq] at g1;omega
 have hl3:=h3.len;have hl4:=g3.len;have hall: ∀v∈vs++us,(aF v).length=s:=fun v hv=>by
  rcases bW.1 hv with hv|hv
  ·exact g4 v hv
  ·exact h4 v hv
 refine BS (z:=v) (xs:=aC vs) (ys:=aC us) (ad:=w1.a) (len:=w1.n) (cap:=w1.c) g1 h1 g6 h6 (by omega) hby (by rw[g2,h2,hl3,hl4];exact hbd) hd (fun b cap' hc a' w' rl=>?_) a w Q ⟨r.h,r.sz,c9 a,r.df⟩;rw[<-nq] at rl;have hnd':=(bK.1 rl.h.nd).1;refine r.newRow (z:=⟨some ⟨b,0,none⟩,w1.n+w2.n,cap'⟩) (B:=[⟨b,aC (vs++us)++cP v (cap'-(w1.n+w2.n)),e,true⟩]) hf ⟨vs++us, .inr ⟨b,_,true,by simp[g2,h2],J,ew _ hall,?_,by simpa[g2,h2] using hc⟩,g3.app h3,hall,fun _ o ho=>by rw[aV.1 ho]⟩
  (fun o ho=>by rw[aV.1 ho];exact aQ) (fun m B' hm e o ho _=>⟨aZ _ ho,fun e'=>by cases e';exact hnd' o ho J⟩) hk rl
 rw[ew _ hall,aR,nG,cz,hs,<-dQ,g2,h2];congr 1;rw[g2,h2] at hc;dsimp only;omega
end
section
variable {GB:Gh} {C:aD} {n:Nat} {Q0:Exit->Act->World->Prop} {fr fr':aA} {own own':aI} {cf cf':Cf} {vc:List Prop} {ops:Array Oper} {o:Oper} {K:List Kt} {r:List Oper}
def ce(fr:aA)(cf:Cf):Option Oper:=match HG cf with
 |some (ops,o)=>bif yn ops (bE fr cf) o.guard then some o else none
 |none=>none
def IR(h:ce fr cf=some o): ∃ops,HG cf=some (ops,o)/\yn ops (bE fr cf) o.guard=true:=by
 unfold ce at h;split at h<;>try (cases h;done)
 rename_i ops o' hh
 cases hg:yn ops (bE fr cf) o'.guard with
 |false=>rw[hg] at h;cases h
 |true=>rw[hg] at h;cases h;exact⟨ops,hh,hg⟩
def us{q:Nat}{f:FX}{bl:List (Nat×Option Bk)}{nw:List Nat}(hh:ce fr cf=some o)(h:b8 prog GB C n (bE fr cf) (gD fr own cf) o f bl nw)
  (hgo:cI tt n q fr own cf f bl nw=⟨vc,fr',own',cf'⟩)(hv:ah vc)(k:aj prog GB C n Q0 fr' own' cf'):aj prog GB C n Q0 fr own cf:=by
 obtain⟨ops,h1,h2⟩:=IR hh;exact uo h1 h2 h hgo hv k
def GO(fr:aA)(cf:Cf):Option (FuncId×List DV):=match ce fr cf with
 |some ⟨_, .call ⟨.value fo,args,_⟩,_,_,_,_⟩=>xt (bE fr cf) fo args
 |_=>none
def cl[fu:Fu]{f:FuncId}{ds:List DV}{rv:DV}(ha:GO fr cf=some (f,ds))(hF:PF GB prog f ds rv)(hgo:cI tt n fu.n fr own cf (.d rv) [] []=⟨vc,fr',own',cf'⟩)(k:aj prog GB C n Q0 fr' own' cf')
  (hv:ah vc:=by first|exact trivial|(simp only[ah];kernel_rfl)|(simp only[ah];omega)|(simp only[ah,aJ,aN,aU];omega)):aj prog GB C n Q0 fr own cf:=by
 unfold GO at ha;split at ha<;>try (cases ha;done)
 rename_i hh;exact us hh (ZU ha hF) hgo hv k
def Sh(fr:aA)(cf:Cf):Option (List DV×Int×Nat):=match ce fr cf with
 |some ⟨_, .indexAddr t x y,_,_,_,_⟩=>match evD (bE fr cf) x with
  |some (.sl l)=>match aO (bE fr cf) y with
   |some (.d (.v (.int _ i)))=>match dB tt t with
    |some ⟨.sl _ s _,_,_,_⟩=>some (l,i,s)
    |_=>none
   |_=>none
  |_=>none
 |_=>none
def TB(n q:Nat)(fr:aA)(own:aI)(cf:Cf)(d:DV)(s:Nat):Ar:=bif d.okc&&Nat.beq d.cells.length s then l9 d.cells fun cs=>cI tt n q fr own cf (.ep cs) [] [] else bad
def ix[fu:Fu](d:DV){l:List DV}{i:Int}{s:Nat}(h:Sh fr cf=some (l,i,s))(he:l[i.toNat]? =some d)(hgo:TB n fu.n fr own cf d s=⟨vc,fr',own',cf'⟩)(k:aj prog GB C n Q0 fr' own' cf')(h0:0<=i:=by omega)
  (hv:ah vc:=by first|exact trivial|(simp only[ah];kernel_rfl)|(simp only[ah];omega)|(simp only[ah,aJ,aN,aU];omega)):aj prog GB C n Q0 fr own cf:=by
 unfold Sh at h;split at h<;>try (cases h;done)
 rename_i hh;split at h<;>try (cases h;done)
 rename_i hx;split at h<;>try (cases h;done)
 rename_i hy;split at h<;>cases h;rename_i hT;have:=ja (d9 _ _ hT) J;unfold TB at hgo
 cases hc:(d.okc&&Nat.beq d.cells.length s) with
 |false=>simp only[hc,cond_false,bad] at hgo;cases hgo;exact absurd hv (fun x=>x)
 |true=>
  simp only[hc,cond_true,tP] at hgo;exact us hh (aDn hx hy h0 he hc) hgo hv k
structure Y1 where
 ds:List DV
 k:Nat
 j:Nat
 ag:Option Nat
def Nj(fr:aA)(own:aI)(cf:Cf):Option Y1:=match ce fr cf with
 |some ⟨_, .load t x,_,_,_,_⟩=>match aO (bE fr cf) x with
  |some (.be nm sz k j)=>match gD fr own cf nm with
   |some (.b _ s ds _)=>bif Nat.beq s sz then(match dB tt t with
    |some i=>match i.ag with
     |some ag=>some ⟨ds,k,j,ag⟩
     |none=>none
    |none=>none) else none
   |_=>none
  |_=>none
 |_=>none
def Sg(n q:Nat)(fr:aA)(own:aI)(cf:Cf)(d:DV)(ag:Option Nat)(j:Nat):Ar:=bif d.okc then(match Dd ag d.cells j with
 |some c=>cI tt n q fr own cf (.d c) [] []
 |none=>bad) else bad
def lb[fu:Fu](d:DV){ds:List DV}{k' j:Nat}{ag:Option Nat}(h:Nj fr own cf=some ⟨ds,k',j,ag⟩)(he:ds[k']? =some d)(hgo:Sg n fu.n fr own cf d ag j=⟨vc,fr',own',cf'⟩)(k:aj prog GB C n Q0 fr' own' cf')
  (hv:ah vc:=by first|exact trivial|(simp only[ah];kernel_rfl)|(simp only[ah];omega)|(simp only[ah,aJ,aN,aU];omega)):aj prog GB C n Q0 fr own cf:=by
 unfold Nj at h;split at h<;>try (cases h;done)
 rename_i hh;split at h<;>try (cases h;done)
 rename_i hx;split at h<;>try (cases h;done)
 rename_i ty s ds' lo hb;rw[cond_eq_ite] at h;split at h<;>try (cases h;done)
 rename_i hs
 cases aT hs
 split at h<;>try (cases h;done)
 rename_i hT;split at h<;>cases h;rename_i ha;unfold Sg at hgo
 cases hc:d.okc with
 |false=>simp only[hc,cond_false,bad] at hgo;cases hgo;exact absurd hv (fun x=>x)
 |true=>
  simp only[hc,cond_true] at hgo
  cases hl:Dd ag d.cells j with
  |none=>simp only[hl,bad] at hgo;cases hgo;exact absurd hv (fun x=>x)
  |some c=>simp only[hl] at hgo;exact us hh (aEU (d9 _ _ hT) ha hx hb he hc hl) hgo hv k
structure SbA where
 nm:Nat
 ty:TypeId
 s:Nat
 ds:List DV
 lo:Bool
 k:Nat
 j:Nat
 ag:Option Nat
 u:DV
def RT(fr:aA)(own:aI)(cf:Cf):Option SbA:=match ce fr cf with
 |some ⟨_, .store t x y,_,_,_,_⟩=>match aO (bE fr cf) x with
  |some (.be nm sz k j)=>match gD fr own cf nm with
   |some (.b ty s ds lo)=>bif Nat.beq s sz then(match dB tt t with
    |some i=>match i.ag with
     |some ag=>match evD (bE fr cf) y with
      |some u=>some ⟨nm,ty,s,ds,lo,k,j,ag,u⟩
      |none=>none
     |none=>none
    |none=>none) else none
   |_=>none
  |_=>none
 |_=>none
def sb[fu:Fu](d:DV){nm:Nat}{ty:TypeId}{s:Nat}{ds:List DV}{lo:Bool}{k' j:Nat}{ag:Option Nat}{u d':DV}(ds':List DV)(h:RT fr own cf=some ⟨nm,ty,s,ds,lo,k',j,ag,u⟩)(he:ds[k']? =some d)(hl:Em ag d j u=some d')(hds:ds.set k' d'=ds')
  (hgo:cI tt n fu.n fr own cf .un [(nm,some (.b ty s ds' lo))] []=⟨vc,fr',own',cf'⟩)(k:aj prog GB C n Q0 fr' own' cf')
  (hv:ah vc:=by first|exact trivial|(simp only[ah];kernel_rfl)|(simp only[ah];omega)|(simp only[ah,aJ,aN,aU];omega)):aj prog GB C n Q0 fr own cf:=by
 unfold RT at h;split at h<;>try (cases h;done)
 rename_i hh;split at h<;>try (cases h;done)
 rename_i hx;split at h<;>try (cases h;done)
 rename_i hb;rw[cond_eq_ite] at h;split at h<;>try (cases h;done)
 rename_i hs
 cases aT hs
 split at h<;>try (cases h;done)
 rename_i hT;split at h<;>try (cases h;done)
 rename_i ha;split at h<;>cases h;rename_i hy;exact us hh (XQ (d9 _ _ hT) ha hx hb hy he hl hds) hgo hv k
structure MkA where
 d:Nat
 e:Nat
 s:Nat
 b:Nat
 z:DV
 l:Int
def EO(fr:aA)(cf:Cf):Option MkA:=match ce fr cf with
 |some ⟨some d, .makeSlice t x y,_,_,_,_⟩=>match aO (bE fr cf) x with
  |some (.d (.v (.int _ l)))=>match dB tt t with
   |some ⟨.sl e s b,_,_,_⟩=>match dB tt e with
    |some i=>match m9 i with
     |some z=>bif Nat.beq z.cells.length s then some ⟨d,e,s,b,z,l⟩ else none
     |none=>none
    |none=>none
   |_=>none
  |_=>none
 |_=>none
def mk[fu:Fu]{d e s b:Nat}{z:DV}{l:Int}{k':IntKind}(ds:List DV)(h:EO fr cf=some ⟨d,e,s,b,z,l⟩)(hy:(match ce fr cf with|some ⟨_, .makeSlice _ _ y,_,_,_,_⟩=>aO (bE fr cf) y|_=>none)=some (.d (.v (.int k' l))))(hds:List.replicate l.toNat z=ds)
  (hgo:cI tt n fu.n fr own cf (.rw d) [(d,some (.b e s ds true))] [d]=⟨vc,fr',own',cf'⟩)(k:aj prog GB C n Q0 fr' own' cf')(h0:0<=l:=by omega)(hb:b*l<=140737488355328:=by omega)(hl:l<=1152921504606846976:=by omega)
  (hv:ah vc:=by first|exact trivial|(simp only[ah];kernel_rfl)|(simp only[ah];omega)|(simp only[ah,aJ,aN,aU];omega)):aj prog GB C n Q0 fr own cf:=by
 unfold EO at h;split at h<;>try (cases h;done)
 rename_i hh;split at h<;>try (cases h;done)
 rename_i hx;split at h<;>try (cases h;done)
 rename_i hT;split at h<;>try (cases h;done)
 rename_i hi;split at h<;>try (cases h;done)
 rename_i hz;rw[cond_eq_ite] at h;split at h<;>cases h;rename_i hs;rw[hh] at hy;have:=ja (d9 _ _ hT) J;exact us hh (aCO (d9 _ _ hi) hz hs hx hy h0 hb hl hds) hgo hv k
structure Ms where
 d:Nat
 e:Nat
 s:Nat
 ds:List DV
def Gc(fr:aA)(cf:Cf):Option Ms:=match ce fr cf with
 |some ⟨some d, .buildSlice t len parts,_,_,_,_⟩=>match dB tt t with
  |some ⟨.sl e s _,_,_,_⟩=>match dB tt e with
   |some i=>match m9 i with
    |some z=>match ye (bE fr cf) 0 parts.toList with
     |some ds=>bif Nat.beq z.cells.length s&&(Ej s ds&&(Nat.beq parts.toList.length len&&(Nat.ble (len*s) 1000&&Nat.blt 0 (len*s)))) then some ⟨d,e,s,ds⟩ else none
     |none=>none
    |none=>none
   |none=>none
  |_=>none
 |_=>none
def Mi{d e s:Nat}{ds:List DV}(h:Gc fr cf=some ⟨d,e,s,ds⟩): ∃o,ce fr cf=some o/\o.dst=some d/\b8 prog GB C n (bE fr cf) (gD fr own cf) o (.rw d) [(d,some (.b e s ds true))] [d]:=by
 unfold Gc at h;split at h<;>try (cases h;done)
 rename_i hh;split at h<;>try (cases h;done)
 rename_i hT;split at h<;>try (cases h;done)
 rename_i hi;split at h<;>try (cases h;done)
 rename_i hz;split at h<;>try (cases h;done)
 rename_i hr;rw[cond_eq_ite] at h;split at h<;>cases h;rename_i hc;simp only[aL] at hc;have:=ja (d9 _ _ hT) J;exact⟨_,hh,J,TM (d9 _ _ hi) hz hc.1 hr hc.2.1 hc.2.2.1 hc.2.2.2.1 hc.2.2.2.2⟩
def ro[fu:Fu]{d e s:Nat}{ds:List DV}(h:Gc fr cf=some ⟨d,e,s,ds⟩)(hgo:cI tt n fu.n fr own cf (.rw d) [(d,some (.b e s ds true))] [d]=⟨vc,fr',own',cf'⟩)(k:aj prog GB C n Q0 fr' own' cf')
  (hv:ah vc:=by first|exact trivial|(simp only[ah];kernel_rfl)|(simp only[ah];omega)|(simp only[ah,aJ,aN,aU];omega)):aj prog GB C n Q0 fr own cf:=by
 obtain⟨o,h1,_,h3⟩:=Mi (GB:=GB) (C:=C) (n:=n) (own:=own) h;exact us h1 h3 hgo hv k
def rf[fu:Fu]{d e s:Nat}{ds:List DV}(h:Gc fr cf=some ⟨d,e,s,ds⟩)(hgo:cI tt n fu.n fr own cf (.d (.sl ds)) [(d,none)] [d]=⟨vc,fr',own',cf'⟩)(k:aj prog GB C n Q0 fr' own' cf')
  (hv:ah vc:=by first|exact trivial|(simp only[ah];kernel_rfl)|(simp only[ah];omega)|(simp only[ah,aJ,aN,aU];omega)):aj prog GB C n Q0 fr own cf:=by
 obtain⟨o,h1,h2,h3⟩:=Mi (GB:=GB) (C:=C) (n:=n) (own:=own) h;exact us h1 (h3.frzRow h2) hgo hv k
def Pz(fr:aA)(cf:Cf):Option (Nat×Nat×Nat):=match ce fr cf with
 |some ⟨some d, .buildSlice t 0 ⟨[]⟩,_,_,_,_⟩=>match dB tt t with
  |some ⟨.sl e s _,_,_,_⟩=>some (d,e,s)
  |_=>none
 |_=>none
def D3[fu:Fu]{d e s:Nat}(h:Pz fr cf=some (d,e,s))(hgo:cI tt n fu.n fr own cf (.rw d) [(d,some (.b e s [] true))] [d]=⟨vc,fr',own',cf'⟩)(k:aj prog GB C n Q0 fr' own' cf')
  (hv:ah vc:=by first|exact trivial|(simp only[ah];kernel_rfl)|(simp only[ah];omega)|(simp only[ah,aJ,aN,aU];omega)):aj prog GB C n Q0 fr own cf:=by
 unfold Pz at h;split at h<;>try (cases h;done)
 rename_i hh;split at h<;>cases h;rename_i hT;have:=ja (d9 _ _ hT) J;exact us hh Uw hgo hv k
structure Wi where
 d:Nat
 nm:Option Nat
 e:Nat
 s:Nat
 b:Nat
 ds:List DV
 ds2:List DV
def Ei(fr:aA)(own:aI)(cf:Cf):Option Wi:=match ce fr cf with
 |some ⟨some d, .call ⟨.builtin .append,⟨[x,y]⟩,⟨[t,t']⟩⟩,_,_,_,_⟩=>match dB tt t with
  |some ⟨.sl e s b,_,_,_⟩=>match dB tt t' with
   |some ⟨.sl _ _ _,_,_,_⟩=>match dB tt e with
    |some i=>match m9 i with
     |some z=>bif Nat.beq z.cells.length s&&Nat.blt 0 b then(match qH (bE fr cf) (gD fr own cf) s y with
      |some ds2=>match aO (bE fr cf) x with
       |some (.rw nm)=>match gD fr own cf nm with
        |some (.b e' s' ds true)=>bif (Nat.beq e' e&&Nat.beq s' s)&&!Nat.beq nm d then some ⟨d,some nm,e,s,b,ds,ds2⟩ else none
        |_=>none
       |some (.ct ds)=>some ⟨d,none,e,s,b,ds,ds2⟩
       |some .nl=>some ⟨d,none,e,s,b,[],ds2⟩
       |_=>none
      |none=>none) else none
     |none=>none
    |none=>none
   |_=>none
  |_=>none
 |_=>none
def Uj(d:Nat)(nm:Option Nat)(B:Bk):List (Nat×Option Bk):=match nm with
 |some nm=>[(nm,none),(d,some B)]
 |none=>[(d,some B)]
def RY{d:Nat}{nm:Option Nat}{e s b:Nat}{ds ds2:List DV}(h:Ei fr own cf=some ⟨d,nm,e,s,b,ds,ds2⟩)(ds':List DV)(hds:ds++ds2=ds')(ho:nm.isNone=true->dH s ds/\0<ds2.length)(ho2:dH s ds2)(hbd:(ds.length+ds2.length)*b<=140737488355328):
  ∃o,ce fr cf=some o/\o.dst=some d/\b8 prog GB C n (bE fr cf) (gD fr own cf) o (.rw d) (Uj d nm (.b e s ds' true)) [d]:=by
 unfold Ei at h;split at h<;>try (cases h;done)
 rename_i hh;split at h<;>try (cases h;done)
 rename_i hT;split at h<;>try (cases h;done)
 rename_i hT';split at h<;>try (cases h;done)
 rename_i hi;split at h<;>try (cases h;done)
 rename_i hz;rw[cond_eq_ite] at h;split at h<;>try (cases h;done)
 rename_i hc;simp only[aL] at hc;split at h<;>try (cases h;done)
 rename_i hy;have:=ja (d9 _ _ hT) J;have hN:kj prog _:=⟨_,(ja (d9 _ _ hT') J).un⟩;refine⟨_,hh,?_⟩;split at h<;>try (cases h;done)
 ·rename_i hx
  split at h<;>try (cases h;done)
  rename_i hb;rw[cond_eq_ite] at h;split at h<;>cases h;rename_i hq;simp only[aL,iK] at hq
  cases aT hq.1.1
  cases aT hq.1.2
  exact⟨J,aBS (d9 _ _ hi) hz hc.1 hx hb hy ho2 hc.2 hbd hq.2 hds⟩
 ·rename_i hx
  cases h
  obtain⟨h1,h2⟩:=ho rfl;exact⟨J,RB (d9 _ _ hi) hz hc.1 (.inl hx) h1 hy ho2 h2 hc.2 hbd hds⟩
 ·rename_i hx
  cases h
  obtain⟨h1,h2⟩:=ho rfl;exact⟨J,RB (d9 _ _ hi) hz hc.1 (.inr ⟨hx,J⟩) h1 hy ho2 h2 hc.2 hbd hds⟩
def ap[fu:Fu]{d:Nat}{nm:Option Nat}{e s b:Nat}{ds ds2:List DV}(ds':List DV)(h:Ei fr own cf=some ⟨d,nm,e,s,b,ds,ds2⟩)(hds:ds++ds2=ds')(ho2:dH s ds2)(hgo:cI tt n fu.n fr own cf (.rw d) (Uj d nm (.b e s ds' true)) [d]=⟨vc,fr',own',cf'⟩)(k:aj prog GB C n Q0 fr' own' cf')
  (ho:nm.isNone=true->dH s ds/\0<ds2.length:=by intro h;first|(cases h;done)|exact⟨IB rfl,by simp⟩)(hbd:(ds.length+ds2.length)*b<=140737488355328:=by simp;omega)
  (hv:ah vc:=by first|exact trivial|(simp only[ah];kernel_rfl)|(simp only[ah];omega)|(simp only[ah,aJ,aN,aU];omega)):aj prog GB C n Q0 fr own cf:=by
 obtain⟨o,h1,_,h3⟩:=RY (GB:=GB) (C:=C) (n:=n) h ds' hds ho ho2 hbd;exact us h1 h3 hgo hv k
def TU(fr:aA)(cf:Cf):Option (List DV×Int×Int×Nat×Bool):=match ce fr cf with
 |some ⟨_, .slice t x lo hi mx,_,_,_,_⟩=>match evD (bE fr cf) x with
  |some (.sl l)=>match dB tt t with
   |some ⟨.sl _ s _,_,_,_⟩=>match mG (bE fr cf) 0 lo,mG (bE fr cf) l.length hi with
    |some i,some j=>match mx with
     |none=>some (l,i,j,s,false)
     |some _=>none
    |_,_=>none
   |_=>none
  |_=>none
 |_=>none
def sv[fu:Fu]{l:List DV}{i j:Int}{s:Nat}(nlo nhi:Nat)(ls:List DV)(h:TU fr cf=some (l,i,j,s,false))(ei:i=nlo)(ej:j=nhi)(hls:(l.take nhi).drop nlo=ls)(ho:dH s l)(h1:nlo<=nhi)(h2:nhi<=l.length)
  (hgo:cI tt n fu.n fr own cf (.d (.sl ls)) [] []=⟨vc,fr',own',cf'⟩)(k:aj prog GB C n Q0 fr' own' cf')
  (hv:ah vc:=by first|exact trivial|(simp only[ah];kernel_rfl)|(simp only[ah];omega)|(simp only[ah,aJ,aN,aU];omega)):aj prog GB C n Q0 fr own cf:=by
 unfold TU at h;split at h<;>try (cases h;done)
 rename_i hh;split at h<;>try (cases h;done)
 rename_i hx;split at h<;>try (cases h;done)
 rename_i hT;split at h<;>try (cases h;done)
 rename_i hi hj;split at h<;>cases h;have:=ja (d9 _ _ hT) J;subst ei ej hls;exact us hh (aEi hx ho hi hj h1 h2) hgo hv k
def Ui(fr:aA)(cf:Cf):Option (List DV×Int×Int×Nat):=match ce fr cf with
 |some ⟨_, .slice t x none (some hi) (some mx),_,_,_,_⟩=>match evD (bE fr cf) x with
  |some (.sl l)=>match dB tt t with
   |some ⟨.sl _ s _,_,_,_⟩=>match mG (bE fr cf) 0 (some hi),mG (bE fr cf) 0 (some mx) with
    |some i,some j=>some (l,i,j,s)
    |_,_=>none
   |_=>none
  |_=>none
 |_=>none
def s3[fu:Fu]{l:List DV}{i j:Int}{s:Nat}(nhi:Nat)(ls:List DV)(h:Ui fr cf=some (l,i,j,s))(ei:i=nhi)(ej:j=nhi)(hls:l.take nhi=ls)(ho:dH s l)(h2:nhi<=l.length)
  (hgo:cI tt n fu.n fr own cf (.ct ls) [] []=⟨vc,fr',own',cf'⟩)(k:aj prog GB C n Q0 fr' own' cf')
  (hv:ah vc:=by first|exact trivial|(simp only[ah];kernel_rfl)|(simp only[ah];omega)|(simp only[ah,aJ,aN,aU];omega)):aj prog GB C n Q0 fr own cf:=by
 unfold Ui at h;split at h<;>try (cases h;done)
 rename_i hh;split at h<;>try (cases h;done)
 rename_i hx;split at h<;>try (cases h;done)
 rename_i hT;split at h<;>cases h;rename_i hi hj;have:=ja (d9 _ _ hT) J;subst ei ej hls;exact us hh (Yw hx ho hi hj h2) hgo hv k
def S7(fr:aA)(cf:Cf):Option (Nat×List DV):=match ce fr cf with
 |some ⟨some d, .box _ x,_,_,_,_⟩=>match aO (bE fr cf) x with
  |some f=>bif f.okc&&AQ f d then(match js f.cells with
   |some l=>some (d,l)
   |none=>none) else none
  |none=>none
 |_=>none
end
section
variable {GB:Gh} {C:aD} {n:Nat} {Q0:Exit->Act->World->Prop} {fr fr':aA} {own own':aI} {cf cf':Cf} {vc:List Prop} {ops:Array Oper} {o:Oper} {K:List Kt} {r:List Oper}
def rnN(x y m:Nat)(k:Option Nat):Option Nat:=bif Nat.beq m x then some y else bif Nat.beq m y then none else k
def rp(x y:Nat):FX->FX
 | .rw m=>bif Nat.beq m x then .rw y else bif Nat.beq m y then .no else .rw m
 | .ov m o=>bif Nat.beq m x then .ov y o else bif Nat.beq m y then .no else .ov m o
 | .be m s i j=>bif Nat.beq m x then .be y s i j else bif Nat.beq m y then .no else .be m s i j
 | .rs m s i j=>bif Nat.beq m x then .rs y s i j else bif Nat.beq m y then .no else .rs m s i j
 | .bx tp pre m post=>bif Nat.beq m x then .bx tp pre y post else bif Nat.beq m y then .no else .bx tp pre m post
 |f=>f
def sC(x y:Nat):Option Bk->Option Bk
 |some (.o ty cs lo)=>some (.o ty (cs.map (rp x y)) lo)
 |B=>B
def rnK(x y k:Nat):Nat:=bif Nat.beq k x then y else bif Nat.beq k y then x else k
def Ee{α:Type}(g:FX->FX):List FX->(List FX->α)->α
 |[],k=>k []
 |f::t,k=>Ee g t fun t'=>Bw (g f) fun f'=>k (f'::t')
def T6{α:Type}{g:FX->FX}: ∀{cs:List FX} {k:List FX->α},Ee g cs k=k (cs.map g)
 |[],k=>rfl
 |f::t,k=>by simp only[Ee,EM];rw[T6];rfl
def D5{α:Type}(g:FX->FX):aA->(aA->α)->α
 |[],k=>k []
 |(j,f)::t,k=>D5 g t fun t'=>Bw (g f) fun f'=>k ((j,f')::t')
def JU{α:Type}{g:FX->FX}: ∀{fr:aA} {k:aA->α},D5 g fr k=k (fr.map fun e=>(e.1,g e.2))
 |[],k=>rfl
 |(j,f)::t,k=>by simp only[D5,EM];rw[JU];rfl
def ET{α:Type}(x y:Nat):aI->(aI->α)->α
 |[],k=>k []
 |(j,B)::t,k=>ET x y t fun t'=>bif Nat.beq j y then k ((x,none)::t') else match B with
  |some (.o ty cs lo)=>Ee (rp x y) cs fun cs'=>bif Nat.beq j x then k ((y,some (.o ty cs' lo))::t') else k ((j,some (.o ty cs' lo))::t')
  |B=>bif Nat.beq j x then k ((y,B)::t') else k ((j,B)::t')
def H8{α:Type}{x y:Nat}: ∀{own:aI} {k:aI->α},ET x y own k=k (own.map fun e=>(bif Nat.beq e.1 y then x else bif Nat.beq e.1 x then y else e.1,bif Nat.beq e.1 y then none else sC x y e.2))
 |[],k=>rfl
 |(j,B)::t,k=>by
  simp only[ET,H8 (own:=t),bL]
  cases Nat.beq j y with
  |true=>rfl
  |false=>
   cases B with
   |none=>cases Nat.beq j x<;>rfl
   |some B=>cases B<;>cases Nat.beq j x<;>simp only[cond_false,cond_true,T6,sC]
def Kf{x y:Nat}(hxy:x≠y): ∀{own:aI} {k:Nat},bi (own.map fun e=>(bif Nat.beq e.1 y then x else bif Nat.beq e.1 x then y else e.1,bif Nat.beq e.1 y then none else sC x y e.2)) k=if k=x then none else if k=y then sC x y (bi own x) else sC x y (bi own k)
 |[],k=>by simp[bi,sC]
 |(j,B)::t,k=>by
  have bq: ∀a b:Nat,Nat.beq a b=decide (a=b):=fun a b=>by
   by_cases h:a=b
   ·subst h;simp
   ·rw[decide_eq_false h]
    cases hb:Nat.beq a b with
    |false=>rfl
    |true=>exact absurd (aT hb) h
  simp only[bL];rw[mr,Kf hxy (own:=t),mr,mr];by_cases h1:j=y
  ·subst h1
   simp only[bq,decide_true,cond_true];by_cases h2:k=x
   ·simp[h2]
   ·by_cases h3:k=j
    ·subst h3;simp[h2,Ne.symm h2,hxy]
    ·simp[h2,h3]
  ·by_cases h4:j=x
   ·subst h4
    simp only[bq,h1,decide_false,cond_false,decide_true,cond_true];by_cases h2:k=y
    ·subst h2;simp[Ne.symm h1]
    ·by_cases h3:k=j
     ·subst h3;simp[h1]
     ·simp[h2,h3]
   ·simp only[bq,h1,h4,decide_false,cond_false]
    by_cases h2:k=j
    ·subst h2;simp[h1,h4]
    ·by_cases h3:k=x
     ·subst h3;simp[h2]
     ·by_cases h5:k=y
      ·subst h5;simp[h2,h3,Ne.symm h4]
      ·simp[h2,h3,h5]
def Hn{x y:Nat}(hxy:x≠y){ρ:NE}{G:Gh}{f:FX}{v:Value}(h:cb ρ G f v):cb (fun k=>if k=y then ρ x else ρ k) G (rp x y f) v:=by
 have key: ∀m:Nat,Nat.beq m y=false->(fun k=>if k=y then ρ x else ρ k) m=ρ m:=fun m hm=>if_neg fun e=>by subst e;simp at hm
 cases f with
 |rw m=>
  simp only[rp]
  cases hb:Nat.beq m x with
  |true=>cases aT hb;simp only[cond_true];show v=_;simp;exact h
  |false=>
   cases hb':Nat.beq m y with
   |true=>trivial
   |false=>simp only[cond_false];show v=_;rw[key m hb'];exact h
 |ov m off=>
  simp only[rp]
  cases hb:Nat.beq m x with
  |true=>cases aT hb;simp only[cond_true];obtain⟨b,h1,h2⟩:=h;exact⟨b,by simp;exact h1,h2⟩
  |false=>
   cases hb':Nat.beq m y with
   |true=>trivial
   |false=>simp only[cond_false];obtain⟨b,h1,h2⟩:=h;exact⟨b,by rw[key m hb'];exact h1,h2⟩
 |be m s i j=>
  simp only[rp]
  cases hb:Nat.beq m x with
  |true=>cases aT hb;simp only[cond_true];obtain⟨b,h1,h2⟩:=h;exact⟨b,by simp;exact h1,h2⟩
  |false=>
   cases hb':Nat.beq m y with
   |true=>trivial
   |false=>simp only[cond_false];obtain⟨b,h1,h2⟩:=h;exact⟨b,by rw[key m hb'];exact h1,h2⟩
 |rs m s i j=>
  simp only[rp]
  cases hb:Nat.beq m x with
  |true=>cases aT hb;simp only[cond_true];obtain⟨b,c,h1,h2⟩:=h;exact⟨b,c,by simp;exact h1,h2⟩
  |false=>
   cases hb':Nat.beq m y with
   |true=>trivial
   |false=>simp only[cond_false];obtain⟨b,c,h1,h2⟩:=h;exact⟨b,c,by rw[key m hb'];exact h1,h2⟩
 |bx tp pre m post=>
  simp only[rp]
  cases hb:Nat.beq m x with
  |true=>cases aT hb;simp only[cond_true];obtain⟨m1,m2,e,h1,h2⟩:=h;exact⟨m1,m2,by simpa using e,h1,h2⟩
  |false=>
   cases hb':Nat.beq m y with
   |true=>trivial
   |false=>simp only[cond_false];obtain⟨m1,m2,e,h1,h2⟩:=h;exact⟨m1,m2,by rw[key m hb'];exact e,h1,h2⟩
 |_=>exact h
def KD{x y:Nat}(hxy:x≠y){ρ:NE}{G:Gh}: ∀{cs:List FX} {m:List Value},dC ρ G cs m->dC (fun k=>if k=y then ρ x else ρ k) G (cs.map (rp x y)) m
 |[],m,h=>h
 |f::t,m,⟨v,q,e,h1,h2⟩=>⟨v,q,e,Hn hxy h1,KD hxy h2⟩
def zf(x y:Nat)(fr:aA)(own:aI):Option Dv:=bif Nat.beq x y then none else D5 (rp x y) fr fun fr'=>ET x y own fun own'=>some ⟨fr',own'⟩
def aEy{x y:Nat}{Φ:Act->World->Prop}{R:Dv}(hy:Nat.blt y 2000000=true)(h:zf x y fr own=some R)(hk:SX GB C n (bg R.fr) (bi R.own) Φ):SX GB C n (bg fr) (bi own) Φ:=by
 unfold zf at h;rw[cond_eq_ite] at h;split at h<;>try (cases h;done)
 rename_i hb;have hxy:x≠y:=fun e=>hb (by subst e;simp);rw[JU,H8] at h;cases h;refine⟨fun ρ G ov a w r=>hk.run (fun k=>if k=y then ρ x else ρ k) G ov a w ?_⟩;have inv: ∀m B,bi (own.map fun e=>(bif Nat.beq e.1 y then x else bif Nat.beq e.1 x then y else e.1,bif Nat.beq e.1 y then none else sC x y e.2)) m=some B-> ∃m0 B0,bi own m0=some B0/\sC x y (some B0)=some B/\(m=y/\m0=x\/m≠y/\m≠x/\m0=m):=fun m B e=>by
  rw[Kf hxy] at e;split at e
  ·cases e
  ·rename_i hm
   split at e
   ·cases hl:bi own x with
    |none=>rw[hl] at e;cases e
    |some B0=>rw[hl] at e;exact⟨x,B0,hl,e, .inl ⟨by assumption,J⟩⟩
   ·cases hl:bi own m with
    |none=>rw[hl] at e;cases e
    |some B0=>rw[hl] at e;exact⟨m,B0,hl,e, .inr ⟨by assumption,hm,J⟩⟩
 have rho: ∀m m0,(m=y/\m0=x\/m≠y/\m≠x/\m0=m)->(fun k=>if k=y then ρ x else ρ k) m=ρ m0:=fun m m0 h=>by
  rcases h with⟨h1,h2⟩|⟨h1,_,h2⟩
  ·subst h1 h2;simp
  ·subst h2;exact if_neg h1
 refine⟨r.gb,r.h,r.sz,r.df,fun k f e=>?_,fun m B e=>?_,fun m m' B B' e e' hne=>?_,fun m p h1 h2 e=>by
  have:y<2000000:=by simpa[mT] using hy
  show(if m=y then ρ x else ρ m).a=_;rw[if_neg (by omega)];exact r.fxd m p h1 h2 e⟩
 ·rw[GP] at e
  cases hf:bg fr k with
  |none=>rw[hf] at e;cases e
  |some g=>
   rw[hf] at e;cases e;obtain⟨v,h1,h2⟩:=r.fx k g hf;exact⟨v,h1,Hn hxy h2⟩
 ·obtain⟨m0,B0,h1,h2,h3⟩:=inv m B e
  obtain⟨os,h4,h5⟩:=r.bx m0 B0 h1;refine⟨os,?_,h5⟩;have hr:=rho m m0 h3
  cases B0 with
  |b=>cases h2;obtain⟨vs,q1,q2,q3,q4⟩:=h4;exact⟨vs,by rw[hr];exact q1,q2,q3,q4⟩
  |c=>cases h2;obtain⟨vs,q1,q2,q3,q4,q5⟩:=h4;exact⟨vs,by rw[hr];exact q1,q2,q3,q4,by rw[hr];exact q5⟩
  |o ty cs lo=>cases h2;obtain⟨b,q,q1,q2,q3⟩:=h4;exact⟨b,q,by rw[hr];exact q1,q2,KD hxy q3⟩
 ·obtain⟨m0,B0,h1,_,h3⟩:=inv m B e
  obtain⟨m1,B1,h4,_,h6⟩:=inv m' B' e';have q1:=rho m m0 h3;have q2:=rho m' m1 h6;simp only at q1 q2;rw[q1,q2];refine r.dj m0 m1 B0 B1 h1 h4 fun e=>?_;rcases h3 with⟨h7,h8⟩|⟨h7,h8,h9⟩<;>rcases h6 with⟨g7,g8⟩|⟨g7,g8,g9⟩
  ·exact hne (h7.trans g7.symm)
  ·exact g8 (by rw[<-g9,<-e,h8])
  ·exact h8 (by rw[<-h9,e,g8])
  ·exact hne (by rw[<-h9,e,g9])
def iv(x y:Nat){fr1:aA}{own1:aI}{e:Exit}(h:zf x y fr own=some ⟨fr1,own1⟩)(k:aj prog GB C n Q0 fr1 own1 (.ex e K))(hy:Nat.blt y 2000000=true:=by rfl):aj prog GB C n Q0 fr own (.ex e K):=aEy hy h k
def XY{d nm:Nat}(hnm:Nat.blt nm 2000000=true)(hl:bg fr d=some .nl){Φ:Act->World->Prop}{ty s:Nat}(hf:kz [nm] none (bg fr) (bi own))(h:SX GB C n (bg ((d, .rw nm)::fr)) (bi (mc own nm (some (.b ty s [] true)))) Φ):SX GB C n (bg fr) (bi own) Φ:=by
 refine⟨fun ρ G ov a w r=>?_⟩;obtain⟨f1,f2⟩:=hf nm aQ;have hset:bi (mc own nm (some (.b ty s [] true)))=upB (bi own) [(nm,some (.b ty s [] true))]:=by funext j;rw[xf];rfl
 rw[hset] at h;refine h.run (fun k=>if k=nm then⟨none,0,0⟩ else ρ k) G ov a w ⟨r.gb,r.h,r.sz,r.df,fun k f e=>?_,fun m B e=>?_,fun m m' B B' e e' hne=>?_,fun m p h1 h2 e=>by
  have:nm<2000000:=by simpa[mT] using hnm
  show(if m=nm then(⟨none,0,0⟩:SV) else ρ m).a=_;rw[if_neg (by omega)];exact r.fxd m p h1 h2 e⟩
 ·rw[ju] at e
  split at e
  ·cases e;rename_i hk;subst hk
   obtain⟨v,h1,h2⟩:=r.fx _ _ hl;exact⟨v,h1,by rw[show v=_ from h2];show _=_;simp⟩
  ·obtain⟨v,h1,h2⟩:=r.fx k f e
   exact⟨v,h1,h2.ren fun m hm=>vg _ fun hc=>f1 k f (by simp) e (by rw[hm,hc])⟩
 ·simp only[upB] at e
  by_cases hm:m=nm
  ·subst hm;simp only[if_true] at e;cases e
   exact⟨[],⟨[],by simp only[if_true];exact .inl ⟨J,J,J⟩, .nil,by simp,fun _ o ho=>by cases ho⟩,fun o ho=>by cases ho⟩
  ·simp only[hm,if_false] at e
   obtain⟨os,h1,h2⟩:=r.bx m B e;exact⟨os,h1.ren (if_neg hm) fun q hq=>vg _ fun hc=>f2 m B hm e (by rw[<-hc];exact hq),h2⟩
 ·simp only[upB] at e e'
  intro b hb hb';by_cases hm:m=nm
  ·simp[hm] at hb
  ·by_cases hm':m'=nm
   ·simp[hm'] at hb'
   ·simp only[hm,hm',if_false] at e e' hb hb'
    exact r.dj m m' B B' e e' hne b hb hb'
def nr(d nm ty s:Nat){own1:aI}{c:Code}(hl:bg fr d=some .nl)(hf:vW [nm] none fr own=true)(ho:vV own nm (some (.b ty s [] true)) id=own1)(k:aj prog GB C n Q0 ((d, .rw nm)::fr) own1 (.code c K))(hnm:Nat.blt nm 2000000=true:=by rfl):aj prog GB C n Q0 fr own (.code c K):=by
 subst ho;exact XY hnm hl (BH hf) k
def ip:List (Option DV)->Nat->List DV
 |[],_=>[]
 |some d::t,b=>d::ip t b
 |none::t,b=> .v (.pointer (some ⟨b,0,none⟩))::ip t b
def DT(lk:LK):List Operand->Option (Option Nat×List (Option DV))
 |[]=>some (none,[])
 |x::t=>match aO lk x,DT lk t with
  |some (.ov nm 0),some (none,l)=>some (some nm,none::l)
  |some f,some (q,l)=>match lh f with
   |some d=>some (q,some d::l)
   |none=>none
  |_,_=>none
def II(lk:LK)(fo:Operand)(args:Array Operand):Option (FuncId×Nat×List (Option DV)):=match aO lk fo with
 |some (.d (.v (.func (.func f) ⟨[]⟩ ⟨[]⟩)))=>match DT lk args.toList with
  |some (some nm,l)=>some (f,nm,l)
  |_=>none
 |_=>none
def IE{lk:LK}{bk:BM}{ρ:NE}{G:Gh}{ov:List ak}{a:Act}{w:World}(r:bG GB C n lk bk ρ G ov a w){b:Nat}: ∀{x:List Operand} {q:Option Nat} {l:List (Option DV)},DT lk x=some (q,l)->(∀nm,q=some nm->(ρ nm).a=some ⟨b,0,none⟩)->
  ∃y,fI (cG a) x=some y/\IsLs G (ip l b) y
 |[],q,l,e,_=>by cases e;exact⟨[],J, .nil⟩
 |x::t,q,l,e,hb=>by
  simp only[DT] at e;split at e
  ·rename_i nm l' h1 h2
   cases e
   obtain⟨y,h3,b',h4,rfl⟩:=r.ev h1;have:=hb nm J;rw[h4] at this;cases this;obtain⟨ys,h5,h6⟩:=IE r (b:=b) h2 (fun nm e=>by cases e);exact⟨_::ys,by simp only[fI,h3,h5], .cons ((aH (G:=G)).2 J) h6⟩
  ·rename_i f q' l' _ h1 h2
   cases hd:lh f with
   |none=>rw[hd] at e;cases e
   |some d=>
   rw[hd] at e;cases e;obtain⟨y,h3,h4⟩:=r.ev h1;obtain⟨ys,h5,h6⟩:=IE r (b:=b) h2 hb;exact⟨y::ys,by simp only[fI,h3,h5], .cons (oy h4 hd) h6⟩
  ·cases e
def bG.lend{lk:LK}{bk:BM}{ρ:NE}{G:Gh}{ov:List ak}{a:Act}{w:World}{nm:Nat}{ty:TypeId}{cs:List FX}{lo:Bool}{csd:List DV}(r:bG GB C n lk bk ρ G ov a w)(hb:bk nm=some (.o ty cs lo))(hc:js cs=some csd):
  ∃b m rest,(ρ nm).a=some ⟨b,0,none⟩/\IsLs G csd m/\ov.Perm ([⟨b,m,ty,lo⟩]++rest)/\ ∀o∈ov,o.b≠b->o∈rest:=by
 obtain⟨os,⟨b,m,h1,rfl,h2⟩,h3⟩:=r.bx _ _ hb;obtain⟨l1,l2,rfl⟩:=mJ (h3 _ aQ);refine⟨b,m,l1++l2,h1,tv h2 hc,oR,fun o ho hne=>?_⟩;rcases bW.1 ho with ho|ho
 ·exact bM _ ho
 ·rcases aW.1 ho with rfl|ho
  ·exact absurd J hne
  ·exact cJ _ ho
def aye{P:Program}{lk:LK}{bk:BM}{fo:Operand}{args:Array Operand}{tys:Array TypeId}{f:FuncId}{nm:Nat}{l:List (Option DV)}{rv:DV}{dst:Option Nat}{ty ty0:TypeId}{pos:String}{af:Array Edge}{gd:Option (Nat×Bool)}{cs:List FX}{csd cs':List DV}{lo:Bool}
  (ha:II lk fo args=some (f,nm,l))(hb:bk nm=some (.o ty0 cs lo))(hc:js cs=some csd)(hF: ∀b,PM GB P f (ip l b) b ty0 csd rv cs'){csx:List FX}(hx:cs'.map .d=csx):b8 P GB C n lk bk ⟨dst, .call ⟨.value fo,args,tys⟩,ty,pos,af,gd⟩ (.d rv) [(nm,some (.o ty0 csx lo))] []:=by
 intro hd tl tb K' s1 s2 hf hk;refine⟨fun ρ G ov a w r Q=>?_⟩;subst hx;have r1:=r.mono s1 s2;unfold II at ha;split at ha<;>try (cases ha;done)
 rename_i h1;split at ha<;>cases ha;rename_i h2;obtain⟨y,hy,hy'⟩:=r1.ev h1;rw[(aH (G:=G)).1 hy'] at hy;obtain⟨b,m,rest,h3,h4,h5,h6⟩:=r1.lend hb hc;obtain⟨vs,h7,h8⟩:=IE r1 (b:=b) h2 (fun nm e=>by cases e;exact h3);refine GM (M:=[⟨b,m,ty0,lo⟩]) (rest:=rest) hy h7 h5 (hF b G vs m lo r.gb h8 h4) hd (fun v css G' hG hl hK a' w' rl=>?_) a w Q ⟨r.h,r.sz,c9 a,r.df⟩;obtain⟨hr,m',rfl,hm'⟩:=hK;have rl':gu C n (Sx.put (cG a) dst v) (⟨b,m',ty0,lo⟩::rest) G' a' w':=rl;have r2:=r.upB (G':=G') (ov':=⟨b,m',ty0,lo⟩::rest) (w':=w') (B':= .o ty0 (cs'.map .d) lo) (os:=[⟨b,m',ty0,lo⟩]) hG.le rl'.h ⟨b,m',h3,J,uH hm'⟩ (fun o ho=>by rw[aV.1 ho];exact aQ)
  (fun o ho hne=>aZ _ (h6 o ho fun e=>hne (by rw[h3,e]))) ⟨_,s2 _ _ hb⟩
 exact hk.run ρ G' _ a' w' (r2.put (f:= .d rv) hr (kG rl'))
structure UE where
 f:FuncId
 nm:Nat
 l:List (Option DV)
 ty:TypeId
 cs:List DV
 lo:Bool
def Pv(fr:aA)(own:aI)(cf:Cf):Option UE:=match ce fr cf with
 |some ⟨_, .call ⟨.value fo,args,_⟩,_,_,_,_⟩=>match II (bE fr cf) fo args with
  |some (f,nm,l)=>match gD fr own cf nm with
   |some (.o ty cs lo)=>match js cs with
    |some csd=>some ⟨f,nm,l,ty,csd,lo⟩
    |none=>none
   |_=>none
  |none=>none
 |_=>none
def AI{α:Type}:List DV->(List FX->α)->α
 |[],k=>k []
 |d::t,k=>AI t fun t'=>k (.d d::t')
def Fz{α:Type}: ∀{l:List DV} {k:List FX->α},AI l k=k (l.map .d)
 |[],k=>rfl
 |d::t,k=>by simp only[AI];rw[Fz];rfl
def cm[fu:Fu]{f:FuncId}{nm:Nat}{l:List (Option DV)}{ty:TypeId}{cs cs':List DV}{lo:Bool}{rv:DV}(ha:Pv fr own cf=some ⟨f,nm,l,ty,cs,lo⟩)(hF: ∀b,PM GB prog f (ip l b) b ty cs rv cs')
  (hgo:(AI cs' fun csx=>cI tt n fu.n fr own cf (.d rv) [(nm,some (.o ty csx lo))] [])=⟨vc,fr',own',cf'⟩)(k:aj prog GB C n Q0 fr' own' cf')
  (hv:ah vc:=by first|exact trivial|(simp only[ah];kernel_rfl)|(simp only[ah];omega)|(simp only[ah,aJ,aN,aU];omega)):aj prog GB C n Q0 fr own cf:=by
 unfold Pv at ha;split at ha<;>try (cases ha;done)
 rename_i hh;split at ha<;>try (cases ha;done)
 rename_i h1;split at ha<;>try (cases ha;done)
 rename_i h2;split at ha<;>cases ha;rename_i h3;rw[Fz] at hgo;exact us hh (aye h1 h2 h3 hF J) hgo hv k
abbrev NM:Nat:=1000000
def Ax:Nat->List (Option DV)->aA
 |_,[]=>[]
 |i,some v::t=>(i, .d v)::Ax (i+1) t
 |i,none::t=>(i, .ov NM 0)::Ax (i+1) t
def GT(b:Nat): ∀l:List (Option DV),(ip l b).length=l.length
 |[]=>rfl
 |some d::t=>by simp[ip,GT b t]
 |none::t=>by simp[ip,GT b t]
def Jn{b:Nat}{ρ:NE}{G:Gh}(hρ:(ρ NM).a=some ⟨b,0,none⟩): ∀{ds:List (Option DV)} {vs:List Value} (i:Nat),IsLs G (ip ds b) vs-> ∀k f,bg (Ax i ds) k=some f-> ∃y,(∃j,k=i+j/\vs[j]? =some y)/\cb ρ G f y
 |[],vs,i,h,k,f,e=>by cases e
 |some d::t,vs,i,h,k,f,e=>by
  obtain⟨y,m,rfl,h1,h2⟩:=aP.1 h;simp only[Ax] at e;rw[ju] at e;split at e
  ·cases e;rename_i hk;exact⟨y,⟨0,hk,rfl⟩,h1⟩
  ·obtain⟨u,⟨j,hj,hu⟩,h3⟩:=Jn hρ (i+1) h2 k f e
   exact⟨u,⟨j+1,by omega,by simpa using hu⟩,h3⟩
 |none::t,vs,i,h,k,f,e=>by
  obtain⟨y,m,rfl,h1,h2⟩:=aP.1 h;simp only[Ax] at e;rw[ju] at e;split at e
  ·cases e;rename_i hk;exact⟨y,⟨0,hk,rfl⟩,b,hρ,(aH (G:=G)).1 h1⟩
  ·obtain⟨u,⟨j,hj,hu⟩,h3⟩:=Jn hρ (i+1) h2 k f e
   exact⟨u,⟨j+1,by omega,by simpa using hu⟩,h3⟩
def IL(C:aD)(b:Nat)(m:List Value)(ty:TypeId)(lo:Bool)(rv:DV)(cs':List DV):Ending->World->Prop:=Bj C [⟨b,m,ty,lo⟩] (fun v css G'=>Is G' rv v/\ ∃m',css=[m']/\IsLs G' cs' m')
def ui[fu:Fu]{b:Nat}{f:FuncId}{fb:Func}{c:Code}{k:Nat}{l:List (Option DV)}{cs cs':List DV}{ty:TypeId}{rv:DV}(hf:prog.funcs[f]? =some fb)(hb:fb.body=some c)(hn:(fb.name== "runtime.NumGoroutine")=false)(hm:fb.ntmps=k)(hlen:Nat.ble l.length k=true)
  (hgo:(AI cs fun csx=>go tt k fu.n [] (Ax 0 l) [(NM,some (.o ty csx false))] (.code c []))=⟨vc,fr,own,cf⟩)(h: ∀C b m lo,C.mb=[b]->aj prog GB C k (gv C prog fb (IL C b m ty lo rv cs')) fr own cf)
  (hv:ah vc:=by first|exact trivial|(simp only[ah];kernel_rfl)|(simp only[ah];omega)|(simp only[ah,aJ,aN,aU];omega)):PM GB prog f (ip l b) b ty cs rv cs':=by
 intro G vs m lo hg hvs hm';refine j0.introR hf hb hn hm (by rw[hvs.len,GT];exact hlen) fun C _ hmb hrd hfx=>?_;intro a w rl;refine z7 hrd ?_;rw[Fz] at hgo;have h1:=f5 (GB:=GB) (C:=C) (Q0:=gv C prog fb (IL C b m ty lo rv cs')) hgo hv (h C b m lo (by simpa using hmb));refine h1.run (fun _=>⟨some ⟨b,0,none⟩,0,0⟩) G [⟨b,m,ty,false⟩] a w ⟨hg,rl.h,rl.sz,rl.df,fun k f e=>?_,fun nm B e=>?_,fun nm nm' B B' e e' hne=>?_,fun nm p _ _ e=>by rw[hfx] at e;cases e⟩
 ·obtain⟨y,⟨j,hj,hy⟩,h2⟩:=Jn (ρ:=fun _=>⟨some ⟨b,0,none⟩,0,0⟩) (b:=b) rfl 0 hvs k f e
  refine⟨y,rl.fr k y ?_,h2⟩;rw[hj];exact y4 vs 0 j y hy
 ·rw[mr] at e
  split at e
  ·cases e;exact⟨[⟨b,m,ty,false⟩],⟨b,m,J,J,uH hm'⟩,fun o ho=>ho⟩
  ·cases e
 ·rw[mr] at e e'
  split at e<;>split at e'
  ·rename_i h2 h3;exact absurd (h2.trans h3.symm) hne
  ·cases e'
  ·cases e
  ·cases e
def Ng(own:aI)(nm:Nat):Option (TypeId×List DV):=match bi own nm with
 |some (.o ty cs false)=>match js cs with
  |some l=>some (ty,l)
  |none=>none
 |_=>none
def kg{fb:Func}{b:Nat}{m:List Value}{ty:TypeId}{lo:Bool}{ds cs1 cs':List DV}{rv:DV}(hmb:C.mb=[b])(hr:qh tt fr own fb.results.toList=some ds)(ho:Ng own NM=some (ty,cs1))(hd:ji ds=rv)(hc:cs1=cs'):
  aj prog GB C n (gv C prog fb (IL C b m ty lo rv cs')) fr own (.ex .ret []):=by
 refine⟨fun ρ G ov a w r=>?_⟩;obtain⟨vs,h1,h2⟩:=BO r hr;have hk:Is G rv (gI vs):=hd▸Ck h2;unfold Ng at ho;split at ho<;>try (cases ho;done)
 rename_i hb;split at ho<;>cases ho;rename_i hl;obtain⟨b',m',rest,h3,h4,h5,h6⟩:=r.lend hb hl;have hbb:b'=b:=by
  have:=(r.h.hown _ (h5.mem_iff.2 (bM _ aQ))).2.2.2 J;rw[hmb] at this;simpa using this
 subst hbb hc;exact rH (C:=C) (n:=n) (fr:=cG a) (own:=ov) (G:=G) (M:=[⟨b',m,ty,lo⟩]) (css:=[m']) (K:=fun v css G'=>Is G' rv v/\ ∃m',css=[m']/\IsLs G' cs1 m') h1 J ([⟨b',m',ty,false⟩]++rest) h5 (List.sublist_append_left _ _) ⟨hk,m',J,h4⟩ a w ⟨r.h,r.sz,c9 a,r.df⟩
end
section
variable {GB:Gh} {C:aD} {n:Nat} {fr1 fr2:aA} {own1 own2:aI} {cf1 cf2:Cf} {vc1 vc2:List Prop} {Q0:Exit->Act->World->Prop} {fr fr':aA} {own own':aI} {cf cf':Cf} {vc:List Prop} {ops:Array Oper} {o:Oper} {K:List Kt} {r:List Oper}
def csd[fu1:Fu][fu2:Fu](d:Nat){p:Prop}{hp:Decidable p}(hl:bg fr d=some (.d (.v (.bool (@decide p hp)))))(g1:go tt n fu1.n [] ((d, .tt)::fr) own (.ops ops r K)=⟨vc1,fr1,own1,cf1⟩)(g2:go tt n fu2.n [] ((d, .ff)::fr) own (.ops ops r K)=⟨vc2,fr2,own2,cf2⟩)
  (k1:p->aj prog GB C n Q0 fr1 own1 cf1)(k2: ¬p->aj prog GB C n Q0 fr2 own2 cf2)
  (v1:p->ah vc1:=by intro;first|exact trivial|(simp only[ah];omega)|(simp only[ah,aJ,aN,aU];omega))(v2: ¬p->ah vc2:=by intro;first|exact trivial|(simp only[ah];omega)|(simp only[ah,aJ,aN,aU];omega)):aj prog GB C n Q0 fr own (.ops ops r K):=
 ml (fu1:=fu1) (fu2:=fu2) d hl g1 g2 (fun h=>k1 (of_decide_eq_true h)) (fun h=>k2 (of_decide_eq_false h)) (fun h=>v1 (of_decide_eq_true h)) (fun h=>v2 (of_decide_eq_false h))
def O7(d:Nat)(hl:bg fr d=some .nl){c:Code}(h:aj prog GB C n Q0 ((d, .d (.sl []))::fr) own (.code c K)):aj prog GB C n Q0 fr own (.code c K):=
 oB (g:= .d (.sl [])) hl (fun ρ G y hy=>(show Is G (.sl []) y from oy (ρ:=ρ) (f:= .nl) hy J)) h
def b8.to{lk:LK}{bk:BM}{o:Oper}{f g:FX}(h:b8 prog GB C n lk bk o f [] [])(e: ∀ρ G y,cb ρ G f y->cb ρ G g y):b8 prog GB C n lk bk o g [] []:=fun hd tl tb Q h1 h2 hf hk=>
 h hd tl tb Q h1 h2 hf ⟨fun ρ G ov a w r=>hk.run ρ G ov a w ⟨r.gb,r.h,r.sz,r.df,fun k f' e'=>by
  cases ho:o.dst with
  |none=>exact r.fx k f' (by simpa only[ho,ey] using e')
  |some d=>
   have hr:=r.fx;simp only[ho,ey] at e' hr;by_cases q:k=d
   ·rw[if_pos q] at e';cases e'
    obtain⟨y,h3,h4⟩:=hr k f (by rw[if_pos q]);exact⟨y,h3,e _ _ _ h4⟩
   ·rw[if_neg q] at e'
    exact hr k f' (by rw[if_neg q];exact e'),r.bx,r.dj,r.fxd⟩⟩
def ze(fr:aA)(own:aI)(cf:Cf):Option (Oper×FX):=match ce fr cf with
 |some o=>match AA tt (bE fr cf) (gD fr own cf) o.dst o.op with
  |some ⟨none,f,[],[]⟩=>some (o,f)
  |_=>none
 |none=>none
def qt[fu1:Fu][fu2:Fu]{f:FX}{p:Prop}{hp:Decidable p}(hs:ze fr own cf=some (o,f))(hb:ue f=some (@decide p hp))(g1:cI tt n fu1.n fr own cf .tt [] []=⟨vc1,fr1,own1,cf1⟩)(g2:cI tt n fu2.n fr own cf .ff [] []=⟨vc2,fr2,own2,cf2⟩)
  (k1:p->aj prog GB C n Q0 fr1 own1 cf1)(k2: ¬p->aj prog GB C n Q0 fr2 own2 cf2)
  (v1:p->ah vc1:=by intro;first|exact trivial|(simp only[ah];kernel_rfl)|(simp only[ah];omega)|(simp only[ah,aJ,aN,aU];omega))(v2: ¬p->ah vc2:=by intro;first|exact trivial|(simp only[ah];kernel_rfl)|(simp only[ah];omega)|(simp only[ah,aJ,aN,aU];omega)):aj prog GB C n Q0 fr own cf:=by
 unfold ze at hs;split at hs<;>try (cases hs;done)
 rename_i o' hh;split at hs<;>cases hs;rename_i hc;obtain⟨dst,op,ty,pos,af,gd⟩:=o;have h0:=zi (P:=prog) (GB:=GB) (C:=C) (n:=n) (ty':=ty) (pos:=pos) (af:=af) (gd:=gd) d9 hc (fun p e=>by cases e);by_cases h:p
 ·exact us hh (b8.to h0 fun ρ G y hy=>by rw[xp hy hb,decide_eq_true h];exact J) g1 (v1 h) (k1 h)
 ·exact us hh (b8.to h0 fun ρ G y hy=>by rw[xp hy hb,decide_eq_false h];exact J) g2 (v2 h) (k2 h)
def aDL{tl:LK}{tb:BM}{Ψ:Act->World->Prop}{d:Nat}{B:Bk}{f:FX}{v:DV}
  (hz: ∀lk bk ρ G ov a w,bG GB C n lk bk ρ G ov a w->bk d=some B-> ∃G' ov',bD G G'/\bu C ov' G' w/\(∀o∈ov,(ρ d).a≠some ⟨o.b,0,none⟩->o∈ov')/\ ∀y,cb ρ G f y->Is G' v y)(hk:SX GB C n (ey tl (some d) (.d v)) (Sx.upB tb [(d,none)]) Ψ):SX GB C n (ey tl (some d) f) (Sx.upB tb [(d,some B)]) Ψ:=by
 refine⟨fun ρ G ov a w r=>?_⟩;have hbd:Sx.upB tb [(d,some B)] d=some B:=by simp[Sx.upB]
 obtain⟨G',ov',h1,h2,h3,h4⟩:=hz _ _ ρ G ov a w r hbd;refine hk.run ρ G' ov' a w ⟨r.gb.trans h1,h2,r.sz,r.df,fun k g e=>?_,fun m B' e=>?_,fun m m' B1 B2 e e'=>?_,r.fxd⟩
 ·by_cases hk:k=d
  ·subst hk
   simp only[ey,if_true] at e;cases e;obtain⟨y,g1,g2⟩:=r.fx k f (by simp[ey]);exact⟨y,g1,h4 y g2⟩
  ·simp only[ey,hk,if_false] at e
   obtain⟨y,g1,g2⟩:=r.fx k g (by simp[ey,hk,e]);exact⟨y,g1,g2.up h1⟩
 ·simp only[Sx.upB] at e
  split at e
  ·cases e
  ·rename_i hm
   have e':Sx.upB tb [(d,some B)] m=some B':=by simp[Sx.upB,hm,e]
   obtain⟨os,g1,g2⟩:=r.bx m B' e';exact⟨os,g1.up h1,fun o ho=>h3 o (g2 o ho) fun hc=>r.dj m d B' B e' hbd hm _ (g1.blk ho) hc⟩
 ·simp only[Sx.upB] at e e'
  split at e
  ·cases e
  ·rename_i hm
   split at e'
   ·cases e'
   ·rename_i hm'
    exact r.dj m m' B1 B2 (by simp[Sx.upB,hm,e]) (by simp[Sx.upB,hm',e'])
def b8.frz2{lk:LK}{bk:BM}{o:Oper}{d nm:Nat}{B:Bk}{f:FX}{v:DV}(hd:o.dst=some d)(h:b8 prog GB C n lk bk o f [(nm,none),(d,some B)] [d])
  (hz: ∀lk bk ρ G ov a w,bG GB C n lk bk ρ G ov a w->bk d=some B-> ∃G' ov',bD G G'/\bu C ov' G' w/\(∀o∈ov,(ρ d).a≠some ⟨o.b,0,none⟩->o∈ov')/\ ∀y,cb ρ G f y->Is G' v y):b8 prog GB C n lk bk o (.d v) [(nm,none),(d,none)] [d]:=by
 intro hd' tl tb K s1 s2 hf hk;refine h hd' tl tb K s1 s2 hf ?_;rw[hd] at hk⊢;exact aDL (tb:=Sx.upB tb [(nm,none)]) hz hk
def aJw(d:Nat)(nm:Option Nat):List (Nat×Option Bk):=match nm with
 |some nm=>[(nm,none),(d,none)]
 |none=>[(d,none)]
def GQ[fu:Fu]{d:Nat}{nm:Option Nat}{e s b:Nat}{ds ds2:List DV}(ds':List DV)(h:Ei fr own cf=some ⟨d,nm,e,s,b,ds,ds2⟩)(hds:ds++ds2=ds')(ho2:dH s ds2)(hgo:cI tt n fu.n fr own cf (.d (.sl ds')) (aJw d nm) [d]=⟨vc,fr',own',cf'⟩)(k:aj prog GB C n Q0 fr' own' cf')
  (ho:nm.isNone=true->dH s ds/\0<ds2.length:=by intro h;first|(cases h;done)|exact⟨IB rfl,by simp⟩)(hbd:(ds.length+ds2.length)*b<=140737488355328:=by simp;omega)
  (hv:ah vc:=by first|exact trivial|(simp only[ah];kernel_rfl)|(simp only[ah];omega)|(simp only[ah,aJ,aN,aU];omega)):aj prog GB C n Q0 fr own cf:=by
 obtain⟨o,h1,h2,h3⟩:=RY (GB:=GB) (C:=C) (n:=n) h ds' hds ho ho2 hbd
 cases nm with
 |none=>exact us h1 (h3.frzRow h2) hgo hv k
 |some nm=>exact us h1 (b8.frz2 h2 h3 fun _ _ _ _ _ _ _ r hb=>r.frzRow hb) hgo hv k
def gj[fu:Fu]{f:FX}(hs:ze fr own cf=some (o,f))(hb:ue f=some true)(hgo:cI tt n fu.n fr own cf .tt [] []=⟨vc,fr',own',cf'⟩)(k:aj prog GB C n Q0 fr' own' cf')
  (hv:ah vc:=by first|exact trivial|(simp only[ah];kernel_rfl)|(simp only[ah];omega)|(simp only[ah,aJ,aN,aU];omega)):aj prog GB C n Q0 fr own cf:=by
 unfold ze at hs;split at hs<;>try (cases hs;done)
 rename_i o' hh;split at hs<;>cases hs;rename_i hc;obtain⟨dst,op,ty,pos,af,gd⟩:=o;have h0:=zi (P:=prog) (GB:=GB) (C:=C) (n:=n) (ty':=ty) (pos:=pos) (af:=af) (gd:=gd) d9 hc (fun p e=>by cases e);exact us hh (b8.to h0 fun ρ G y hy=>by rw[xp hy hb];exact J) hgo hv k
def ek[fu:Fu]{f:FX}(hs:ze fr own cf=some (o,f))(hb:ue f=some false)(hgo:cI tt n fu.n fr own cf .ff [] []=⟨vc,fr',own',cf'⟩)(k:aj prog GB C n Q0 fr' own' cf')
  (hv:ah vc:=by first|exact trivial|(simp only[ah];kernel_rfl)|(simp only[ah];omega)|(simp only[ah,aJ,aN,aU];omega)):aj prog GB C n Q0 fr own cf:=by
 unfold ze at hs;split at hs<;>try (cases hs;done)
 rename_i o' hh;split at hs<;>cases hs;rename_i hc;obtain⟨dst,op,ty,pos,af,gd⟩:=o;have h0:=zi (P:=prog) (GB:=GB) (C:=C) (n:=n) (ty':=ty) (pos:=pos) (af:=af) (gd:=gd) d9 hc (fun p e=>by cases e);exact us hh (b8.to h0 fun ρ G y hy=>by rw[xp hy hb];exact J) hgo hv k
end
section
variable {GB:Gh} {C:aD} {n:Nat} {Q0:Exit->Act->World->Prop} {fr fr':aA} {own own':aI} {cf cf':Cf} {vc:List Prop} {ops:Array Oper} {o:Oper} {K:List Kt} {r:List Oper}
def Nw(GB:Gh)(C:aD)(n:Nat)(lk:LK)(bk:BM)(o:Oper)(ι:Type)(f:ι->FX)(bl:ι->List (Nat×Option Bk))(nw:List Nat):Prop:=
 cd n o.dst=true-> ∀(tl:LK) (tb:BM) (K:Act->World->Prop),kd lk tl->kd bk tb->kz nw o.dst tl tb->(∀x,SX GB C n (ey tl o.dst (f x)) (Sx.upB tb (bl x)) K)->SX GB C n tl tb (fun a w=> ∀Q,o.wp prog a w K Q)
def hdO:Cf->Option (Array Oper×Oper×List Oper×List Kt)
 | .ops ops (o::r) K=>some (ops,o,r,K)
 |_=>none
def Kx(n q:Nat)(fr:aA)(own:aI)(cf:Cf)(f:FX)(bl:List (Nat×Option Bk)):Ar:=match cf with
 | .ops ops (o::r) K=>rB own bl fun own'=>y5 fr o.dst f fun fr'=>go tt n q [] fr' own' (.ops ops r K)
 |_=>bad
def La(n:Nat)(fr:aA)(own:aI)(cf:Cf)(nw:List Nat):Bool:=match cf with
 | .ops ops (o::_) _=>vW nw o.dst fr own&&cd n o.dst&&yn ops (bg fr) o.guard
 |_=>false
def usF{q:Nat}{ι:Type}{f:ι->FX}{bl:ι->List (Nat×Option Bk)}{nw:List Nat}{vc:ι->List Prop}{fr':ι->aA}{own':ι->aI}{cf':ι->Cf}(hh:ce fr cf=some o)(ho:La n fr own cf nw=true)(h:Nw GB C n (bE fr cf) (gD fr own cf) o ι f bl nw)
  (hgo: ∀x,Kx n q fr own cf (f x) (bl x)=⟨vc x,fr' x,own' x,cf' x⟩)(hv: ∀x,ah (vc x))(k: ∀x,aj prog GB C n Q0 (fr' x) (own' x) (cf' x)):aj prog GB C n Q0 fr own cf:=by
 obtain⟨ops,h1,h2⟩:=IR hh
 cases cf with
 |ops ops' r K=>
  cases r with
  |nil=>cases h1
  |cons o' r=>
   cases h1
   simp only[La,aL] at ho;refine⟨fun ρ G ov a w rl=>?_⟩;show wpListIn _ _ _ _ _ (o::r) a w;unfold wpListIn;rw[if_pos (D1 ho.2 ρ G ov a w rl)];refine Je ((h ho.1.2 _ _ (fun a w=>a.defers=C.mks/\wpListIn (FW C.rd) 0 prog ops (cQ C.rd prog Q0 K) r a w) (kd.refl _) (kd.refl _) (BH ho.1.1) (fun x=>?_)).run ρ G ov a w rl) fun a' w' k=>⟨k.1.trans rl.df.symm,k.2⟩;refine⟨fun ρ G ov a w r0=>⟨r0.df,SX.run (GB:=GB) (C:=C) (n:=n) ?_ ρ G ov a w r0⟩⟩;have hx:=hgo x;unfold Kx at hx;simp only[xq,Ci] at hx;have:=f5 (GB:=GB) (C:=C) (Q0:=Q0) hx (hv x) (k x);show SX GB C n (ey (bg fr) o.dst (f x)) (Sx.upB (bi own) (bl x)) _;rw[<-KV,<-Gi];exact this
 |_=>cases ho
def Yj{lk:LK}{bk:BM}{fo:Operand}{args:Array Operand}{tys:Array TypeId}{f:FuncId}{d:Nat}{ds:List DV}{ι:Type}{ty ty0:TypeId}{pos:String}{af:Array Edge}{gd:Option (Nat×Bool)}{cs':ι->List DV}
  (ha:xt lk fo args=some (f,ds))(hF:PN GB prog f ds ty0 ι cs'):Nw GB C n lk bk ⟨some d, .call ⟨.value fo,args,tys⟩,ty,pos,af,gd⟩ ι (fun _=> .ov d 0) (fun x=>[(d,some (.o ty0 ((cs' x).map .d) true))]) [d]:=by
 intro hd tl tb K' s1 s2 hf hk;refine⟨fun ρ G ov a w r Q=>?_⟩;have r1:=r.mono s1 s2;obtain⟨h1,h2⟩:=HU ha;obtain⟨y,hy,hy'⟩:=r1.ev h1;rw[(aH (G:=G)).1 hy'] at hy;obtain⟨vs,h3,h4⟩:=r1.evDs h2;refine BC (M:=[]) (rest:=ov) hy h3 (List.Perm.refl _) (hF G vs r.gb h4) hd (fun v own1 G' hG hK a' w' rl=>?_) a w Q ⟨r.h,r.sz,c9 a,r.df⟩;obtain⟨x,b,m,rfl,rfl,hm⟩:=hK;have rl':gu C n (Sx.put (cG a) (some d) (.pointer (some ⟨b,0,none⟩))) (⟨b,m,ty0,true⟩::ov) G' a' w':=by simpa[relo,jp] using rl
 have hnd:=(bK.1 rl'.h.nd).1;exact(hk x).run _ G' _ a' w' (r.new (x:=⟨some ⟨b,0,none⟩,0,0⟩) (B':= .o ty0 ((cs' x).map .d) true) (os:=[⟨b,m,ty0,true⟩]) hf hG.le rl'.h ⟨b,m,by simp,J,uH hm⟩ (fun o ho=>by rw[aV.1 ho];exact aQ)
  (fun o ho=>aZ _ ho) (fun o ho e=>by cases e;exact hnd o ho J) (f:= .ov d 0) (y:= .pointer (some ⟨b,0,none⟩)) ⟨b,by simp,J⟩ (kG rl'))
def NX(fr:aA)(cf:Cf):Option (FuncId×List DV×Nat):=match ce fr cf with
 |some ⟨some d, .call ⟨.value fo,args,_⟩,_,_,_,_⟩=>match xt (bE fr cf) fo args with
  |some (f,ds)=>some (f,ds,d)
  |none=>none
 |_=>none
def cn[fu:Fu]{f:FuncId}{d:Nat}{ds:List DV}{ty:TypeId}{ι:Type}{cs':ι->List DV}{vc:ι->List Prop}{fr':ι->aA}{own':ι->aI}{cf':ι->Cf}(ha:NX fr cf=some (f,ds,d))(hF:PN GB prog f ds ty ι cs')
  (hgo: ∀x,(AI (cs' x) fun csx=>Kx n fu.n fr own cf (.ov d 0) [(d,some (.o ty csx true))])=⟨vc x,fr' x,own' x,cf' x⟩)(k: ∀x,aj prog GB C n Q0 (fr' x) (own' x) (cf' x))(ho:La n fr own cf [d]=true:=by rfl)
  (hv: ∀x,ah (vc x):=by intro;first|exact trivial|(simp only[ah];kernel_rfl)|(simp only[ah];omega)|(simp only[ah,aJ,aN,aU];omega)):aj prog GB C n Q0 fr own cf:=by
 unfold NX at ha;split at ha<;>try (cases ha;done)
 rename_i hh;split at ha<;>cases ha;rename_i h1;simp only[Fz] at hgo;exact usF hh ho (Yj h1 hF) hgo hv k
def aGA(C:aD)(b:Nat)(m:List Value)(ty:TypeId)(lo:Bool)(ι:Type)(rv:ι->DV)(cs':ι->List DV):Ending->World->Prop:=Bj C [⟨b,m,ty,lo⟩] (fun v css G'=> ∃x,Is G' (rv x) v/\ ∃m',css=[m']/\IsLs G' (cs' x) m')
end
section
variable {GB:Gh} {C:aD} {n:Nat} {Q0:Exit->Act->World->Prop} {fr fr':aA} {own own':aI} {cf cf':Cf} {vc:List Prop} {ops:Array Oper} {o:Oper} {K:List Kt} {r:List Oper}
def aKl(fr:aA)(cf:Cf):Option Nat:=match ce fr cf with
 |some o=>o.dst
 |none=>none
def aGs(C:aD)(b:Nat)(ty:TypeId)(s:Nat)(ty2:TypeId)(ι:Type)(rows cs':ι->List DV):Ending->World->Prop:=sd C (fun v own' G'=> ∃x w m' B,v= .slice w.a w.n w.c/\own'=⟨b,m',ty,false⟩::B/\IsLs G' (cs' x) m'/\du G' ⟨w,s,ty2,rows x,true⟩ B/\ ∀o∈B,b≠o.b)
end
section
variable {GB:Gh} {C:aD} {n:Nat} {Q0:Exit->Act->World->Prop} {fr fr':aA} {own own':aI} {cf cf':Cf} {vc:List Prop} {ops:Array Oper} {o:Oper} {K:List Kt} {r:List Oper}
def Lg(C:aD)(ty:TypeId)(ι:Type)(cs:ι->List DV):Ending->World->Prop:=sd C (fun v own' G'=> ∃x b m,v= .pointer (some ⟨b,0,none⟩)/\own'=[⟨b,m,ty,true⟩]/\IsLs G' (cs x) m)
def fnN[fu:Fu]{f:FuncId}{fb:Func}{c:Code}{m:Nat}{ds:List DV}{ty:TypeId}{ι:Type}{cs:ι->List DV}(hf:prog.funcs[f]? =some fb)(hb:fb.body=some c)(hn:(fb.name== "runtime.NumGoroutine")=false)(hm:fb.ntmps=m)(hlen:Nat.ble ds.length m=true)
  (hgo:go tt m fu.n [] (r8 0 ds) [] (.code c [])=⟨vc,fr,own,cf⟩)(k: ∀C:aD,C.mb=[]->aj prog GB C m (gv C prog fb (Lg C ty ι cs)) fr own cf)
  (hv:ah vc:=by first|exact trivial|(simp only[ah];kernel_rfl)|(simp only[ah];omega)|(simp only[ah,aJ,aN,aU];omega)):PN GB prog f ds ty ι cs:=by
 intro G vs hg hvs;refine je.introR hf hb hn hm (by rw[hvs.len];exact hlen) fun C _ hmb hrd hfx=>?_;intro a w rl;refine z7 hrd ?_;have h:=f5 (GB:=GB) (C:=C) (Q0:=gv C prog fb (Lg C ty ι cs)) hgo hv (k C (by simpa using hmb));exact h.run (fun _=>⟨none,0,0⟩) G [] a w ⟨hg,rl.h,rl.sz,rl.df,(fun k f e=>Be hvs rl.fr k f e),(fun nm B e=>by cases e),(fun nm nm' B B' e=>by cases e),fun nm p _ _ e=>by rw[hfx] at e;cases e⟩
def rzN{fb:Func}{t d:Nat}{ty:TypeId}{ι:Type}{cs:ι->List DV}{cs1:List FX}{l:List DV}(x:ι)(hr:fb.results.toList=[.tmp t])(hl:bg fr t=some (.ov d 0))(hw:bi own d=some (.o ty cs1 true))(hc:js cs1=some l)(hd:l=cs x):
  aj prog GB C n (gv C prog fb (Lg C ty ι cs)) fr own (.ex .ret []):=by
 refine⟨fun ρ G ov a w r=>?_⟩;subst hd;obtain⟨b,m,rest,h3,h4,h5,h6⟩:=r.lend hw hc;obtain⟨y,hy,b',hb',hy'⟩:=r.ev (x:= .tmp t) (f:= .ov d 0) hl;rw[h3] at hb';cases hb';subst hy';exact YW (C:=C) (n:=n) (fr:=cG a) (own:=ov) (G:=G) (vs:=[.pointer (some ⟨b,0,none⟩)]) (by rw[hr];exact .tmp hy .nil) (⟨b,m,ty,true⟩::rest) [⟨b,m,ty,true⟩] (by simpa using h5) (.cons_cons _ (kJ _)) (fun _=>⟨x,b,m,J,J,h4⟩) a w ⟨r.h,r.sz,c9 a,r.df⟩
def bxf[fu:Fu]{d:Nat}{l:List DV}(h:S7 fr cf=some (d,l))(hgo:cI tt n fu.n fr own cf (.d (.pt l)) [(d,none)] [d]=⟨vc,fr',own',cf'⟩)(k:aj prog GB C n Q0 fr' own' cf')
  (hv:ah vc:=by first|exact trivial|(simp only[ah];kernel_rfl)|(simp only[ah];omega)|(simp only[ah,aJ,aN,aU];omega)):aj prog GB C n Q0 fr own cf:=by
 unfold S7 at h;split at h<;>try (cases h;done)
 rename_i hh;split at h<;>try (cases h;done)
 rename_i g hx;rw[cond_eq_ite] at h;split at h<;>try (cases h;done)
 rename_i hc;simp only[aL] at hc;split at h<;>cases h;rename_i hl;exact us hh (aAH hx hc.1 hc.2 hl) hgo hv k
end
end Go.Sx
end
