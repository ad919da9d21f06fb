import Derived.Test.YtpiknjeceobbfaaGreatDoorMy13
set_option linter.all false
set_option maxHeartbeats 4000000
set_option maxRecDepth 100000
section
namespace Go.Sx
open Go Go.Proofs Tryz
variable {GB:Gh}
def Qx{n i:Nat}[h:BN n i](hi:i<=20000000:=by decide):PF GB prog 205 [dN n] (dN n):=by
 have hl:=k8 h.h;have:=Kq (GB:=GB) (ds:=dg n) (jz n) (by omega);rw[bP,<-Hu] at this;exact this
def T9(z:Int):vd (decide (z<0)) (dg z.natAbs)=z:=by
 unfold vd;rw[bP];split<;>(rename_i h;simp at h;omega)
def Ys{z:Int}{i:Nat}[h:BI z i](hi:i<=20000000:=by decide):PF GB prog 206 [eI z] (eI z):=by
 have hl:=k8 h.h;have:=aFT (GB:=GB) (neg:=decide (z<0)) (ds:=dg z.natAbs) (jz _) (by omega);rw[T9,<-Hu] at this;exact this
def RI{n:Nat}(h:0<n): ¬((((dg n).map dU).length:Nat):Int)=0:=by
 rw[aK];have:=tO (n:=n);omega
instance BQ.m1':BQ (((-1:Int):Int):Rat) 2:=⟨by decide,by decide⟩
instance BQ.m1:BQ (-1:Rat) 2:=⟨by decide,by decide⟩
def Ky{q:Rat}{i:Nat}[h:BQ q i](hi:i<=20000000:=by decide):PF GB prog 149 [eR q] (eQ q):=by
 have hd:=q.den_pos;refine fn func149 J J ntmps149 J J (fun C=>?_);refine cl (fu:=⟨8⟩) J (Qx (n:=q.den) hi) J<|gw J (by show some (decide _)=some false;rw[decide_eq_false (RI hd)]) J<|cl J (Ys (z:=q.num) hi) J<|?_;refine cl J (uA (x:=q.num) (d:=q.den) hd (by omega) (by omega)) J<|?_;exact rz J (by rw[qL];rfl)
def H5{q:Rat}{i:Nat}[h:BQ q i](hi:i<=400000000:=by decide):PF GB prog 47 [eQ q] (eR q):=by
 refine fn func47 J J ntmps47 J J (fun C=>?_);refine cl J (SQ (z:=q.num) hi) J<|cl J (iC (q:=q)) J<|cl J (Ma (a:=q.den) hi) J<|?_;exact rz J J
def Rs{p:aa}{i:Nat}[h:aq p i](hi:i<=20000000:=by decide):PF GB prog 96 [i9 p] (eP p):=by
 refine fn func96 J J ntmps96 J J (fun C=>?_);refine cl J (Ky (q:=p.x) hi) J<|cl J (Ky (q:=p.y) hi) J<|?_;exact rz J J
def BT{p:aa}{i:Nat}[h:aq p i](hi:i<=20000:=by decide):PF GB prog 19 [eP p] (i9 p):=by
 refine fn func19 J J ntmps19 J J (fun C=>?_);refine cl J (H5 (q:=p.x) (i:=i) (by omega)) J<|cl J (H5 (q:=p.y) (i:=i) (by omega)) J<|?_;exact rz J J
def lg{α:Type}(f:α->DV)(l:List α):(l.map f).length=l.length:=aK ..
def kG(ps:List aa):dG 6 (ps.map eP):=fun d hd=>by
 obtain⟨u,_,rfl⟩:=bZ.1 hd;exact⟨rfl,rfl⟩
def Wx(ps:List aa):dG 6 (ps.map i9):=fun d hd=>by
 obtain⟨u,_,rfl⟩:=bZ.1 hd;exact⟨rfl,rfl⟩
def Rj{ps:List aa}(hb: ∀p∈ps,aq p 1200)(hn:ps.length<=1000000):PF GB prog 50 [.sl (ps.map i9)] (.sl (ps.map eP)):=by
 have hm:=lg i9 ps;refine fn (fu:=⟨15⟩) func50 J J ntmps50 J J (fun C=>?_);refine aj 7 (.d (vI (ps.length:Nat))) J (by rw[hm]<;>rfl) ?_;refine gx J<|?_;refine nr 3 3 36 6 J J J ?_;refine lp (X:=Nat) (fun k=>[(8, .d (vI (k:Nat))),(3, .rw 3)]) (fun k=>[(3,some (.b 36 6 ((ps.take k).map eP) true))]) (fun k=>k<=ps.length) (fun k=>ps.length-k) 0 J (bN _) (fun _=>J) (fun k hk=>?_);have hml:=lg eP (ps.take k);rw[cJ] at hml;refine br J J J (fun hc9=>?_) (fun hc9=>?_)
 .
  obtain⟨z,hz⟩: ∃s,ps[k]? =some s:=⟨_,aZ (by omega)⟩;have hzm:=aS hz;refine ix _ J (ee hz) J<|cl J (Rs (p:=z) (h:=hb z hzm)) J<|rf J J<|ap ((ps.take (k+1)).map eP) J (Az hz) (kG [z]) J<|?_;refine gr 16 3 J ?_;exact at_ (k+1) ⟨(by omega),(by omega)⟩
 .
  obtain rfl:k=ps.length:=by omega
  refine mf 3 J ?_;exact rz J (by rw[dX];rfl)
def NF{ps:List aa}(hb: ∀p∈ps,aq p 1200)(hn:ps.length<=1000000):PF GB prog 32 [.sl (ps.map eP)] (.sl (ps.map i9)):=by
 have hm:=lg eP ps;refine fn (fu:=⟨15⟩) func32 J J ntmps32 J J (fun C=>?_);refine aj 7 (.d (vI (ps.length:Nat))) J (by rw[hm]<;>rfl) ?_;refine gx J<|?_;refine nr 3 3 62 6 J J J ?_;refine lp (X:=Nat) (fun k=>[(8, .d (vI (k:Nat))),(3, .rw 3)]) (fun k=>[(3,some (.b 62 6 ((ps.take k).map i9) true))]) (fun k=>k<=ps.length) (fun k=>ps.length-k) 0 J (bN _) (fun _=>J) (fun k hk=>?_);have hml:=lg i9 (ps.take k);rw[cJ] at hml;refine br J J J (fun hc9=>?_) (fun hc9=>?_)
 .
  obtain⟨z,hz⟩: ∃s,ps[k]? =some s:=⟨_,aZ (by omega)⟩;have hzm:=aS hz;refine ix _ J (ee hz) J<|cl J (BT (p:=z) (h:=hb z hzm)) J<|rf J J<|ap ((ps.take (k+1)).map i9) J (Az hz) (Wx [z]) J<|?_;refine gr 16 3 J ?_;exact at_ (k+1) ⟨(by omega),(by omega)⟩
 .
  obtain rfl:k=ps.length:=by omega
  refine mf 3 J ?_;exact rz J (by rw[dX];rfl)
def LD{p q:aa}{i j:Nat}[hp:aq p i][hq:aq q j](hi:i<=100000:=by decide)(hj:j<=100000:=by decide):PF GB prog 58 [eP p,eP q] (eP (aD p q (-1))):=by
 refine fn func58 J J ntmps58 J J (fun C=>?_);refine cl J (nH (n:= -1) (by decide) (by decide)) J<|cl J (u6 (p:=p) (q:=q) (c:=((-1:Int):Rat)) (i:=i) (j:=j) (k:=2) (by omega) (by omega)) J<|?_;exact rz J (by rw[show((-1:Int):Rat)= -1 from J];rfl)
def O'{a b c:aa}{i j k:Nat}[ha:aq a i][hb:aq b j][hc:aq c k](hi:i<=80000:=by decide)(hj:j<=80000:=by decide)(hk:k<=80000:=by decide):PF GB prog 24 [eP a,eP b,eP c] (vI (tK a b c)):=by
 refine fn func24 J J ntmps24 J J (fun C=>?_);refine cl J (LD (p:=b) (q:=a) (i:=j) (j:=i) (by omega) (by omega)) J<|cl J (LD (p:=c) (q:=a) (i:=k) (j:=i) (by omega) (by omega)) J<|?_;refine cl J (xV (p:=aD b a (-1)) (q:=aD c a (-1)) (by omega) (by omega)) J<|cl J (oF (q:=(aD b a (-1)).cross (aD c a (-1)))) J<|?_;exact rz J J
def fj(p q:aa):Int:=if bE p.x q.x≠0 then bE p.x q.x else bE p.y q.y
def Mi{p q:aa}{i j:Nat}[hp:aq p i][hq:aq q j](hi:i<=100000:=by decide)(hj:j<=100000:=by decide):PF GB prog 123 [eP p,eP q] (vI (fj p q)):=by
 refine fn func123 J J ntmps123 J J (fun C=>?_);refine cl J (ud (a:=p.x) (b:=q.x) (by omega) (by omega)) J<|?_;refine br J J J (fun hc12=>?_) (fun hc12=>?_)
 .
  exact rz J (by unfold fj;rw[if_pos hc12];rfl)
 .
  refine cl J (ud (a:=p.y) (b:=q.y) (by omega) (by omega)) J<|?_;exact rz J (by unfold fj;rw[if_neg hc12];rfl)
def nO(l:ab):Bool:=decide (l.a<0\/(l.a=0/\l.b<0))
def ab.canon(l:ab):ab:=if nO l then l.rev else l
def sH(a:Int):a.sign<0↔a<0:=by
 rcases lU a 0 with h|h|h
 ·rw[fX h];omega
 ·subst h;simp
 ·rw[fK h];omega
def mE(a:Int):a.sign=0↔a=0:=iY
def N7{l:ab}(h:l.a<0\/(l.a=0/\l.b<0)):DV.tp [eL l.canon,vB (nO l)]= .tp [eL l.rev,vB true]:=by
 unfold ab.canon nO;rw[decide_eq_true h];rfl
def MV{l:ab}(h: ¬(l.a<0\/(l.a=0/\l.b<0))):DV.tp [eL l.canon,vB (nO l)]= .tp [eL l,vB false]:=by
 unfold ab.canon nO;rw[decide_eq_false h];rfl
def Tc{l:ab}[hl:LB l]:PF GB prog 97 [eL l] (.tp [eL l.canon,vB (nO l)]):=by
 refine fn func97 J J ntmps97 J J (fun C=>?_);refine cl J (By (z:=l.a)) J<|?_;refine cs 10 J J J (fun hg10=>?_) (fun hg10=>?_)
 .
  refine cl J (KJ (l:=l)) J<|?_;exact rz J (by rw[N7 (.inl ((sH _).1 hg10))];rfl)
 .
  refine cs 13 J J J (fun hg13=>?_) (fun hg13=>?_)
  .
   refine cl J (By (z:=l.b)) J<|?_;refine br J J J (fun hc19=>?_) (fun hc19=>?_)
   .
    refine cl J (KJ (l:=l)) J<|?_;exact rz J (by rw[N7 (.inr ⟨(mE _).1 hg13,(sH _).1 hc19⟩)];rfl)
   .
    exact rz J (by rw[MV (fun e=>e.elim (fun e=>hg10 ((sH _).2 e)) (fun e=>hc19 ((sH _).2 e.2)))];rfl)
  .
   exact rz J (by rw[MV (fun e=>e.elim (fun e=>hg10 ((sH _).2 e)) (fun e=>hg13 ((mE _).2 e.1)))];rfl)
instance LB.canon (l:ab) [h:LB l]:LB l.canon:=by unfold ab.canon;split;exact LB.rev h;exact h
def T8{l:ab}(h:l.ok):l.canon.ok:=by unfold ab.canon;split;exact h.rev;exact h
def qk{α β:Type}(c:β->β->Int)(g:α->β)(l:List α)(k:Nat):List β:=pI c ((l.take k).map g)
section
variable {α β:Type} {c:β->β->Int} {g:α->β} {l:List α} {k:Nat}
def wJ{x:α}(h:l[k]? =some x):qk c g l (k+1)=du c (g x) (qk c g l k):=by
 unfold qk pI;rw[dW,h,Option.toList_some,cN,nZ];rfl
def Ov(h:k=l.length):qk c g l k=pI c (l.map g):=by unfold qk;rw[h,dX]
def OR:(qk c g l k).length<=k:=by
 have:=CS c ((l.take k).map g) [];have h2:((l.take k).map g).length<=k:=by rw[aK,cJ];omega
 rw[gV] at this;unfold qk pI;omega
def IG{y:β}(h:y∈qk c g l k): ∃x∈l,y=g x:=by
 rcases vz c h with h|h
 ·obtain⟨x,hx,rfl⟩:=bZ.1 h
  exact⟨x,eY hx,J⟩
 ·cases h
end
def BO{α:Type}{f:α->DV}{s:Nat}(ok: ∀l:List α,dG s (l.map f))(xs:List α)(n:Nat):dG s ((xs.map f).take n):=fun d hd=>ok xs d (eY hd)
def y8{α:Type}{f:α->DV}{s:Nat}(ok: ∀l:List α,dG s (l.map f))(xs:List α)(n m:Nat):dG s (((xs.map f).take n).drop m):=fun d hd=>ok xs d (eY (mL hd))
def A5{α:Type}{f:α->DV}{s:Nat}(ok: ∀l:List α,dG s (l.map f))(xs:List α)(n m:Nat)(x:α):dG s ([f x]++((xs.map f).take n).drop m):=fun d hd=>by
 rcases bT.1 hd with h|h
 ·exact ok [x] d h
 ·exact y8 ok xs n m d h
def vw{α:Type}{f:α->DV}{l:List α}{i:Nat}(h:i<l.length):(l.map f)[(i:Int).toNat]? =some (f l[i]):=by
 rw[bW,fS,aZ h];rfl
def R1{ps:List aa}(hb: ∀p∈ps,aq p 1200)(hn:ps.length<=100000):PF GB prog 75 [.sl (ps.map eP)] (.sl ((pI fj ps).map eP)):=by
 have hm':=lg eP ps;refine fn (fu:=⟨15⟩) func75 J J ntmps75 J J (fun C=>?_);refine aj 8 (.d (vI (ps.length:Nat))) J (by rw[hm'];rfl) ?_;refine gx J<|?_;refine NU 3 J ?_;refine lp (X:=List aa×Nat) (fun⟨xs,k⟩=>[(9, .d (vI (k:Nat))),(8, .d (vI (ps.length:Nat))),(7, .d (.sl (ps.map eP))),(0, .d (.sl (ps.map eP))),(3, .d (.sl (xs.map eP)))]) (fun⟨xs,k⟩=>[]) (fun⟨xs,k⟩=>xs=qk fj id ps k/\k<=ps.length) (fun⟨xs,k⟩=>ps.length-k) ⟨[],0⟩ J ⟨J,bN _⟩ (fun _=>J) (fun⟨xs,k⟩ hk=>?_)
 try dsimp only at hk⊢
 obtain⟨hS,hkl⟩:=hk;refine br J J J (fun hc10=>?_) (fun hc10=>?_)
 .
  have hk:k<ps.length:=by omega
  obtain⟨m,hm⟩: ∃m,m=ps[k]:=⟨_,rfl⟩;have hz:ps[k]? =some m:=by rw[hm];exact aZ hk
  haveI hmb:aq m 1200:=hm▸hb _ (cK hk);have hxl:=lg eP xs;have hxn:xs.length<=k:=by rw[hS];exact OR
  have hxb: ∀q∈xs,aq q 1200:=fun q hq=>by rw[hS] at hq;obtain⟨z,hz,he⟩:=IG hq;rw[he];exact hb z hz
  refine ix (fu:=⟨1⟩) _ J (vw hk) J<|?_;refine aj 12 (.d (eP m)) J (by rw[hm];rfl) ?_;refine gx (fu:=⟨10⟩) J<|?_;refine mg (fu:=⟨5⟩) (X:=Unit) (fun _=>[(9, .d (vI (k:Nat))),(8, .d (vI (ps.length:Nat))),(7, .d (.sl (ps.map eP))),(0, .d (.sl (ps.map eP))),(3, .d (.sl (xs.map eP))),(5, .ov 5 0),(6, .d (vI (jE fj m xs:Nat)))]) (fun _=>[(5,some (.o 36 [.d ((.v (.bool (decide (m.x.num<0))))), .d (dN m.x.num.natAbs), .d (dD m.x.den), .d ((.v (.bool (decide (m.y.num<0))))), .d (dN m.y.num.natAbs), .d (dD m.y.den)] true))]) (fun _=>True) [9,8,7,0,3,5,6] [5] rfl ?_ (fun _=>J) (fun _ _=>?_)
  .
   refine gx J<|?_;refine lp (fu:=⟨6⟩) (X:=Nat) (fun n=>[(9, .d (vI (k:Nat))),(8, .d (vI (ps.length:Nat))),(7, .d (.sl (ps.map eP))),(0, .d (.sl (ps.map eP))),(3, .d (.sl (xs.map eP))),(5, .ov 5 0),(6, .d (vI (n:Nat)))]) (fun n=>[(5,some (.o 36 [.d ((.v (.bool (decide (m.x.num<0))))), .d (dN m.x.num.natAbs), .d (dD m.x.den), .d ((.v (.bool (decide (m.y.num<0))))), .d (dN m.y.num.natAbs), .d (dD m.y.den)] true))]) (fun n=>n<=xs.length/\ ∀j (h:j<xs.length),j<n->fj xs[j] m<0) (fun n=>xs.length-n) 0 J ⟨bN _,fun j _ hj=>absurd hj (by omega)⟩ (fun _=>J) (fun n hk=>?_);obtain⟨n1,n2⟩:=hk;refine pB (v2:=fun hg16=>by simp only[ah];kernel_rfl) J J J J (fun hg16=>?_) (fun hg16=>?_)
   .
    refine ix _ J (vw (by omega)) J<|cl J (Mi (p:=xs[n]'(by omega)) (q:=m) (hp:=hxb _ (cK (by omega))) (hq:=hmb)) J<|?_;refine br J J J (fun hc25=>?_) (fun hc25=>?_)
    .
     exact at_ (n+1) ⟨⟨by omega,fun j h hj=>by by_cases q:j=n;(subst q;exact hc25);exact n2 j h (by omega)⟩,(by omega)⟩
    .
     have hidx:jE fj m xs=n:=AZ fj n1 n2 (fun h=>hc25);exact at_ () trivial
   .
    have hidx:jE fj m xs=n:=AZ fj n1 n2 (fun h=>absurd h (by omega));exact at_ () trivial
  .
   obtain⟨n,hnx⟩: ∃n,jE fj m xs=n:=⟨_,rfl⟩;rw[hnx];have hnl:n<=xs.length:=by rw[<-hnx];exact JU _ _ _
   refine pB (v1:=fun hg31=>by simp only[ah];kernel_rfl) J J J J (fun hg31=>?_) (fun hg31=>?_)
   .
    have hnew: ∀h:n<xs.length,fj xs[n] m≠0:=fun h=>absurd h (by omega);obtain⟨ys,hys⟩: ∃ys,ys=xs.take n++m::xs.drop n:=⟨_,rfl⟩;have hin:du fj m xs=ys:=by rw[hys];exact wP fj hnx hnew
    have hyl:ys.length<=xs.length+1:=by rw[hys];simp;omega
    refine s3 n _ J J J J (kG _) (by rw[hxl];exact hnl) J<|ro J J<|rC n xs.length _ J J (by rw[hxl]) J (kG _) hnl (by omega) J<|?_;refine ap _ J J (y8 kG _ _ _) J<|Bx (hv:=by simp only[ah];exact⟨by kernel_rfl,by omega⟩) (ho:=fun _=>⟨BO kG _ _,by simp⟩) (ys.map eP) J (by rw[hys,cN,cM,lN,rW,aL (l:=xs.map eP) (i:=xs.length) (by simp)];rfl) (A5 kG _ _ _ _) J<|?_;exact at_ ⟨ys,k+1⟩ (by dsimp only;exact⟨⟨by rw[wJ hz,<-hS];exact hin.symm,by omega⟩,(by omega)⟩)
   .
    refine ix _ J (vw (by omega)) J<|cl J (Mi (p:=xs[n]'(by omega)) (q:=m) (hp:=hxb _ (cK (by omega))) (hq:=hmb)) J<|?_;refine br J J J (fun hc40=>?_) (fun hc40=>?_)
    .
     have hnew: ∀h:n<xs.length,fj xs[n] m≠0:=fun h=>hc40;obtain⟨ys,hys⟩: ∃ys,ys=xs.take n++m::xs.drop n:=⟨_,rfl⟩;have hin:du fj m xs=ys:=by rw[hys];exact wP fj hnx hnew
     have hyl:ys.length<=xs.length+1:=by rw[hys];simp;omega
     refine s3 n _ J J J J (kG _) (by rw[hxl];exact hnl) J<|ro J J<|rC n xs.length _ J J (by rw[hxl]) J (kG _) hnl (by omega) J<|?_;refine ap _ J J (y8 kG _ _ _) J<|Bx (hv:=by simp only[ah];exact⟨by kernel_rfl,by omega⟩) (ho:=fun _=>⟨BO kG _ _,by simp⟩) (ys.map eP) J (by rw[hys,cN,cM,lN,rW,aL (l:=xs.map eP) (i:=xs.length) (by simp)];rfl) (A5 kG _ _ _ _) J<|?_;exact at_ ⟨ys,k+1⟩ (by dsimp only;exact⟨⟨by rw[wJ hz,<-hS];exact hin.symm,by omega⟩,(by omega)⟩)
    .
     have hin:du fj m xs=xs:=Ek fj hnx (by omega) (Decidable.not_not.1 hc40);exact at_ ⟨xs,k+1⟩ (by dsimp only;exact⟨⟨by rw[wJ hz,<-hS];exact hin.symm,by omega⟩,(by omega)⟩)
 .
  have hfin:pI fj ps=xs:=by rw[hS,Ov (by omega),List.map_id]
  exact rz J (by rw[hfin];rfl)
def ki(ls:List ab):List ab:=pI fg (ls.map ab.canon)
def En{ls:List ab}{y:ab}(h:y∈ki ls): ∃x∈ls,y=x.canon:=by
 rcases vz fg h with h|h
 ·obtain⟨x,hx,rfl⟩:=bZ.1 h;exact⟨x,hx,rfl⟩
 ·cases h
def apY{ls:List ab}(hb: ∀p∈ls,LB p)(hn:ls.length<=100000):PF GB prog 51 [.sl (ls.map eL)] (.sl ((ki ls).map eL)):=by
 have hm':=lg eL ls;refine fn (fu:=⟨15⟩) func51 J J ntmps51 J J (fun C=>?_);refine aj 8 (.d (vI (ls.length:Nat))) J (by rw[hm'];rfl) ?_;refine gx J<|?_;refine NU 3 J ?_;refine lp (X:=List ab×Nat) (fun⟨xs,k⟩=>[(9, .d (vI (k:Nat))),(8, .d (vI (ls.length:Nat))),(7, .d (.sl (ls.map eL))),(0, .d (.sl (ls.map eL))),(3, .d (.sl (xs.map eL)))]) (fun⟨xs,k⟩=>[]) (fun⟨xs,k⟩=>xs=qk fg ab.canon ls k/\k<=ls.length) (fun⟨xs,k⟩=>ls.length-k) ⟨[],0⟩ J ⟨J,bN _⟩ (fun _=>J) (fun⟨xs,k⟩ hk=>?_)
 try dsimp only at hk⊢
 obtain⟨hS,hkl⟩:=hk;refine br J J J (fun hc10=>?_) (fun hc10=>?_)
 .
  have hk:k<ls.length:=by omega
  obtain⟨z,hm⟩: ∃m,m=ls[k]:=⟨_,rfl⟩;have hz:ls[k]? =some z:=by rw[hm];exact aZ hk
  haveI hzb:LB z:=hm▸hb _ (cK hk);obtain⟨m,hmc⟩: ∃m,m=z.canon:=⟨_,rfl⟩;haveI hmb:LB m:=by rw[hmc];infer_instance
  have hxl:=lg eL xs;have hxn:xs.length<=k:=by rw[hS];exact OR
  have hxb: ∀q∈xs,LB q:=fun q hq=>by rw[hS] at hq;obtain⟨z,hz,rfl⟩:=IG hq;haveI:=hb z hz;infer_instance
  refine ix (fu:=⟨1⟩) _ J (vw hk) J<|?_;refine aj 12 (.d (eL z)) J (by rw[hm];rfl) ?_;refine gx J<|cl (fu:=⟨2⟩) J (Tc (l:=z)) J<|?_;refine aj 16 (.d (eL m)) J (by rw[hmc]) ?_;refine gx (fu:=⟨10⟩) J<|?_;refine mg (fu:=⟨5⟩) (X:=Unit) (fun _=>[(9, .d (vI (k:Nat))),(8, .d (vI (ls.length:Nat))),(7, .d (.sl (ls.map eL))),(0, .d (.sl (ls.map eL))),(3, .d (.sl (xs.map eL))),(5, .ov 5 0),(6, .d (vI (jE fg m xs:Nat)))]) (fun _=>[(5,some (.o 43 [.d ((.v (.bool (decide (m.a<0))))), .d (dN m.a.natAbs), .d ((.v (.bool (decide (m.b<0))))), .d (dN m.b.natAbs), .d ((.v (.bool (decide (m.c<0))))), .d (dN m.c.natAbs)] true))]) (fun _=>True) [9,8,7,0,3,5,6] [5] rfl ?_ (fun _=>J) (fun _ _=>?_)
  .
   refine gx J<|?_;refine lp (fu:=⟨6⟩) (X:=Nat) (fun n=>[(9, .d (vI (k:Nat))),(8, .d (vI (ls.length:Nat))),(7, .d (.sl (ls.map eL))),(0, .d (.sl (ls.map eL))),(3, .d (.sl (xs.map eL))),(5, .ov 5 0),(6, .d (vI (n:Nat)))]) (fun n=>[(5,some (.o 43 [.d ((.v (.bool (decide (m.a<0))))), .d (dN m.a.natAbs), .d ((.v (.bool (decide (m.b<0))))), .d (dN m.b.natAbs), .d ((.v (.bool (decide (m.c<0))))), .d (dN m.c.natAbs)] true))]) (fun n=>n<=xs.length/\ ∀j (h:j<xs.length),j<n->fg xs[j] m<0) (fun n=>xs.length-n) 0 J ⟨bN _,fun j _ hj=>absurd hj (by omega)⟩ (fun _=>J) (fun n hk=>?_);obtain⟨n1,n2⟩:=hk;refine pB (v2:=fun hg21=>by simp only[ah];kernel_rfl) J J J J (fun hg21=>?_) (fun hg21=>?_)
   .
    refine ix _ J (vw (by omega)) J<|cl J (J9 (l:=xs[n]'(by omega)) (m:=m) (hl:=hxb _ (cK (by omega))) (hm:=hmb)) J<|?_;refine br J J J (fun hc30=>?_) (fun hc30=>?_)
    .
     exact at_ (n+1) ⟨⟨by omega,fun j h hj=>by by_cases q:j=n;(subst q;exact hc30);exact n2 j h (by omega)⟩,(by omega)⟩
    .
     have hidx:jE fg m xs=n:=AZ fg n1 n2 (fun h=>hc30);exact at_ () trivial
   .
    have hidx:jE fg m xs=n:=AZ fg n1 n2 (fun h=>absurd h (by omega));exact at_ () trivial
  .
   obtain⟨n,hnx⟩: ∃n,jE fg m xs=n:=⟨_,rfl⟩;rw[hnx];have hnl:n<=xs.length:=by rw[<-hnx];exact JU _ _ _
   refine pB (v1:=fun hg36=>by simp only[ah];kernel_rfl) J J J J (fun hg36=>?_) (fun hg36=>?_)
   .
    have hnew: ∀h:n<xs.length,fg xs[n] m≠0:=fun h=>absurd h (by omega);obtain⟨ys,hys⟩: ∃ys,ys=xs.take n++m::xs.drop n:=⟨_,rfl⟩;have hin:du fg m xs=ys:=by rw[hys];exact wP fg hnx hnew
    have hyl:ys.length<=xs.length+1:=by rw[hys];simp;omega
    refine s3 n _ J J J J (oA _) (by rw[hxl];exact hnl) J<|ro J J<|rC n xs.length _ J J (by rw[hxl]) J (oA _) hnl (by omega) J<|?_;refine ap _ J J (y8 oA _ _ _) J<|Bx (hv:=by simp only[ah];exact⟨by kernel_rfl,by omega⟩) (ho:=fun _=>⟨BO oA _ _,by simp⟩) (ys.map eL) J (by rw[hys,cN,cM,lN,rW,aL (l:=xs.map eL) (i:=xs.length) (by simp)];rfl) (A5 oA _ _ _ _) J<|?_;exact at_ ⟨ys,k+1⟩ (by dsimp only;exact⟨⟨by rw[wJ hz,<-hS,<-hmc];exact hin.symm,by omega⟩,(by omega)⟩)
   .
    refine ix _ J (vw (by omega)) J<|cl J (J9 (l:=xs[n]'(by omega)) (m:=m) (hl:=hxb _ (cK (by omega))) (hm:=hmb)) J<|?_;refine br J J J (fun hc45=>?_) (fun hc45=>?_)
    .
     have hnew: ∀h:n<xs.length,fg xs[n] m≠0:=fun h=>hc45;obtain⟨ys,hys⟩: ∃ys,ys=xs.take n++m::xs.drop n:=⟨_,rfl⟩;have hin:du fg m xs=ys:=by rw[hys];exact wP fg hnx hnew
     have hyl:ys.length<=xs.length+1:=by rw[hys];simp;omega
     refine s3 n _ J J J J (oA _) (by rw[hxl];exact hnl) J<|ro J J<|rC n xs.length _ J J (by rw[hxl]) J (oA _) hnl (by omega) J<|?_;refine ap _ J J (y8 oA _ _ _) J<|Bx (hv:=by simp only[ah];exact⟨by kernel_rfl,by omega⟩) (ho:=fun _=>⟨BO oA _ _,by simp⟩) (ys.map eL) J (by rw[hys,cN,cM,lN,rW,aL (l:=xs.map eL) (i:=xs.length) (by simp)];rfl) (A5 oA _ _ _ _) J<|?_;exact at_ ⟨ys,k+1⟩ (by dsimp only;exact⟨⟨by rw[wJ hz,<-hS,<-hmc];exact hin.symm,by omega⟩,(by omega)⟩)
    .
     have hin:du fg m xs=xs:=Ek fg hnx (by omega) (Decidable.not_not.1 hc45);exact at_ ⟨xs,k+1⟩ (by dsimp only;exact⟨⟨by rw[wJ hz,<-hS,<-hmc];exact hin.symm,by omega⟩,(by omega)⟩)
 .
  have hfin:ki ls=xs:=by rw[hS,Ov (by omega)];rfl
  exact rz J (by rw[hfin];rfl)
def Ao{α:Type}{c:α->α->Int}(hc: ∀u x,c u x=0->u=x){x y:α}: ∀{xs:List α},y=x\/y∈xs->y∈du c x xs
 |[],h=>by
  rcases h with rfl|h
  ·rw[du];exact aV.2 J
  ·cases h
 |u::t,h=>by
  rw[du];split
  ·rcases h with rfl|h
   ·exact aJ _ (Ao hc (.inl J))
   ·rcases aU.1 h with rfl|h
    ·exact aQ
    ·exact aJ _ (Ao hc (.inr h))
  ·split
   ·rename_i h0
    rcases h with rfl|h
    ·rw[<-hc _ _ h0];exact aQ
    ·exact h
   ·rcases h with rfl|h
    ·exact aQ
    ·exact aJ _ h
def NI{α:Type}{c:α->α->Int}(hc: ∀u x,c u x=0->u=x){y:α}: ∀{l o:List α},y∈l\/y∈o->y∈l.foldl (fun out x=>du c x out) o
 |[],o,h=>h.elim (fun h=>by cases h) id
 |x::t,o,h=>by
  refine NI hc (l:=t) ?_;rcases h with h|h
  ·rcases aU.1 h with rfl|h
   ·exact .inr (Ao hc (.inl J))
   ·exact .inl h
  ·exact .inr (Ao hc (.inr h))
def XQ{ls:List ab}{x:ab}(h:x∈ls):x.canon∈ki ls:=
 NI (fun u x e=>(Te u x).1 e) (.inl (jQ h))
def GT(l:ab)(p:aa):l.canon.value p=l.value p\/l.canon.value p= -l.value p:=by
 unfold ab.canon;split
 ·exact .inr (nA l p)
 ·exact .inl J
def Do(a b:Tr):List aa:=Lq (ki (a.lns++b.lns))
def eqR(a b:Tr):Bool:=(Do a b).all fun p=>sO a p==sO b p
def aG2(f:Bool->Bool->Bool)(a b:Tr):Bool:=(Do a b).any fun p=>f (sO a p) (sO b p)
def aGq(v:Bool)(t:Tr):Bool:=decide ((t.restrict []).isLeaf=true/\(t.restrict []).code=v)
def NL{α:Type}{c:α->α->Int}(hT: ∀u v w,c u v<0->c v w<0->c u w<0)(hA: ∀u v,¬c u v<0->c u v≠0->c v u<0){x:α}: ∀{xs:List α},xs.Pairwise (fun a b=>c a b<0)->(du c x xs).Pairwise (fun a b=>c a b<0)
 |[],_=>by rw[du];exact qY _ _
 |u::t,h=>by
  obtain⟨h1,h2⟩:=bX.1 h;rw[du];split
  ·rename_i hu
   refine bX.2 ⟨fun y hy=>?_,NL hT hA h2⟩;rcases Dp c hy with rfl|hy
   ·exact hu
   ·exact h1 y hy
  ·rename_i hu
   split
   ·exact h
   ·rename_i hz
    have hx:=hA u x hu hz;refine bX.2 ⟨fun y hy=>?_,h⟩;rcases aU.1 hy with rfl|hy
    ·exact hx
    ·exact hT _ _ _ hx (h1 y hy)
def Fh{α:Type}{c:α->α->Int}(hT: ∀u v w,c u v<0->c v w<0->c u w<0)(hA: ∀u v,¬c u v<0->c u v≠0->c v u<0): ∀{l o:List α},o.Pairwise (fun a b=>c a b<0)->(l.foldl (fun out x=>du c x out) o).Pairwise (fun a b=>c a b<0)
 |[],o,h=>h
 |x::l,o,h=>Fh (l:=l) (o:=du c x o) hT hA (NL hT hA h)
def Fq(l m:ab):fg l m<0↔l.a<m.a\/(l.a=m.a/\(l.b<m.b\/(l.b=m.b/\l.c<m.c))):=by
 unfold fg;split
 ·rename_i h;rw[sH];rw[ne_eq,mE] at h;omega
 ·rename_i h;rw[ne_eq,Decidable.not_not,mE] at h
  split
  ·rename_i k;rw[sH];rw[ne_eq,mE] at k;omega
  ·rename_i k;rw[ne_eq,Decidable.not_not,mE] at k;rw[sH];omega
def Wy(l m:ab):fg l m=0↔l.a=m.a/\l.b=m.b/\l.c=m.c:=by
 unfold fg;split
 ·rename_i h;rw[mE];rw[ne_eq,mE] at h;omega
 ·rename_i h;rw[ne_eq,Decidable.not_not,mE] at h
  split
  ·rename_i k;rw[mE];rw[ne_eq,mE] at k;omega
  ·rename_i k;rw[ne_eq,Decidable.not_not,mE] at k;rw[mE];omega
def RP(ls:List ab):(ki ls).Pairwise (fun a b=>fg a b<0):=
 Fh (fun u v w h k=>by rw[Fq] at*;omega) (fun u v h k=>by rw[Fq] at*;rw[ne_eq,Wy] at k;omega) List.Pairwise.nil
def dE(L:List ab)(p:aa):List aa:=L.flatMap fun l=>if Int.sign (l.value p).num=0 then [l.dir,ba l.dir] else []
def rp{L:List ab}{p d:aa}:d∈dE L p↔ ∃l∈L,l.value p=0/\(d=l.dir\/d=ba l.dir):=by
 unfold dE;rw[cY];constructor
 ·rintro ⟨l,hl,h⟩
  split at h
  ·rename_i k;exact⟨l,hl,(fD _).1 k,by simpa using h⟩
  ·cases h
 ·rintro ⟨l,hl,h,k⟩
  refine⟨l,hl,?_⟩;rw[if_pos ((fD _).2 h)];simpa using k
def Cx{u v:aa}:0<ce u v↔bv v u:=by
 unfold ce bv;split
 ·rename_i h;exact⟨fun e=>absurd e (by decide),fun e=>by omega⟩
 ·rename_i h
  split
  ·rename_i h2;exact⟨fun _=> .inl h2,fun _=>by decide⟩
  ·rename_i h2
   have e:v.half=u.half:=by omega
   rw[d5 u v];constructor
   ·intro k
    have:Int.sign (u.cross v).num<0:=by omega
    rw[lw] at this;exact .inr ⟨e,by grind⟩
   ·rintro (k|⟨_,k⟩)
    ·omega
    ·have:Int.sign (u.cross v).num<0:=(lw _).2 (by grind)
     omega
def bv.trans{u v w:aa}(hu:u.half≠0)(hv:v.half≠0)(hw:w.half≠0)(h:bv u v)(k:bv v w):bv u w:=by
 rcases h with h|⟨h,h'⟩<;>rcases k with k|⟨k,k'⟩
 ·exact .inl (by omega)
 ·exact .inl (by omega)
 ·exact .inl (by omega)
 ·refine .inr ⟨h.trans k,?_⟩
  have id1:u.cross w*v.y=u.cross v*w.y+v.cross w*u.y:=by unfold aa.cross;grind
  rcases iE v with⟨x,q⟩|⟨x,q⟩|⟨x,q⟩
  ·rw[x] at h k
   have qu:=ng.1 h;have qw:=ng.1 k.symm;rcases q with q|⟨q,q'⟩
   ·rw[<-fk q,id1]
    have wy:0<=w.y:=by grind
    have uy:0<=u.y:=by grind
    have a1:=bG (cS h') wy;rcases qu with qu|⟨qu,qu'⟩
    ·have:=bt k' qu;grind
    ·rcases qw with qw|⟨qw,qw'⟩
     ·have:=bt h' qw;rw[qu];grind
     ·exfalso
      have hx:v.cross w= -(w.x*v.y):=by unfold aa.cross;rw[qw];grind
      have:=bt qw' q;grind
   ·exfalso
    have hx:u.cross v= -(v.x*u.y):=by unfold aa.cross;rw[q];grind
    have:=bG (a:=v.x) (b:=u.y) (cS q') (by grind);grind
  ·rw[x] at h k
   have qu:=pg.1 h;have qw:=pg.1 k.symm;rcases q with q|⟨q,q'⟩
   ·have e1:u.cross w* -v.y=u.cross v* -w.y+v.cross w* -u.y:=by grind
    rw[<-fk (k:= -v.y) (by grind),e1];have a1:=bG (a:=u.cross v) (b:= -w.y) (cS h') (by grind);rcases qu with qu|⟨qu,qu'⟩
    ·have:=bt (a:=v.cross w) (b:= -u.y) k' (by grind);grind
    ·rcases qw with qw|⟨qw,qw'⟩
     ·have:=bt (a:=u.cross v) (b:= -w.y) h' (by grind);rw[qu];grind
     ·exfalso
      have hx:v.cross w= -(-w.x* -v.y):=by unfold aa.cross;rw[qw];grind
      have:=bt (a:= -w.x) (b:= -v.y) (by grind) (by grind);grind
   ·exfalso
    have hx:u.cross v= -(-v.x* -u.y):=by unfold aa.cross;rw[q];grind
    have:=bG (a:= -v.x) (b:= -u.y) (by grind) (by grind);grind
  ·exact absurd x hv
def kw(S:List aa)(x:aa):Nat->Nat
 |0=>0
 |k+1=>if 0<ce (S.getD k ⟨0,0⟩) x then kw S x k else k+1
def jB(S:List aa)(x:aa):List aa:=S.take (kw S x S.length)++x::S.drop (kw S x S.length)
def fm(ds:List aa):List aa:=ds.foldl jB []
def EP(S:List aa)(x:aa): ∀k,kw S x k<=k/\(∀j,kw S x k<=j->j<k->bv x (S.getD j ⟨0,0⟩))/\(∀m,kw S x k=m+1-> ¬bv x (S.getD m ⟨0,0⟩))
 |0=>⟨aN _,fun j _ h=>absurd h (Nat.not_lt_zero _),fun m h=>by cases h⟩
 |k+1=>by
  obtain⟨h1,h2,h3⟩:=EP S x k;rw[kw];split
  ·rename_i h
   refine⟨by omega,fun j a b=>?_,h3⟩;by_cases e:j=k
   ·subst e;exact Cx.1 h
   ·exact h2 j a (by omega)
  ·rename_i h
   refine⟨aN _,fun j a b=>by omega,fun m e=>?_⟩;obtain rfl:k=m:=by omega
   exact fun q=>h (Cx.2 q)
def Cz{S:List aa}{x y:aa}:y∈jB S x↔y=x\/y∈S:=by
 unfold jB;have:=jX (kw S x S.length) S;constructor
 ·intro h
  rcases bT.1 h with h|h
  ·exact .inr (eY h)
  ·rcases aU.1 h with h|h
   ·exact .inl h
   ·exact .inr (mL h)
 ·rintro (h|h)
  ·exact cX _ (by rw[h];exact aQ)
  ·rw[<-this] at h
   rcases bT.1 h with h|h
   ·exact bR _ h
   ·exact cX _ (aJ _ h)
def RC(S:List aa)(x:aa):(jB S x).length=S.length+1:=by
 have:=(EP S x S.length).1;unfold jB;simp;omega
def WE{S:List aa}{x:aa}(h:S.Pairwise bv)(hz: ∀s∈S,s.half≠0)(hx:x.half≠0)(ht: ∀s∈S,bv s x\/bv x s):(jB S x).Pairwise bv:=by
 obtain⟨h1,h2,h3⟩:=EP S x S.length;unfold jB;generalize kw S x S.length=n at*;have hd: ∀y∈S.drop n,bv x y:=fun y hy=>by
  obtain⟨i,hi,e⟩:=jZ hy;rw[List.getElem_drop] at e;have hi':n+i<S.length:=by rw[jU] at hi;omega
  have:=h2 (n+i) (by omega) hi';rw[aX,aZ hi',gK,e] at this;exact this
 have ht': ∀y∈S.take n,bv y x:=fun y hy=>by
  obtain⟨i,hi,e⟩:=jZ hy;rw[List.getElem_take] at e;have hi':i<n:=by rw[cJ] at hi;omega
  obtain⟨m,rfl⟩: ∃m,n=m+1:=⟨n-1,by omega⟩;have hm:m<S.length:=by omega
  have a1:=h3 m J;rw[aX,aZ hm,gK] at a1;have a2:bv S[m] x:=(ht _ (cK hm)).resolve_right a1;by_cases e2:i=m
  ·subst e2;rw[e] at a2;exact a2
  ·have a3:=iU.1 h i m (by omega) hm (by omega)
   rw[e] at a3;exact a3.trans (by rw[<-e];exact hz _ (cK _)) (hz _ (cK hm)) hx a2
 refine iW.2 ⟨h.sublist (List.take_sublist _ _),bX.2 ⟨hd,h.sublist (List.drop_sublist _ _)⟩,fun y hy z hz'=>?_⟩;rcases aU.1 hz' with rfl|hz'
 ·exact ht' y hy
 ·exact(ht' y hy).trans (hz _ (eY hy)) hx (hz _ (mL hz')) (hd z hz')
def Ik: ∀{ds o:List aa},o.Pairwise bv->(∀d∈o,d.half≠0)->(∀d∈ds,d.half≠0)->ds.Pairwise (fun a b=>bv a b\/bv b a)->(∀d∈o,∀e∈ds,bv d e\/bv e d)->(ds.foldl jB o).Pairwise bv/\ ∀y,y∈ds.foldl jB o↔y∈o\/y∈ds
 |[],o,h,_,_,_,_=>⟨h,fun y=>by simp⟩
 |x::ds,o,h,ho,hd,hp,ht=>by
  obtain⟨p1,p2⟩:=bX.1 hp;obtain⟨k1,k2⟩:=Ik (ds:=ds) (o:=jB o x) (WE h ho (hd x aQ) (fun s hs=>ht s hs x aQ))
   (fun d hd'=>by rcases Cz.1 hd' with rfl|e;exact hd _ aQ;exact ho d e) (fun d hd'=>hd d (aJ _ hd')) p2
   (fun d hd' e he=>by rcases Cz.1 hd' with rfl|q;exact p1 e he;exact ht d q e (aJ _ he))
  refine⟨k1,fun y=>?_⟩;rw[fY,k2 y,Cz,aU];constructor
  ·rintro ((h|h)|h)
   ·exact .inr (.inl h)
   ·exact .inl h
   ·exact .inr (.inr h)
  ·rintro (h|h|h)
   ·exact .inl (.inr h)
   ·exact .inl (.inl h)
   ·exact .inr h
def OA{u v:aa}(hu:u.half≠0)(hv:v.half≠0)(h:u.cross v≠0\/u.half≠v.half):bv u v\/bv v u:=by
 unfold bv;rw[d5 u v];by_cases e:u.half=v.half
 ·rcases h with h|h
  ·rcases di (u.cross v) with k|k|k
   ·exact absurd k h
   ·exact .inl (.inr ⟨e,k⟩)
   ·exact .inr (.inr ⟨e.symm,by grind⟩)
  ·exact absurd e h
 ·rcases Int.lt_or_lt_of_ne e with k|k
  ·exact .inl (.inl k)
  ·exact .inr (.inl k)
structure kP (L:List ab):Prop where
 ok: ∀l∈L,l.ok
 cn: ∀l∈L,nO l=false
 nd:L.Pairwise (fun a b=>a≠b)
def Eg{l:ab}(h:l.ok):nO l.canon=false:=by
 have hn:=h.ne;unfold ab.Ne at hn;unfold ab.canon;split
 ·rename_i k
  unfold nO at*;rw[decide_eq_true_eq] at k;rw[decide_eq_false_iff_not];show¬(-l.a<0\/(-l.a=0/\ -l.b<0));omega
 ·rename_i k;simpa using k
def NY{ls:List ab}(h: ∀l∈ls,l.ok):kP (ki ls) where
 ok:=fun l hl=>by obtain⟨x,hx,rfl⟩:=En hl;exact T8 (h x hx)
 cn:=fun l hl=>by obtain⟨x,hx,rfl⟩:=En hl;exact Eg (h x hx)
 nd:=(RP ls).imp fun{a b} k e=>by subst e;rw[Fq] at k;omega
def nI{l:ab}(h:l.ok):l.dir.half≠0:=fun e=>by
 have hn:=h.ne;unfold ab.Ne at hn;rcases iE l.dir with⟨k,_⟩|⟨k,_⟩|⟨_,k1,k2⟩
 ·rw[k] at e;cases e
 ·rw[k] at e;cases e
 ·unfold ab.dir at k1 k2
  simp only at k1 k2;apply hn;refine⟨?_,jK.1 k2⟩;have:(l.a:Rat)=0:=by grind
  exact jK.1 this
def zn{d:aa}(h:d.half≠0):(ba d).half≠0:=by rw[mB h];have:=e8 h;omega
def vL(d:aa):ba (ba d)=d:=by unfold ba;cases d;simp
def Na{l m:ab}(hl:l.ok)(hm:m.ok)(cl:nO l=false)(cm:nO m=false){p:aa}(h1:l.value p=0)(h2:m.value p=0)(hc:l.dir.cross m.dir=0):l=m:=by
 have key: ∀t,l.value (m.at t)=0:=fun t=>by
  obtain⟨s,rfl⟩:=B4 hm.ne h2;rw[ow] at h1⊢;have hk:m.cutK l=0:=by
   unfold ab.cutK;rw[<-qy];exact hc
  rw[hk] at h1⊢;grind
 rcases Hd hl hm key with e|e
 ·exact e
 ·exfalso
  have hn:=hm.ne;unfold ab.Ne at hn;rw[e] at cl;unfold nO at cl cm;rw[decide_eq_false_iff_not] at cl cm;have cl: ¬(-m.a<0\/(-m.a=0/\ -m.b<0)):=cl;omega
def ZX{L:List ab}(h:kP L)(p:aa):(∀d∈dE L p,d.half≠0)/\(∀d∈dE L p,ba d∈dE L p)/\(dE L p).Pairwise (fun a b=>bv a b\/bv b a):=by
 refine⟨fun d hd=>?_,fun d hd=>?_,?_⟩
 ·obtain⟨l,hl,_,rfl|rfl⟩:=rp.1 hd
  ·exact nI (h.ok l hl)
  ·exact zn (nI (h.ok l hl))
 ·obtain⟨l,hl,k,rfl|rfl⟩:=rp.1 hd
  ·exact rp.2 ⟨l,hl,k, .inr J⟩
  ·exact rp.2 ⟨l,hl,k, .inl (vL _)⟩
 ·unfold dE
  rw[List.pairwise_flatMap];refine⟨fun l hl=>?_,?_⟩
  ·split
   ·have hz:=nI (h.ok l hl)
    refine bX.2 ⟨fun y hy=>?_,qY _ _⟩;rw[aV] at hy;subst hy;exact OA hz (zn hz) (.inr (by rw[mB hz];have:=e8 hz;omega))
   ·exact List.Pairwise.nil
  ·refine(List.pairwise_iff_forall_sublist.2 fun{a b} hs=>?_)
   have hne:=(List.pairwise_iff_forall_sublist.1 h.nd) hs;have ha:a∈L:=hs.subset aQ;have hb:b∈L:=hs.subset (aJ _ aQ);intro x hx y hy;split at hx
   ·rename_i k1
    split at hy
    ·rename_i k2
     have hc:a.dir.cross b.dir≠0:=fun e=>hne (Na (h.ok a ha) (h.ok b hb) (h.cn a ha) (h.cn b hb) ((fD _).1 k1) ((fD _).1 k2) e);have za:=nI (h.ok a ha);have zb:=nI (h.ok b hb);have nx:x.half≠0:=by
      rcases aU.1 hx with rfl|hx
      ·exact za
      ·rw[aV] at hx;subst hx;exact zn za
     have ny:y.half≠0:=by
      rcases aU.1 hy with rfl|hy
      ·exact zb
      ·rw[aV] at hy;subst hy;exact zn zb
     refine OA nx ny (.inl fun e=>hc ?_);rcases aU.1 hx with rfl|hx<;>rcases aU.1 hy with rfl|hy
     ·exact e
     ·rw[aV] at hy;subst hy;rw[je] at e;grind
     ·rw[aV] at hx;subst hx;rw[d5,je] at e;rw[d5];grind
     ·rw[aV] at hx hy;subst hx hy;rw[je,d5,je] at e;rw[d5];grind
    ·cases hy
   ·cases hx
def vT{L:List ab}(h:kP L)(p:aa):(fm (dE L p)).Pairwise bv/\rj (fm (dE L p))/\ ∀y,y∈fm (dE L p)↔y∈dE L p:=by
 obtain⟨h1,h2,h3⟩:=ZX h p;obtain⟨k1,k2⟩:=Ik (ds:=dE L p) (o:=[]) List.Pairwise.nil (fun d hd=>by cases hd) h1 h3 (fun d hd=>by cases hd);have k3: ∀y,y∈fm (dE L p)↔y∈dE L p:=fun y=>by
  have:=k2 y;rw[show fm (dE L p)=(dE L p).foldl jB [] from J,this];simp
 exact⟨k1,⟨fun d hd=>h1 d ((k3 d).1 hd),fun d hd=>(k3 _).2 (h2 d ((k3 d).1 hd))⟩,k3⟩
def Cm{ds:List aa}(h:ds.Pairwise bv)(hd:rj ds){i:Nat}(hi:i<ds.length)(hj:(i+1)%ds.length<ds.length):me ds ds[i] ds[(i+1)%ds.length]:=by
 have hp:=iU.1 h;have irr: ∀{u v:aa},bv u v-> ¬bv v u:=fun{u v} a b=>by
  unfold bv at a b;rw[d5 u v] at b;rcases a with a|⟨a,a'⟩<;>rcases b with b|⟨b,b'⟩
  ·omega
  ·omega
  ·omega
  ·grind
 have ord: ∀{j k:Nat} (a:j<ds.length) (b:k<ds.length),bv ds[j] ds[k]->j<k:=fun{j k} a b q=>by
  rcases oW j k with e|e|e
  ·exact e
  ·subst e;exact absurd q (irr q)
  ·exact absurd (hp k j b a e) (irr q)
 by_cases hl:i+1<ds.length
 ·have e:(i+1)%ds.length=i+1:=dT hl
  simp only[e];refine .inl ⟨hp i (i+1) hi hl (by omega),fun d hd' ⟨q1,q2⟩=>?_⟩;obtain⟨j,hj',rfl⟩:=jZ hd';have:=ord hi hj' q1;have:=ord hj' hl q2;omega
 ·have e:(i+1)%ds.length=0:=by rw[show i+1=ds.length by omega];exact Nat.mod_self _
  simp only[e];refine .inr ⟨fun d hd' q=>?_,fun d hd' q=>?_⟩
  ·obtain⟨j,hj',rfl⟩:=jZ hd'
   have:=ord hi hj' q;omega
  ·obtain⟨j,hj',rfl⟩:=jZ hd'
   have:=ord hj' (by omega) q;omega
def KU(q:Rat):q*((q.den:Nat):Rat)=((q.num:Int):Rat):=by
 have h:((q.den:Nat):Rat)≠0:=fun e=>q.den_nz (by exact_mod_cast e);have h2:((q.num:Int):Rat)/((q.den:Nat):Rat)=q:=by have:=qL q;rwa [mX] at this
 grind
def e6(v:aa):Nat:=Nat.gcd (v.x.num.natAbs*v.y.den) (v.y.num.natAbs*v.x.den)
def od(n:Int)(d g:Nat):Int:=if n<0 then-((n.natAbs*d/g:Nat):Int) else((n.natAbs*d/g:Nat):Int)
def er(v:aa):aa:=if v.half=0 then⟨0,0⟩ else⟨(od v.x.num v.y.den (e6 v):Int),(od v.y.num v.x.den (e6 v):Int)⟩
def LM{n:Int}{d g:Nat}(hg:g∣n.natAbs*d):od n d g*(g:Int)=n*(d:Int):=by
 unfold od;have h1:((n.natAbs*d/g:Nat):Int)*(g:Int)=(n.natAbs:Int)*(d:Int):=by
  rw[<-iX,Nat.div_mul_cancel hg,iX]
 split
 ·rename_i h
  have:n= -(n.natAbs:Int):=by omega
  rw[sS,h1];generalize (n.natAbs:Int)=a at*;subst this;rw[sS]
 ·rename_i h
  have:n=(n.natAbs:Int):=by omega
  rw[h1,<-this]
def AK{v:aa}(h:v.half≠0): ∃a:Rat,0<a/\er v=⟨a*v.x,a*v.y⟩:=by
 have hx:=v.x.den_pos;have hy:=v.y.den_pos;have hg:0<e6 v:=by
  unfold e6;refine fL fun e=>?_;rw[sJ] at e;obtain⟨e1,e2⟩:=e;have x0:v.x.num=0:=by rcases rL.1 e1 with q|q;omega;omega
  have y0:v.y.num=0:=by rcases rL.1 e2 with q|q;omega;omega
  rw[jM] at x0 y0;rcases iE v with⟨_,q⟩|⟨_,q⟩|⟨q,_⟩
  ·rw[x0,y0] at q;grind
  ·rw[x0,y0] at q;grind
  ·exact h q
 have c1:=LM (n:=v.x.num) (d:=v.y.den) (g:=e6 v) (iN _ _);have c2:=LM (n:=v.y.num) (d:=v.x.den) (g:=e6 v) (jR _ _);have q1:((od v.x.num v.y.den (e6 v):Int):Rat)*((e6 v:Nat):Rat)=v.x*(((v.x.den*v.y.den:Nat)):Rat):=by
  have:((od v.x.num v.y.den (e6 v)*(e6 v:Int):Int):Rat)=((v.x.num*(v.y.den:Int):Int):Rat):=by rw[c1]
  rw[cR,cR,pU,pU] at this;rw[this,Rat.natCast_mul];have:=KU v.x;grind
 have q2:((od v.y.num v.x.den (e6 v):Int):Rat)*((e6 v:Nat):Rat)=v.y*(((v.x.den*v.y.den:Nat)):Rat):=by
  have:((od v.y.num v.x.den (e6 v)*(e6 v:Int):Int):Rat)=((v.y.num*(v.x.den:Int):Int):Rat):=by rw[c2]
  rw[cR,cR,pU,pU] at this;rw[this,Rat.natCast_mul];have:=KU v.y;grind
 have hgR:(0:Rat)<((e6 v:Nat):Rat):=Rat.natCast_pos.2 hg;have hdR:(0:Rat)<((v.x.den*v.y.den:Nat):Rat):=Rat.natCast_pos.2 (gN hx hy);generalize ((e6 v:Nat):Rat)=g at*;generalize ((v.x.den*v.y.den:Nat):Rat)=d at*;have hq:d/g*g=d:=by grind
 refine⟨d/g,(fk hgR).1 (by rw[hq];exact hdR),?_⟩;unfold er;rw[if_neg h];generalize ((od v.x.num v.y.den (e6 v):Int):Rat)=x at*;generalize ((od v.y.num v.x.den (e6 v):Int):Rat)=y at*;generalize d/g=a at*;have e1:x=a*v.x:=by
  have:(x-a*v.x)*g=0:=by grind
  grind
 have e2:y=a*v.y:=by
  have:(y-a*v.y)*g=0:=by grind
  grind
 rw[e1,e2]
def iO(ds:List aa)(i:Nat):List aa:=
 if ce (ds.getD i ⟨0,0⟩) (ds.getD ((i+1)%ds.length) ⟨0,0⟩)=0/\2<ds.length then []
 else if Int.sign ((ds.getD i ⟨0,0⟩).cross (ds.getD ((i+1)%ds.length) ⟨0,0⟩)).num=0 then [d6 (ds.getD i ⟨0,0⟩)]
 else [aD (er (ds.getD i ⟨0,0⟩)) (er (ds.getD ((i+1)%ds.length) ⟨0,0⟩)) 1]
def mC(ds:List aa):List aa:=if ds.length=0 then [⟨1,0⟩] else(List.range ds.length).flatMap (iO ds)
def gq(L:List ab)(p:aa):List aa:=mC (fm (dE L p))
def i6{ds:List aa}{i:Nat}(h:i<ds.length):ds.getD i ⟨0,0⟩=ds[i]:=by
 rw[aX,aZ h,gK]
def Mn{L:List ab}(h:kP L){p v:aa}(hv:v∈gq L p):Gn L p v:=by
 obtain⟨h1,h2,h3⟩:=vT h p;have key:(∀d∈fm (dE L p),d.cross v≠0)->Gn L p v:=fun k l hl hz=>by
  rw[<-qy];exact k _ ((h3 _).2 (rp.2 ⟨l,hl,hz, .inl J⟩))
 unfold gq at hv;generalize fm (dE L p)=ds at*;unfold mC at hv;split at hv
 ·rename_i hn
  refine key fun d hd=>?_;rw[qK.1 hn] at hd;cases hd
 ·rename_i hn
  obtain⟨i,hi,hs⟩:=cY.1 hv;rw[fN] at hi;have hj:(i+1)%ds.length<ds.length:=cL _ (by omega);have hx:=Cm h1 h2 hi hj;unfold iO at hs;rw[i6 hi,i6 hj] at hs;have mu:=cK hi;have mw:=cK hj;split at hs
  ·cases hs
  ·split at hs
   ·rename_i hc
    rw[aV] at hs;subst hs;exact key (hx.turn h2 mu mw ((fD _).1 hc))
   ·rename_i hc
    rw[aV] at hs;obtain⟨a,a1,a2⟩:=AK (h2.nz _ mu);obtain⟨b,b1,b2⟩:=AK (h2.nz _ mw);have e:v=d9 a b ds[i] ds[(i+1)%ds.length]:=by
     rw[hs,a2,b2];unfold aD d9;simp only[Rat.one_mul]
    exact key (by rw[e];exact hx.gen h2 mu mw (fun q=>hc ((fD _).2 q)) a1 b1)
def Xm{L:List ab}(h:kP L)(p:aa):gq L p≠[]:=by
 obtain⟨h1,h2,h3⟩:=vT h p;unfold gq;generalize fm (dE L p)=ds at*;unfold mC;split
 ·simp
 ·rename_i hn
  have h0:0<ds.length:=by omega
  have hp:=iU.1 h1;have h2':1<ds.length:=by
   have m0:=cK h0;obtain⟨j,hj,e⟩:=jZ (h2.neg _ m0);by_cases hj0:j=0
   ·subst hj0
    have:=mB (h2.nz _ m0);rw[<-e] at this;have:=e8 (h2.nz _ m0);omega
   ·omega
  have hx:(0+1)%ds.length=1:=dT h2';intro hc;have:iO ds 0=[]:=by
   rw[List.flatMap_eq_nil_iff] at hc;exact hc 0 (fN.2 h0)
  unfold iO at this;rw[hx,i6 h0,i6 h2'] at this;have hb:=n8.2 (hp 0 1 h0 h2' (by omega));split at this
  ·rename_i q;omega
  ·split at this<;>cases this
def X7(t:Tr)(p:aa):Bool:=(gq (ki t.lns) p).any fun v=>(fI t p v).1
def XK(t:Tr)(p:aa):Bool:=(gq (ki t.lns) p).all fun v=>(fI t p v).1
def tx{z:Rat}(h:z<0):Int.sign z.num= -1:=by
 have:=(lw _).2 h;rcases lU z.num 0 with q|q|q
 ·exact fX q
 ·rw[q] at this;simp at this
 ·rw[fK q] at this;simp at this
def kx:Tr->aa->List ab
 | .leaf _,_=>[]
 | .node l x y,p=>(if Int.sign (l.value p).num=0 then [l] else [])++((if 0<=Int.sign (l.value p).num then kx x p else [])++(if Int.sign (l.value p).num<=0 then kx y p else []))
def p9: ∀{t:Tr} {p:aa} {l:ab},l∈kx t p->l∈t.lns/\l.value p=0
 | .leaf _,p,l,h=>by cases h
 | .node m x y,p,l,h=>by
  rw[kx,bT,bT] at h;rcases h with h|h|h
  ·split at h
   ·rw[aV] at h;subst h
    rename_i k;exact⟨aQ,(fD _).1 k⟩
   ·cases h
  ·split at h
   ·have:=p9 h;exact⟨aJ _ (bR _ this.1),this.2⟩
   ·cases h
  ·split at h
   ·have:=p9 h;exact⟨aJ _ (cX _ this.1),this.2⟩
   ·cases h
def Jp{t:Tr}{p v:aa}(h:Gn t.lns p v):Gn (kx t p) p v:=fun l hl hz=>h l (p9 hl).1 hz
def yk: ∀{t:Tr} {p v w:aa},(∀l∈kx t p,Int.sign (l.nor.dot v).num=Int.sign (l.nor.dot w).num)->fI t p v=fI t p w
 | .leaf _,_,_,_,_=>rfl
 | .node l x y,p,v,w,h=>by
  have hx:0<=Int.sign (l.value p).num->fI x p v=fI x p w:=fun k=>yk fun m hm=>h m (by rw[kx,bT,bT,if_pos k];exact .inr (.inl hm));have hy:Int.sign (l.value p).num<=0->fI y p v=fI y p w:=fun k=>yk fun m hm=>h m (by rw[kx,bT,bT,if_pos k];exact .inr (.inr hm));rw[fI,fI,qy,qy];by_cases k:Int.sign (l.value p).num=0
  ·rw[if_pos k,if_pos k,<-h l (by rw[kx,if_pos k];exact aQ),hx (by omega),hy (by omega)]
  ·rw[if_neg k,if_neg k]
   generalize Int.sign (l.value p).num=s at*;split
   ·exact hx (by decide)
   ·exact hy (by decide)
   ·rfl
def DY{L M:List ab}{p v:aa}(hM: ∀l∈M,l.ok)(hL:Gn L p v): ∃w,Gn M p w/\ ∀l∈L,l.value p=0->Int.sign (l.nor.dot v).num=Int.sign (l.nor.dot w).num:=by
 have e2: ∀l:ab,l.value p=0->l.value (aD p v 1)=l.nor.dot v:=fun l hz=>by rw[gA,hz];grind
 have hp':cg ((L.filter fun l=>decide (l.value p=0)).map fun l=>(⟨if 0<l.value (aD p v 1) then l else l.rev,aA.all⟩:aH)) (aD p v 1):=fun s hs=>by
  obtain⟨l,hl,rfl⟩:=bZ.1 hs;obtain⟨h1,h2⟩:=iJ.1 hl;have h3:=of_decide_eq_true h2;have h0:l.value (aD p v 1)≠0:=by rw[e2 l h3];exact hL l h1 h3
  simp only;split
  ·assumption
  ·rw[nA];grind
 obtain⟨q,q1,q2⟩:=I9 hp' M hM;have e: ∀l:ab,l.value p=0->l.value q=l.nor.dot ⟨q.x-p.x,q.y-p.y⟩:=fun l hz=>by
  have h1:=gA l p ⟨q.x-p.x,q.y-p.y⟩ 1;rw[hz] at h1;have h2:aD p ⟨q.x-p.x,q.y-p.y⟩ 1=q:=by
   unfold aD
   cases q
   simp only[aa.mk.injEq];constructor<;>grind
  rw[h2] at h1;rw[h1];grind
 refine⟨⟨q.x-p.x,q.y-p.y⟩,fun m hm hz=>?_,fun l hl hz=>?_⟩
 ·rw[<-e m hz];exact q2 m hm
 ·have h1:=q1 _ (bZ.2 ⟨l,iJ.2 ⟨hl,decide_eq_true hz⟩,J⟩)
  simp only at h1;rw[e2 l hz] at h1;rw[<-e l hz];have h0:=hL l hl hz;split at h1
  ·rename_i k
   rw[(ij _).2 k,(ij _).2 h1]
  ·rename_i k
   rw[nA] at h1;rw[tx (by grind),tx (by grind)]
def qG(t:Tr)(p:aa)(b:Bool):Prop:= ∃v,Gn (kx t p) p v/\(fI t p v).1=b
def Zl{t:Tr}{p w:aa}(h:Gn t.lns p w):qG t p (fI t p w).1:=⟨w,Jp h,J⟩
def Yj{t:Tr}{p:aa}{b:Bool}(h:qG t p b){M:List ab}(hM: ∀l∈M,l.ok): ∃w,Gn M p w/\(fI t p w).1=b:=by
 obtain⟨v,h1,h2⟩:=h;obtain⟨w,k1,k2⟩:=DY hM h1;exact⟨w,k1,by rw[<-h2,yk fun l hl=>k2 l hl (p9 hl).2]⟩
def Lk{M:List ab}(hM: ∀l∈M,l.ok)(p:aa): ∃w,Gn M p w:=by
 obtain⟨w,h,_⟩:=DY (L:=[]) (M:=M) (p:=p) (v:=⟨1,0⟩) hM fun l hl=>by cases hl
 exact⟨w,h⟩
def Vi{t:Tr}(ht:t.all ab.ok)(p:aa):qG t p true\/qG t p false:=by
 obtain⟨w,h⟩:=Lk (tG ht) p;have:=Zl h
 cases hb:(fI t p w).1 with
 |true=>rw[hb] at this;exact .inl this
 |false=>rw[hb] at this;exact .inr this
def min2{a b:Rat}(ha:0<a)(hb:0<b): ∃d:Rat,0<d/\d<=a/\d<=b:=by
 by_cases k:a<=b
 ·exact⟨a,ha,by grind,k⟩
 ·exact⟨b,hb,by grind,by grind⟩
def gy(ds:List aa)(i:Nat):aa:=
 if 0<Int.sign ((ds.getD i ⟨0,0⟩).cross (ds.getD ((i+1)%ds.length) ⟨0,0⟩)).num then(ds.getD i ⟨0,0⟩).add (ds.getD ((i+1)%ds.length) ⟨0,0⟩) else d6 (ds.getD i ⟨0,0⟩)
def eO(ds:List aa):List aa:=if ds.length=0 then [⟨1,0⟩] else(List.range ds.length).map (gy ds)
def Hl(u w:aa):u.add w=d9 1 1 u w:=by
 unfold aa.add d9;simp only[aa.mk.injEq];constructor<;>grind
def M9{x:aa}: ∀{S:List aa},S≠[]->(∀d∈S,0<d.cross x)-> ∃u∈S,∀d∈S,0<=d.cross u
 |[],h,_=>absurd J h
 |[d],_,_=>⟨d,aQ,fun e he=>by rw[aV] at he;subst he;rw[AQ];exact dR⟩
 |d0::d1::S,_,h=>by
  obtain⟨u,h1,h2⟩:=M9 (S:=d1::S) (by simp) fun d hd=>h d (aJ _ hd);by_cases k:0<=d0.cross u
  ·exact⟨u,aJ _ h1,fun d hd=>(aU.1 hd).elim (fun e=>e▸k) (h2 d)⟩
  ·refine⟨d0,aQ,fun d hd=>(aU.1 hd).elim (fun e=>by rw[e,AQ];exact dR) fun hd=>?_⟩
   have p0:=h d0 aQ;have pu:=h u (aJ _ h1);have pd:=h d (aJ _ hd);have k1:=h2 d hd;have k2:0<u.cross d0:=by rw[d5] at k;grind
   have e:d.cross d0*u.cross x=u.cross d0*d.cross x+d.cross u*d0.cross x:=by unfold aa.cross;grind
   have n1:=bt k2 pd;have n2:=bG k1 (cS p0);generalize d.cross d0=A at*;generalize u.cross x=B at*;by_cases hA:0<=A
   ·exact hA
   ·have:=bt (a:= -A) (b:=B) (by grind) pu
    grind
def JF{ds:List aa}(h:ds.Pairwise bv)(hd:rj ds)(hn:ds≠[]){x:aa}(hx: ∀d∈ds,d.cross x≠0): ∃i,i<ds.length/\ ∀d∈ds,Int.sign (d.cross x).num=Int.sign (d.cross (gy ds i)).num:=by
 have hne:(ds.filter fun d=>decide (0<d.cross x))≠[]:=by
  obtain⟨d,r,rfl⟩:=List.exists_cons_of_ne_nil hn;intro e;have h1: ¬0<d.cross x:=fun k=>by
   have:d∈(d::r).filter fun d=>decide (0<d.cross x):=iJ.2 ⟨aQ,decide_eq_true k⟩;rw[e] at this;cases this
  have h2:=hx d aQ;have h3:0<(ba d).cross x:=by rw[d5,je,<-d5];grind
  have:ba d∈(d::r).filter fun d=>decide (0<d.cross x):=iJ.2 ⟨hd.neg d aQ,decide_eq_true h3⟩;rw[e] at this;cases this
 obtain⟨u,hu,hl⟩:=M9 hne fun d hd=>of_decide_eq_true (iJ.1 hd).2;obtain⟨hu1,hu2⟩:=iJ.1 hu;have hux:=of_decide_eq_true hu2;obtain⟨i,hi,rfl⟩:=jZ hu1;have hj:(i+1)%ds.length<ds.length:=cL _ (by omega);have hnx:=Cm h hd hi hj;have mw:=cK hj;refine⟨i,hi,?_⟩;have key: ∀d∈ds,0<d.cross x->0<d.cross (gy ds i):=fun d hdm hdx=>by
  have hdu:0<=d.cross ds[i]:=hl d (iJ.2 ⟨hdm,decide_eq_true hdx⟩);unfold gy;rw[i6 hi,i6 hj];generalize ds[(i+1)%ds.length]=w at*;generalize ds[i]=u at*;have hp:=hnx.pos hd hu1 mw;have zd:=hd.nz d hdm;have zu:=hd.nz u hu1;split
  ·rename_i k
   have hc:=(jg _).1 k;rw[Hl];have hg:=hnx.gen hd hu1 mw (by grind) (a:=1) (b:=1) (by decide) (by decide) d hdm;have e:d.cross (d9 1 1 u w)=d.cross u+d.cross w:=by unfold aa.cross d9;grind
   rw[e] at hg⊢;by_cases hw:0<=d.cross w
   ·grind
   ·exfalso
    -- -d lies between u and w
    rcases di (d.cross u) with q|q|q
    ·-- d runs along u
     have hdd:0<d.dot u:=by
      rcases di (d.dot u) with r|r|r
      ·exact absurd r (Bg zd zu q)
      ·exact r
      ·exfalso
       have q':(ba d).cross u=0:=by unfold aa.cross ba at*;grind
       have r':0<(ba d).dot u:=by unfold aa.dot ba at*;grind
       obtain⟨g,g1,g2⟩:=q7 q' r';have:d.cross x= -(g*u.cross x):=by
        have h1:(ba d).x=g*u.x:=by rw[g2]
        have h2:(ba d).y=g*u.y:=by rw[g2]
        unfold ba at h1 h2;simp only at h1 h2;unfold aa.cross;grind
       have:=bt g1 hux;grind
     obtain⟨g,g1,g2⟩:=q7 q hdd;have:d.cross w=g*u.cross w:=by rw[g2];unfold aa.cross;grind
     have:=bt g1 hc;grind
    ·have hb:ba d=d9 (-(d.cross w)/u.cross w) (d.cross u/u.cross w) u w:=by
      have hz:u.cross w≠0:=by grind
      have e1: -(d.cross w)/u.cross w*u.cross w= -(d.cross w):=by grind
      have e2:d.cross u/u.cross w*u.cross w=d.cross u:=by grind
      unfold ba d9;generalize-(d.cross w)/u.cross w=a at*;generalize d.cross u/u.cross w=b at*;simp only[aa.mk.injEq];have f1:(a*u.x+b*w.x+d.x)*u.cross w=0:=by
       have:(a*u.x+b*w.x+d.x)*u.cross w=a*u.cross w*u.x+b*u.cross w*w.x+d.x*u.cross w:=by grind
       rw[this,e1,e2];unfold aa.cross;grind
      have f2:(a*u.y+b*w.y+d.y)*u.cross w=0:=by
       have:(a*u.y+b*w.y+d.y)*u.cross w=a*u.cross w*u.y+b*u.cross w*w.y+d.y*u.cross w:=by grind
       rw[this,e1,e2];unfold aa.cross;grind
      constructor<;>grind
     refine hnx.none hd hu1 mw (by grind) (a:= -(d.cross w)/u.cross w) (b:=d.cross u/u.cross w) ?_ ?_ (by rw[<-hb];exact hd.neg d hdm)
     ·refine(fk (k:=u.cross w) hc).1 ?_
      have e1: -(d.cross w)/u.cross w*u.cross w= -(d.cross w):=by grind
      rw[e1];grind
     ·refine(fk (k:=u.cross w) hc).1 ?_
      have e1:d.cross u/u.cross w*u.cross w=d.cross u:=by grind
      rw[e1];exact q
    ·grind
  ·rename_i k
   have hc:u.cross w=0:=by have: ¬0<u.cross w:=fun e=>k ((jg _).2 e);grind
   have hg:=hnx.turn hd hu1 mw hc d hdm;rw[Jq] at hg⊢;rcases di (d.dot u) with r|r|r
   ·exact absurd r hg
   ·exact r
   ·exfalso
    -- all directions run along u
    have hdc:d.cross u=0:=by
     rcases hnx.spec hd hu1 mw with⟨_,h2,_⟩|⟨h1,h2,h3⟩
     ·rw[hc] at h2;exact absurd h2 (by decide)
     ·have zw:=e8 (hd.nz w mw)
      have zu':=e8 zu;have zd':=e8 zd;have hwu: ∃g:Rat,0<g/\w=⟨g*(ba u).x,g*(ba u).y⟩:=by
       refine q7 (d:=ba u) (e:=w) (by rw[je,d5,hc];grind) ?_;rcases di (w.dot u) with s|s|s
       ·exact absurd s (Bg (hd.nz w mw) zu (by rw[d5,hc];rfl))
       ·exfalso
        obtain⟨g,g1,g2⟩:=q7 (d:=u) (e:=w) (by rw[d5,hc];rfl) s;apply h1;rw[g2];rcases iE u with⟨x0,s0⟩|⟨x0,s0⟩|⟨x0,s0⟩
        ·rw[x0]
         refine(ng.2 ?_).symm;rcases s0 with s0|⟨s0,s1⟩
         ·exact .inl (bt g1 s0)
         ·exact .inr ⟨by show g*u.y=0;rw[s0];grind,bt g1 s1⟩
        ·rw[x0]
         refine(pg.2 ?_).symm;rcases s0 with s0|⟨s0,s1⟩
         ·exact .inl (by show g*u.y<0;have:=bt (a:=g) (b:= -u.y) g1 (by grind);grind)
         ·exact .inr ⟨by show g*u.y=0;rw[s0];grind,by show g*u.x<0;have:=bt (a:=g) (b:= -u.x) g1 (by grind);grind⟩
        ·exact absurd x0 zu
       ·unfold aa.dot ba at*;grind
      obtain⟨g,g1,g2⟩:=hwu;have cw: ∀e:aa,w.cross e=g* -(u.cross e):=fun e=>by rw[g2];unfold aa.cross ba;grind
      by_cases hh:d.half=u.half
      ·have a1:=h2 d hdm hh
       have a2:=h3 _ (hd.neg d hdm) (by rw[mB zd];omega);rw[cw,je,d5 d u] at a2;rcases di (d.cross u) with s|s|s
       ·exact s
       ·have:=bt g1 s;grind
       ·grind
      ·have a1:=h2 _ (hd.neg d hdm) (by rw[mB zd];omega)
       have a2:=h3 d hdm (by omega);rw[cw,d5 d u] at a2;have e3:(ba d).cross u= -(d.cross u):=by unfold aa.cross ba;grind
       rw[e3] at a1;rcases di (d.cross u) with s|s|s
       ·exact s
       ·grind
       ·have:=bt (a:=g) (b:= -(d.cross u)) g1 (by grind);grind
    have q':(ba d).cross u=0:=by unfold aa.cross ba at*;grind
    have r':0<(ba d).dot u:=by unfold aa.dot ba at*;grind
    obtain⟨g,g1,g2⟩:=q7 q' r';have:d.cross x= -(g*u.cross x):=by
     have h1:(ba d).x=g*u.x:=by rw[g2]
     have h2:(ba d).y=g*u.y:=by rw[g2]
     unfold ba at h1 h2;simp only at h1 h2;unfold aa.cross;grind
    have:=bt g1 hux;grind
 intro d hdm;rcases di (d.cross x) with k|k|k
 ·exact absurd k (hx d hdm)
 ·rw[(ij _).2 k,(ij _).2 (key d hdm k)]
 ·have en: ∀y:aa,(ba d).cross y= -(d.cross y):=fun y=>by unfold aa.cross ba;grind
  have:=key _ (hd.neg d hdm) (by rw[en];grind);rw[en] at this;rw[tx k,tx (by grind)]
def cj(v:aa):aa:=v.scale (rgcd v.x v.y)⁻¹
def jv(t:Tr)(p:aa):List aa:=(kx t p).flatMap fun l=>[cj l.dir,ba (cj l.dir)]
def ic(ds:List aa):List aa:=pI ce ds
def rP{t:Tr}{p d:aa}:d∈jv t p↔ ∃l∈kx t p,d=cj l.dir\/d=ba (cj l.dir):=by
 unfold jv;rw[cY];constructor
 ·rintro ⟨l,h1,h2⟩
  refine⟨l,h1,?_⟩;rcases aU.1 h2 with h|h
  ·exact .inl h
  ·exact .inr (aV.1 h)
 ·rintro ⟨l,h1,rfl|rfl⟩
  ·exact⟨l,h1,aQ⟩
  ·exact⟨l,h1,aJ _ aQ⟩
def YV{x y:Rat}(h:x≠0\/y≠0):0<rgcd x y:=by
 unfold rgcd;have hd:0<x.den*y.den:=gN x.den_pos y.den_pos;have hg:0<Nat.gcd (x.num.natAbs*y.den) (y.num.natAbs*x.den):=by
  rcases h with h|h
  ·exact kJ _ (gN (Int.natAbs_pos.2 fun e=>h (jM.1 e)) y.den_pos)
  ·exact nK _ (gN (Int.natAbs_pos.2 fun e=>h (jM.1 e)) x.den_pos)
 generalize Nat.gcd (x.num.natAbs*y.den) (y.num.natAbs*x.den)=g at*;generalize x.den*y.den=d at*;rw[<-F4];have h1:mkRat (g:Int) d=(g:Rat)/(d:Rat):=by rw[mX];rfl
 rw[F4,h1];have hg':(0:Rat)<(g:Rat):=by exact_mod_cast hg
 have hd':(0:Rat)<(d:Rat):=by exact_mod_cast hd
 have e:(g:Rat)/(d:Rat)*(d:Rat)=(g:Rat):=by grind
 exact(fk (k:=(d:Rat)) hd').1 (by rw[e];exact hg')
def Us{v:aa}(h:v.half≠0):v.x≠0\/v.y≠0:=by
 rcases iE v with⟨_,k⟩|⟨_,k⟩|⟨k,_⟩
 ·rcases k with k|⟨_,k⟩
  ·exact .inr (by grind)
  ·exact .inl (by grind)
 ·rcases k with k|⟨_,k⟩
  ·exact .inr (by grind)
  ·exact .inl (by grind)
 ·exact absurd k h
def va{v:aa}(h:v.half≠0): ∃a:Rat,0<a/\cj v=⟨a*v.x,a*v.y⟩:=by
 have hg:=YV (Us h);refine⟨(rgcd v.x v.y)⁻¹,?_,?_⟩
 ·generalize rgcd v.x v.y=g at*
  have e:g⁻¹*g=1:=by grind
  exact(fk (k:=g) hg).1 (by rw[e];decide)
 ·unfold cj aa.scale
  simp only[aa.mk.injEq];constructor<;>grind
def S0(v:aa):cj (ba v)=ba (cj v):=by
 have e:rgcd (-v.x) (-v.y)=rgcd v.x v.y:=by
  unfold rgcd;rw[mQ,mQ,oS,oS,iS,iS]
 unfold cj aa.scale ba;simp only[aa.mk.injEq,e];constructor<;>grind
def Cg{v:aa}(h:v.half≠0):(cj v).half=v.half:=by
 obtain⟨a,a1,e⟩:=va h;have:=DK (a:=a) (b:=a) (u:=v) (w:=v) a1 a1 J h;rw[<-this];have h2:cj v=d9 (a*(1/2)) (a*(1/2)) v v:=by rw[e];unfold d9;simp only[aa.mk.injEq];constructor<;>grind
 have h3:=DK (a:=a*(1/2)) (b:=a*(1/2)) (u:=v) (w:=v) (bt a1 (by grind)) (bt a1 (by grind)) J h;rw[h2,h3,this]
def TX{u v:aa}:ce u v=0↔u.half=v.half/\u.cross v=0:=by
 unfold ce;split
 ·constructor
  ·intro h;exact absurd h (by decide)
  ·intro h;omega
 ·split
  ·constructor
   ·intro h;exact absurd h (by decide)
   ·intro h;omega
  ·constructor
   ·intro h
    exact⟨by omega,(fD _).1 (by omega)⟩
   ·intro h
    rw[(fD _).2 h.2];rfl
def wE{u v w:aa}(h:bv u v)(k:bv v w):bv u w:=by
 by_cases hu:u.half=0
 ·by_cases hw:w.half=0
  ·have z: ∀x y:aa,x.half=0->x.cross y=0:=fun x y hx=>by
    rcases iE x with⟨e,_⟩|⟨e,_⟩|⟨_,e1,e2⟩
    ·rw[hx] at e;exact absurd e (by decide)
    ·rw[hx] at e;exact absurd e (by decide)
    ·unfold aa.cross;rw[e1,e2];grind
   rcases h with h|⟨h,h'⟩
   ·rcases k with k|⟨k,k'⟩
    ·omega
    ·have hv:v.half≠0:=by omega
     omega
   ·rw[z u v hu] at h';exact absurd h' (by decide)
  ·refine .inl ?_
   have h1:=e8 hw;omega
 ·have hv:v.half≠0:=by
   intro e;rcases h with h|⟨h,_⟩
   ·have:=e8 hu;omega
   ·omega
  have hw:w.half≠0:=by
   intro e;rcases k with k|⟨k,_⟩
   ·have:=e8 hv;omega
   ·omega
  exact bv.trans hu hv hw h k
section
variable {α:Type} (c:α->α->Int)
def KK{x y:α}: ∀{xs:List α},y∈xs->y∈du c x xs
 |[],h=>by cases h
 |u::t,h=>by
  rw[du];split
  ·rcases aU.1 h with rfl|h
   ·exact aQ
   ·exact aJ _ (KK h)
  ·split
   ·exact h
   ·exact aJ _ h
def OH{x:α}: ∀{xs:List α},∃e∈du c x xs,e=x\/c e x=0
 |[]=>⟨x,aQ, .inl J⟩
 |u::t=>by
  rw[du];split
  ·obtain⟨e,h1,h2⟩:=OH (x:=x) (xs:=t)
   exact⟨e,aJ _ h1,h2⟩
  ·split
   ·exact⟨u,aQ, .inr (by assumption)⟩
   ·exact⟨x,aQ, .inl J⟩
def Np{y:α}: ∀{l o:List α},y∈o->y∈l.foldl (fun out x=>du c x out) o
 |[],o,h=>h
 |x::t,o,h=>Np (l:=t) (KK c h)
def BY{d:α}: ∀{l o:List α},d∈l-> ∃e∈l.foldl (fun out x=>du c x out) o,e=d\/c e d=0
 |[],o,h=>by cases h
 |x::t,o,h=>by
  rcases aU.1 h with rfl|h
  ·obtain⟨e,h1,h2⟩:=OH c (x:=d) (xs:=o)
   exact⟨e,Np c (l:=t) h1,h2⟩
  ·exact BY (l:=t) h
end
def x6(ds:List aa):(ic ds).Pairwise bv:=by
 have:=Fh (c:=ce) (fun u v w h k=>n8.2 (wE (n8.1 h) (n8.1 k))) (fun u v h k=>n8.2 (Cx.1 (by omega))) (l:=ds) (o:=[]) List.Pairwise.nil;exact this.imp fun h=>n8.1 h
def I5{l m:ab}(hl:l.ok)(hm:m.ok){p:aa}(h1:l.value p=0)(h2:m.value p=0){d e:aa}(hd:d=cj l.dir\/d=ba (cj l.dir))(he:e=cj m.dir\/e=ba (cj m.dir))(h:ce d e=0):d=e:=by
 obtain⟨hh,hc⟩:=TX.1 h;have zl:=nI hl;have zm:=nI hm;have zpl:(cj l.dir).half≠0:=by rw[Cg zl];exact zl
 have zpm:(cj m.dir).half≠0:=by rw[Cg zm];exact zm
 have cr:l.dir.cross m.dir=0:=by
  obtain⟨a,a1,e1⟩:=va zl;obtain⟨b,b1,e2⟩:=va zm;have c0:(cj l.dir).cross (cj m.dir)=0:=by
   rcases hd with rfl|rfl<;>rcases he with rfl|rfl
   ·exact hc
   ·rw[je] at hc;grind
   ·rw[d5,je] at hc;rw[d5];grind
   ·rw[je,d5,je] at hc;rw[d5];grind
  have e3:(cj l.dir).cross (cj m.dir)=(a*b)*l.dir.cross m.dir:=by rw[e1,e2];unfold aa.cross;grind
  have hab:=bt a1 b1;rw[e3] at c0;clear e1 e2 e3;generalize a*b=k at*;generalize l.dir.cross m.dir=z at*;rcases di z with q|q|q
  ·exact q
  ·have:=bt hab q;grind
  ·have:=bt (a:=k) (b:= -z) hab (by grind);grind
 have dirR: ∀k:ab,k.rev.dir=ba k.dir:=fun k=>by
  unfold ab.dir ab.rev ba;simp only[aa.mk.injEq,qZ]
  try constructor<;>grind
 have cdir: ∀k:ab,k.canon.dir=k.dir\/k.canon.dir=ba k.dir:=fun k=>by
  unfold ab.canon;split
  ·exact .inr (dirR k)
  ·exact .inl J
 have cval: ∀k:ab,k.value p=0->k.canon.value p=0:=fun k hk=>by rcases GT k p with e|e<;>rw[e,hk]<;>rfl
 have okc: ∀k:ab,k.ok->k.canon.ok:=fun k hk=>by unfold ab.canon;split;exact hk.rev;exact hk
 have ec:l.canon=m.canon:=Na (okc l hl) (okc m hm) (Eg hl) (Eg hm) (cval l h1) (cval m h2) (by
  rcases cdir l with e1|e1<;>rcases cdir m with e2|e2<;>rw[e1,e2]
  ·exact cr
  ·rw[je,cr];rfl
  ·rw[d5,je,d5,cr];rfl
  ·rw[je,d5,je,d5,cr];rfl)
 have hdir:l.dir=m.dir\/l.dir=ba m.dir:=by
  have e1:=cdir l;have e2:=cdir m;rw[ec] at e1;rcases e1 with e1|e1<;>rcases e2 with e2|e2
  ·exact .inl (e1.symm.trans e2)
  ·exact .inr (e1.symm.trans e2)
  ·right;rw[<-e2,e1,vL]
  ·left;rw[<-vL l.dir,<-e1,e2,vL]
 have hP:cj l.dir=cj m.dir\/cj l.dir=ba (cj m.dir):=by
  rcases hdir with e|e
  ·exact .inl (by rw[e])
  ·exact .inr (by rw[e,S0])
 have hn:=mB zpm;have h3:=e8 zpm;have key:d=cj m.dir\/d=ba (cj m.dir):=by
  rcases hd with rfl|rfl<;>rcases hP with e|e
  ·exact .inl e
  ·exact .inr e
  ·exact .inr (by rw[e])
  ·exact .inl (by rw[e,vL])
 rcases key with rfl|rfl<;>rcases he with rfl|rfl
 ·rfl
 ·exfalso;omega
 ·exfalso;omega
 ·rfl
def Mf{t:Tr}(ht:t.all ab.ok)(p:aa):(ic (jv t p)).Pairwise bv/\rj (ic (jv t p))/\ ∀y,y∈ic (jv t p)↔y∈jv t p:=by
 have h2: ∀y,y∈ic (jv t p)->y∈jv t p:=fun y hy=>by
  rcases vz ce hy with h|h
  ·exact h
  ·cases h
 have h3: ∀y,y∈jv t p->y∈ic (jv t p):=fun y hy=>by
  obtain⟨e,e1,e2⟩:=BY ce (o:=[]) hy;rcases e2 with rfl|e2
  ·exact e1
  ·obtain⟨l,k1,k2⟩:=rP.1 hy
   obtain⟨m,k3,k4⟩:=rP.1 (h2 e e1);obtain⟨a1,a2⟩:=p9 k1;obtain⟨b1,b2⟩:=p9 k3;rw[<-I5 (tG ht _ b1) (tG ht _ a1) b2 a2 k4 k2 e2];exact e1
 refine⟨x6 _,⟨fun d hd=>?_,fun d hd=>?_⟩,fun y=>⟨h2 y,h3 y⟩⟩
 ·obtain⟨l,k1,k2⟩:=rP.1 (h2 d hd)
  have z:=nI (tG ht _ (p9 k1).1);have z2:(cj l.dir).half≠0:=by rw[Cg z];exact z
  rcases k2 with rfl|rfl
  ·exact z2
  ·exact zn z2
 ·obtain⟨l,k1,k2⟩:=rP.1 (h2 d hd)
  refine h3 _ (rP.2 ⟨l,k1,?_⟩);rcases k2 with rfl|rfl
  ·exact .inr J
  ·exact .inl (vL _)
def Ng{t:Tr}(ht:t.all ab.ok){p v:aa}(hv:v∈eO (ic (jv t p))):Gn (kx t p) p v:=by
 obtain⟨h1,h2,h3⟩:=Mf ht p;have key:(∀d∈ic (jv t p),d.cross v≠0)->Gn (kx t p) p v:=fun k l hl hz e=>by
  have z:=nI (tG ht _ (p9 hl).1);obtain⟨a,a1,a2⟩:=va z;refine k _ ((h3 _).2 (rP.2 ⟨l,hl, .inl J⟩)) ?_;rw[<-qy] at e;have:(cj l.dir).cross v=a*l.dir.cross v:=by rw[a2];unfold aa.cross;grind
  rw[this,e];grind
 generalize ic (jv t p)=ds at*;unfold eO at hv;split at hv
 ·rename_i hn
  refine key fun d hd=>?_;rw[qK.1 hn] at hd;cases hd
 ·obtain⟨i,hi,rfl⟩:=bZ.1 hv
  rw[fN] at hi;have hj:(i+1)%ds.length<ds.length:=cL _ (by omega);have hx:=Cm h1 h2 hi hj;have mu:=cK hi;have mw:=cK hj;have hp:=hx.pos h2 mu mw;refine key ?_;unfold gy;rw[i6 hi,i6 hj];split
  ·rename_i k
   have hc:=(jg _).1 k;rw[Hl];exact hx.gen h2 mu mw (by grind) (by decide) (by decide)
  ·rename_i k
   exact hx.turn h2 mu mw (by have: ¬0<ds[i].cross ds[(i+1)%ds.length]:=fun e=>k ((jg _).2 e);grind)
def Nz{t:Tr}(ht:t.all ab.ok){p x:aa}(hx:Gn (kx t p) p x): ∃v∈eO (ic (jv t p)),(fI t p v).1=(fI t p x).1:=by
 obtain⟨h1,h2,h3⟩:=Mf ht p;have cr: ∀l∈kx t p,∃a:Rat,0<a/\ ∀y,(cj l.dir).cross y=a*l.nor.dot y:=fun l hl=>by
  obtain⟨a,a1,a2⟩:=va (nI (tG ht _ (p9 hl).1));exact⟨a,a1,fun y=>by rw[a2,<-qy];unfold aa.cross;grind⟩
 by_cases hn:ic (jv t p)=[]
 ·refine⟨⟨1,0⟩,by unfold eO;rw[if_pos (by rw[hn];rfl)];exact aQ,?_⟩
  rw[yk fun l hl=>?_];have:=(h3 _).2 (rP.2 ⟨l,hl, .inl J⟩);rw[hn] at this;cases this
 ·obtain⟨i,hi,hs⟩:=JF h1 h2 hn (x:=x) fun d hd=>by
   obtain⟨l,k1,k2⟩:=rP.1 ((h3 d).1 hd);obtain⟨a,a1,a2⟩:=cr l k1;have hz:=hx l k1 (p9 k1).2;have e:(cj l.dir).cross x≠0:=by rw[a2];grind
   rcases k2 with rfl|rfl
   ·exact e
   ·intro q;apply e;unfold aa.cross ba at*;grind
  refine⟨gy (ic (jv t p)) i,?_,?_⟩
  ·unfold eO
   rw[if_neg (by omega)];exact bZ.2 ⟨i,fN.2 hi,J⟩
  ·rw[yk fun l hl=>?_]
   have:=hs _ ((h3 _).2 (rP.2 ⟨l,hl, .inl J⟩));obtain⟨a,a1,a2⟩:=cr l hl;rw[a2,a2] at this;have sg: ∀z:Rat,Int.sign (a*z).num=Int.sign z.num:=fun z=>by
    rcases di z with k|k|k
    ·subst k;rw[show a*0=0 by grind]
    ·rw[(ij _).2 k,(ij _).2 (bt a1 k)]
    ·rw[tx k,tx (by have:=bt (a:=a) (b:= -z) a1 (by grind);grind)]
   rw[sg,sg] at this;exact this.symm
def vW(t:Tr)(p:aa):Bool:=(eO (ic (jv t p))).any fun v=>(fI t p v).1
def Hq(t:Tr)(p:aa):Bool:=(eO (ic (jv t p))).all fun v=>(fI t p v).1
def jn(t:Tr)(p:aa):Int:=if vW t p&&Hq t p then 2 else if vW t p then 1 else 0
def GY{t:Tr}(ht:t.all ab.ok){p:aa}:vW t p=true↔qG t p true:=by
 unfold vW;rw[kX];constructor
 ·rintro ⟨v,h1,h2⟩;exact⟨v,Ng ht h1,h2⟩
 ·rintro ⟨x,h1,h2⟩
  obtain⟨v,k1,k2⟩:=Nz ht h1;exact⟨v,k1,by rw[k2,h2]⟩
def Ot{t:Tr}(ht:t.all ab.ok){p:aa}:Hq t p=true↔ ¬qG t p false:=by
 unfold Hq;rw[eK];constructor
 ·rintro h ⟨x,h1,h2⟩
  obtain⟨v,k1,k2⟩:=Nz ht h1;have:=h v k1;rw[k2,h2] at this;cases this
 ·intro h v hv
  cases hb:(fI t p v).1 with
  |true=>rfl
  |false=>exact absurd ⟨v,Ng ht hv,hb⟩ h
def Zk(t:Tr)(p:aa):jn t p=0\/jn t p=1\/jn t p=2:=by
 unfold jn;split
 ·exact .inr (.inr J)
 ·split
  ·exact .inr (.inl J)
  ·exact .inl J
def Ll{t:Tr}(ht:t.all ab.ok){p:aa}:jn t p=2↔ ¬qG t p false:=by
 unfold jn;constructor
 ·intro h
  split at h
  ·rename_i k;rw[bJ] at k;exact(Ot ht).1 k.2
  ·split at h<;>exact absurd h (by decide)
 ·intro h
  have h1:=(Ot ht).2 h;have h2:=(GY ht).2 ((Vi ht p).resolve_right h);rw[h1,h2];rfl
def Jm{t:Tr}(ht:t.all ab.ok){p:aa}:jn t p=0↔ ¬qG t p true:=by
 unfold jn;constructor
 ·intro h k
  rw[(GY ht).2 k] at h;split at h
  ·exact absurd h (by decide)
  ·exact absurd h (by decide)
 ·intro h
  have h1:vW t p=false:=by
   cases e:vW t p with
   |false=>rfl
   |true=>exact absurd ((GY ht).1 e) h
  rw[h1];rfl
def tF(u:aa): ¬bv u u:=by
 rintro (h|⟨_,h⟩)
 ·omega
 ·have:u.cross u=0:=by unfold aa.cross;grind
  rw[this] at h;exact absurd h (by decide)
def x4{u v:aa}(h:bv u v)(k:bv v u):False:=tF u (wE h k)
def N6{x y:aa}(h: ¬bv x y)(k: ¬bv y x):ce x y=0:=by
 rw[<-n8] at h k;unfold ce at*;split at h<;>try omega
 split at h<;>try omega
 split at k<;>try omega
 rw[show y.cross x= -(x.cross y) by unfold aa.cross;grind,mQ,Int.sign_neg] at k;omega
def uU(l:List aa):dG 6 (l.map eZ):=fun d hd=>by
 obtain⟨x,_,rfl⟩:=bZ.1 hd;exact⟨J,J⟩
instance aq.negp (p:aa) (i:Nat) [h:aq p i]:aq (ba p) i:=⟨inferInstanceAs (BQ (-p.x) i),inferInstanceAs (BQ (-p.y) i)⟩
instance aq.prip (l:ab) [LB l]:aq (cj l.dir) 500:=by
 have h:=(inferInstance:aq (l.dir.scale (rgcd l.dir.x l.dir.y)⁻¹) _);exact⟨h.x.mono (by decide),h.y.mono (by decide)⟩
def Kg{p:aa}{i:Nat}[h:aq p i](hi:i<=900000000:=by decide):PF GB prog 196 [eZ p] (eZ (ba p)):=by
 refine fn func196 J J ntmps196 J J (fun C=>?_);refine cl J (td (q:=p.x) (i:=i) hi) J<|cl J (td (q:=p.y) (i:=i) hi) J<|?_;exact rz J J
def Jo{p:aa}{i:Nat}[h:aq p i](hi:i<=900000000:=by decide):PF GB prog 194 [eZ p] (eZ (d6 p)):=by
 refine fn func194 J J ntmps194 J J (fun C=>?_);refine cl J (td (q:=p.y) (i:=i) hi) J<|?_;exact rz J J
def WF{p:aa}{i:Nat}[h:aq p i](hi:i<=1000000:=by decide):PF GB prog 195 [eZ p] (eZ (cj p)):=by
 refine fn func195 J J ntmps195 J J (fun C=>?_);refine cl J (zt (p:=p.x) (q:=p.y) (i:=i) (j:=i) (by omega) (by omega)) J<|cl J (AF (q:=rgcd p.x p.y) (i:=i+i+(i+i)) (by omega)) J<|?_;refine cl J (Aa (p:=p) (c:=(rgcd p.x p.y)⁻¹) (i:=i) (j:=i+i+(i+i)) (by omega) (by omega)) J<|?_;exact rz J J
def I0{q:Rat}{i:Nat}[h:BQ q i](hi:i<=400000000:=by decide):PF GB prog 92 [eR q] (eF q):=by
 haveI:BN q.num.natAbs i:=⟨h.hn⟩;haveI:BN q.den i:=⟨h.hd⟩;refine fn func92 J J ntmps92 J J (fun C=>?_);refine cl (fu:=⟨0⟩) J (uB (n:=decide (q.num<0)) (a:=q.num.natAbs) (d:=q.den) (i:=i) (j:=i) (by omega) (by omega)) J<|?_;refine aj 7 (.d (eF q)) J (by rw[lj,qL]) ?_;refine gx J<|?_;exact rz J J
def Cy{p:aa}{i:Nat}[h:aq p i](hi:i<=400000000:=by decide):PF GB prog 46 [i9 p] (eZ p):=by
 refine fn func46 J J ntmps46 J J (fun C=>?_);refine cl J (I0 (q:=p.x) (i:=i) hi) J<|cl J (I0 (q:=p.y) (i:=i) hi) J<|?_;exact rz J J
def W3(G:Gh)(y:Value)(h:Is G (.sl [.ag [vI (dz 1),vI (dq 1),dl 1,vI 0,vI 0, .v (.pointer none)]]) y):Is G (.sl ((eO []).map eZ)) y:=by
 obtain⟨s,x,es,rfl,h1,h2⟩:=jm.1 h;obtain⟨v,m,rfl,k,h3⟩:=b7.1 h2
 cases cH.1 h3
 refine jm.2 ⟨s,x,_,J,h1, .cons ?_ .nil⟩;obtain⟨m4,rfl,g4⟩:=fe.1 k;obtain⟨v1,m1,rfl,k1,g1⟩:=b7.1 g4;obtain⟨v2,m2,rfl,k2,g2⟩:=b7.1 g1;obtain⟨v3,m3,rfl,k3,g3⟩:=b7.1 g2;obtain⟨m5,q5,g5⟩:=fe.1 (v7 _ _ (fe.2 ⟨m3,rfl,g3⟩))
 cases q5
 exact fe.2 ⟨_,J, .cons k1 (.cons k2 (.cons k3 g5))⟩
def LQ{ds:List aa}{k:Nat}{u w:aa}(h1:ds[k]? =some u)(h2:ds[(k+1)%ds.length]? =some w):gy ds k=if 0<Int.sign (u.cross w).num then u.add w else d6 u:=by
 unfold gy;rw[aX,aX,h1,h2];rfl
def Nh(ds:List aa)(k:Nat):(List.range (k+1)).map (gy ds)=(List.range k).map (gy ds)++[gy ds k]:=by rw[List.range_succ,cN];rfl
def WV:PF GB prog 142 [.sl []] (.sl ((eO []).map eZ)):=by
 refine fn (fu:=⟨10⟩) func142 J J ntmps142 J J (fun C=>?_);refine gH J (by rfl) J<|cl J (yo (by omega)) J<|rf J J<|?_;exact jo J W3
def TH{ds:List aa}{i:Nat}(h0:0<ds.length)(hb: ∀d∈ds,aq d i)(hn:ds.length<=10000000)(hi:i<=1000000:=by decide):PF GB prog 142 [.sl (ds.map eZ)] (.sl ((eO ds).map eZ)):=by
 have hml:(ds.map eZ).length=ds.length:=aK ..;refine fn (fu:=⟨10⟩) func142 J J ntmps142 J J (fun C=>?_);refine aj 8 (.d (vI (ds.length:Nat))) J (by rw[hml]<;>rfl) ?_;refine gx (fu:=⟨0⟩) J<|gw (fu:=⟨15⟩) J (by show some (decide _)=some false;rw[decide_eq_false (by omega)]) J<|?_;refine aj 14 (.d (vI (ds.length:Nat))) J (by rw[hml]<;>rfl) ?_;refine gx J<|?_;refine nr 3 3 103 6 J J J ?_;refine lp (X:=List aa×Nat) (fun⟨acc,k⟩=>[(15, .d (vI (k:Nat))),(3, .rw 3)]) (fun⟨acc,k⟩=>[(3,some (.b 103 6 (acc.map eZ) true))]) (fun⟨acc,k⟩=>acc=(List.range k).map (gy ds)/\k<=ds.length) (fun⟨acc,k⟩=>ds.length-k) ⟨[],0⟩ J ⟨J,bN _⟩ (fun _=>J) (fun⟨acc,k⟩ hk=>?_)
 try dsimp only at hk⊢
 obtain⟨h1,h2⟩:=hk;have hal:acc.length=k:=by rw[h1,aK,lT]
 have ham:(acc.map eZ).length=acc.length:=aK ..;refine br J J J (fun hc16=>?_) (fun hc16=>?_)
 .
  obtain⟨u,hx⟩: ∃u,ds[k]? =some u:=⟨_,aZ (by omega)⟩;obtain⟨w,hw⟩: ∃w,ds[(k+1)%ds.length]? =some w:=⟨_,aZ (cL _ (by omega))⟩;haveI:=hb u (aS hx);haveI:=hb w (aS hw);refine ix (fu:=⟨13⟩) _ J (ee hx) J<|?_;refine aj 24 (.d (vI (ds.length:Nat))) J (by rw[hml]<;>rfl) ?_;refine gx (fu:=⟨1⟩) J<|?_;refine aj 25 (.d (vI (((k+1)%ds.length:Nat):Int))) J J ?_;refine gx J<|ix _ J (ee hw) J<|cl J (Ou (p:=u) (q:=w) (by omega) (by omega)) J<|cl J (l8 (q:=u.cross w) (by omega)) J<|?_;refine br J J J (fun hc32=>?_) (fun hc32=>?_)
  .
   refine cl J (B8 (p:=u) (q:=w) (by omega) (by omega)) J<|rf J J<|ap ((acc++[u.add w]).map eZ) J (by rw[cN]<;>rfl) (uU [u.add w]) J<|?_;refine gr 38 3 J ?_;exact at_ ⟨acc++[u.add w],k+1⟩ (by dsimp only;exact⟨⟨by rw[Nh,LQ hx hw,if_pos hc32,<-h1],by omega⟩,(by omega)⟩)
  .
   refine cl J (Jo (p:=u) (by omega)) J<|rf J J<|ap ((acc++[d6 u]).map eZ) J (by rw[cN]<;>rfl) (uU [d6 u]) J<|?_;refine gr 43 3 J ?_;exact at_ ⟨acc++[d6 u],k+1⟩ (by dsimp only;exact⟨⟨by rw[Nh,LQ hx hw,if_neg hc32,<-h1],by omega⟩,(by omega)⟩)
 .
  obtain rfl:k=ds.length:=by omega
  have hS:eO ds=acc:=by unfold eO;rw[if_neg (by omega),h1]
  refine mf 3 J ?_;exact rz J (by rw[hS];rfl)
def Tn{ds:List aa}{i:Nat}(hb: ∀d∈ds,aq d i)(hn:ds.length<=10000000)(hi:i<=1000000:=by decide):PF GB prog 142 [.sl (ds.map eZ)] (.sl ((eO ds).map eZ)):=by
 cases ds with
 |nil=>exact WV
 |cons d ds=>exact TH (i:=i) (Nat.zero_lt_succ _) hb hn hi
end Go.Sx
end
