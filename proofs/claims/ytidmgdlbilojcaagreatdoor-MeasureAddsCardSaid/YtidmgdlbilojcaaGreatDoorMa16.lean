import Derived.Test.YtidmgdlbilojcaaGreatDoorMa15
set_option linter.all false
set_option maxHeartbeats 4000000
set_option maxRecDepth 100000
section
namespace Go.Sx
open Go Go.Proofs Tryz
variable {GB:Gh}
def sD{α β:Type}(c:β->β->Int)(g:α->β)(l:List α)(k:Nat):List β:=tT c ((l.take k).map g)
section
variable {α β:Type} {c:β->β->Int} {g:α->β} {l:List α} {k:Nat}
def xX{x:α}(h:l[k]? =some x):sD c g l (k+1)=fk c (g x) (sD c g l k):=by
 unfold sD tT;rw[jV,h,Option.toList_some,bR,pY];rfl
def KP(h:k=l.length):sD c g l k=tT c (l.map g):=by unfold sD;rw[h,dZ]
def Pi:(sD c g l k).length<=k:=by
 have:=K0 c ((l.take k).map g) [];have h2:((l.take k).map g).length<=k:=by rw[aK,cR];omega
 rw[fX] at this;unfold sD tT;omega
def Ku{y:β}(h:y∈sD c g l k): ∃x∈l,y=g x:=by
 rcases Q7 c h with h|h
 ·obtain⟨x,hx,rfl⟩:=bV.1 h
  exact⟨x,fK hx,J⟩
 ·cases h
end
def vw{α:Type}{f:α->DV}{s:Nat}(ok: ∀l:List α,cI s (l.map f))(xs:List α)(n:Nat):cI s ((xs.map f).take n):=fun d hd=>ok xs d (fK hd)
def sI{α:Type}{f:α->DV}{s:Nat}(ok: ∀l:List α,cI s (l.map f))(xs:List α)(n m:Nat):cI s (((xs.map f).take n).drop m):=fun d hd=>ok xs d (fK (gT hd))
def ue{α:Type}{f:α->DV}{s:Nat}(ok: ∀l:List α,cI s (l.map f))(xs:List α)(n m:Nat)(x:α):cI s ([f x]++((xs.map f).take n).drop m):=fun d hd=>by
 rcases bW.1 hd with h|h
 ·exact ok [x] d h
 ·exact sI ok xs n m d h
def rP{α:Type}{f:α->DV}{l:List α}{i:Nat}(h:i<l.length):(l.map f)[(i:Int).toNat]? =some (f l[i]):=by
 rw[aM,cV,aZ h];rfl
def axq{ps:List ab}(hb: ∀p∈ps,aO p 1200)(hn:ps.length<=100000):PF GB prog 156 [.sl (ps.map eP)] (.sl ((tT gn ps).map eP)):=by
 have hm':=gr eP ps;refine fn (fu:=⟨15⟩) func156 J J ntmps156 J J (fun C=>?_);refine aj 8 (.d (vI (ps.length:Nat))) J (by rw[hm'];rfl) ?_;refine gx J<|?_;refine Bj 3 J ?_;refine lp (X:=List ab×Nat) (fun⟨xs,k⟩=>[(9, .d (vI (k:Nat))),(8, .d (vI (ps.length:Nat))),(7, .d (.sl (ps.map eP))),(0, .d (.sl (ps.map eP))),(3, .d (.sl (xs.map eP)))]) (fun⟨xs,k⟩=>[]) (fun⟨xs,k⟩=>xs=sD gn id ps k/\k<=ps.length) (fun⟨xs,k⟩=>ps.length-k) ⟨[],0⟩ J ⟨J,bJ _⟩ (fun _=>J) (fun⟨xs,k⟩ hk=>?_)
 try dsimp only at hk⊢
 obtain⟨hS,hkl⟩:=hk;refine br J J J (fun hc10=>?_) (fun hc10=>?_)
 .
  have hk:k<ps.length:=by omega
  obtain⟨m,hm⟩: ∃m,m=ps[k]:=⟨_,rfl⟩;have hz:ps[k]? =some m:=by rw[hm];exact aZ hk
  haveI hmb:aO m 1200:=hm▸hb _ (cJ hk);have hxl:=gr eP xs;have hxn:xs.length<=k:=by rw[hS];exact Pi
  have hxb: ∀q∈xs,aO q 1200:=fun q hq=>by rw[hS] at hq;obtain⟨z,hz,he⟩:=Ku hq;rw[he];exact hb z hz
  refine ix (fu:=⟨1⟩) _ J (rP hk) J<|?_;refine aj 12 (.d (eP m)) J (by rw[hm];rfl) ?_;refine gx (fu:=⟨10⟩) J<|?_;refine mg (fu:=⟨5⟩) (X:=Unit) (fun _=>[(9, .d (vI (k:Nat))),(8, .d (vI (ps.length:Nat))),(7, .d (.sl (ps.map eP))),(0, .d (.sl (ps.map eP))),(3, .d (.sl (xs.map eP))),(5, .ov 5 0),(6, .d (vI (jG gn m xs:Nat)))]) (fun _=>[(5,some (.o 62 [.d ((.v (.bool (decide (m.x.num<0))))), .d (dN m.x.num.natAbs), .d (dD m.x.den), .d ((.v (.bool (decide (m.y.num<0))))), .d (dN m.y.num.natAbs), .d (dD m.y.den)] true))]) (fun _=>True) [9,8,7,0,3,5,6] [5] rfl ?_ (fun _=>J) (fun _ _=>?_)
  .
   refine gx J<|?_;refine lp (fu:=⟨6⟩) (X:=Nat) (fun n=>[(9, .d (vI (k:Nat))),(8, .d (vI (ps.length:Nat))),(7, .d (.sl (ps.map eP))),(0, .d (.sl (ps.map eP))),(3, .d (.sl (xs.map eP))),(5, .ov 5 0),(6, .d (vI (n:Nat)))]) (fun n=>[(5,some (.o 62 [.d ((.v (.bool (decide (m.x.num<0))))), .d (dN m.x.num.natAbs), .d (dD m.x.den), .d ((.v (.bool (decide (m.y.num<0))))), .d (dN m.y.num.natAbs), .d (dD m.y.den)] true))]) (fun n=>n<=xs.length/\ ∀j (h:j<xs.length),j<n->gn xs[j] m<0) (fun n=>xs.length-n) 0 J ⟨bJ _,fun j _ hj=>absurd hj (by omega)⟩ (fun _=>J) (fun n hk=>?_);obtain⟨n1,n2⟩:=hk;refine kG (v2:=fun hg16=>by simp only[ac];kernel_rfl) J J J J (fun hg16=>?_) (fun hg16=>?_)
   .
    refine ix _ J (rP (by omega)) J<|cl J (PZ (p:=xs[n]'(by omega)) (q:=m) (hp:=hxb _ (cJ (by omega))) (hq:=hmb)) J<|?_;refine br J J J (fun hc25=>?_) (fun hc25=>?_)
    .
     exact at_ (n+1) ⟨⟨by omega,fun j h hj=>by by_cases q:j=n;(subst q;exact hc25);exact n2 j h (by omega)⟩,(by omega)⟩
    .
     have hidx:jG gn m xs=n:=uk gn n1 n2 (fun h=>hc25);exact at_ () trivial
   .
    have hidx:jG gn m xs=n:=uk gn n1 n2 (fun h=>absurd h (by omega));exact at_ () trivial
  .
   obtain⟨n,hnx⟩: ∃n,jG gn m xs=n:=⟨_,rfl⟩;rw[hnx];have hnl:n<=xs.length:=by rw[<-hnx];exact Cv _ _ _
   refine kG (v1:=fun hg31=>by simp only[ac];kernel_rfl) J J J J (fun hg31=>?_) (fun hg31=>?_)
   .
    have hnew: ∀h:n<xs.length,gn xs[n] m≠0:=fun h=>absurd h (by omega);obtain⟨ys,hys⟩: ∃ys,ys=xs.take n++m::xs.drop n:=⟨_,rfl⟩;have hin:fk gn m xs=ys:=by rw[hys];exact tO gn hnx hnew
    have hyl:ys.length<=xs.length+1:=by rw[hys];simp;omega
    refine s3 n _ J J J J (ql _) (by rw[hxl];exact hnl) J<|ro J J<|mz n xs.length _ J J (by rw[hxl]) J (ql _) hnl (by omega) J<|?_;refine ap _ J J (sI ql _ _ _) J<|mp (hv:=by simp only[ac];exact⟨by kernel_rfl,by omega⟩) (ho:=fun _=>⟨vw ql _ _,by simp⟩) (ys.map eP) J (by rw[hys,bR,bT,gN,jQ,aT (l:=xs.map eP) (i:=xs.length) (by simp)];rfl) (ue ql _ _ _ _) J<|?_;exact at_ ⟨ys,k+1⟩ (by dsimp only;exact⟨⟨by rw[xX hz,<-hS];exact hin.symm,by omega⟩,(by omega)⟩)
   .
    refine ix _ J (rP (by omega)) J<|cl J (PZ (p:=xs[n]'(by omega)) (q:=m) (hp:=hxb _ (cJ (by omega))) (hq:=hmb)) J<|?_;refine br J J J (fun hc40=>?_) (fun hc40=>?_)
    .
     have hnew: ∀h:n<xs.length,gn xs[n] m≠0:=fun h=>hc40;obtain⟨ys,hys⟩: ∃ys,ys=xs.take n++m::xs.drop n:=⟨_,rfl⟩;have hin:fk gn m xs=ys:=by rw[hys];exact tO gn hnx hnew
     have hyl:ys.length<=xs.length+1:=by rw[hys];simp;omega
     refine s3 n _ J J J J (ql _) (by rw[hxl];exact hnl) J<|ro J J<|mz n xs.length _ J J (by rw[hxl]) J (ql _) hnl (by omega) J<|?_;refine ap _ J J (sI ql _ _ _) J<|mp (hv:=by simp only[ac];exact⟨by kernel_rfl,by omega⟩) (ho:=fun _=>⟨vw ql _ _,by simp⟩) (ys.map eP) J (by rw[hys,bR,bT,gN,jQ,aT (l:=xs.map eP) (i:=xs.length) (by simp)];rfl) (ue ql _ _ _ _) J<|?_;exact at_ ⟨ys,k+1⟩ (by dsimp only;exact⟨⟨by rw[xX hz,<-hS];exact hin.symm,by omega⟩,(by omega)⟩)
    .
     have hin:fk gn m xs=xs:=zg gn hnx (by omega) (Decidable.not_not.1 hc40);exact at_ ⟨xs,k+1⟩ (by dsimp only;exact⟨⟨by rw[xX hz,<-hS];exact hin.symm,by omega⟩,(by omega)⟩)
 .
  have hfin:tT gn ps=xs:=by rw[hS,KP (by omega),List.map_id]
  exact rz J (by rw[hfin];rfl)
def wP(ls:List aa):List aa:=tT iE (ls.map aa.canon)
def U2{ls:List aa}(hb: ∀p∈ls,LB p)(hn:ls.length<=100000):PF GB prog 120 [.sl (ls.map eL)] (.sl ((wP ls).map eL)):=by
 have hm':=gr eL ls;refine fn (fu:=⟨15⟩) func120 J J ntmps120 J J (fun C=>?_);refine aj 8 (.d (vI (ls.length:Nat))) J (by rw[hm'];rfl) ?_;refine gx J<|?_;refine Bj 3 J ?_;refine lp (X:=List aa×Nat) (fun⟨xs,k⟩=>[(9, .d (vI (k:Nat))),(8, .d (vI (ls.length:Nat))),(7, .d (.sl (ls.map eL))),(0, .d (.sl (ls.map eL))),(3, .d (.sl (xs.map eL)))]) (fun⟨xs,k⟩=>[]) (fun⟨xs,k⟩=>xs=sD iE aa.canon ls k/\k<=ls.length) (fun⟨xs,k⟩=>ls.length-k) ⟨[],0⟩ J ⟨J,bJ _⟩ (fun _=>J) (fun⟨xs,k⟩ hk=>?_)
 try dsimp only at hk⊢
 obtain⟨hS,hkl⟩:=hk;refine br J J J (fun hc10=>?_) (fun hc10=>?_)
 .
  have hk:k<ls.length:=by omega
  obtain⟨z,hm⟩: ∃m,m=ls[k]:=⟨_,rfl⟩;have hz:ls[k]? =some z:=by rw[hm];exact aZ hk
  haveI hzb:LB z:=hm▸hb _ (cJ hk);obtain⟨m,hmc⟩: ∃m,m=z.canon:=⟨_,rfl⟩;haveI hmb:LB m:=by rw[hmc];infer_instance
  have hxl:=gr eL xs;have hxn:xs.length<=k:=by rw[hS];exact Pi
  have hxb: ∀q∈xs,LB q:=fun q hq=>by rw[hS] at hq;obtain⟨z,hz,rfl⟩:=Ku hq;haveI:=hb z hz;infer_instance
  refine ix (fu:=⟨1⟩) _ J (rP hk) J<|?_;refine aj 12 (.d (eL z)) J (by rw[hm];rfl) ?_;refine gx J<|cl (fu:=⟨2⟩) J (Ys (l:=z)) J<|?_;refine aj 16 (.d (eL m)) J (by rw[hmc]) ?_;refine gx (fu:=⟨10⟩) J<|?_;refine mg (fu:=⟨5⟩) (X:=Unit) (fun _=>[(9, .d (vI (k:Nat))),(8, .d (vI (ls.length:Nat))),(7, .d (.sl (ls.map eL))),(0, .d (.sl (ls.map eL))),(3, .d (.sl (xs.map eL))),(5, .ov 5 0),(6, .d (vI (jG iE m xs:Nat)))]) (fun _=>[(5,some (.o 175 [.d ((.v (.bool (decide (m.a<0))))), .d (dN m.a.natAbs), .d ((.v (.bool (decide (m.b<0))))), .d (dN m.b.natAbs), .d ((.v (.bool (decide (m.c<0))))), .d (dN m.c.natAbs)] true))]) (fun _=>True) [9,8,7,0,3,5,6] [5] rfl ?_ (fun _=>J) (fun _ _=>?_)
  .
   refine gx J<|?_;refine lp (fu:=⟨6⟩) (X:=Nat) (fun n=>[(9, .d (vI (k:Nat))),(8, .d (vI (ls.length:Nat))),(7, .d (.sl (ls.map eL))),(0, .d (.sl (ls.map eL))),(3, .d (.sl (xs.map eL))),(5, .ov 5 0),(6, .d (vI (n:Nat)))]) (fun n=>[(5,some (.o 175 [.d ((.v (.bool (decide (m.a<0))))), .d (dN m.a.natAbs), .d ((.v (.bool (decide (m.b<0))))), .d (dN m.b.natAbs), .d ((.v (.bool (decide (m.c<0))))), .d (dN m.c.natAbs)] true))]) (fun n=>n<=xs.length/\ ∀j (h:j<xs.length),j<n->iE xs[j] m<0) (fun n=>xs.length-n) 0 J ⟨bJ _,fun j _ hj=>absurd hj (by omega)⟩ (fun _=>J) (fun n hk=>?_);obtain⟨n1,n2⟩:=hk;refine kG (v2:=fun hg21=>by simp only[ac];kernel_rfl) J J J J (fun hg21=>?_) (fun hg21=>?_)
   .
    refine ix _ J (rP (by omega)) J<|cl J (Bt (l:=xs[n]'(by omega)) (m:=m) (hl:=hxb _ (cJ (by omega))) (hm:=hmb)) J<|?_;refine br J J J (fun hc30=>?_) (fun hc30=>?_)
    .
     exact at_ (n+1) ⟨⟨by omega,fun j h hj=>by by_cases q:j=n;(subst q;exact hc30);exact n2 j h (by omega)⟩,(by omega)⟩
    .
     have hidx:jG iE m xs=n:=uk iE n1 n2 (fun h=>hc30);exact at_ () trivial
   .
    have hidx:jG iE m xs=n:=uk iE n1 n2 (fun h=>absurd h (by omega));exact at_ () trivial
  .
   obtain⟨n,hnx⟩: ∃n,jG iE m xs=n:=⟨_,rfl⟩;rw[hnx];have hnl:n<=xs.length:=by rw[<-hnx];exact Cv _ _ _
   refine kG (v1:=fun hg36=>by simp only[ac];kernel_rfl) J J J J (fun hg36=>?_) (fun hg36=>?_)
   .
    have hnew: ∀h:n<xs.length,iE xs[n] m≠0:=fun h=>absurd h (by omega);obtain⟨ys,hys⟩: ∃ys,ys=xs.take n++m::xs.drop n:=⟨_,rfl⟩;have hin:fk iE m xs=ys:=by rw[hys];exact tO iE hnx hnew
    have hyl:ys.length<=xs.length+1:=by rw[hys];simp;omega
    refine s3 n _ J J J J (gu _) (by rw[hxl];exact hnl) J<|ro J J<|mz n xs.length _ J J (by rw[hxl]) J (gu _) hnl (by omega) J<|?_;refine ap _ J J (sI gu _ _ _) J<|mp (hv:=by simp only[ac];exact⟨by kernel_rfl,by omega⟩) (ho:=fun _=>⟨vw gu _ _,by simp⟩) (ys.map eL) J (by rw[hys,bR,bT,gN,jQ,aT (l:=xs.map eL) (i:=xs.length) (by simp)];rfl) (ue gu _ _ _ _) J<|?_;exact at_ ⟨ys,k+1⟩ (by dsimp only;exact⟨⟨by rw[xX hz,<-hS,<-hmc];exact hin.symm,by omega⟩,(by omega)⟩)
   .
    refine ix _ J (rP (by omega)) J<|cl J (Bt (l:=xs[n]'(by omega)) (m:=m) (hl:=hxb _ (cJ (by omega))) (hm:=hmb)) J<|?_;refine br J J J (fun hc45=>?_) (fun hc45=>?_)
    .
     have hnew: ∀h:n<xs.length,iE xs[n] m≠0:=fun h=>hc45;obtain⟨ys,hys⟩: ∃ys,ys=xs.take n++m::xs.drop n:=⟨_,rfl⟩;have hin:fk iE m xs=ys:=by rw[hys];exact tO iE hnx hnew
     have hyl:ys.length<=xs.length+1:=by rw[hys];simp;omega
     refine s3 n _ J J J J (gu _) (by rw[hxl];exact hnl) J<|ro J J<|mz n xs.length _ J J (by rw[hxl]) J (gu _) hnl (by omega) J<|?_;refine ap _ J J (sI gu _ _ _) J<|mp (hv:=by simp only[ac];exact⟨by kernel_rfl,by omega⟩) (ho:=fun _=>⟨vw gu _ _,by simp⟩) (ys.map eL) J (by rw[hys,bR,bT,gN,jQ,aT (l:=xs.map eL) (i:=xs.length) (by simp)];rfl) (ue gu _ _ _ _) J<|?_;exact at_ ⟨ys,k+1⟩ (by dsimp only;exact⟨⟨by rw[xX hz,<-hS,<-hmc];exact hin.symm,by omega⟩,(by omega)⟩)
    .
     have hin:fk iE m xs=xs:=zg iE hnx (by omega) (Decidable.not_not.1 hc45);exact at_ ⟨xs,k+1⟩ (by dsimp only;exact⟨⟨by rw[xX hz,<-hS,<-hmc];exact hin.symm,by omega⟩,(by omega)⟩)
 .
  have hfin:wP ls=xs:=by rw[hS,KP (by omega)];rfl
  exact rz J (by rw[hfin];rfl)
def I5(a b:Tr):List ab:=NF (wP (a.lns++b.lns))
def eqR(a b:Tr):Bool:=(I5 a b).all fun p=>uZ a p==uZ b p
def aJ5(f:Bool->Bool->Bool)(a b:Tr):Bool:=(I5 a b).any fun p=>f (uZ a p) (uZ b p)
def aJt(v:Bool)(t:Tr):Bool:=decide ((t.restrict []).isLeaf=true/\(t.restrict []).code=v)
def Z8(L:List aa)(p:ab):List ab:=L.flatMap fun l=>if Int.sign (l.value p).num=0 then [l.dir,kt l.dir] else []
def d9.trans{u v w:ab}(hu:u.half≠0)(hv:v.half≠0)(hw:w.half≠0)(h:d9 u v)(k:d9 v w):d9 u w:=by
 rcases h with h|⟨h,h'⟩<;>rcases k with k|⟨k,k'⟩
 ·exact .inl (by omega)
 ·exact .inl (by omega)
 ·exact .inl (by omega)
 ·refine .inr ⟨h.trans k,?_⟩
  have id1:u.cross w*v.y=u.cross v*w.y+v.cross w*u.y:=by unfold ab.cross;grind
  rcases uS v with⟨x,q⟩|⟨x,q⟩|⟨x,q⟩
  ·rw[x] at h k
   have qu:=se.1 h;have qw:=se.1 k.symm;rcases q with q|⟨q,q'⟩
   ·rw[<-jv q,id1]
    have wy:0<=w.y:=by grind
    have uy:0<=u.y:=by grind
    have a1:=di (cM h') wy;rcases qu with qu|⟨qu,qu'⟩
    ·have:=ge k' qu;grind
    ·rcases qw with qw|⟨qw,qw'⟩
     ·have:=ge h' qw;rw[qu];grind
     ·exfalso
      have hx:v.cross w= -(w.x*v.y):=by unfold ab.cross;rw[qw];grind
      have:=ge qw' q;grind
   ·exfalso
    have hx:u.cross v= -(v.x*u.y):=by unfold ab.cross;rw[q];grind
    have:=di (a:=v.x) (b:=u.y) (cM q') (by grind);grind
  ·rw[x] at h k
   have qu:=uM.1 h;have qw:=uM.1 k.symm;rcases q with q|⟨q,q'⟩
   ·have e1:u.cross w* -v.y=u.cross v* -w.y+v.cross w* -u.y:=by grind
    rw[<-jv (k:= -v.y) (by grind),e1];have a1:=di (a:=u.cross v) (b:= -w.y) (cM h') (by grind);rcases qu with qu|⟨qu,qu'⟩
    ·have:=ge (a:=v.cross w) (b:= -u.y) k' (by grind);grind
    ·rcases qw with qw|⟨qw,qw'⟩
     ·have:=ge (a:=u.cross v) (b:= -w.y) h' (by grind);rw[qu];grind
     ·exfalso
      have hx:v.cross w= -(-w.x* -v.y):=by unfold ab.cross;rw[qw];grind
      have:=ge (a:= -w.x) (b:= -v.y) (by grind) (by grind);grind
   ·exfalso
    have hx:u.cross v= -(-v.x* -u.y):=by unfold ab.cross;rw[q];grind
    have:=di (a:= -v.x) (b:= -u.y) (by grind) (by grind);grind
  ·exact absurd x hv
def Fz(S:List ab)(x:ab):Nat->Nat
 |0=>0
 |k+1=>if 0<fp (S.getD k ⟨0,0⟩) x then Fz S x k else k+1
def V3(S:List ab)(x:ab):List ab:=S.take (Fz S x S.length)++x::S.drop (Fz S x S.length)
def aHv(ds:List ab):List ab:=ds.foldl V3 []
structure aKo (L:List aa):Prop where
 ok: ∀l∈L,l.ok
 cn: ∀l∈L,wV l=false
 nd:L.Pairwise (fun a b=>a≠b)
def Ju{l:aa}(h:l.ok):l.dir.half≠0:=fun e=>by
 have hn:=h.ne;unfold aa.Ne at hn;rcases uS l.dir with⟨k,_⟩|⟨k,_⟩|⟨_,k1,k2⟩
 ·rw[k] at e;cases e
 ·rw[k] at e;cases e
 ·unfold aa.dir at k1 k2
  simp only at k1 k2;apply hn;refine⟨?_,cN.1 k2⟩;have:(l.a:Rat)=0:=by grind
  exact cN.1 this
def RB(v:ab):Nat:=Nat.gcd (v.x.num.natAbs*v.y.den) (v.y.num.natAbs*v.x.den)
def QD(n:Int)(d g:Nat):Int:=if n<0 then-((n.natAbs*d/g:Nat):Int) else((n.natAbs*d/g:Nat):Int)
def QR(v:ab):ab:=if v.half=0 then⟨0,0⟩ else⟨(QD v.x.num v.y.den (RB v):Int),(QD v.y.num v.x.den (RB v):Int)⟩
def aJC(ds:List ab)(i:Nat):List ab:=
 if fp (ds.getD i ⟨0,0⟩) (ds.getD ((i+1)%ds.length) ⟨0,0⟩)=0/\2<ds.length then []
 else if Int.sign ((ds.getD i ⟨0,0⟩).cross (ds.getD ((i+1)%ds.length) ⟨0,0⟩)).num=0 then [oq (ds.getD i ⟨0,0⟩)]
 else [ck (QR (ds.getD i ⟨0,0⟩)) (QR (ds.getD ((i+1)%ds.length) ⟨0,0⟩)) 1]
def Ze(ds:List ab):List ab:=if ds.length=0 then [⟨1,0⟩] else(List.range ds.length).flatMap (aJC ds)
def Ps(L:List aa)(p:ab):List ab:=Ze (aHv (Z8 L p))
def aKz(t:Tr)(p:ab):Bool:=(Ps (wP t.lns) p).any fun v=>(wJ t p v).1
def aJ8(t:Tr)(p:ab):Bool:=(Ps (wP t.lns) p).all fun v=>(wJ t p v).1
def Cd:Tr->ab->List aa
 | .leaf _,_=>[]
 | .node l x y,p=>(if Int.sign (l.value p).num=0 then [l] else [])++((if 0<=Int.sign (l.value p).num then Cd x p else [])++(if Int.sign (l.value p).num<=0 then Cd y p else []))
def aKw(t:Tr)(p:ab)(b:Bool):Prop:= ∃v,Gn (Cd t p) p v/\(wJ t p v).1=b
def aJA(ds:List ab)(i:Nat):ab:=
 if 0<Int.sign ((ds.getD i ⟨0,0⟩).cross (ds.getD ((i+1)%ds.length) ⟨0,0⟩)).num then(ds.getD i ⟨0,0⟩).add (ds.getD ((i+1)%ds.length) ⟨0,0⟩) else oq (ds.getD i ⟨0,0⟩)
def Rx(ds:List ab):List ab:=if ds.length=0 then [⟨1,0⟩] else(List.range ds.length).map (aJA ds)
def K1(v:ab):ab:=v.scale (rgcd v.x v.y)⁻¹
def Rs(t:Tr)(p:ab):List ab:=(Cd t p).flatMap fun l=>[K1 l.dir,kt (K1 l.dir)]
def J7(ds:List ab):List ab:=tT fp ds
def awW{u v:ab}:fp u v=0↔u.half=v.half/\u.cross v=0:=by
 unfold fp;split
 ·constructor
  ·intro h;exact absurd h (by decide)
  ·intro h;omega
 ·split
  ·constructor
   ·intro h;exact absurd h (by decide)
   ·intro h;omega
  ·constructor
   ·intro h
    exact⟨by omega,(n8 _).1 (by omega)⟩
   ·intro h
    rw[(n8 _).2 h.2];rfl
def Aj{u v w:ab}(h:d9 u v)(k:d9 v w):d9 u w:=by
 by_cases hu:u.half=0
 ·by_cases hw:w.half=0
  ·have z: ∀x y:ab,x.half=0->x.cross y=0:=fun x y hx=>by
    rcases uS x with⟨e,_⟩|⟨e,_⟩|⟨_,e1,e2⟩
    ·rw[hx] at e;exact absurd e (by decide)
    ·rw[hx] at e;exact absurd e (by decide)
    ·unfold ab.cross;rw[e1,e2];grind
   rcases h with h|⟨h,h'⟩
   ·rcases k with k|⟨k,k'⟩
    ·omega
    ·have hv:v.half≠0:=by omega
     omega
   ·rw[z u v hu] at h';exact absurd h' (by decide)
  ·refine .inl ?_
   have h1:=qC hw;omega
 ·have hv:v.half≠0:=by
   intro e;rcases h with h|⟨h,_⟩
   ·have:=qC hu;omega
   ·omega
  have hw:w.half≠0:=by
   intro e;rcases k with k|⟨k,_⟩
   ·have:=qC hv;omega
   ·omega
  exact d9.trans hu hv hw h k
section
variable {α:Type} (c:α->α->Int)
end
def QE(t:Tr)(p:ab):Bool:=(Rx (J7 (Rs t p))).any fun v=>(wJ t p v).1
def Ui(t:Tr)(p:ab):Bool:=(Rx (J7 (Rs t p))).all fun v=>(wJ t p v).1
def aIV(t:Tr)(p:ab):Int:=if QE t p&&Ui t p then 2 else if QE t p then 1 else 0
def wZ(u:ab): ¬d9 u u:=by
 rintro (h|⟨_,h⟩)
 ·omega
 ·have:u.cross u=0:=by unfold ab.cross;grind
  rw[this] at h;exact absurd h (by decide)
def Ah{u v:ab}(h:d9 u v)(k:d9 v u):False:=wZ u (Aj h k)
def Mk{x y:ab}(h: ¬d9 x y)(k: ¬d9 y x):fp x y=0:=by
 rw[<-yh] at h k;unfold fp at*;split at h<;>try omega
 split at h<;>try omega
 split at k<;>try omega
 rw[show y.cross x= -(x.cross y) by unfold ab.cross;grind,oY,Int.sign_neg] at k;omega
def xp(vs:List ah):cI 8 (vs.map eV):=fun d hd=>by
 obtain⟨u,_,rfl⟩:=bV.1 hd;exact⟨rfl,rfl⟩
def i8(qs:List Rat):cI 3 (qs.map eQ):=fun d hd=>by
 obtain⟨u,_,rfl⟩:=bV.1 hd;exact⟨rfl,rfl⟩
def Kl(bs:List Bool):cI 1 (bs.map vB):=fun d hd=>by
 obtain⟨u,_,rfl⟩:=bV.1 hd;exact⟨rfl,rfl⟩
def UK{l:List ah}{k:Nat}{v:ah}{t:Rat}{a b:Int}(h:l[k]? =some v)(ha:a=if v.nl then 1 else bm t v.lo)(hb:b=if v.nh then-1 else bm t v.hi):
  sE (l.drop k) t=if 0<a/\b<0 then 2 else if(a=0/\b<=0)\/(b=0/\0<=a) then 1 else sE (l.drop (k+1)) t:=by
 obtain⟨hk,rfl⟩:=aS.1 h;rw[bX hk,sE,ha,hb]
structure n4 (v:ah):Prop where
 lo:BQ v.lo 1200
 hi:BQ v.hi 1200
def VI{l:List ah}{t:Rat}{i:Nat}[ht:BQ t i](hb: ∀v∈l,n4 v)(hn:l.length<=100000)(hi:i<=20000:=by decide):PF GB prog 298 [.sl (l.map eV),eQ t] (vI (sE l t)):=by
 have hm:=gr eV l;refine fn (fu:=⟨11⟩) func298 J J ntmps298 J J (fun C=>?_);refine aj 10 (.d (vI (l.length:Nat))) J (by rw[hm]<;>rfl) ?_;refine gx J<|?_;refine lp (X:=Nat) (fun k=>[(11, .d (vI (k:Nat)))]) (fun k=>[]) (fun k=>k<=l.length/\sE (l.drop k) t=sE l t) (fun k=>l.length-k) 0 J ⟨bJ _,J⟩ (fun _=>J) (fun k hk=>?_);obtain⟨h1,h2⟩:=hk;refine br J J J (fun hc12=>?_) (fun hc12=>?_)
 .
  obtain⟨v,hz⟩: ∃s,l[k]? =some s:=⟨_,aZ (by omega)⟩;have hv:=hb v (aL hz);haveI:=hv.lo;haveI:=hv.hi;refine ix (fu:=⟨12⟩) _ J (fe hz) J<|?_;refine mg (fu:=⟨1⟩) (X:=Int) (fun a=>[(7, .d (vI a))]) (fun a=>[]) (fun a=>a=if v.nl then 1 else bm t v.lo) [7] [] rfl ?_ (fun _=>J) (fun a ha=>?_)
  .
   refine gx J<|?_;refine bb J J J (fun hc17=>?_) (fun hc17=>?_)
   .
    refine cl J (lu (a:=t) (b:=v.lo) (i:=i) (by omega)) J<|?_;exact at_ (bm t v.lo) (by rw[if_neg (by simpa using hc17)])
   .
    exact at_ 1 (by rw[if_pos (by simpa using hc17)])
  .
   refine mg (X:=Int) (fun b=>[(8, .d (vI b))]) (fun b=>[]) (fun b=>b=if v.nh then-1 else bm t v.hi) [8] [] rfl ?_ (fun _=>J) (fun b hb'=>?_)
   .
    refine gx J<|?_;refine bb J J J (fun hc24=>?_) (fun hc24=>?_)
    .
     refine cl J (lu (a:=t) (b:=v.hi) (i:=i) (by omega)) J<|?_;exact at_ (bm t v.hi) (by rw[if_neg (by simpa using hc24)])
    .
     exact at_ (-1) (by rw[if_pos (by simpa using hc24)])
   .
    have hst:=UK hz ha hb';refine cs 31 J J J (fun hg31=>?_) (fun hg31=>?_)
    .
     refine br J J J (fun hc34=>?_) (fun hc34=>?_)
     .
      exact rz J (by first|(rw[<-h2,gQ];rfl)|(rw[<-h2,hst,if_pos (by omega)];rfl)|(rw[<-h2,hst,if_neg (by omega),if_pos (by omega)];rfl))
     .
      refine cs 37 J J J (fun hg37=>?_) (fun hg37=>?_)
      .
       refine cs 41 J J J (fun hg41=>?_) (fun hg41=>?_)
       .
        exact rz J (by first|(rw[<-h2,gQ];rfl)|(rw[<-h2,hst,if_pos (by omega)];rfl)|(rw[<-h2,hst,if_neg (by omega),if_pos (by omega)];rfl))
       .
        refine cs 44 J J J (fun hg44=>?_) (fun hg44=>?_)
        .
         refine br J J J (fun hc48=>?_) (fun hc48=>?_)
         .
          exact rz J (by first|(rw[<-h2,gQ];rfl)|(rw[<-h2,hst,if_pos (by omega)];rfl)|(rw[<-h2,hst,if_neg (by omega),if_pos (by omega)];rfl))
         .
          exact at_ (k+1) ⟨⟨by omega,by rw[<-h2,hst,if_neg (by omega),if_neg (by omega)]⟩,(by omega)⟩
        .
         exact at_ (k+1) ⟨⟨by omega,by rw[<-h2,hst,if_neg (by omega),if_neg (by omega)]⟩,(by omega)⟩
      .
       refine cs 44 J J J (fun hg44=>?_) (fun hg44=>?_)
       .
        refine br J J J (fun hc48=>?_) (fun hc48=>?_)
        .
         exact rz J (by first|(rw[<-h2,gQ];rfl)|(rw[<-h2,hst,if_pos (by omega)];rfl)|(rw[<-h2,hst,if_neg (by omega),if_pos (by omega)];rfl))
        .
         exact at_ (k+1) ⟨⟨by omega,by rw[<-h2,hst,if_neg (by omega),if_neg (by omega)]⟩,(by omega)⟩
       .
        exact at_ (k+1) ⟨⟨by omega,by rw[<-h2,hst,if_neg (by omega),if_neg (by omega)]⟩,(by omega)⟩
    .
     refine cs 37 J J J (fun hg37=>?_) (fun hg37=>?_)
     .
      refine cs 41 J J J (fun hg41=>?_) (fun hg41=>?_)
      .
       exact rz J (by first|(rw[<-h2,gQ];rfl)|(rw[<-h2,hst,if_pos (by omega)];rfl)|(rw[<-h2,hst,if_neg (by omega),if_pos (by omega)];rfl))
      .
       refine cs 44 J J J (fun hg44=>?_) (fun hg44=>?_)
       .
        refine br J J J (fun hc48=>?_) (fun hc48=>?_)
        .
         exact rz J (by first|(rw[<-h2,gQ];rfl)|(rw[<-h2,hst,if_pos (by omega)];rfl)|(rw[<-h2,hst,if_neg (by omega),if_pos (by omega)];rfl))
        .
         exact at_ (k+1) ⟨⟨by omega,by rw[<-h2,hst,if_neg (by omega),if_neg (by omega)]⟩,(by omega)⟩
       .
        exact at_ (k+1) ⟨⟨by omega,by rw[<-h2,hst,if_neg (by omega),if_neg (by omega)]⟩,(by omega)⟩
     .
      refine cs 44 J J J (fun hg44=>?_) (fun hg44=>?_)
      .
       refine br J J J (fun hc48=>?_) (fun hc48=>?_)
       .
        exact rz J (by first|(rw[<-h2,gQ];rfl)|(rw[<-h2,hst,if_pos (by omega)];rfl)|(rw[<-h2,hst,if_neg (by omega),if_pos (by omega)];rfl))
       .
        exact at_ (k+1) ⟨⟨by omega,by rw[<-h2,hst,if_neg (by omega),if_neg (by omega)]⟩,(by omega)⟩
      .
       exact at_ (k+1) ⟨⟨by omega,by rw[<-h2,hst,if_neg (by omega),if_neg (by omega)]⟩,(by omega)⟩
 .
  obtain rfl:k=l.length:=by omega
  exact rz J (by first|(rw[<-h2,gQ];rfl)|(rw[<-h2,hst,if_pos (by omega)];rfl)|(rw[<-h2,hst,if_neg (by omega),if_pos (by omega)];rfl))
def Nw{l:List ah}{t:Rat}{i:Nat}[ht:BQ t i](hb: ∀v∈l,n4 v)(hn:l.length<=100000)(hi:i<=20000:=by decide):PF GB prog 281 [.sl (l.map eV),eQ t] (vB (fD l t)):=by
 refine fn func281 J J ntmps281 J J (fun C=>?_);refine cl J (VI (l:=l) (t:=t) hb hn hi) J<|?_;exact rz J J
def Lw: ∀{l:List Rat} {i:Nat} {a b:Rat},l[i]? =some a->l[i+1]? =some b->iI (l.take (i+2))=iI (l.take (i+1))++[(a+b)/2]
 |[],i,a,b,h,_=>by simp at h
 |[_],i,a,b,h,k=>by simp at k
 |c::d::t,0,a,b,h,k=>by
  simp at h k;subst h;subst k;simp[iI]
 |c::d::t,i+1,a,b,h,k=>by
  have:=Lw (l:=d::t) (i:=i) (by simpa using h) (by simpa using k);rw[show(c::d::t).take (i+1+2)=c::d::t.take (i+1) by simp,show(c::d::t).take (i+1+1)=c::d::t.take i by simp,iI,iI,iV];congr 1
def F1: ∀l:List Rat,(iI l).length<=l.length
 |[]=>aN _
 |[_]=>bJ _
 |a::b::t=>by rw[iI,bZ,bZ];exact Nat.succ_le_succ (F1 (b::t))
def auz{a:Rat}{t:List Rat}{z:Rat}(h:(a::t)[t.length]? =some z):ey (a::t)=(a-1)::(iI (a::t)++[z+1]):=by
 rw[ey];have:(a::t).getLast (by simp)=z:=by
  rw[List.getLast_eq_getElem];have:=aS.1 h;obtain⟨h1,h2⟩:=this;rw[<-h2];congr 1
 rw[this]
def ay3{cuts:List Rat}(hb: ∀q∈cuts,BQ q 1200)(hn:cuts.length<=100000):PF GB prog 280 [.sl (cuts.map eQ)] (.sl ((ey cuts).map eQ)):=by
 have hm:=gr eQ cuts;refine fn (fu:=⟨10⟩) func280 J J ntmps280 J J (fun C=>?_);refine aj 6 (.d (vI (cuts.length:Nat))) J (by rw[hm]<;>rfl) ?_;refine gx J<|?_;refine br J J J (fun hc7=>?_) (fun hc7=>?_)
 .
  obtain rfl:cuts=[]:=bS (by omega);refine rf J J<|?_;exact rz J (by rw[ey];show DV.sl [_]=DV.sl [_];rw[Le])
 .
  obtain⟨a,ct,rfl⟩: ∃a t,cuts=a::t:=by cases cuts with|nil=>exact absurd rfl hc7|cons a t=>exact⟨a,t,rfl⟩
  haveI hab:=hb a aQ;have hcl:ct.length+1<=100000:=hn;refine ix _ J J J<|cl J (lc (n:=1) (by decide) (by decide)) J<|cl (fu:=⟨0⟩) J (tD (a:=a) (b:=((1:Int):Rat))) J<|?_;refine aj 14 (.d (eQ (a-1))) J J ?_;refine gx J<|ro J J<|?_;refine lp (fu:=⟨6⟩) (X:=Nat) (fun i=>[(4, .d (vI ((i+1:Nat):Int))),(3, .rw 15)]) (fun i=>[(15,some (.b 48 3 (((a-1)::iI ((a::ct).take (i+1))).map eQ) true))]) (fun i=>i<=ct.length) (fun i=>ct.length-i) 0 J (bJ _) (fun _=>J) (fun i hk=>?_);have hm2:=gr eQ (a::ct);have hml:=F1 (a::ct.take i);rw[bZ,cR] at hml;have hml2:=F1 (a::ct);rw[bZ] at hml2;refine aj 18 (.d (vI ((ct.length+1:Nat):Int))) J (by rw[hm2]<;>rfl) ?_;refine gx J<|?_;refine br (fu2:=⟨11⟩) J J J (fun hc19=>?_) (fun hc19=>?_)
  .
   obtain⟨u,hu⟩: ∃s,(a::ct)[i]? =some s:=⟨_,aZ (by simp;omega)⟩;obtain⟨w,hw⟩: ∃s,(a::ct)[i+1]? =some s:=⟨_,aZ (by simp;omega)⟩;haveI:=hb u (aL hu);haveI:=hb w (aL hw);refine ix _ J (by rw[show((((i+1:Nat):Int))-1).toNat=i by omega,cV,hu];rfl) J<|ix _ J (by rw[aM,cV,hw];rfl) J<|?_;refine cl J (Ii (a:=u) (b:=w)) J<|rf J J<|ap (hv:=by simp only[ac];exact⟨by kernel_rfl,by omega⟩) (((a-1)::iI ((a::ct).take (i+1+1))).map eQ) J (by rw[Lw hu hw,<-iV,bR];rfl) (i8 [(u+w)/2]) J<|?_;refine iv 34 15 J ?_;exact at_ (i+1) ⟨(by omega),(by omega)⟩
  .
   obtain rfl:i=ct.length:=by omega
   obtain⟨z,hz⟩: ∃s,(a::ct)[ct.length]? =some s:=⟨_,aZ (by simp)⟩;haveI:=hb z (aL hz);rw[show(a::ct).take (ct.length+1)=a::ct from dZ (l:=a::ct)];refine aj 38 (.d (vI ((ct.length+1:Nat):Int))) J (by rw[hm2]<;>rfl) ?_;refine gx J<|ix _ J (by rw[show((((ct.length+1:Nat):Int))-1).toNat=ct.length by omega,cV,hz];rfl) J<|cl J (lc (n:=1) (by decide) (by decide)) J<|?_;refine cl J (oD (a:=z) (b:=((1:Int):Rat))) J<|rf J J<|ap ((ey (a::ct)).map eQ) J (by rw[auz hz,<-iV,bR];rfl) (i8 [z+1]) J<|?_;refine i9 45 J ?_;exact rz J J
def Lv(o:List Rat)(s:ah):(lg o s).length<=o.length+2:=by
 unfold lg;have h:=fun(x:Rat) (l:List Rat)=>zJ (x:=x) (l:=l)▸A' bm x l;have h1:=h s.lo o;have h2:=h s.hi o;have h3:=h s.hi (mv s.lo o);split<;>split<;>omega
def qi(l:List ah)(k:Nat):List Rat:=gH (l.take k)
def Qf{l:List ah}{k:Nat}{v:ah}(h:l[k]? =some v):qi l (k+1)=lg (qi l k) v:=by
 unfold qi gH;rw[jV,h,pY];rfl
def CC(l:List ah): ∀k,(qi l k).length<=2*k
 |0=>aN _
 |k+1=>by
  cases h:l[k]? with
  |none=>
   have:=CC l k;unfold qi at*;rw[jV,h];simp;omega
  |some v=>rw[Qf h];have:=CC l k;have:=Lv (qi l k) v;omega
theorem J9{l:List ah}(hb: ∀v∈l,n4 v){k:Nat}: ∀y∈qi l k,BQ y 1200:=fun y hy=>by
 obtain⟨s,hs,h⟩:=(ES _).2 y hy;have:=hb s (fK hs);rcases h with⟨_,rfl⟩|⟨_,rfl⟩
 ·exact this.lo
 ·exact this.hi
def rF(o:List Rat)(v:ah)(j:Nat):List Rat:=if j=0 then o else if j=1 then(if v.nl then o else mv v.lo o) else lg o v
def AP(v:ah)(j:Nat):Rat:=if j=0 then v.lo else v.hi
def qE(v:ah)(j:Nat):Bool:=if j=0 then v.nl else v.nh
def uu{o:List Rat}{v:ah}{j:Nat}(hj:j<2):rF o v (j+1)=if qE v j then rF o v j else fk bm (AP v j) (rF o v j):=by
 have:j=0\/j=1:=by omega
 rcases this with rfl|rfl
 ·simp[rF,qE,AP,zJ]
 ·simp[rF,qE,AP,lg,zJ]
def ZI{o:List Rat}{v:ah}{j:Nat}(hj:j<=2):(rF o v j).length<=o.length+2:=by
 unfold rF;have:=Lv o v;have h:=zJ (x:=v.lo) (l:=o)▸A' bm v.lo o;split
 ·omega
 ·split
  ·split<;>omega
  ·exact this
theorem Zy{o:List Rat}(ho: ∀q∈o,BQ q 1200){v:ah}(hv:n4 v){j:Nat}(hj:j<=2): ∀q∈rF o v j,BQ q 1200:=fun q hq=>by
 unfold rF lg at hq;have lo:=hv.lo;have hi:=hv.hi;split at hq
 ·exact ho q hq
 ·split at hq
  ·split at hq
   ·exact ho q hq
   ·rcases qj.1 hq with rfl|hq
    ·exact lo
    ·exact ho q hq
  ·split at hq
   ·split at hq
    ·exact ho q hq
    ·rcases qj.1 hq with rfl|hq
     ·exact lo
     ·exact ho q hq
   ·rcases qj.1 hq with rfl|hq
    ·exact hi
    ·split at hq
     ·exact ho q hq
     ·rcases qj.1 hq with rfl|hq
      ·exact lo
      ·exact ho q hq
def VQ{l:List ah}(hb: ∀v∈l,n4 v)(hn:l.length<=10000):PF GB prog 279 [.sl (l.map eV)] (.sl ((gH l).map eQ)):=by
 have hm:=gr eV l;refine fn (fu:=⟨15⟩) func279 J J ntmps279 J J (fun C=>?_);refine aj 10 (.d (vI (l.length:Nat))) J (by rw[hm]<;>rfl) ?_;refine gx J<|?_;refine Bj 3 J ?_;refine lp (X:=List Rat×Nat) (fun⟨o,k⟩=>[(11, .d (vI (k:Nat))),(3, .d (.sl (o.map eQ)))]) (fun⟨o,k⟩=>[]) (fun⟨o,k⟩=>o=qi l k/\k<=l.length) (fun⟨o,k⟩=>l.length-k) ([],0) J ⟨J,bJ _⟩ (fun _=>J) (fun⟨o,k⟩ hk=>?_);dsimp only at hk⊢;obtain⟨h1,h2⟩:=hk;refine br J J J (fun hc12=>?_) (fun hc12=>?_)
 .
  obtain⟨v,hz⟩: ∃s,l[k]? =some s:=⟨_,aZ (by omega)⟩;have hv:=hb v (aL hz);haveI:=hv.lo;haveI:=hv.hi;have hob:=J9 hb (k:=k);have hol:=CC l k;rw[<-h1] at hob hol;refine ix _ J (fe hz) J<|rf J J<|?_;refine lp (X:=List Rat×Nat) (fun⟨xs,j⟩=>[(21, .d (vI (j:Nat))),(3, .d (.sl (xs.map eQ)))]) (fun⟨xs,j⟩=>[]) (fun⟨xs,j⟩=>xs=rF o v j/\j<=2) (fun⟨xs,j⟩=>2-j) (o,0) J ⟨J,by omega⟩ (fun _=>J) (fun⟨xs,j⟩ hk=>?_);dsimp only at hk⊢;obtain⟨g1,g2⟩:=hk;refine br J J J (fun hc22=>?_) (fun hc22=>?_)
  .
   have hj2:j<2:=by have:=hc22;simp only[bZ,fX] at this;omega
   obtain⟨m,hm2⟩: ∃m,m=AP v j:=⟨_,rfl⟩;haveI hmb:BQ m 1200:=by rw[hm2];unfold AP;split;exact hv.lo;exact hv.hi
   have hxl:=gr eQ xs;have hxn:xs.length<=2*k+2:=by rw[g1];have:=ZI (o:=o) (v:=v) (j:=j) g2;omega
   have hxb: ∀q∈xs,BQ q 1200:=by rw[g1];exact Zy hob hv g2
   refine ix (fu:=⟨10⟩) _ rfl (by rw[aM];exact(show([v.lo,v.hi].map eQ)[j]? =some (eQ m) by rw[hm2];have:j=0\/j=1:=(by omega);rcases this with rfl|rfl<;>rfl)) rfl<|?_;rcases(show j=0\/j=1 by omega) with rfl|rfl
   .
    refine dm J J J<|?_;refine jy (fu2:=⟨1⟩) 32 J J J (fun hg32=>?_) (fun hg32=>?_)
    .
     exact at_ (xs,0+1) (by dsimp only;exact⟨⟨by rw[uu (by decide),if_pos (by simpa[qE] using hg32),<-g1],by omega⟩,(by omega)⟩)
    .
     refine cO (fu:=⟨16⟩) J J J<|?_;refine mg (fu:=⟨5⟩) (X:=Nat) (fun n=>[(8, .d (vI (n:Nat)))]) (fun n=>[]) (fun n=>jG bm m xs=n) [8] [] rfl ?_ (fun _=>J) (fun n hnx=>?_)
     .
      refine gx J<|?_;refine lp (fu:=⟨6⟩) (X:=Nat) (fun n=>[(8, .d (vI (n:Nat)))]) (fun n=>[]) (fun n=>n<=xs.length/\ ∀j (h:j<xs.length),j<n->bm xs[j] m<0) (fun n=>xs.length-n) 0 J ⟨bJ _,fun j _ hj=>absurd hj (by omega)⟩ (fun _=>J) (fun n hk=>?_);obtain⟨n1,n2⟩:=hk;refine kG (v2:=fun hg43=>by simp only[ac];kernel_rfl) J J J J (fun hg43=>?_) (fun hg43=>?_)
      .
       refine ix _ J (rP (by omega)) J<|cl J (lu (a:=xs[n]'(by omega)) (b:=m) (ha:=hxb _ (cJ (by omega))) (hb:=hmb)) J<|?_;refine br J J J (fun hc52=>?_) (fun hc52=>?_)
       .
        exact at_ (n+1) ⟨⟨by omega,fun j h hj=>by by_cases q:j=n;(subst q;exact hc52);exact n2 j h (by omega)⟩,(by omega)⟩
       .
        exact at_ n (uk bm n1 n2 (fun h=>hc52))
      .
       exact at_ n (uk bm n1 n2 (fun h=>absurd h (by omega)))
     .
      have hnl:n<=xs.length:=by rw[<-hnx];exact Cv _ _ _
      refine kG (v1:=fun hg58=>by simp only[ac];kernel_rfl) J J J J (fun hg58=>?_) (fun hg58=>?_)
      .
       have hnew: ∀h:n<xs.length,bm xs[n] m≠0:=fun h=>absurd h (by omega);obtain⟨ys,hys⟩: ∃ys,ys=xs.take n++m::xs.drop n:=⟨_,rfl⟩;have hin:fk bm m xs=ys:=by rw[hys];exact tO bm hnx hnew
       have hyl:ys.length<=xs.length+1:=by rw[hys];simp;omega
       refine s3 n _ J J J J (i8 _) (by rw[hxl];exact hnl) J<|ro J J<|mz n xs.length _ J J (by rw[hxl]) J (i8 _) hnl (by omega) J<|?_;refine ap _ J J (sI i8 _ _ _) J<|mp (hv:=by simp only[ac];exact⟨by kernel_rfl,by omega⟩) (ho:=fun _=>⟨vw i8 _ _,by simp⟩) (ys.map eQ) J (by rw[hys,bR,bT,gN,jQ,aT (l:=xs.map eQ) (i:=xs.length) (by simp)];rfl) (ue i8 _ _ _ _) J<|?_;exact at_ (ys,0+1) (by dsimp only;exact⟨⟨by rw[uu (by decide),if_neg (by simpa[qE] using hg32),<-g1,<-hm2,hin],by omega⟩,(by omega)⟩)
      .
       refine ix _ J (rP (by omega)) J<|cl J (lu (a:=xs[n]'(by omega)) (b:=m) (ha:=hxb _ (cJ (by omega))) (hb:=hmb)) J<|?_;refine br (fu2:=⟨7⟩) J J J (fun hc67=>?_) (fun hc67=>?_)
       .
        have hnew: ∀h:n<xs.length,bm xs[n] m≠0:=fun h=>hc67;obtain⟨ys,hys⟩: ∃ys,ys=xs.take n++m::xs.drop n:=⟨_,rfl⟩;have hin:fk bm m xs=ys:=by rw[hys];exact tO bm hnx hnew
        have hyl:ys.length<=xs.length+1:=by rw[hys];simp;omega
        refine s3 n _ J J J J (i8 _) (by rw[hxl];exact hnl) J<|ro J J<|mz n xs.length _ J J (by rw[hxl]) J (i8 _) hnl (by omega) J<|?_;refine ap _ J J (sI i8 _ _ _) J<|mp (hv:=by simp only[ac];exact⟨by kernel_rfl,by omega⟩) (ho:=fun _=>⟨vw i8 _ _,by simp⟩) (ys.map eQ) J (by rw[hys,bR,bT,gN,jQ,aT (l:=xs.map eQ) (i:=xs.length) (by simp)];rfl) (ue i8 _ _ _ _) J<|?_;exact at_ (ys,0+1) (by dsimp only;exact⟨⟨by rw[uu (by decide),if_neg (by simpa[qE] using hg32),<-g1,<-hm2,hin],by omega⟩,(by omega)⟩)
       .
        have hin:fk bm m xs=xs:=zg bm hnx (by omega) (Decidable.not_not.1 hc67);exact at_ (xs,0+1) (by dsimp only;exact⟨⟨by rw[uu (by decide),if_neg (by simpa[qE] using hg32),<-g1,<-hm2,hin],by omega⟩,(by omega)⟩)
   .
    refine cO (fu:=⟨6⟩) J J J<|dm J J J<|?_;refine bb (fu2:=⟨8⟩) J J J (fun hc39=>?_) (fun hc39=>?_)
    .
     exact at_ (xs,1+1) (by dsimp only;exact⟨⟨by rw[uu (by decide),if_pos (by simpa[qE] using hc39),<-g1],by omega⟩,(by omega)⟩)
    .
     refine mg (fu:=⟨5⟩) (X:=Nat) (fun n=>[(8, .d (vI (n:Nat)))]) (fun n=>[]) (fun n=>jG bm m xs=n) [8] [] rfl ?_ (fun _=>J) (fun n hnx=>?_)
     .
      refine gx J<|?_;refine lp (fu:=⟨6⟩) (X:=Nat) (fun n=>[(8, .d (vI (n:Nat)))]) (fun n=>[]) (fun n=>n<=xs.length/\ ∀j (h:j<xs.length),j<n->bm xs[j] m<0) (fun n=>xs.length-n) 0 J ⟨bJ _,fun j _ hj=>absurd hj (by omega)⟩ (fun _=>J) (fun n hk=>?_);obtain⟨n1,n2⟩:=hk;refine kG (v2:=fun hg43=>by simp only[ac];kernel_rfl) J J J J (fun hg43=>?_) (fun hg43=>?_)
      .
       refine ix _ J (rP (by omega)) J<|cl J (lu (a:=xs[n]'(by omega)) (b:=m) (ha:=hxb _ (cJ (by omega))) (hb:=hmb)) J<|?_;refine br J J J (fun hc52=>?_) (fun hc52=>?_)
       .
        exact at_ (n+1) ⟨⟨by omega,fun j h hj=>by by_cases q:j=n;(subst q;exact hc52);exact n2 j h (by omega)⟩,(by omega)⟩
       .
        exact at_ n (uk bm n1 n2 (fun h=>hc52))
      .
       exact at_ n (uk bm n1 n2 (fun h=>absurd h (by omega)))
     .
      have hnl:n<=xs.length:=by rw[<-hnx];exact Cv _ _ _
      refine kG (v1:=fun hg58=>by simp only[ac];kernel_rfl) J J J J (fun hg58=>?_) (fun hg58=>?_)
      .
       have hnew: ∀h:n<xs.length,bm xs[n] m≠0:=fun h=>absurd h (by omega);obtain⟨ys,hys⟩: ∃ys,ys=xs.take n++m::xs.drop n:=⟨_,rfl⟩;have hin:fk bm m xs=ys:=by rw[hys];exact tO bm hnx hnew
       have hyl:ys.length<=xs.length+1:=by rw[hys];simp;omega
       refine s3 n _ J J J J (i8 _) (by rw[hxl];exact hnl) J<|ro J J<|mz n xs.length _ J J (by rw[hxl]) J (i8 _) hnl (by omega) J<|?_;refine ap _ J J (sI i8 _ _ _) J<|mp (hv:=by simp only[ac];exact⟨by kernel_rfl,by omega⟩) (ho:=fun _=>⟨vw i8 _ _,by simp⟩) (ys.map eQ) J (by rw[hys,bR,bT,gN,jQ,aT (l:=xs.map eQ) (i:=xs.length) (by simp)];rfl) (ue i8 _ _ _ _) J<|?_;exact at_ (ys,1+1) (by dsimp only;exact⟨⟨by rw[uu (by decide),if_neg (by simpa[qE] using hc39),<-g1,<-hm2,hin],by omega⟩,(by omega)⟩)
      .
       refine ix _ J (rP (by omega)) J<|cl J (lu (a:=xs[n]'(by omega)) (b:=m) (ha:=hxb _ (cJ (by omega))) (hb:=hmb)) J<|?_;refine br J J J (fun hc67=>?_) (fun hc67=>?_)
       .
        have hnew: ∀h:n<xs.length,bm xs[n] m≠0:=fun h=>hc67;obtain⟨ys,hys⟩: ∃ys,ys=xs.take n++m::xs.drop n:=⟨_,rfl⟩;have hin:fk bm m xs=ys:=by rw[hys];exact tO bm hnx hnew
        have hyl:ys.length<=xs.length+1:=by rw[hys];simp;omega
        refine s3 n _ J J J J (i8 _) (by rw[hxl];exact hnl) J<|ro J J<|mz n xs.length _ J J (by rw[hxl]) J (i8 _) hnl (by omega) J<|?_;refine ap _ J J (sI i8 _ _ _) J<|mp (hv:=by simp only[ac];exact⟨by kernel_rfl,by omega⟩) (ho:=fun _=>⟨vw i8 _ _,by simp⟩) (ys.map eQ) J (by rw[hys,bR,bT,gN,jQ,aT (l:=xs.map eQ) (i:=xs.length) (by simp)];rfl) (ue i8 _ _ _ _) J<|?_;exact at_ (ys,1+1) (by dsimp only;exact⟨⟨by rw[uu (by decide),if_neg (by simpa[qE] using hc39),<-g1,<-hm2,hin],by omega⟩,(by omega)⟩)
       .
        have hin:fk bm m xs=xs:=zg bm hnx (by omega) (Decidable.not_not.1 hc67);exact at_ (xs,1+1) (by dsimp only;exact⟨⟨by rw[uu (by decide),if_neg (by simpa[qE] using hc39),<-g1,<-hm2,hin],by omega⟩,(by omega)⟩)
  .
   have hj2: ¬j<2:=by have:=hc22;simp only[bZ,fX] at this;omega
   exact at_ (xs,k+1) (by dsimp only;exact⟨⟨by rw[Qf hz,<-h1,g1,show j=2 by omega];rfl,by omega⟩,(by omega)⟩)
 .
  have hfin:gH l=o:=by rw[h1,show k=l.length by omega];unfold qi;rw[dZ]
  exact rz J (by rw[hfin];rfl)
def S2(t:Rat):eV ⟨t,0,false,true⟩= .ag [.v (.bool (decide (t.num<0))),dN t.num.natAbs,dD t.den, .v (.bool false), .sl [], .sl [], .v (.bool false), .v (.bool true)]:=by
 unfold eV dD;simp only[show(0:Rat).num=0 from J,show(0:Rat).den=1 from J,kL,oE];rfl
def T8(t:Rat):eV ⟨0,t,true,false⟩= .ag [.v (.bool false), .sl [], .sl [], .v (.bool (decide (t.num<0))),dN t.num.natAbs,dD t.den, .v (.bool true), .v (.bool false)]:=by
 unfold eV dD;simp only[show(0:Rat).num=0 from J,show(0:Rat).den=1 from J,kL,oE];rfl
def AU(l m:aa)(side:Int):DV:= .tp [.sl ((iD l m side).map eV),vB (lh l m)]
def Px{l m:aa}(h:crossI l m≠0):lh l m=false:=by unfold lh;rw[decide_eq_false];exact fun e=>h e.1
def RW{l m:aa}(h:crossI l m=0):lh l m=decide ((m.value l.base).num.sign=0):=by unfold lh;simp[h]
def Na{l m:aa}{side:Int}[hl:LB l][hm:LB m](hlo:l.ok)(hmo:m.ok)(hs:side=1\/side= -1):PF GB prog 238 [eL l,eL m,vI side] (AU l m side):=by
 refine fn func238 J J ntmps238 J J (fun C=>?_);refine cl J (QF (l:=l) (m:=m)) J<|?_;refine bb J J J (fun hc19=>?_) (fun hc19=>?_)
 .
  have hc:crossI l m=0:=by simpa using hc19
  refine cl J (HJ hlo.ne) J<|cl J (CE (l:=m) (p:=l.base)) J<|?_;refine br J J J (fun hc26=>?_) (fun hc26=>?_)
  .
   refine cl J Qo J<|rf J J<|?_;exact rz J (by unfold AU iD;rw[if_pos hc,if_pos hc26,RW hc];rfl)
  .
   exact rz J (by unfold AU iD;rw[if_pos hc,if_neg hc26,RW hc];rfl)
 .
  have hc:crossI l m≠0:=by simpa using hc19
  haveI hpb:=Dr (l:=l) (m:=m) hlo.ne hc;obtain⟨t,ht⟩: ∃t,t=gw l (dH l m):=⟨_,rfl⟩;refine cl (fu:=⟨0⟩) J (D3 (l:=l) (p:=dH l m) hlo.ne) J<|?_;refine aj 35 (.d (eQ t)) J (by rw[ht]) ?_;rw[<-ht] at hpb;refine gx J<|cl J (lc (n:=1) (by decide) (by decide)) J<|cl J (oD (a:=t) (b:=((1:Int):Rat))) J<|cl J (JV (l:=l) (t:=t+((1:Int):Rat)) hlo.ne) J<|?_;refine cl J (CE (l:=m) (p:=l.at (t+((1:Int):Rat)))) J<|?_;refine br J J J (fun hc44=>?_) (fun hc44=>?_)
  .
   refine rf J J<|?_;exact rz J (by unfold AU iD;rw[if_neg hc,<-ht,if_pos (show(m.value (l.at (t+1))).num.sign=side from hc44),Px hc,bT,S2];rfl)
  .
   refine rf J J<|?_;exact rz J (by unfold AU iD;rw[if_neg hc,<-ht,if_neg (show¬(m.value (l.at (t+1))).num.sign=side from hc44),Px hc,bT,T8];rfl)
def e8(f:bj):DV:= .ag [.v (.bool (decide (f.l.a<0))),dN f.l.a.natAbs, .v (.bool (decide (f.l.b<0))),dN f.l.b.natAbs, .v (.bool (decide (f.l.c<0))),dN f.l.c.natAbs, .v (.bool (decide (f.v.lo.num<0))),dN f.v.lo.num.natAbs,dD f.v.lo.den, .v (.bool (decide (f.v.hi.num<0))),dN f.v.hi.num.natAbs,dD f.v.hi.den, .v (.bool f.v.nl), .v (.bool f.v.nh)]
def xt(fs:List bj):cI 14 (fs.map e8):=fun d hd=>by
 obtain⟨u,_,rfl⟩:=bV.1 hd;exact⟨rfl,rfl⟩
theorem Ax{p:ZP}(h:ZP.le 100 p):aO p.q 12:=by
 haveI:BI p.1 11:=je (by have:=h.1;omega) (by decide);haveI:BI p.2 11:=je (by have:=h.2;omega) (by decide);exact(inferInstance:aO (iP p.1 p.2) 12)
def UO{v w:ZP}(hv:ZP.le 100 v)(hw:ZP.le 100 w)(h:v≠w):PF GB prog 175 [eP v.q,eP w.q] (.tp [e8 (kr v w),vB true]):=by
 have hne: ¬(w.1=v.1/\w.2=v.2):=fun e=>h (Prod.ext e.1.symm e.2.symm);obtain⟨hlb,hlo⟩:=Qs (m:=v.1) (n:=v.2) (p:=w.1) (q:=w.2) (by have:=hv.1;omega) (by have:=hv.2;omega) (by have:=hw.1;omega) (by have:=hw.2;omega) hne;haveI:=hlb;haveI:=Ax hv;haveI:=Ax hw;refine fn func175 J J ntmps175 J J (fun C=>?_);refine cl (fu:=⟨3⟩) J (YG (m:=v.1) (n:=v.2) (m':=w.1) (n':=w.2) (by have:=hv.1;omega) (by have:=hv.2;omega) (by have:=hw.1;omega) (by have:=hw.2;omega) (fun e=>hne ⟨e.1.symm,e.2.symm⟩)) J<|?_;refine pi 13 J ?_;refine gx J<|cl J (D3 (l:=mh v.1 v.2 w.1 w.2) (p:=v.q) hlo.ne) J<|cl J (D3 (l:=mh v.1 v.2 w.1 w.2) (p:=w.q) hlo.ne) J<|?_;exact rz J J
def T9(a b:Bool):eV ⟨0,0,a,b⟩= .ag [.v (.bool false), .sl [], .sl [], .v (.bool false), .sl [], .sl [], .v (.bool a), .v (.bool b)]:=by
 unfold eV dD;simp only[show(0:Rat).num=0 from J,show(0:Rat).den=1 from J,kL,oE];rfl
def OD(t:Rat)(a b:Bool):eV ⟨t,0,a,b⟩= .ag [.v (.bool (decide (t.num<0))),dN t.num.natAbs,dD t.den, .v (.bool false), .sl [], .sl [], .v (.bool a), .v (.bool b)]:=by
 unfold eV dD;simp only[show(0:Rat).num=0 from J,show(0:Rat).den=1 from J,kL,oE];rfl
def SS(t:Rat)(a b:Bool):eV ⟨0,t,a,b⟩= .ag [.v (.bool false), .sl [], .sl [], .v (.bool (decide (t.num<0))),dN t.num.natAbs,dD t.den, .v (.bool a), .v (.bool b)]:=by
 unfold eV dD;simp only[show(0:Rat).num=0 from J,show(0:Rat).den=1 from J,kL,oE];rfl
def V4{cuts:List Rat}{i:Nat}(h:i=0)(k: ¬i<cuts.length):dl cuts i=⟨0,0,decide (i=0),decide (i=cuts.length)⟩:=by unfold dl;rw[if_pos h,if_neg k]
def Y5{cuts:List Rat}{i:Nat}{y:Rat}(h:i=0)(k:cuts[i]? =some y):dl cuts i=⟨0,y,decide (i=0),decide (i=cuts.length)⟩:=by
 unfold dl;rw[if_pos h,if_pos (aS.1 k).1,aX,k];rfl
def WV{cuts:List Rat}{i:Nat}{x:Rat}(h: ¬i=0)(k:cuts[i-1]? =some x)(k2: ¬i<cuts.length):dl cuts i=⟨x,0,decide (i=0),decide (i=cuts.length)⟩:=by
 unfold dl;rw[if_neg h,if_neg k2,aX,k];rfl
def X'{cuts:List Rat}{i:Nat}{x y:Rat}(h: ¬i=0)(k:cuts[i-1]? =some x)(k2:cuts[i]? =some y):dl cuts i=⟨x,y,decide (i=0),decide (i=cuts.length)⟩:=by
 unfold dl;rw[if_neg h,if_pos (aS.1 k2).1,aX,k,aX,k2];rfl
def Wl{cuts:List Rat}{marks:List Bool}{k:Nat}(h:marks[k]? =some false):fH cuts marks (k+1)=fH cuts marks k:=by
 rw[fH,aX,h];rfl
def Dl{cuts:List Rat}{marks:List Bool}{k:Nat}(h:marks[k]? =some true)(hp: ¬(0<k/\marks[k-1]? =some true)):fH cuts marks (k+1)=fH cuts marks k++[dl cuts k]:=by
 rw[fH,aX,h];show(if 0<k/\_ then _ else _)=_;rw[if_neg];rintro ⟨h1,h2⟩;rw[aX] at h2
 cases e:marks[k-1]? with
 |none=>rw[e] at h2;cases h2
 |some b=>rw[e] at h2;exact hp ⟨h1,by rw[e];simp at h2;rw[h2]⟩
def Kr{cuts:List Rat}{marks:List Bool}{k:Nat}(h:marks[k]? =some true):fH cuts marks (k+1)≠[]:=by
 rw[fH,aX,h];show(if 0<k/\_ then _ else _)≠[];split
 ·split<;>simp
 ·simp
def Pf{cuts:List Rat}{marks:List Bool}{k:Nat}{xs:List ah}{v:ah}(hk:0<k)(h:marks[k]? =some true)(hp:marks[k-1]? =some true)(hx:fH cuts marks k=xs)(hv:xs[xs.length-1]? =some v):fH cuts marks (k+1)=xs.set (xs.length-1) (uv v (dl cuts k)):=by
 rw[fH,aX,h];show(if 0<k/\_ then _ else _)=_;rw[if_pos ⟨hk,by rw[aX,hp];rfl⟩,hx,lW,hv];have hn:0<xs.length:=by
  have:=(aS.1 hv).1;omega
 show xs.dropLast++[_]=_;apply lZ;intro i;rw[mJ];by_cases hi:i<xs.length-1
 ·rw[dR (by rw[iK];exact hi),rS,if_pos hi,if_neg (by omega)]
 ·by_cases hi2:i=xs.length-1
  ·subst hi2
   rw[gU (by rw[iK];exact aN _),iK,pM,if_pos J,if_pos (by omega)];rfl
  ·rw[dX (by rw[aV,iK];simp;omega),if_neg (by omega),dX (by omega)]
def yx{α:Type}{f:α->DV}{l:List α}{k:Nat}{x:α}(hk:0<k)(h:l[k-1]? =some x):(l.map f)[(((k:Nat):Int)-1).toNat]? =some (f x):=by
 rw[show(((k:Nat):Int)-1).toNat=k-1 by omega,cV,h];rfl
def ri{k n:Nat}:decide (k=n)=decide (((k:Nat):Int)=((n:Nat):Int)):=decide_eq_decide.2 (by omega)
def aJL(v w:ah):ah:=⟨v.lo,w.hi,v.nl,v.nh⟩
def Vp{cuts:List Rat}{marks:List Bool}(hn:cuts.length<=100000)(hmk:marks.length<=cuts.length+1):PF GB prog 282 [.sl (cuts.map eQ), .sl (marks.map vB)] (.sl ((vy cuts marks).map eV)):=by
 have hm:=gr vB marks;have hmc:=gr eQ cuts;refine fn (fu:=⟨15⟩) func282 J J ntmps282 J J (fun C=>?_);refine aj 11 (.d (vI (marks.length:Nat))) J (by rw[hm]<;>rfl) ?_;refine gx J<|?_;refine nr 5 5 223 8 J J J ?_;refine lp (X:=List ah×Nat) (fun⟨xs,k⟩=>[(12, .d (vI (k:Nat))),(5, .rw 5)]) (fun⟨xs,k⟩=>[(5,some (.b 223 8 (xs.map eV) true))]) (fun⟨xs,k⟩=>xs=fH cuts marks k/\k<=marks.length) (fun⟨xs,k⟩=>marks.length-k) ([],0) J ⟨J,bJ _⟩ (fun _=>J) (fun⟨xs,k⟩ hk=>?_);dsimp only at hk⊢;obtain⟨h1,h2⟩:=hk;have hml:=gr eV xs;have hxl:xs.length<=k:=by rw[h1];exact FY
 refine br J J J (fun hc13=>?_) (fun hc13=>?_)
 .
  obtain⟨b,hz⟩: ∃s,marks[k]? =some s:=⟨_,aZ (by omega)⟩;refine ix (fu:=⟨8⟩) _ J (fe hz) J<|?_
  cases b
  .
   refine cO (fu:=⟨12⟩) J J J<|?_;exact at_ (xs,k+1) (by dsimp only;exact⟨⟨by rw[Wl hz,<-h1],by omega⟩,(by omega)⟩)
  .
   refine dm (fu:=⟨13⟩) J J J<|?_;rcases(show(k=0/\k<cuts.length)\/(k=0/\ ¬k<cuts.length)\/(0<k/\k<cuts.length)\/(0<k/\ ¬k<cuts.length) by omega) with⟨c1,c2⟩|⟨c1,c2⟩|⟨c1,c2⟩|⟨c1,c2⟩
   .
    obtain⟨y,hy⟩: ∃s,cuts[k]? =some s:=⟨_,aZ (by omega)⟩;have hgap:=Y5 (cuts:=cuts) (i:=k) c1 hy;have hnp: ¬(0<k/\marks[k-1]? =some true):=fun e=>by omega
    refine aj 23 (.d (vI (cuts.length:Nat))) J (by rw[hmc]<;>rfl) ?_;refine gx (fu:=⟨10⟩) J<|cO (fu:=⟨11⟩) J (by show some (decide _)=some false;rw[decide_eq_false (by omega)]) J<|?_;refine aj 36 (.d (vI (cuts.length:Nat))) J (by rw[hmc]<;>rfl) ?_;refine gx (fu:=⟨0⟩) J<|dm J (by show some (decide _)=some true;rw[decide_eq_true (by omega)]) J<|ix (fu:=⟨10⟩) _ J (fe hy) J<|?_;refine aj 44 (.d (vI (xs.length:Nat))) J (by rw[hml]<;>rfl) ?_;refine gx (fu:=⟨6⟩) J<|cO (fu:=⟨19⟩) J (by show some (decide _)=some false;rw[decide_eq_false (by omega)]) J<|?_;refine aj 73 (.d (eV (dl cuts k))) J (by rw[hgap,SS,ri (k:=k) (n:=0),ri (k:=k) (n:=cuts.length)]<;>rfl) ?_;refine gx J<|rf J J<|ap (fu:=⟨12⟩) ((xs++[dl cuts k]).map eV) J (by rw[bR];rfl) (xp [dl cuts k]) J<|?_;refine iv 75 5 J ?_;exact at_ (xs++[dl cuts k],k+1) (by dsimp only;exact⟨⟨by rw[Dl hz hnp,<-h1],by omega⟩,(by omega)⟩)
   .
    have hgap:=V4 (cuts:=cuts) (i:=k) c1 c2;have hnp: ¬(0<k/\marks[k-1]? =some true):=fun e=>by omega
    refine aj 23 (.d (vI (cuts.length:Nat))) J (by rw[hmc]<;>rfl) ?_;refine gx (fu:=⟨10⟩) J<|cO (fu:=⟨11⟩) J (by show some (decide _)=some false;rw[decide_eq_false (by omega)]) J<|?_;refine aj 36 (.d (vI (cuts.length:Nat))) J (by rw[hmc]<;>rfl) ?_;refine gx (fu:=⟨0⟩) J<|cO (fu:=⟨10⟩) J (by show some (decide _)=some false;rw[decide_eq_false (by omega)]) J<|?_;refine aj 44 (.d (vI (xs.length:Nat))) J (by rw[hml]<;>rfl) ?_;refine gx (fu:=⟨6⟩) J<|cO (fu:=⟨19⟩) J (by show some (decide _)=some false;rw[decide_eq_false (by omega)]) J<|?_;refine aj 73 (.d (eV (dl cuts k))) J (by rw[hgap,T9,ri (k:=k) (n:=0),ri (k:=k) (n:=cuts.length)]<;>rfl) ?_;refine gx J<|rf J J<|ap (fu:=⟨12⟩) ((xs++[dl cuts k]).map eV) J (by rw[bR];rfl) (xp [dl cuts k]) J<|?_;refine iv 75 5 J ?_;exact at_ (xs++[dl cuts k],k+1) (by dsimp only;exact⟨⟨by rw[Dl hz hnp,<-h1],by omega⟩,(by omega)⟩)
   .
    obtain⟨x,hx⟩: ∃s,cuts[k-1]? =some s:=⟨_,aZ (by omega)⟩;obtain⟨pb,hpb⟩: ∃s,marks[k-1]? =some s:=⟨_,aZ (by omega)⟩;obtain⟨y,hy⟩: ∃s,cuts[k]? =some s:=⟨_,aZ (by omega)⟩;have hgap:=X' (cuts:=cuts) (i:=k) (by omega) hx hy;refine aj 23 (.d (vI (cuts.length:Nat))) J (by rw[hmc]<;>rfl) ?_;refine gx (fu:=⟨10⟩) J<|dm J (by show some (decide _)=some true;rw[decide_eq_true (by omega)]) J<|ix (fu:=⟨11⟩) _ J (yx (by omega) hx) J<|?_;refine aj 36 (.d (vI (cuts.length:Nat))) J (by rw[hmc]<;>rfl) ?_;refine gx (fu:=⟨0⟩) J<|dm J (by show some (decide _)=some true;rw[decide_eq_true (by omega)]) J<|ix (fu:=⟨10⟩) _ J (fe hy) J<|?_;refine aj 44 (.d (vI (xs.length:Nat))) J (by rw[hml]<;>rfl) ?_;refine gx (fu:=⟨6⟩) J<|dm J (by show some (decide _)=some true;rw[decide_eq_true (by omega)]) J<|ix _ J (yx (by omega) hpb) J<|?_;refine jy (fu1:=⟨1⟩) (fu2:=⟨11⟩) 54 J J J (fun hg54=>?_) (fun hg54=>?_)
    .
     have hpb':marks[k-1]? =some true:=by rw[hpb];congr 1
     have hxn:0<xs.length:=by rw[h1];have:=Kr (cuts:=cuts) hpb';rw[show k-1+1=k by omega] at this;exact nM.2 this
     obtain⟨w,hw⟩: ∃s,xs[xs.length-1]? =some s:=⟨_,aZ (by omega)⟩;refine dm J (by show some (decide _)=some true;rw[decide_eq_true (by omega)]) J<|sb (eV w) ((xs.set (xs.length-1) (⟨w.lo,y,w.nl,w.nh⟩:ah)).map eV) J (yx hxn hw) J (by rw[show(((xs.length:Nat):Int)-1).toNat=xs.length-1 by omega,kU];rfl) J<|?_;refine sb (hv:=by simp only[ac];exact⟨by kernel_rfl,by omega⟩) (eV (⟨w.lo,y,w.nl,w.nh⟩:ah)) ((xs.set (xs.length-1) (uv w (dl cuts k))).map eV) J (by rw[show(((xs.length:Nat):Int)-1).toNat=xs.length-1 by omega,kU,oR (by rw[hml];omega)]) J (by rw[show(((xs.length:Nat):Int)-1).toNat=xs.length-1 by omega,kU,List.set_set,kU,hgap];unfold uv;dsimp only;rw[ri (k:=k) (n:=cuts.length)]<;>rfl) J<|?_;exact at_ (xs.set (xs.length-1) (uv w (dl cuts k)),k+1) (by dsimp only;exact⟨⟨(Pf (by omega) hz hpb' h1.symm hw).symm,by omega⟩,(by omega)⟩)
    .
     have hnp: ¬(0<k/\marks[k-1]? =some true):=fun e=>by rw[hpb,hg54] at e;simpa using e.2
     refine aj 73 (.d (eV (dl cuts k))) J (by rw[hgap];unfold eV;dsimp only;rw[ri (k:=k) (n:=0),ri (k:=k) (n:=cuts.length)]<;>rfl) ?_;refine gx J<|rf J J<|ap (fu:=⟨12⟩) ((xs++[dl cuts k]).map eV) J (by rw[bR];rfl) (xp [dl cuts k]) J<|?_;refine iv 75 5 J ?_;exact at_ (xs++[dl cuts k],k+1) (by dsimp only;exact⟨⟨by rw[Dl hz hnp,<-h1],by omega⟩,(by omega)⟩)
   .
    obtain⟨x,hx⟩: ∃s,cuts[k-1]? =some s:=⟨_,aZ (by omega)⟩;obtain⟨pb,hpb⟩: ∃s,marks[k-1]? =some s:=⟨_,aZ (by omega)⟩;have hgap:=WV (cuts:=cuts) (i:=k) (by omega) hx c2;refine aj 23 (.d (vI (cuts.length:Nat))) J (by rw[hmc]<;>rfl) ?_;refine gx (fu:=⟨10⟩) J<|dm J (by show some (decide _)=some true;rw[decide_eq_true (by omega)]) J<|ix (fu:=⟨11⟩) _ J (yx (by omega) hx) J<|?_;refine aj 36 (.d (vI (cuts.length:Nat))) J (by rw[hmc]<;>rfl) ?_;refine gx (fu:=⟨0⟩) J<|cO (fu:=⟨10⟩) J (by show some (decide _)=some false;rw[decide_eq_false (by omega)]) J<|?_;refine aj 44 (.d (vI (xs.length:Nat))) J (by rw[hml]<;>rfl) ?_;refine gx (fu:=⟨6⟩) J<|dm J (by show some (decide _)=some true;rw[decide_eq_true (by omega)]) J<|ix _ J (yx (by omega) hpb) J<|?_;refine jy (fu1:=⟨1⟩) (fu2:=⟨11⟩) 54 J J J (fun hg54=>?_) (fun hg54=>?_)
    .
     have hpb':marks[k-1]? =some true:=by rw[hpb];congr 1
     have hxn:0<xs.length:=by rw[h1];have:=Kr (cuts:=cuts) hpb';rw[show k-1+1=k by omega] at this;exact nM.2 this
     obtain⟨w,hw⟩: ∃s,xs[xs.length-1]? =some s:=⟨_,aZ (by omega)⟩;refine dm J (by show some (decide _)=some true;rw[decide_eq_true (by omega)]) J<|sb (eV w) ((xs.set (xs.length-1) (⟨w.lo,0,w.nl,w.nh⟩:ah)).map eV) J (yx hxn hw) J (by rw[show(((xs.length:Nat):Int)-1).toNat=xs.length-1 by omega,kU,OD];rfl) J<|?_;refine sb (hv:=by simp only[ac];exact⟨by kernel_rfl,by omega⟩) (eV (⟨w.lo,0,w.nl,w.nh⟩:ah)) ((xs.set (xs.length-1) (uv w (dl cuts k))).map eV) J (by rw[show(((xs.length:Nat):Int)-1).toNat=xs.length-1 by omega,kU,oR (by rw[hml];omega)]) J (by rw[show(((xs.length:Nat):Int)-1).toNat=xs.length-1 by omega,kU,List.set_set,kU,hgap];unfold uv;dsimp only;rw[ri (k:=k) (n:=cuts.length)]<;>rfl) J<|?_;exact at_ (xs.set (xs.length-1) (uv w (dl cuts k)),k+1) (by dsimp only;exact⟨⟨(Pf (by omega) hz hpb' h1.symm hw).symm,by omega⟩,(by omega)⟩)
    .
     have hnp: ¬(0<k/\marks[k-1]? =some true):=fun e=>by rw[hpb,hg54] at e;simpa using e.2
     refine aj 73 (.d (eV (dl cuts k))) J (by rw[hgap,OD,ri (k:=k) (n:=0),ri (k:=k) (n:=cuts.length)]<;>rfl) ?_;refine gx J<|rf J J<|ap ((xs++[dl cuts k]).map eV) J (by rw[bR];rfl) (xp [dl cuts k]) J<|?_;refine iv 75 5 J ?_;exact at_ (xs++[dl cuts k],k+1) (by dsimp only;exact⟨⟨by rw[Dl hz hnp,<-h1],by omega⟩,(by omega)⟩)
 .
  have hfin:vy cuts marks=xs:=by rw[h1,vy,show k=marks.length by omega]
  refine i9 5 J ?_;exact rz J (by rw[hfin];rfl)
def Ql{g:Rat}: ∀{l:List Rat},g∈iI l-> ∃a∈l,∃b∈l,g=(a+b)/2
 |[],h=>by cases h
 |[_],h=>by cases h
 |a::b::t,h=>by
  rw[iI] at h;rcases aY.1 h with rfl|h
  ·exact⟨a,aQ,b,aJ _ aQ,J⟩
  ·obtain⟨c,hc,d,hd,e⟩:=Ql h
   exact⟨c,aJ _ hc,d,aJ _ hd,e⟩
theorem Ve{l:List Rat}(h: ∀q∈l,BQ q 1200): ∀g∈ey l,BQ g 2500:=fun g hg=>by
 cases l with
 |nil=>
  rw[ey,aW] at hg;subst hg;exact BQ.mono (k:=1) ⟨by decide,by decide⟩ (by decide)
 |cons a t=>
  rw[ey] at hg;rcases aY.1 hg with rfl|hg
  ·haveI:=h a aQ
   exact BQ.mono (inferInstance:BQ (a-1) _) (by omega)
  ·rcases bW.1 hg with hg|hg
   ·obtain⟨c,hc,d,hd,rfl⟩:=Ql hg
    haveI:=h c hc;haveI:=h d hd;exact BQ.mono (inferInstance:BQ ((c+d)/2) _) (by omega)
   ·rw[aW] at hg
    haveI:=h _ (List.getLast_mem (l:=a::t) (by simp));subst hg;exact BQ.mono (inferInstance:BQ ((a::t).getLast (by simp)+1) _) (by omega)
def Ox(l:List ah):qi l l.length=gH l:=by unfold qi;rw[dZ]
theorem ayZ{l:List ah}(h: ∀v∈l,n4 v): ∀y∈gH l,BQ y 1200:=by rw[<-Ox];exact J9 h
def GX(l:List ah):(gH l).length<=2*l.length:=by rw[<-Ox];exact CC l _
def n4.app{a b:List ah}(ha: ∀v∈a,n4 v)(hb: ∀v∈b,n4 v): ∀v∈a++b,n4 v:=fun v hv=>(bW.1 hv).elim (ha v) (hb v)
def Qn{a b:List ah}(ha: ∀v∈a,n4 v)(hb: ∀v∈b,n4 v)(hna:a.length<=100)(hnb:b.length<=100):PF GB prog 239 [vI 2, .sl (a.map eV), .sl (b.map eV)] (.sl ((ow 2 a b).map eV)):=by
 obtain⟨cuts,hcu⟩: ∃c,c=gH (a++b):=⟨_,rfl⟩;have hab:=n4.app ha hb;have hcb: ∀q∈cuts,BQ q 1200:=by rw[hcu];exact ayZ hab
 have hcl:cuts.length<=2*(a.length+b.length):=by rw[hcu];have:=GX (a++b);rw[aV] at this;exact this
 have hgb:=Ve hcb;have hgl:=zI (l:=cuts);have hmp:=gr eQ (ey cuts);refine fn func239 J J ntmps239 J J (fun C=>?_);refine rH J J<|ap (a.map eV) J J (xp _) J<|mp ((a++b).map eV) J (by rw[bR]) (xp b) J<|cl (fu:=⟨0⟩) J (VQ (l:=a++b) hab (by rw[aV];omega)) J<|?_;refine aj 19 (.d (.sl (cuts.map eQ))) J (by rw[hcu]) ?_;refine gx J<|cl (fu:=⟨1⟩) J (ay3 (cuts:=cuts) hcb (by omega)) J<|?_;refine aj 22 (.d (vI ((cuts.length+1:Nat):Int))) J (by rw[hmp,hgl]<;>rfl) ?_;refine gx J<|?_;refine nr 8 8 4 1 J J J ?_;refine lp (X:=Nat) (fun k=>[(23, .d (vI (k:Nat))),(8, .rw 8)]) (fun k=>[(8,some (.b 4 1 ((((ey cuts).map (fun t=>nj 2 (fD a t) (fD b t))).take k).map vB) true))]) (fun k=>k<=cuts.length+1) (fun k=>cuts.length+1-k) 0 J (bJ _) (fun _=>J) (fun k hk=>?_);have hml:(((((ey cuts).map (fun t=>nj 2 (fD a t) (fD b t))).take k).map vB)).length=k:=by rw[aK,cR,aK,hgl];omega
 refine br (fu2:=⟨0⟩) J J J (fun hc24=>?_) (fun hc24=>?_)
 .
  obtain⟨t,hz⟩: ∃s,(ey cuts)[k]? =some s:=⟨_,aZ (by omega)⟩;haveI:=hgb t (aL hz);have hz2:((ey cuts).map (fun t=>nj 2 (fD a t) (fD b t)))[k]? =some (nj 2 (fD a t) (fD b t)):=by rw[cV,hz];rfl
  refine ix _ J (fe hz) J<|cl J (Nw (l:=a) (t:=t) ha (by omega)) J<|cl (fu:=⟨6⟩) J (Nw (l:=b) (t:=t) hb (by omega)) J<|?_
  cases hx:fD a t
  .
   refine cO (fu:=⟨15⟩) J J J<|dm (fu:=⟨5⟩) J J J<|cO J J J<|rf J J<|ap (fu:=⟨8⟩) ((((ey cuts).map (fun t=>nj 2 (fD a t) (fD b t))).take (k+1)).map vB) J (by rw[<-vg hz2,hx];rfl) (Kl [false]) J<|?_;refine iv 59 8 J ?_;exact at_ (k+1) ⟨(by omega),(by omega)⟩
  .
   refine dm (fu:=⟨15⟩) J J J<|dm (fu:=⟨5⟩) J J J<|dm J J J<|rf J J<|ap ((((ey cuts).map (fun t=>nj 2 (fD a t) (fD b t))).take (k+1)).map vB) J (by rw[<-vg hz2,hx];rfl) (Kl [_]) J<|?_;refine iv 59 8 J ?_;exact at_ (k+1) ⟨(by omega),(by omega)⟩
 .
  obtain rfl:k=cuts.length+1:=by omega
  have htk:((ey cuts).map (fun t=>nj 2 (fD a t) (fD b t))).take (cuts.length+1)=(ey cuts).map (fun t=>nj 2 (fD a t) (fD b t)):=aT (by rw[aK,hgl];exact aN _);rw[htk];refine yl 8 J ?_;refine gx J<|cl J (Vp (cuts:=cuts) (marks:=(ey cuts).map (fun t=>nj 2 (fD a t) (fD b t))) (by omega) (by rw[aK,hgl];exact aN _)) J<|?_;exact rz J (by unfold ow;rw[<-hcu];rfl)
section
variable {GB:Gh} {C:az} {n:Nat} {Q0:Exit->Act->World->Prop} {fr fr':ay} {own own':aE} {cf cf':Cf} {vc:List Prop}
def Vn{lk:LK}{bk:BM}{dst:Option Nat}{t ty':TypeId}{pos:String}{af:Array Edge}{gd:Option (Nat×Bool)}{x y:Operand}{e len s nm off:Nat}{k:IntKind}{i:Nat}(hu:prog.underlying t=some (.array len e))(hs:(prog.info? e).map (·.size)=some s)
  (e1:aG lk x=some (.ov nm off))(e2:aG lk y=some (.d (.v (.int k (i:Nat)))))(hi:i<len):b8 prog GB C n lk bk ⟨dst, .indexAddr t x y,ty',pos,af,gd⟩ (.ov nm (off+i*s)) [] []:= .yd fun ρ G ov a w r=>by
 obtain⟨p,h1,h2⟩:=r.ev e1;obtain⟨q,h3,h4⟩:=r.ev e2;rw[dk] at h4;subst h4;obtain⟨b,hb,rfl⟩:=h2;refine⟨_,⟨b,hb,J⟩,?_⟩;obtain⟨j,hj,hjs⟩: ∃j,prog.info? e=some j/\j.size=s:=by
  cases h:prog.info? e with
  |none=>rw[h] at hs;cases hs
  |some j=>rw[h] at hs;exact⟨j,J,by simpa using hs⟩
 intro a' w' hf hh;simp only[execOp,bh hf h1,bh hf h3];have:(Instr.indexAt t (.pointer (some ⟨b,off,none⟩)) (.int k (i:Nat))).run prog w'= .ok (.pointer (some ⟨b,off+i*s,none⟩)) w':=by
  unfold Instr.indexAt;show(underlying t>>=_).run prog w'=_;rw[aF (py hu w')];show(underlying t>>=_).run prog w'=_;rw[aF (py hu w')];have h0:0<=((i:Nat):Int):=rJ i;have h1:((i:Nat):Int)<((len:Nat):Int):=by omega
  simp only[h0,h1,and_self,if_true];show(sizeOf e>>=_).run prog w'=_;rw[aF (vx hj w'),q9,hjs,aM];rfl
 exact cG this
def KG(fr:ay)(cf:Cf):Option (TypeId×Nat×Nat×Int):=match cw fr cf with
 |some ⟨_, .indexAddr t x y,_,_,_,_⟩=>match aG (bO fr cf) x with
  |some (.ov nm off)=>match aG (bO fr cf) y with
   |some (.d (.v (.int _ i)))=>some (t,nm,off,i)
   |_=>none
  |_=>none
 |_=>none
def kj[fu:Fu](i:Nat){t nm off e len s:Nat}(h:KG fr cf=some (t,nm,off,((i:Nat):Int)))(hu:prog.underlying t=some (.array len e))(hs:(prog.info? e).map (·.size)=some s)(hi:i<len)
  (hgo:cP tt n fu.n fr own cf (.ov nm (off+i*s)) [] []=⟨vc,fr',own',cf'⟩)(k:av prog GB C n Q0 fr' own' cf')
  (hv:ac vc:=by first|exact trivial|(simp only[ac];kernel_rfl)|(simp only[ac];omega)):av prog GB C n Q0 fr own cf:=by
 unfold KG at h;split at h<;>try (cases h;done)
 rename_i hh;split at h<;>try (cases h;done)
 rename_i hx;split at h<;>cases h;rename_i hy;exact us hh (Vn hu hs hx hy hi) hgo hv k
def Y9{lk:LK}{bk:BM}{d s:Nat}{e t ty':TypeId}{pos:String}{af:Array Edge}{gd:Option (Nat×Bool)}{ps:List (Nat×Operand)}{fo:List (Nat×Nat×Nat)}{i:TI}{z zx:List FX}{k:Nat}{pre post:List DV}(hi:e7 prog t=some i)(hk:i.k= .st fo)(hz:i.z=some z)
  (hb:sP lk fo z ps=some zx)(h0:zx[k]? =some .nl)(h1:jc (zx.take k)=some pre)(h2:jc (zx.drop (k+1))=some post):b8 prog GB C n lk bk ⟨some d, .build t ⟨ps⟩,ty',pos,af,gd⟩ (.bx false pre d post) [(d,some (.b e s [] true))] [d]:=by
 intro hd tl tb K' s1 s2 hf hk';refine⟨fun ρ G ov a w r Q=>?_⟩;obtain⟨v,hv,hv'⟩:=A5 hi hz;have:=OK hi hk;have hsp:zx=zx.take k++ .nl::zx.drop (k+1):=by
  obtain⟨hk1,hk2⟩:=aS.1 h0
  conv=>lhs;rw[<-jL k zx,bX hk1,hk2]
 obtain⟨l,h1',h2'⟩:=C7 (r.mono s1 s2) (fo:=fo) ps _ _ _ hb (hv' ρ G);rw[hsp] at h2';obtain⟨m1,m2',rfl,k1,y,m2,rfl,k2,k3⟩:=PJ h2'
 cases (show y= .slice none 0 0 from k2)
 have hy:Yd prog C (cB a) ov G ⟨some d, .build t ⟨ps⟩,ty',pos,af,gd⟩ (.agg ⟨m1++Value.slice none 0 0::m2⟩):=Cu h1';have r3:=r.new' (x:=⟨none,0,0⟩) (B':= .b e s [] true) (os:=[]) (ov':=ov) (f:= .bx false pre d post) (y:= .agg ⟨m1++Value.slice none 0 0::m2⟩) hf (bD.refl G) r.h
  ⟨[],by simp only[if_true];exact .inl ⟨J,J,J⟩, .nil,by simp,fun _ o ho=>by cases ho⟩ (fun o ho=>by cases ho) (fun m B _ _ o ho _=>⟨ho,by simp⟩)
  ⟨m1,m2,by simp,q8 k1 h1,q8 k3 h2⟩ (r.putA _ hd)
 exact lE (hy a w (c7 a) r.h) (hk'.run _ G ov _ w r3)
def KL(fr:ay)(cf:Cf):Option (Nat×List FX):=match cw fr cf with
 |some ⟨some d, .build t ⟨ps⟩,_,_,_,_⟩=>match c9 tt t with
  |some ⟨.st fo,_,some zx,_⟩=>match sP (bO fr cf) fo zx ps with
   |some l=>some (d,l)
   |none=>none
  |_=>none
 |_=>none
def XJ[fu:Fu]{d:Nat}{zx:List FX}(e s kk:Nat)(pre post:List DV)(h:KL fr cf=some (d,zx))(h0:zx[kk]? =some .nl)(h1:jc (zx.take kk)=some pre)(h2:jc (zx.drop (kk+1))=some post)(hgo:cP tt n fu.n fr own cf (.bx false pre d post) [(d,some (.b e s [] true))] [d]=⟨vc,fr',own',cf'⟩)(k:av prog GB C n Q0 fr' own' cf')
  (hv:ac vc:=by first|exact trivial|(simp only[ac];kernel_rfl)|(simp only[ac];omega)):av prog GB C n Q0 fr own cf:=by
 unfold KL at h;split at h<;>try (cases h;done)
 rename_i hh;split at h<;>try (cases h;done)
 rename_i hT;split at h<;>cases h;rename_i hb;exact us hh (Y9 (ew _ _ hT) J J hb h0 h1 h2) hgo hv k
end
def Zs(f:bj)(m:aa)(k:Nat):List bj:=if k=0 then [] else eh f m 1
def sp2(f:bj)(m:aa)(k:Nat):List bj:=if k<=1 then [] else eh f m (-1)
def Nf{l m:aa}(hl:LB l)(hm:LB m)(hlo:l.ok){side:Int}: ∀v∈iD l m side,n4 v:=fun v hv=>⟨(Hq hl hm hlo v hv).2.1,(Hq hl hm hlo v hv).2.2⟩
def zl{l m:aa}{side:Int}:(iD l m side).length<=1:=by
 unfold iD;split
 ·split<;>simp
 ·split<;>simp
def Ly(op:Int)(a b:List ah):(ow op a b).length<=2*(a.length+b.length)+1:=by
 unfold ow vy;refine cY FY ?_;rw[aK,zI];have:=GX (a++b);rw[aV] at this;omega
def Ym{f:bj}{m:aa}(h:nI f)[hm:LB m](hmo:m.ok):PF GB prog 177 [e8 f,eL m] (.tp [.sl ((eh f m 1).map e8), .sl ((eh f m (-1)).map e8)]):=by
 haveI:=h.lb;refine fn func177 J J ntmps177 J J (fun C=>?_);refine rf (fu:=⟨1⟩) J J<|?_;refine aj 14 (.d (vI (2:Nat))) J J ?_;refine gx J<|?_;refine K6 6 0 60 225 14 J J J J J ?_;refine K6 6 1 61 225 14 J J J J J ?_;refine lp (X:=Nat) (fun k=>[(15, .d (vI (k:Nat))),(6, .ov 6 0)]) (fun k=>[(6,some (.o 347 [.rw 60, .rw 61] true)),(60,some (.b 225 14 ((Zs f m k).map e8) true)),(61,some (.b 225 14 ((sp2 f m k).map e8) true))]) (fun k=>k<=2) (fun k=>2-k) 0 J (by omega) (fun _=>J) (fun k hk=>?_);refine br J J J (fun hc16=>?_) (fun hc16=>?_)
 .
  rcases(show k=0\/k=1 by omega) with rfl|rfl
  .
   refine ix _ J J J<|cl (fu:=⟨0⟩) J (Na (l:=f.l) (m:=m) (side:=1) h.ok hmo (.inl J)) J<|?_;obtain⟨cs,hcs⟩: ∃c,c=ow 2 [f.v] (iD f.l m 1):=⟨_,rfl⟩;have hcl:cs.length<=5:=by rw[hcs];have h1:=Ly 2 [f.v] (iD f.l m 1);have h2:=zl (l:=f.l) (m:=m) (side:=1);simp only[eK] at h1;omega
   refine aj 25 (.d (.tp [.sl ((iD f.l m 1).map eV),vB (lh f.l m)])) J J ?_;refine gx J<|?_;refine bb J J J (fun hc28=>?_) (fun hc28=>?_)
   .
    have hon:lh f.l m=true:=hc28;exact rz J (by first|(unfold eh;rw[if_pos hon,if_pos hon];rfl)|rfl)
   .
    have hon:lh f.l m=false:=by simpa using hc28
    refine rf J J<|cl (fu:=⟨0⟩) J (Qn (a:=[f.v]) (b:=iD f.l m 1) (fun v hv=>by rw[aW] at hv;subst hv;exact⟨h.lo,h.hi⟩) (Nf h.lb hm h.ok) (by show 1<=100;decide) (by have:=zl (l:=f.l) (m:=m) (side:=1);omega)) J<|?_;refine aj 33 (.d (.sl (cs.map eV))) J (by rw[hcs]) ?_;refine gx (fu:=⟨1⟩) J<|?_;refine aj 34 (.d (vI (cs.length:Nat))) J (by rw[gr eV cs]<;>rfl) ?_;refine gx J<|?_;refine lp (X:=Nat) (fun j=>[(35, .d (vI (j:Nat)))]) (fun j=>[(60,some (.b 225 14 (((cs.take j).map fun v=>(⟨f.l,v⟩:bj)).map e8) true))]) (fun j=>j<=cs.length) (fun j=>cs.length-j) 0 J (bJ _) (fun _=>J) (fun j hk=>?_);have hml:(((cs.take j).map fun v=>(⟨f.l,v⟩:bj)).map e8).length<=j:=by rw[aK,aK,cR];omega
    refine br J J J (fun hc36=>?_) (fun hc36=>?_)
    .
     obtain⟨z,hz⟩: ∃s,cs[j]? =some s:=⟨_,aZ (by omega)⟩;refine ix _ J (fe hz) J<|kj 0 (e:=218) (len:=2) (s:=1) J (by kernel_rfl) (by kernel_rfl) (by decide) J<|rf J J<|?_;refine ap (((cs.take (j+1)).map fun v=>(⟨f.l,v⟩:bj)).map e8) J (by rw[<-vg hz,bR];rfl) (xt [⟨f.l,z⟩]) J<|kj (hv:=by simp only[ac];exact⟨by kernel_rfl,by omega⟩) 0 (e:=218) (len:=2) (s:=1) J (by kernel_rfl) (by kernel_rfl) (by decide) J<|?_;refine iv 48 60 J ?_;exact at_ (j+1) ⟨(by omega),(by omega)⟩
    .
     obtain rfl:j=cs.length:=by omega
     rw[show(cs.take cs.length).map (fun v=>(⟨f.l,v⟩:bj))=eh f m 1 from by rw[dZ];unfold eh;rw[if_neg (by rw[hon];decide),<-hcs]];exact at_ (0+1) ⟨(by omega),(by omega)⟩
  .
   refine ix _ J J J<|cl (fu:=⟨0⟩) J (Na (l:=f.l) (m:=m) (side:= -1) h.ok hmo (.inr J)) J<|?_;obtain⟨cs,hcs⟩: ∃c,c=ow 2 [f.v] (iD f.l m (-1)):=⟨_,rfl⟩;have hcl:cs.length<=5:=by rw[hcs];have h1:=Ly 2 [f.v] (iD f.l m (-1));have h2:=zl (l:=f.l) (m:=m) (side:=(-1));simp only[eK] at h1;omega
   refine aj 25 (.d (.tp [.sl ((iD f.l m (-1)).map eV),vB (lh f.l m)])) J J ?_;refine gx J<|?_;refine bb J J J (fun hc28=>?_) (fun hc28=>?_)
   .
    have hon:lh f.l m=true:=hc28;exact rz J (by first|(unfold eh;rw[if_pos hon,if_pos hon];rfl)|rfl)
   .
    have hon:lh f.l m=false:=by simpa using hc28
    refine rf J J<|cl (fu:=⟨0⟩) J (Qn (a:=[f.v]) (b:=iD f.l m (-1)) (fun v hv=>by rw[aW] at hv;subst hv;exact⟨h.lo,h.hi⟩) (Nf h.lb hm h.ok) (by show 1<=100;decide) (by have:=zl (l:=f.l) (m:=m) (side:=(-1));omega)) J<|?_;refine aj 33 (.d (.sl (cs.map eV))) J (by rw[hcs]) ?_;refine gx (fu:=⟨1⟩) J<|?_;refine aj 34 (.d (vI (cs.length:Nat))) J (by rw[gr eV cs]<;>rfl) ?_;refine gx J<|?_;refine lp (X:=Nat) (fun j=>[(35, .d (vI (j:Nat)))]) (fun j=>[(61,some (.b 225 14 (((cs.take j).map fun v=>(⟨f.l,v⟩:bj)).map e8) true))]) (fun j=>j<=cs.length) (fun j=>cs.length-j) 0 J (bJ _) (fun _=>J) (fun j hk=>?_);have hml:(((cs.take j).map fun v=>(⟨f.l,v⟩:bj)).map e8).length<=j:=by rw[aK,aK,cR];omega
    refine br J J J (fun hc36=>?_) (fun hc36=>?_)
    .
     obtain⟨z,hz⟩: ∃s,cs[j]? =some s:=⟨_,aZ (by omega)⟩;refine ix _ J (fe hz) J<|kj 1 (e:=218) (len:=2) (s:=1) J (by kernel_rfl) (by kernel_rfl) (by decide) J<|rf J J<|?_;refine ap (((cs.take (j+1)).map fun v=>(⟨f.l,v⟩:bj)).map e8) J (by rw[<-vg hz,bR];rfl) (xt [⟨f.l,z⟩]) J<|kj (hv:=by simp only[ac];exact⟨by kernel_rfl,by omega⟩) 1 (e:=218) (len:=2) (s:=1) J (by kernel_rfl) (by kernel_rfl) (by decide) J<|?_;refine iv 48 61 J ?_;exact at_ (j+1) ⟨(by omega),(by omega)⟩
    .
     obtain rfl:j=cs.length:=by omega
     rw[show(cs.take cs.length).map (fun v=>(⟨f.l,v⟩:bj))=eh f m (-1) from by rw[dZ];unfold eh;rw[if_neg (by rw[hon];decide),<-hcs]];exact at_ (1+1) ⟨(by omega),(by omega)⟩
 .
  obtain rfl:k=2:=by omega
  refine kj 0 (e:=218) (len:=2) (s:=1) J (by kernel_rfl) (by kernel_rfl) (by decide) J<|kj 1 (e:=218) (len:=2) (s:=1) J (by kernel_rfl) (by kernel_rfl) (by decide) J<|?_;refine i9 60 J ?_;refine i9 61 J ?_;exact rz J (by first|(unfold eh;rw[if_pos hon,if_pos hon];rfl)|rfl)
end Go.Sx
end
