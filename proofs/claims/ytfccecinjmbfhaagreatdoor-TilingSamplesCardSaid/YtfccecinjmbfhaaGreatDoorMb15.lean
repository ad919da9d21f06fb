/- Part 15 of a proof. -/
import Derived.Test.YtfccecinjmbfhaaGreatDoorMb14
set_option linter.unusedSimpArgs false
set_option maxHeartbeats 4000000
set_option maxRecDepth 100000
set_option linter.unusedVariables false
section
namespace Go.Sx
open Go Go.Proofs Tryz
variable {GB:Gh}
def ajL{α β:Type}(c:β→β→Int)(g:α→β)(l:List α)(k:Nat):List β:=alJ c ((l.take k).map g)
section
variable {α β:Type} {c:β→β→Int} {g:α→β} {l:List α} {k:Nat}
theorem adn{x:α}(h:l[k]? =some x):ajL c g l (k+1)=afC c (g x) (ajL c g l k):=by
 unfold ajL alJ
 rw[gQ,h,Option.toList_some,aN,qJ];rfl
theorem amV(h:k=l.length):ajL c g l k=alJ c (l.map g):=by unfold ajL;rw[h,fV]
theorem anj:(ajL c g l k).length≤k:=by
 have:=amr c ((l.take k).map g) []
 have h2:((l.take k).map g).length≤k:=by rw[aJ,cK];omega
 rw[fY] at this
 unfold ajL alJ
 omega
theorem am8{y:β}(h:y∈ajL c g l k): ∃x∈l,y=g x:=by
 rcases amp c h with h|h
 ·obtain⟨x,hx,rfl⟩:=bW.1 h
  exact⟨x,eJ hx,rfl⟩
 ·cases h
end
theorem slT{α:Type}{f:α→DV}{s:Nat}(ok: ∀l:List α,acI s (l.map f))(xs:List α)(n:Nat):acI s ((xs.map f).take n):=fun d hd=>ok xs d (eJ hd)
theorem slD{α:Type}{f:α→DV}{s:Nat}(ok: ∀l:List α,acI s (l.map f))(xs:List α)(n m:Nat):acI s (((xs.map f).take n).drop m):=fun d hd=>ok xs d (eJ (fU hd))
theorem slI{α:Type}{f:α→DV}{s:Nat}(ok: ∀l:List α,acI s (l.map f))(xs:List α)(n m:Nat)(x:α):acI s ([f x]++((xs.map f).take n).drop m):=fun d hd=>by
 rcases bS.1 hd with h|h
 ·exact ok [x] d h
 ·exact slD ok xs n m d h
theorem acY{α:Type}{f:α→DV}{l:List α}{i:Nat}(h:i<l.length):(l.map f)[(i:Int).toNat]? =some (f l[i]):=by
 rw[bZ,cN,aQ h];rfl
theorem awI{ps:List PtQ}(hb: ∀p∈ps,BPt p 1200)(hn:ps.length≤100000):PF GB prog 188 [.sl (ps.map eP)] (.sl ((alJ agu ps).map eP)):=by
 have hm':=aaI eP ps
 refine fn (fu:=⟨15⟩) func188 J J ntmps188 J J (fun C=>?_)
 refine eqF 8 (.d (vI (ps.length:Nat))) rfl (by rw[hm'];rfl) ?_
 refine gx rfl<|?_
 refine nlC 3 rfl ?_
 refine lp (X:=List PtQ×Nat) (fun⟨xs,k⟩=>[(9, .d (vI (k:Nat))),(8, .d (vI (ps.length:Nat))),(7, .d (.sl (ps.map eP))),(0, .d (.sl (ps.map eP))),(3, .d (.sl (xs.map eP)))]) (fun⟨xs,k⟩=>[]) (fun⟨xs,k⟩=>xs=ajL agu id ps k∧k≤ps.length) (fun⟨xs,k⟩=>ps.length-k) ⟨[],0⟩ rfl ⟨rfl,aR _⟩ (fun _=>rfl) (fun⟨xs,k⟩ hk=>?_)
 try dsimp only at hk⊢
 obtain⟨hS,hkl⟩:=hk
 refine br J J J (fun hc10=>?_) (fun hc10=>?_)
 ·
  have hk:k<ps.length:=by omega
  obtain⟨m,hm⟩: ∃m,m=ps[k]:=⟨_,rfl⟩
  have hz:ps[k]? =some m:=by rw[hm];exact aQ hk
  haveI hmb:BPt m 1200:=hm▸hb _ (bM hk)
  have hxl:=aaI eP xs
  have hxn:xs.length≤k:=by rw[hS];exact anj
  have hxb: ∀q∈xs,BPt q 1200:=fun q hq=>by rw[hS] at hq;obtain⟨z,hz,he⟩:=am8 hq;rw[he];exact hb z hz
  refine ix (fu:=⟨1⟩) _ rfl (acY hk) rfl<|?_
  refine eqF 12 (.d (eP m)) rfl (by rw[hm];rfl) ?_
  refine gx (fu:=⟨10⟩) rfl<|?_
  refine mg (fu:=⟨5⟩) (X:=Unit) (fun _=>[(9, .d (vI (k:Nat))),(8, .d (vI (ps.length:Nat))),(7, .d (.sl (ps.map eP))),(0, .d (.sl (ps.map eP))),(3, .d (.sl (xs.map eP))),(5, .ov 5 0),(6, .d (vI (ak8 agu m xs:Nat)))]) (fun _=>[(5,some (.o 54 [.d ((.v (.bool (decide (m.x.num<0))))), .d (dN m.x.num.natAbs), .d (dD m.x.den), .d ((.v (.bool (decide (m.y.num<0))))), .d (dN m.y.num.natAbs), .d (dD m.y.den)] true))]) (fun _=>True) [9,8,7,0,3,5,6] [5] rfl ?_ (fun _=>rfl) (fun _ _=>?_)
  ·
   refine gx rfl<|?_
   refine lp (fu:=⟨6⟩) (X:=Nat) (fun n=>[(9, .d (vI (k:Nat))),(8, .d (vI (ps.length:Nat))),(7, .d (.sl (ps.map eP))),(0, .d (.sl (ps.map eP))),(3, .d (.sl (xs.map eP))),(5, .ov 5 0),(6, .d (vI (n:Nat)))]) (fun n=>[(5,some (.o 54 [.d ((.v (.bool (decide (m.x.num<0))))), .d (dN m.x.num.natAbs), .d (dD m.x.den), .d ((.v (.bool (decide (m.y.num<0))))), .d (dN m.y.num.natAbs), .d (dD m.y.den)] true))]) (fun n=>n≤xs.length∧ ∀j (h:j<xs.length),j<n→agu xs[j] m<0) (fun n=>xs.length-n) 0 rfl ⟨aR _,fun j _ hj=>absurd hj (by omega)⟩ (fun _=>rfl) (fun n hk=>?_)
   obtain⟨n1,n2⟩:=hk
   refine csS (v2:=fun hg16=>by simp only[aah];kernel_rfl) J J J J (fun hg16=>?_) (fun hg16=>?_)
   ·
    refine ix _ rfl (acY (by omega)) rfl<|cl rfl (akd (p:=xs[n]'(by omega)) (q:=m) (hp:=hxb _ (bM (by omega))) (hq:=hmb)) rfl<|?_
    refine br J J J (fun hc25=>?_) (fun hc25=>?_)
    ·
     exact at_ (n+1) ⟨⟨by omega,fun j h hj=>by by_cases q:j=n;(subst q;exact hc25);exact n2 j h (by omega)⟩,(by omega)⟩
    ·
     have hidx:ak8 agu m xs=n:=ae5 agu n1 n2 (fun h=>hc25)
     exact at_ () trivial
   ·
    have hidx:ak8 agu m xs=n:=ae5 agu n1 n2 (fun h=>absurd h (by omega))
    exact at_ () trivial
  ·
   obtain⟨n,hnx⟩: ∃n,ak8 agu m xs=n:=⟨_,rfl⟩
   rw[hnx]
   have hnl:n≤xs.length:=by rw[←hnx];exact alS _ _ _
   refine csS (v1:=fun hg31=>by simp only[aah];kernel_rfl) J J J J (fun hg31=>?_) (fun hg31=>?_)
   ·
    have hnew: ∀h:n<xs.length,agu xs[n] m≠0:=fun h=>absurd h (by omega)
    obtain⟨ys,hys⟩: ∃ys,ys=xs.take n++m::xs.drop n:=⟨_,rfl⟩
    have hin:afC agu m xs=ys:=by rw[hys];exact adj agu hnx hnew
    have hyl:ys.length≤xs.length+1:=by rw[hys];simp;omega
    refine s3 n _ J J J J (ai6 _) (by rw[hxl];exact hnl) rfl<|ro J J<|sc' n xs.length _ J J (by rw[hxl]) rfl (ai6 _) hnl (by omega) rfl<|?_
    refine ap _ J J (slD ai6 _ _ _) rfl<|apf (hv:=by simp only[aah];exact⟨by kernel_rfl,by omega⟩) (ho:=fun _=>⟨slT ai6 _ _,by simp⟩) (ys.map eP) rfl (by rw[hys,aN,cZ,gX,iZ,aV (l:=xs.map eP) (i:=xs.length) (by simp)];rfl) (slI ai6 _ _ _ _) rfl<|?_
    exact at_ ⟨ys,k+1⟩ (by dsimp only;exact⟨⟨by rw[adn hz,←hS];exact hin.symm,by omega⟩,(by omega)⟩)
   ·
    refine ix _ rfl (acY (by omega)) rfl<|cl rfl (akd (p:=xs[n]'(by omega)) (q:=m) (hp:=hxb _ (bM (by omega))) (hq:=hmb)) rfl<|?_
    refine br J J J (fun hc40=>?_) (fun hc40=>?_)
    ·
     have hnew: ∀h:n<xs.length,agu xs[n] m≠0:=fun h=>hc40
     obtain⟨ys,hys⟩: ∃ys,ys=xs.take n++m::xs.drop n:=⟨_,rfl⟩
     have hin:afC agu m xs=ys:=by rw[hys];exact adj agu hnx hnew
     have hyl:ys.length≤xs.length+1:=by rw[hys];simp;omega
     refine s3 n _ J J J J (ai6 _) (by rw[hxl];exact hnl) rfl<|ro J J<|sc' n xs.length _ J J (by rw[hxl]) rfl (ai6 _) hnl (by omega) rfl<|?_
     refine ap _ J J (slD ai6 _ _ _) rfl<|apf (hv:=by simp only[aah];exact⟨by kernel_rfl,by omega⟩) (ho:=fun _=>⟨slT ai6 _ _,by simp⟩) (ys.map eP) rfl (by rw[hys,aN,cZ,gX,iZ,aV (l:=xs.map eP) (i:=xs.length) (by simp)];rfl) (slI ai6 _ _ _ _) rfl<|?_
     exact at_ ⟨ys,k+1⟩ (by dsimp only;exact⟨⟨by rw[adn hz,←hS];exact hin.symm,by omega⟩,(by omega)⟩)
    ·
     have hin:afC agu m xs=xs:=af7 agu hnx (by omega) (Decidable.not_not.1 hc40)
     exact at_ ⟨xs,k+1⟩ (by dsimp only;exact⟨⟨by rw[adn hz,←hS];exact hin.symm,by omega⟩,(by omega)⟩)
 ·
  have hfin:alJ agu ps=xs:=by rw[hS,amV (by omega),List.map_id]
  exact rz rfl (by rw[hfin];rfl)
def anX(ls:List LnQ):List LnQ:=alJ aiW (ls.map LnQ.canon)
theorem aqU{ls:List LnQ}(hb: ∀p∈ls,LB p)(hn:ls.length≤100000):PF GB prog 136 [.sl (ls.map eL)] (.sl ((anX ls).map eL)):=by
 have hm':=aaI eL ls
 refine fn (fu:=⟨15⟩) func136 J J ntmps136 J J (fun C=>?_)
 refine eqF 8 (.d (vI (ls.length:Nat))) rfl (by rw[hm'];rfl) ?_
 refine gx rfl<|?_
 refine nlC 3 rfl ?_
 refine lp (X:=List LnQ×Nat) (fun⟨xs,k⟩=>[(9, .d (vI (k:Nat))),(8, .d (vI (ls.length:Nat))),(7, .d (.sl (ls.map eL))),(0, .d (.sl (ls.map eL))),(3, .d (.sl (xs.map eL)))]) (fun⟨xs,k⟩=>[]) (fun⟨xs,k⟩=>xs=ajL aiW LnQ.canon ls k∧k≤ls.length) (fun⟨xs,k⟩=>ls.length-k) ⟨[],0⟩ rfl ⟨rfl,aR _⟩ (fun _=>rfl) (fun⟨xs,k⟩ hk=>?_)
 try dsimp only at hk⊢
 obtain⟨hS,hkl⟩:=hk
 refine br J J J (fun hc10=>?_) (fun hc10=>?_)
 ·
  have hk:k<ls.length:=by omega
  obtain⟨z,hm⟩: ∃m,m=ls[k]:=⟨_,rfl⟩
  have hz:ls[k]? =some z:=by rw[hm];exact aQ hk
  haveI hzb:LB z:=hm▸hb _ (bM hk)
  obtain⟨m,hmc⟩: ∃m,m=z.canon:=⟨_,rfl⟩
  haveI hmb:LB m:=by rw[hmc];infer_instance
  have hxl:=aaI eL xs
  have hxn:xs.length≤k:=by rw[hS];exact anj
  have hxb: ∀q∈xs,LB q:=fun q hq=>by rw[hS] at hq;obtain⟨z,hz,rfl⟩:=am8 hq;haveI:=hb z hz;infer_instance
  refine ix (fu:=⟨1⟩) _ rfl (acY hk) rfl<|?_
  refine eqF 12 (.d (eL z)) rfl (by rw[hm];rfl) ?_
  refine gx rfl<|cl (fu:=⟨2⟩) rfl (awg (l:=z)) rfl<|?_
  refine eqF 16 (.d (eL m)) rfl (by rw[hmc]) ?_
  refine gx (fu:=⟨10⟩) rfl<|?_
  refine mg (fu:=⟨5⟩) (X:=Unit) (fun _=>[(9, .d (vI (k:Nat))),(8, .d (vI (ls.length:Nat))),(7, .d (.sl (ls.map eL))),(0, .d (.sl (ls.map eL))),(3, .d (.sl (xs.map eL))),(5, .ov 5 0),(6, .d (vI (ak8 aiW m xs:Nat)))]) (fun _=>[(5,some (.o 109 [.d ((.v (.bool (decide (m.a<0))))), .d (dN m.a.natAbs), .d ((.v (.bool (decide (m.b<0))))), .d (dN m.b.natAbs), .d ((.v (.bool (decide (m.c<0))))), .d (dN m.c.natAbs)] true))]) (fun _=>True) [9,8,7,0,3,5,6] [5] rfl ?_ (fun _=>rfl) (fun _ _=>?_)
  ·
   refine gx rfl<|?_
   refine lp (fu:=⟨6⟩) (X:=Nat) (fun n=>[(9, .d (vI (k:Nat))),(8, .d (vI (ls.length:Nat))),(7, .d (.sl (ls.map eL))),(0, .d (.sl (ls.map eL))),(3, .d (.sl (xs.map eL))),(5, .ov 5 0),(6, .d (vI (n:Nat)))]) (fun n=>[(5,some (.o 109 [.d ((.v (.bool (decide (m.a<0))))), .d (dN m.a.natAbs), .d ((.v (.bool (decide (m.b<0))))), .d (dN m.b.natAbs), .d ((.v (.bool (decide (m.c<0))))), .d (dN m.c.natAbs)] true))]) (fun n=>n≤xs.length∧ ∀j (h:j<xs.length),j<n→aiW xs[j] m<0) (fun n=>xs.length-n) 0 rfl ⟨aR _,fun j _ hj=>absurd hj (by omega)⟩ (fun _=>rfl) (fun n hk=>?_)
   obtain⟨n1,n2⟩:=hk
   refine csS (v2:=fun hg21=>by simp only[aah];kernel_rfl) J J J J (fun hg21=>?_) (fun hg21=>?_)
   ·
    refine ix _ rfl (acY (by omega)) rfl<|cl rfl (apJ (l:=xs[n]'(by omega)) (m:=m) (hl:=hxb _ (bM (by omega))) (hm:=hmb)) rfl<|?_
    refine br J J J (fun hc30=>?_) (fun hc30=>?_)
    ·
     exact at_ (n+1) ⟨⟨by omega,fun j h hj=>by by_cases q:j=n;(subst q;exact hc30);exact n2 j h (by omega)⟩,(by omega)⟩
    ·
     have hidx:ak8 aiW m xs=n:=ae5 aiW n1 n2 (fun h=>hc30)
     exact at_ () trivial
   ·
    have hidx:ak8 aiW m xs=n:=ae5 aiW n1 n2 (fun h=>absurd h (by omega))
    exact at_ () trivial
  ·
   obtain⟨n,hnx⟩: ∃n,ak8 aiW m xs=n:=⟨_,rfl⟩
   rw[hnx]
   have hnl:n≤xs.length:=by rw[←hnx];exact alS _ _ _
   refine csS (v1:=fun hg36=>by simp only[aah];kernel_rfl) J J J J (fun hg36=>?_) (fun hg36=>?_)
   ·
    have hnew: ∀h:n<xs.length,aiW xs[n] m≠0:=fun h=>absurd h (by omega)
    obtain⟨ys,hys⟩: ∃ys,ys=xs.take n++m::xs.drop n:=⟨_,rfl⟩
    have hin:afC aiW m xs=ys:=by rw[hys];exact adj aiW hnx hnew
    have hyl:ys.length≤xs.length+1:=by rw[hys];simp;omega
    refine s3 n _ J J J J (acj _) (by rw[hxl];exact hnl) rfl<|ro J J<|sc' n xs.length _ J J (by rw[hxl]) rfl (acj _) hnl (by omega) rfl<|?_
    refine ap _ J J (slD acj _ _ _) rfl<|apf (hv:=by simp only[aah];exact⟨by kernel_rfl,by omega⟩) (ho:=fun _=>⟨slT acj _ _,by simp⟩) (ys.map eL) rfl (by rw[hys,aN,cZ,gX,iZ,aV (l:=xs.map eL) (i:=xs.length) (by simp)];rfl) (slI acj _ _ _ _) rfl<|?_
    exact at_ ⟨ys,k+1⟩ (by dsimp only;exact⟨⟨by rw[adn hz,←hS,←hmc];exact hin.symm,by omega⟩,(by omega)⟩)
   ·
    refine ix _ rfl (acY (by omega)) rfl<|cl rfl (apJ (l:=xs[n]'(by omega)) (m:=m) (hl:=hxb _ (bM (by omega))) (hm:=hmb)) rfl<|?_
    refine br J J J (fun hc45=>?_) (fun hc45=>?_)
    ·
     have hnew: ∀h:n<xs.length,aiW xs[n] m≠0:=fun h=>hc45
     obtain⟨ys,hys⟩: ∃ys,ys=xs.take n++m::xs.drop n:=⟨_,rfl⟩
     have hin:afC aiW m xs=ys:=by rw[hys];exact adj aiW hnx hnew
     have hyl:ys.length≤xs.length+1:=by rw[hys];simp;omega
     refine s3 n _ J J J J (acj _) (by rw[hxl];exact hnl) rfl<|ro J J<|sc' n xs.length _ J J (by rw[hxl]) rfl (acj _) hnl (by omega) rfl<|?_
     refine ap _ J J (slD acj _ _ _) rfl<|apf (hv:=by simp only[aah];exact⟨by kernel_rfl,by omega⟩) (ho:=fun _=>⟨slT acj _ _,by simp⟩) (ys.map eL) rfl (by rw[hys,aN,cZ,gX,iZ,aV (l:=xs.map eL) (i:=xs.length) (by simp)];rfl) (slI acj _ _ _ _) rfl<|?_
     exact at_ ⟨ys,k+1⟩ (by dsimp only;exact⟨⟨by rw[adn hz,←hS,←hmc];exact hin.symm,by omega⟩,(by omega)⟩)
    ·
     have hin:afC aiW m xs=xs:=af7 aiW hnx (by omega) (Decidable.not_not.1 hc45)
     exact at_ ⟨xs,k+1⟩ (by dsimp only;exact⟨⟨by rw[adn hz,←hS,←hmc];exact hin.symm,by omega⟩,(by omega)⟩)
 ·
  have hfin:anX ls=xs:=by rw[hS,amV (by omega)];rfl
  exact rz rfl (by rw[hfin];rfl)
def fcs(a b:Tr):List PtQ:=axo (anX (a.lns++b.lns))
def eqR(a b:Tr):Bool:=(fcs a b).all fun p=>atQ a p==atQ b p
def aGC(f:Bool→Bool→Bool)(a b:Tr):Bool:=(fcs a b).any fun p=>f (atQ a p) (atQ b p)
def aFX(v:Bool)(t:Tr):Bool:=decide ((t.restrict []).isLeaf=true∧(t.restrict []).code=v)
/-! ### lists in order -/
/-! ### directions -/
def aEv(L:List LnQ)(p:PtQ):List PtQ:=L.flatMap fun l=>if Int.sign (l.value p).num=0 then [l.dir,ajG l.dir] else []
theorem Bef.trans{u v w:PtQ}(hu:u.half≠0)(hv:v.half≠0)(hw:w.half≠0)(h:Bef u v)(k:Bef v w):Bef u w:=by
 rcases h with h|⟨h,h'⟩<;>rcases k with k|⟨k,k'⟩
 ·exact .inl (by omega)
 ·exact .inl (by omega)
 ·exact .inl (by omega)
 ·refine .inr ⟨h.trans k,?_⟩
  have id1:u.cross w*v.y=u.cross v*w.y+v.cross w*u.y:=by unfold PtQ.cross;grind
  rcases acM v with⟨x,q⟩|⟨x,q⟩|⟨x,q⟩
  ·rw[x] at h k
   have qu:=alL.1 h
   have qw:=alL.1 k.symm
   rcases q with q|⟨q,q'⟩
   ·rw[←aau q,id1]
    have wy:0≤w.y:=by grind
    have uy:0≤u.y:=by grind
    have a1:=aad (dR h') wy
    rcases qu with qu|⟨qu,qu'⟩
    ·have:=aao k' qu;grind
    ·rcases qw with qw|⟨qw,qw'⟩
     ·have:=aao h' qw;rw[qu];grind
     ·exfalso
      have hx:v.cross w= -(w.x*v.y):=by unfold PtQ.cross;rw[qw];grind
      have:=aao qw' q
      grind
   ·exfalso
    have hx:u.cross v= -(v.x*u.y):=by unfold PtQ.cross;rw[q];grind
    have:=aad (a:=v.x) (b:=u.y) (dR q') (by grind)
    grind
  ·rw[x] at h k
   have qu:=alz.1 h
   have qw:=alz.1 k.symm
   rcases q with q|⟨q,q'⟩
   ·have e1:u.cross w* -v.y=u.cross v* -w.y+v.cross w* -u.y:=by grind
    rw[←aau (k:= -v.y) (by grind),e1]
    have a1:=aad (a:=u.cross v) (b:= -w.y) (dR h') (by grind)
    rcases qu with qu|⟨qu,qu'⟩
    ·have:=aao (a:=v.cross w) (b:= -u.y) k' (by grind);grind
    ·rcases qw with qw|⟨qw,qw'⟩
     ·have:=aao (a:=u.cross v) (b:= -w.y) h' (by grind);rw[qu];grind
     ·exfalso
      have hx:v.cross w= -(-w.x* -v.y):=by unfold PtQ.cross;rw[qw];grind
      have:=aao (a:= -w.x) (b:= -v.y) (by grind) (by grind)
      grind
   ·exfalso
    have hx:u.cross v= -(-v.x* -u.y):=by unfold PtQ.cross;rw[q];grind
    have:=aad (a:= -v.x) (b:= -u.y) (by grind) (by grind)
    grind
  ·exact absurd x hv
def aD0(S:List PtQ)(x:PtQ):Nat→Nat
 |0=>0
 |k+1=>if 0<aa5 (S.getD k ⟨0,0⟩) x then aD0 S x k else k+1
def aF2(S:List PtQ)(x:PtQ):List PtQ:=S.take (aD0 S x S.length)++x::S.drop (aD0 S x S.length)
def aDJ(ds:List PtQ):List PtQ:=ds.foldl aF2 []
structure aGR (L:List LnQ):Prop where
 ok: ∀l∈L,l.ok
 cn: ∀l∈L,azl l=false
 nd:L.Pairwise (fun a b=>a≠b)
theorem axp{l:LnQ}(h:l.ok):l.dir.half≠0:=fun e=>by
 have hn:=h.ne
 unfold LnQ.Ne at hn
 rcases acM l.dir with⟨k,_⟩|⟨k,_⟩|⟨_,k1,k2⟩
 ·rw[k] at e;cases e
 ·rw[k] at e;cases e
 ·unfold LnQ.dir at k1 k2
  simp only at k1 k2
  apply hn
  refine⟨?_,cR.1 k2⟩
  have:(l.a:Rat)=0:=by grind
  exact cR.1 this
def aC8(v:PtQ):Nat:=Nat.gcd (v.x.num.natAbs*v.y.den) (v.y.num.natAbs*v.x.den)
def aBx(n:Int)(d g:Nat):Int:=if n<0 then-((n.natAbs*d/g:Nat):Int) else((n.natAbs*d/g:Nat):Int)
def aC7(v:PtQ):PtQ:=if v.half=0 then⟨0,0⟩ else⟨(aBx v.x.num v.y.den (aC8 v):Int),(aBx v.y.num v.x.den (aC8 v):Int)⟩
def aFQ(ds:List PtQ)(i:Nat):List PtQ:=
 if aa5 (ds.getD i ⟨0,0⟩) (ds.getD ((i+1)%ds.length) ⟨0,0⟩)=0∧2<ds.length then []
 else if Int.sign ((ds.getD i ⟨0,0⟩).cross (ds.getD ((i+1)%ds.length) ⟨0,0⟩)).num=0 then [ag3 (ds.getD i ⟨0,0⟩)]
 else [acu (aC7 (ds.getD i ⟨0,0⟩)) (aC7 (ds.getD ((i+1)%ds.length) ⟨0,0⟩)) 1]
def aEU(ds:List PtQ):List PtQ:=if ds.length=0 then [⟨1,0⟩] else(List.range ds.length).flatMap (aFQ ds)
def aDi(L:List LnQ)(p:PtQ):List PtQ:=aEU (aDJ (aEv L p))
def aGu(t:Tr)(p:PtQ):Bool:=(aDi (anX t.lns) p).any fun v=>(ayh t p v).1
def aGs(t:Tr)(p:PtQ):Bool:=(aDi (anX t.lns) p).all fun v=>(ayh t p v).1
/-! ### witnesses -/
def aDn:Tr→PtQ→List LnQ
 | .leaf _,_=>[]
 | .node l x y,p=>(if Int.sign (l.value p).num=0 then [l] else [])++((if 0≤Int.sign (l.value p).num then aDn x p else [])++(if Int.sign (l.value p).num≤0 then aDn y p else []))
def aGU(t:Tr)(p:PtQ)(b:Bool):Prop:= ∃v,Gn (aDn t p) p v∧(ayh t p v).1=b
/-! ### sectors -/
def aGe(ds:List PtQ)(i:Nat):PtQ:=
 if 0<Int.sign ((ds.getD i ⟨0,0⟩).cross (ds.getD ((i+1)%ds.length) ⟨0,0⟩)).num then(ds.getD i ⟨0,0⟩).add (ds.getD ((i+1)%ds.length) ⟨0,0⟩) else ag3 (ds.getD i ⟨0,0⟩)
def aCe(ds:List PtQ):List PtQ:=if ds.length=0 then [⟨1,0⟩] else(List.range ds.length).map (aGe ds)
def aE3(v:PtQ):PtQ:=v.scale (rgcd v.x v.y)⁻¹
def aAX(t:Tr)(p:PtQ):List PtQ:=(aDn t p).flatMap fun l=>[aE3 l.dir,ajG (aE3 l.dir)]
def aFb(ds:List PtQ):List PtQ:=alJ aa5 ds
theorem awp{u v:PtQ}:aa5 u v=0↔u.half=v.half∧u.cross v=0:=by
 unfold aa5
 split
 ·constructor
  ·intro h;exact absurd h (by decide)
  ·intro h;omega
 ·split
  ·constructor
   ·intro h;exact absurd h (by decide)
   ·intro h;omega
  ·constructor
   ·intro h
    exact⟨by omega,(abN _).1 (by omega)⟩
   ·intro h
    rw[(abN _).2 h.2];rfl
theorem aiq{u v w:PtQ}(h:Bef u v)(k:Bef v w):Bef u w:=by
 by_cases hu:u.half=0
 ·by_cases hw:w.half=0
  ·have z: ∀x y:PtQ,x.half=0→x.cross y=0:=fun x y hx=>by
    rcases acM x with⟨e,_⟩|⟨e,_⟩|⟨_,e1,e2⟩
    ·rw[hx] at e;exact absurd e (by decide)
    ·rw[hx] at e;exact absurd e (by decide)
    ·unfold PtQ.cross;rw[e1,e2];grind
   rcases h with h|⟨h,h'⟩
   ·rcases k with k|⟨k,k'⟩
    ·omega
    ·have hv:v.half≠0:=by omega
     omega
   ·rw[z u v hu] at h';exact absurd h' (by decide)
  ·refine .inl ?_
   have h1:=anS hw
   omega
 ·have hv:v.half≠0:=by
   intro e
   rcases h with h|⟨h,_⟩
   ·have:=anS hu;omega
   ·omega
  have hw:w.half≠0:=by
   intro e
   rcases k with k|⟨k,_⟩
   ·have:=anS hv;omega
   ·omega
  exact Bef.trans hu hv hw h k
section
variable {α:Type} (c:α→α→Int)
end
def inP(t:Tr)(p:PtQ):Bool:=(aCe (aFb (aAX t p))).any fun v=>(ayh t p v).1
def alP(t:Tr)(p:PtQ):Bool:=(aCe (aFb (aAX t p))).all fun v=>(ayh t p v).1
def aFF(t:Tr)(p:PtQ):Int:=if inP t p&&alP t p then 2 else if inP t p then 1 else 0
theorem anZ(u:PtQ): ¬Bef u u:=by
 rintro (h|⟨_,h⟩)
 ·omega
 ·have:u.cross u=0:=by unfold PtQ.cross;grind
  rw[this] at h;exact absurd h (by decide)
theorem av5{u v:PtQ}(h:Bef u v)(k:Bef v u):False:=anZ u (aiq h k)
theorem arY{x y:PtQ}(h: ¬Bef x y)(k: ¬Bef y x):aa5 x y=0:=by
 rw[←ahy] at h k
 unfold aa5 at*
 split at h<;>try omega
 split at h<;>try omega
 split at k<;>try omega
 rw[show y.cross x= -(x.cross y) by unfold PtQ.cross;grind,nW,Int.sign_neg] at k
 omega
theorem aqt(vs:List IvQ):acI 8 (vs.map eV):=fun d hd=>by
 obtain⟨u,_,rfl⟩:=bW.1 hd;exact⟨rfl,rfl⟩
theorem adJ(qs:List Rat):acI 3 (qs.map eQ):=fun d hd=>by
 obtain⟨u,_,rfl⟩:=bW.1 hd;exact⟨rfl,rfl⟩
theorem aA5(bs:List Bool):acI 1 (bs.map vB):=fun d hd=>by
 obtain⟨u,_,rfl⟩:=bW.1 hd;exact⟨rfl,rfl⟩
theorem awY{l:List IvQ}{k:Nat}{v:IvQ}{t:Rat}{a b:Int}(h:l[k]? =some v)(ha:a=if v.nl then 1 else abc t v.lo)(hb:b=if v.nh then-1 else abc t v.hi):
  auv (l.drop k) t=if 0<a∧b<0 then 2 else if(a=0∧b≤0)∨(b=0∧0≤a) then 1 else auv (l.drop (k+1)) t:=by
 obtain⟨hk,rfl⟩:=bJ.1 h
 rw[bQ hk,auv,ha,hb]
structure IvB (v:IvQ):Prop where
 lo:BQ v.lo 1200
 hi:BQ v.hi 1200
theorem awR{l:List IvQ}{t:Rat}{i:Nat}[ht:BQ t i](hb: ∀v∈l,IvB v)(hn:l.length≤100000)(hi:i≤20000:=by decide):PF GB prog 315 [.sl (l.map eV),eQ t] (vI (auv l t)):=by
 have hm:=aaI eV l
 refine fn (fu:=⟨11⟩) func315 J J ntmps315 J J (fun C=>?_)
 refine eqF 10 (.d (vI (l.length:Nat))) rfl (by rw[hm]<;>rfl) ?_
 refine gx rfl<|?_
 refine lp (X:=Nat) (fun k=>[(11, .d (vI (k:Nat)))]) (fun k=>[]) (fun k=>k≤l.length∧auv (l.drop k) t=auv l t) (fun k=>l.length-k) 0 rfl ⟨aR _,rfl⟩ (fun _=>rfl) (fun k hk=>?_)
 obtain⟨h1,h2⟩:=hk
 refine br J J J (fun hc12=>?_) (fun hc12=>?_)
 ·
  obtain⟨v,hz⟩: ∃s,l[k]? =some s:=⟨_,aQ (by omega)⟩
  have hv:=hb v (aM hz)
  haveI:=hv.lo
  haveI:=hv.hi
  refine ix (fu:=⟨12⟩) _ rfl (aak hz) rfl<|?_
  refine mg (fu:=⟨1⟩) (X:=Int) (fun a=>[(7, .d (vI a))]) (fun a=>[]) (fun a=>a=if v.nl then 1 else abc t v.lo) [7] [] rfl ?_ (fun _=>rfl) (fun a ha=>?_)
  ·
   refine gx rfl<|?_
   refine bb J J J (fun hc17=>?_) (fun hc17=>?_)
   ·
    refine cl rfl (q_C (a:=t) (b:=v.lo) (i:=i) (by omega)) rfl<|?_
    exact at_ (abc t v.lo) (by rw[if_neg (by simpa using hc17)])
   ·
    exact at_ 1 (by rw[if_pos (by simpa using hc17)])
  ·
   refine mg (X:=Int) (fun b=>[(8, .d (vI b))]) (fun b=>[]) (fun b=>b=if v.nh then-1 else abc t v.hi) [8] [] rfl ?_ (fun _=>rfl) (fun b hb'=>?_)
   ·
    refine gx rfl<|?_
    refine bb J J J (fun hc24=>?_) (fun hc24=>?_)
    ·
     refine cl rfl (q_C (a:=t) (b:=v.hi) (i:=i) (by omega)) rfl<|?_
     exact at_ (abc t v.hi) (by rw[if_neg (by simpa using hc24)])
    ·
     exact at_ (-1) (by rw[if_pos (by simpa using hc24)])
   ·
    have hst:=awY hz ha hb'
    refine cs 31 J J J (fun hg31=>?_) (fun hg31=>?_)
    ·
     refine br J J J (fun hc34=>?_) (fun hc34=>?_)
     ·
      exact rz rfl (by first|(rw[←h2,dS];rfl)|(rw[←h2,hst,if_pos (by omega)];rfl)|(rw[←h2,hst,if_neg (by omega),if_pos (by omega)];rfl))
     ·
      refine cs 37 J J J (fun hg37=>?_) (fun hg37=>?_)
      ·
       refine cs 41 J J J (fun hg41=>?_) (fun hg41=>?_)
       ·
        exact rz rfl (by first|(rw[←h2,dS];rfl)|(rw[←h2,hst,if_pos (by omega)];rfl)|(rw[←h2,hst,if_neg (by omega),if_pos (by omega)];rfl))
       ·
        refine cs 44 J J J (fun hg44=>?_) (fun hg44=>?_)
        ·
         refine br J J J (fun hc48=>?_) (fun hc48=>?_)
         ·
          exact rz rfl (by first|(rw[←h2,dS];rfl)|(rw[←h2,hst,if_pos (by omega)];rfl)|(rw[←h2,hst,if_neg (by omega),if_pos (by omega)];rfl))
         ·
          exact at_ (k+1) ⟨⟨by omega,by rw[←h2,hst,if_neg (by omega),if_neg (by omega)]⟩,(by omega)⟩
        ·
         exact at_ (k+1) ⟨⟨by omega,by rw[←h2,hst,if_neg (by omega),if_neg (by omega)]⟩,(by omega)⟩
      ·
       refine cs 44 J J J (fun hg44=>?_) (fun hg44=>?_)
       ·
        refine br J J J (fun hc48=>?_) (fun hc48=>?_)
        ·
         exact rz rfl (by first|(rw[←h2,dS];rfl)|(rw[←h2,hst,if_pos (by omega)];rfl)|(rw[←h2,hst,if_neg (by omega),if_pos (by omega)];rfl))
        ·
         exact at_ (k+1) ⟨⟨by omega,by rw[←h2,hst,if_neg (by omega),if_neg (by omega)]⟩,(by omega)⟩
       ·
        exact at_ (k+1) ⟨⟨by omega,by rw[←h2,hst,if_neg (by omega),if_neg (by omega)]⟩,(by omega)⟩
    ·
     refine cs 37 J J J (fun hg37=>?_) (fun hg37=>?_)
     ·
      refine cs 41 J J J (fun hg41=>?_) (fun hg41=>?_)
      ·
       exact rz rfl (by first|(rw[←h2,dS];rfl)|(rw[←h2,hst,if_pos (by omega)];rfl)|(rw[←h2,hst,if_neg (by omega),if_pos (by omega)];rfl))
      ·
       refine cs 44 J J J (fun hg44=>?_) (fun hg44=>?_)
       ·
        refine br J J J (fun hc48=>?_) (fun hc48=>?_)
        ·
         exact rz rfl (by first|(rw[←h2,dS];rfl)|(rw[←h2,hst,if_pos (by omega)];rfl)|(rw[←h2,hst,if_neg (by omega),if_pos (by omega)];rfl))
        ·
         exact at_ (k+1) ⟨⟨by omega,by rw[←h2,hst,if_neg (by omega),if_neg (by omega)]⟩,(by omega)⟩
       ·
        exact at_ (k+1) ⟨⟨by omega,by rw[←h2,hst,if_neg (by omega),if_neg (by omega)]⟩,(by omega)⟩
     ·
      refine cs 44 J J J (fun hg44=>?_) (fun hg44=>?_)
      ·
       refine br J J J (fun hc48=>?_) (fun hc48=>?_)
       ·
        exact rz rfl (by first|(rw[←h2,dS];rfl)|(rw[←h2,hst,if_pos (by omega)];rfl)|(rw[←h2,hst,if_neg (by omega),if_pos (by omega)];rfl))
       ·
        exact at_ (k+1) ⟨⟨by omega,by rw[←h2,hst,if_neg (by omega),if_neg (by omega)]⟩,(by omega)⟩
      ·
       exact at_ (k+1) ⟨⟨by omega,by rw[←h2,hst,if_neg (by omega),if_neg (by omega)]⟩,(by omega)⟩
 ·
  obtain rfl:k=l.length:=by omega
  exact rz rfl (by first|(rw[←h2,dS];rfl)|(rw[←h2,hst,if_pos (by omega)];rfl)|(rw[←h2,hst,if_neg (by omega),if_pos (by omega)];rfl))
theorem aCB{l:List IvQ}{t:Rat}{i:Nat}[ht:BQ t i](hb: ∀v∈l,IvB v)(hn:l.length≤100000)(hi:i≤20000:=by decide):PF GB prog 291 [.sl (l.map eV),eQ t] (vB (ace l t)):=by
 refine fn func291 J J ntmps291 J J (fun C=>?_)
 refine cl rfl (awR (l:=l) (t:=t) hb hn hi) rfl<|?_
 exact rz J J
theorem anm: ∀{l:List Rat} {i:Nat} {a b:Rat},l[i]? =some a→l[i+1]? =some b→ady (l.take (i+2))=ady (l.take (i+1))++[(a+b)/2]
 |[],i,a,b,h,_=>by simp at h
 |[_],i,a,b,h,k=>by simp at k
 |c::d::t,0,a,b,h,k=>by
  simp at h k;subst h;subst k
  simp[ady]
 |c::d::t,i+1,a,b,h,k=>by
  have:=anm (l:=d::t) (i:=i) (by simpa using h) (by simpa using k)
  rw[show(c::d::t).take (i+1+2)=c::d::t.take (i+1) by simp,show(c::d::t).take (i+1+1)=c::d::t.take i by simp,ady,ady,jQ]
  congr 1
theorem aja: ∀l:List Rat,(ady l).length≤l.length
 |[]=>aL _
 |[_]=>aR _
 |a::b::t=>by rw[ady,bU,bU];exact Nat.succ_le_succ (aja (b::t))
theorem asS{a:Rat}{t:List Rat}{z:Rat}(h:(a::t)[t.length]? =some z):abW (a::t)=(a-1)::(ady (a::t)++[z+1]):=by
 rw[abW]
 have:(a::t).getLast (by simp)=z:=by
  rw[List.getLast_eq_getElem]
  have:=bJ.1 h
  obtain⟨h1,h2⟩:=this
  rw[←h2];congr 1
 rw[this]
theorem auW{cuts:List Rat}(hb: ∀q∈cuts,BQ q 1200)(hn:cuts.length≤100000):PF GB prog 290 [.sl (cuts.map eQ)] (.sl ((abW cuts).map eQ)):=by
 have hm:=aaI eQ cuts
 refine fn (fu:=⟨10⟩) func290 J J ntmps290 J J (fun C=>?_)
 refine eqF 6 (.d (vI (cuts.length:Nat))) rfl (by rw[hm]<;>rfl) ?_
 refine gx rfl<|?_
 refine br J J J (fun hc7=>?_) (fun hc7=>?_)
 ·
  obtain rfl:cuts=[]:=bY (by omega)
  refine rf J J<|?_
  exact rz rfl (by rw[abW];show DV.sl [_]=DV.sl [_];rw[ar4])
 ·
  obtain⟨a,ct,rfl⟩: ∃a t,cuts=a::t:=by cases cuts with|nil=>exact absurd rfl hc7|cons a t=>exact⟨a,t,rfl⟩
  haveI hab:=hb a aZ
  have hcl:ct.length+1≤100000:=hn
  refine ix _ J J J<|cl rfl (ale (n:=1) (by decide) (by decide)) rfl<|cl (fu:=⟨0⟩) rfl (alt (a:=a) (b:=((1:Int):Rat))) rfl<|?_
  refine eqF 14 (.d (eQ (a-1))) J J ?_
  refine gx rfl<|ro J J<|?_
  refine lp (fu:=⟨6⟩) (X:=Nat) (fun i=>[(4, .d (vI ((i+1:Nat):Int))),(3, .rw 15)]) (fun i=>[(15,some (.b 52 3 (((a-1)::ady ((a::ct).take (i+1))).map eQ) true))]) (fun i=>i≤ct.length) (fun i=>ct.length-i) 0 rfl (aR _) (fun _=>rfl) (fun i hk=>?_)
  have hm2:=aaI eQ (a::ct)
  have hml:=aja (a::ct.take i)
  rw[bU,cK] at hml
  have hml2:=aja (a::ct)
  rw[bU] at hml2
  refine eqF 18 (.d (vI ((ct.length+1:Nat):Int))) rfl (by rw[hm2]<;>rfl) ?_
  refine gx rfl<|?_
  refine br (fu2:=⟨11⟩) J J J (fun hc19=>?_) (fun hc19=>?_)
  ·
   obtain⟨u,hu⟩: ∃s,(a::ct)[i]? =some s:=⟨_,aQ (by simp;omega)⟩
   obtain⟨w,hw⟩: ∃s,(a::ct)[i+1]? =some s:=⟨_,aQ (by simp;omega)⟩
   haveI:=hb u (aM hu)
   haveI:=hb w (aM hw)
   refine ix _ rfl (by rw[show((((i+1:Nat):Int))-1).toNat=i by omega,cN,hu];rfl) rfl<|ix _ rfl (by rw[bZ,cN,hw];rfl) rfl<|?_
   refine cl rfl (azd (a:=u) (b:=w)) rfl<|rf J J<|ap (hv:=by simp only[aah];exact⟨by kernel_rfl,by omega⟩) (((a-1)::ady ((a::ct).take (i+1+1))).map eQ) rfl (by rw[anm hu hw,←jQ,aN];rfl) (adJ [(u+w)/2]) rfl<|?_
   refine rnE 34 15 rfl ?_
   exact at_ (i+1) ⟨(by omega),(by omega)⟩
  ·
   obtain rfl:i=ct.length:=by omega
   obtain⟨z,hz⟩: ∃s,(a::ct)[ct.length]? =some s:=⟨_,aQ (by simp)⟩
   haveI:=hb z (aM hz)
   rw[show(a::ct).take (ct.length+1)=a::ct from fV (l:=a::ct)]
   refine eqF 38 (.d (vI ((ct.length+1:Nat):Int))) rfl (by rw[hm2]<;>rfl) ?_
   refine gx rfl<|ix _ rfl (by rw[show((((ct.length+1:Nat):Int))-1).toNat=ct.length by omega,cN,hz];rfl) rfl<|cl rfl (ale (n:=1) (by decide) (by decide)) rfl<|?_
   refine cl rfl (aeN (a:=z) (b:=((1:Int):Rat))) rfl<|rf J J<|ap ((abW (a::ct)).map eQ) rfl (by rw[asS hz,←jQ,aN];rfl) (adJ [z+1]) rfl<|?_
   refine fzE 45 rfl ?_
   exact rz J J
theorem ap5(o:List Rat)(s:IvQ):(anf o s).length≤o.length+2:=by
 unfold anf
 have h:=fun(x:Rat) (l:List Rat)=>amz (x:=x) (l:=l)▸ah2 abc x l
 have h1:=h s.lo o
 have h2:=h s.hi o
 have h3:=h s.hi (aob s.lo o)
 split<;>split<;>omega
def ajD(l:List IvQ)(k:Nat):List Rat:=acZ (l.take k)
theorem akp{l:List IvQ}{k:Nat}{v:IvQ}(h:l[k]? =some v):ajD l (k+1)=anf (ajD l k) v:=by
 unfold ajD acZ;rw[gQ,h,qJ];rfl
theorem agn(l:List IvQ): ∀k,(ajD l k).length≤2*k
 |0=>aL _
 |k+1=>by
  cases h:l[k]? with
  |none=>
   have:=agn l k
   unfold ajD at*
   rw[gQ,h];simp;omega
  |some v=>rw[akp h];have:=agn l k;have:=ap5 (ajD l k) v;omega
theorem aql{l:List IvQ}(hb: ∀v∈l,IvB v){k:Nat}: ∀y∈ajD l k,BQ y 1200:=fun y hy=>by
 obtain⟨s,hs,h⟩:=(agW _).2 y hy
 have:=hb s (eJ hs)
 rcases h with⟨_,rfl⟩|⟨_,rfl⟩
 ·exact this.lo
 ·exact this.hi
def aus(o:List Rat)(v:IvQ)(j:Nat):List Rat:=if j=0 then o else if j=1 then(if v.nl then o else aob v.lo o) else anf o v
def aBW(v:IvQ)(j:Nat):Rat:=if j=0 then v.lo else v.hi
def arB(v:IvQ)(j:Nat):Bool:=if j=0 then v.nl else v.nh
theorem ac3{o:List Rat}{v:IvQ}{j:Nat}(hj:j<2):aus o v (j+1)=if arB v j then aus o v j else afC abc (aBW v j) (aus o v j):=by
 have:j=0∨j=1:=by omega
 rcases this with rfl|rfl
 ·simp[aus,arB,aBW,amz]
 ·simp[aus,arB,aBW,anf,amz]
theorem avM{o:List Rat}{v:IvQ}{j:Nat}(hj:j≤2):(aus o v j).length≤o.length+2:=by
 unfold aus
 have:=ap5 o v
 have h:=amz (x:=v.lo) (l:=o)▸ah2 abc v.lo o
 split
 ·omega
 ·split
  ·split<;>omega
  ·exact this
theorem azZ{o:List Rat}(ho: ∀q∈o,BQ q 1200){v:IvQ}(hv:IvB v){j:Nat}(hj:j≤2): ∀q∈aus o v j,BQ q 1200:=fun q hq=>by
 unfold aus anf at hq
 have lo:=hv.lo
 have hi:=hv.hi
 split at hq
 ·exact ho q hq
 ·split at hq
  ·split at hq
   ·exact ho q hq
   ·rcases acD.1 hq with rfl|hq
    ·exact lo
    ·exact ho q hq
  ·split at hq
   ·split at hq
    ·exact ho q hq
    ·rcases acD.1 hq with rfl|hq
     ·exact lo
     ·exact ho q hq
   ·rcases acD.1 hq with rfl|hq
    ·exact hi
    ·split at hq
     ·exact ho q hq
     ·rcases acD.1 hq with rfl|hq
      ·exact lo
      ·exact ho q hq
theorem aB3{l:List IvQ}(hb: ∀v∈l,IvB v)(hn:l.length≤10000):PF GB prog 289 [.sl (l.map eV)] (.sl ((acZ l).map eQ)):=by
 have hm:=aaI eV l
 refine fn (fu:=⟨15⟩) func289 J J ntmps289 J J (fun C=>?_)
 refine eqF 10 (.d (vI (l.length:Nat))) rfl (by rw[hm]<;>rfl) ?_
 refine gx rfl<|?_
 refine nlC 3 rfl ?_
 refine lp (X:=List Rat×Nat) (fun⟨o,k⟩=>[(11, .d (vI (k:Nat))),(3, .d (.sl (o.map eQ)))]) (fun⟨o,k⟩=>[]) (fun⟨o,k⟩=>o=ajD l k∧k≤l.length) (fun⟨o,k⟩=>l.length-k) ([],0) rfl ⟨rfl,aR _⟩ (fun _=>rfl) (fun⟨o,k⟩ hk=>?_)
 dsimp only at hk⊢
 obtain⟨h1,h2⟩:=hk
 refine br J J J (fun hc12=>?_) (fun hc12=>?_)
 ·
  obtain⟨v,hz⟩: ∃s,l[k]? =some s:=⟨_,aQ (by omega)⟩
  have hv:=hb v (aM hz)
  haveI:=hv.lo
  haveI:=hv.hi
  have hob:=aql hb (k:=k)
  have hol:=agn l k
  rw[←h1] at hob hol
  refine ix _ rfl (aak hz) rfl<|rf J J<|?_
  refine lp (X:=List Rat×Nat) (fun⟨xs,j⟩=>[(21, .d (vI (j:Nat))),(3, .d (.sl (xs.map eQ)))]) (fun⟨xs,j⟩=>[]) (fun⟨xs,j⟩=>xs=aus o v j∧j≤2) (fun⟨xs,j⟩=>2-j) (o,0) rfl ⟨rfl,by omega⟩ (fun _=>rfl) (fun⟨xs,j⟩ hk=>?_)
  dsimp only at hk⊢
  obtain⟨g1,g2⟩:=hk
  refine br J J J (fun hc22=>?_) (fun hc22=>?_)
  ·
   have hj2:j<2:=by have:=hc22;simp only[bU,fY] at this;omega
   obtain⟨m,hm2⟩: ∃m,m=aBW v j:=⟨_,rfl⟩
   haveI hmb:BQ m 1200:=by rw[hm2];unfold aBW;split;exact hv.lo;exact hv.hi
   have hxl:=aaI eQ xs
   have hxn:xs.length≤2*k+2:=by rw[g1];have:=avM (o:=o) (v:=v) (j:=j) g2;omega
   have hxb: ∀q∈xs,BQ q 1200:=by rw[g1];exact azZ hob hv g2
   refine ix (fu:=⟨10⟩) _ rfl (by rw[bZ];exact(show([v.lo,v.hi].map eQ)[j]? =some (eQ m) by rw[hm2];have:j=0∨j=1:=(by omega);rcases this with rfl|rfl<;>rfl)) rfl<|?_
   rcases(show j=0∨j=1 by omega) with rfl|rfl
   ·
    refine knT J J J<|?_
    refine csb (fu2:=⟨1⟩) 32 J J J (fun hg32=>?_) (fun hg32=>?_)
    ·
     exact at_ (xs,0+1) (by dsimp only;exact⟨⟨by rw[ac3 (by decide),if_pos (by simpa[arB] using hg32),←g1],by omega⟩,(by omega)⟩)
    ·
     refine knF (fu:=⟨16⟩) J J J<|?_
     refine mg (fu:=⟨5⟩) (X:=Nat) (fun n=>[(8, .d (vI (n:Nat)))]) (fun n=>[]) (fun n=>ak8 abc m xs=n) [8] [] rfl ?_ (fun _=>rfl) (fun n hnx=>?_)
     ·
      refine gx rfl<|?_
      refine lp (fu:=⟨6⟩) (X:=Nat) (fun n=>[(8, .d (vI (n:Nat)))]) (fun n=>[]) (fun n=>n≤xs.length∧ ∀j (h:j<xs.length),j<n→abc xs[j] m<0) (fun n=>xs.length-n) 0 rfl ⟨aR _,fun j _ hj=>absurd hj (by omega)⟩ (fun _=>rfl) (fun n hk=>?_)
      obtain⟨n1,n2⟩:=hk
      refine csS (v2:=fun hg43=>by simp only[aah];kernel_rfl) J J J J (fun hg43=>?_) (fun hg43=>?_)
      ·
       refine ix _ rfl (acY (by omega)) rfl<|cl rfl (q_C (a:=xs[n]'(by omega)) (b:=m) (ha:=hxb _ (bM (by omega))) (hb:=hmb)) rfl<|?_
       refine br J J J (fun hc52=>?_) (fun hc52=>?_)
       ·
        exact at_ (n+1) ⟨⟨by omega,fun j h hj=>by by_cases q:j=n;(subst q;exact hc52);exact n2 j h (by omega)⟩,(by omega)⟩
       ·
        exact at_ n (ae5 abc n1 n2 (fun h=>hc52))
      ·
       exact at_ n (ae5 abc n1 n2 (fun h=>absurd h (by omega)))
     ·
      have hnl:n≤xs.length:=by rw[←hnx];exact alS _ _ _
      refine csS (v1:=fun hg58=>by simp only[aah];kernel_rfl) J J J J (fun hg58=>?_) (fun hg58=>?_)
      ·
       have hnew: ∀h:n<xs.length,abc xs[n] m≠0:=fun h=>absurd h (by omega)
       obtain⟨ys,hys⟩: ∃ys,ys=xs.take n++m::xs.drop n:=⟨_,rfl⟩
       have hin:afC abc m xs=ys:=by rw[hys];exact adj abc hnx hnew
       have hyl:ys.length≤xs.length+1:=by rw[hys];simp;omega
       refine s3 n _ J J J J (adJ _) (by rw[hxl];exact hnl) rfl<|ro J J<|sc' n xs.length _ J J (by rw[hxl]) rfl (adJ _) hnl (by omega) rfl<|?_
       refine ap _ J J (slD adJ _ _ _) rfl<|apf (hv:=by simp only[aah];exact⟨by kernel_rfl,by omega⟩) (ho:=fun _=>⟨slT adJ _ _,by simp⟩) (ys.map eQ) rfl (by rw[hys,aN,cZ,gX,iZ,aV (l:=xs.map eQ) (i:=xs.length) (by simp)];rfl) (slI adJ _ _ _ _) rfl<|?_
       exact at_ (ys,0+1) (by dsimp only;exact⟨⟨by rw[ac3 (by decide),if_neg (by simpa[arB] using hg32),←g1,←hm2,hin],by omega⟩,(by omega)⟩)
      ·
       refine ix _ rfl (acY (by omega)) rfl<|cl rfl (q_C (a:=xs[n]'(by omega)) (b:=m) (ha:=hxb _ (bM (by omega))) (hb:=hmb)) rfl<|?_
       refine br (fu2:=⟨7⟩) J J J (fun hc67=>?_) (fun hc67=>?_)
       ·
        have hnew: ∀h:n<xs.length,abc xs[n] m≠0:=fun h=>hc67
        obtain⟨ys,hys⟩: ∃ys,ys=xs.take n++m::xs.drop n:=⟨_,rfl⟩
        have hin:afC abc m xs=ys:=by rw[hys];exact adj abc hnx hnew
        have hyl:ys.length≤xs.length+1:=by rw[hys];simp;omega
        refine s3 n _ J J J J (adJ _) (by rw[hxl];exact hnl) rfl<|ro J J<|sc' n xs.length _ J J (by rw[hxl]) rfl (adJ _) hnl (by omega) rfl<|?_
        refine ap _ J J (slD adJ _ _ _) rfl<|apf (hv:=by simp only[aah];exact⟨by kernel_rfl,by omega⟩) (ho:=fun _=>⟨slT adJ _ _,by simp⟩) (ys.map eQ) rfl (by rw[hys,aN,cZ,gX,iZ,aV (l:=xs.map eQ) (i:=xs.length) (by simp)];rfl) (slI adJ _ _ _ _) rfl<|?_
        exact at_ (ys,0+1) (by dsimp only;exact⟨⟨by rw[ac3 (by decide),if_neg (by simpa[arB] using hg32),←g1,←hm2,hin],by omega⟩,(by omega)⟩)
       ·
        have hin:afC abc m xs=xs:=af7 abc hnx (by omega) (Decidable.not_not.1 hc67)
        exact at_ (xs,0+1) (by dsimp only;exact⟨⟨by rw[ac3 (by decide),if_neg (by simpa[arB] using hg32),←g1,←hm2,hin],by omega⟩,(by omega)⟩)
   ·
    refine knF (fu:=⟨6⟩) J J J<|knT J J J<|?_
    refine bb (fu2:=⟨8⟩) J J J (fun hc39=>?_) (fun hc39=>?_)
    ·
     exact at_ (xs,1+1) (by dsimp only;exact⟨⟨by rw[ac3 (by decide),if_pos (by simpa[arB] using hc39),←g1],by omega⟩,(by omega)⟩)
    ·
     refine mg (fu:=⟨5⟩) (X:=Nat) (fun n=>[(8, .d (vI (n:Nat)))]) (fun n=>[]) (fun n=>ak8 abc m xs=n) [8] [] rfl ?_ (fun _=>rfl) (fun n hnx=>?_)
     ·
      refine gx rfl<|?_
      refine lp (fu:=⟨6⟩) (X:=Nat) (fun n=>[(8, .d (vI (n:Nat)))]) (fun n=>[]) (fun n=>n≤xs.length∧ ∀j (h:j<xs.length),j<n→abc xs[j] m<0) (fun n=>xs.length-n) 0 rfl ⟨aR _,fun j _ hj=>absurd hj (by omega)⟩ (fun _=>rfl) (fun n hk=>?_)
      obtain⟨n1,n2⟩:=hk
      refine csS (v2:=fun hg43=>by simp only[aah];kernel_rfl) J J J J (fun hg43=>?_) (fun hg43=>?_)
      ·
       refine ix _ rfl (acY (by omega)) rfl<|cl rfl (q_C (a:=xs[n]'(by omega)) (b:=m) (ha:=hxb _ (bM (by omega))) (hb:=hmb)) rfl<|?_
       refine br J J J (fun hc52=>?_) (fun hc52=>?_)
       ·
        exact at_ (n+1) ⟨⟨by omega,fun j h hj=>by by_cases q:j=n;(subst q;exact hc52);exact n2 j h (by omega)⟩,(by omega)⟩
       ·
        exact at_ n (ae5 abc n1 n2 (fun h=>hc52))
      ·
       exact at_ n (ae5 abc n1 n2 (fun h=>absurd h (by omega)))
     ·
      have hnl:n≤xs.length:=by rw[←hnx];exact alS _ _ _
      refine csS (v1:=fun hg58=>by simp only[aah];kernel_rfl) J J J J (fun hg58=>?_) (fun hg58=>?_)
      ·
       have hnew: ∀h:n<xs.length,abc xs[n] m≠0:=fun h=>absurd h (by omega)
       obtain⟨ys,hys⟩: ∃ys,ys=xs.take n++m::xs.drop n:=⟨_,rfl⟩
       have hin:afC abc m xs=ys:=by rw[hys];exact adj abc hnx hnew
       have hyl:ys.length≤xs.length+1:=by rw[hys];simp;omega
       refine s3 n _ J J J J (adJ _) (by rw[hxl];exact hnl) rfl<|ro J J<|sc' n xs.length _ J J (by rw[hxl]) rfl (adJ _) hnl (by omega) rfl<|?_
       refine ap _ J J (slD adJ _ _ _) rfl<|apf (hv:=by simp only[aah];exact⟨by kernel_rfl,by omega⟩) (ho:=fun _=>⟨slT adJ _ _,by simp⟩) (ys.map eQ) rfl (by rw[hys,aN,cZ,gX,iZ,aV (l:=xs.map eQ) (i:=xs.length) (by simp)];rfl) (slI adJ _ _ _ _) rfl<|?_
       exact at_ (ys,1+1) (by dsimp only;exact⟨⟨by rw[ac3 (by decide),if_neg (by simpa[arB] using hc39),←g1,←hm2,hin],by omega⟩,(by omega)⟩)
      ·
       refine ix _ rfl (acY (by omega)) rfl<|cl rfl (q_C (a:=xs[n]'(by omega)) (b:=m) (ha:=hxb _ (bM (by omega))) (hb:=hmb)) rfl<|?_
       refine br J J J (fun hc67=>?_) (fun hc67=>?_)
       ·
        have hnew: ∀h:n<xs.length,abc xs[n] m≠0:=fun h=>hc67
        obtain⟨ys,hys⟩: ∃ys,ys=xs.take n++m::xs.drop n:=⟨_,rfl⟩
        have hin:afC abc m xs=ys:=by rw[hys];exact adj abc hnx hnew
        have hyl:ys.length≤xs.length+1:=by rw[hys];simp;omega
        refine s3 n _ J J J J (adJ _) (by rw[hxl];exact hnl) rfl<|ro J J<|sc' n xs.length _ J J (by rw[hxl]) rfl (adJ _) hnl (by omega) rfl<|?_
        refine ap _ J J (slD adJ _ _ _) rfl<|apf (hv:=by simp only[aah];exact⟨by kernel_rfl,by omega⟩) (ho:=fun _=>⟨slT adJ _ _,by simp⟩) (ys.map eQ) rfl (by rw[hys,aN,cZ,gX,iZ,aV (l:=xs.map eQ) (i:=xs.length) (by simp)];rfl) (slI adJ _ _ _ _) rfl<|?_
        exact at_ (ys,1+1) (by dsimp only;exact⟨⟨by rw[ac3 (by decide),if_neg (by simpa[arB] using hc39),←g1,←hm2,hin],by omega⟩,(by omega)⟩)
       ·
        have hin:afC abc m xs=xs:=af7 abc hnx (by omega) (Decidable.not_not.1 hc67)
        exact at_ (xs,1+1) (by dsimp only;exact⟨⟨by rw[ac3 (by decide),if_neg (by simpa[arB] using hc39),←g1,←hm2,hin],by omega⟩,(by omega)⟩)
  ·
   have hj2: ¬j<2:=by have:=hc22;simp only[bU,fY] at this;omega
   exact at_ (xs,k+1) (by dsimp only;exact⟨⟨by rw[akp hz,←h1,g1,show j=2 by omega];rfl,by omega⟩,(by omega)⟩)
 ·
  have hfin:acZ l=o:=by rw[h1,show k=l.length by omega];unfold ajD;rw[fV]
  exact rz rfl (by rw[hfin];rfl)
theorem auO(t:Rat):eV ⟨t,0,false,true⟩= .ag [.v (.bool (decide (t.num<0))),dN t.num.natAbs,dD t.den, .v (.bool false), .sl [], .sl [], .v (.bool false), .v (.bool true)]:=by
 unfold eV dD
 simp only[show(0:Rat).num=0 from rfl,show(0:Rat).den=1 from rfl,jS,ac6];rfl
theorem awX(t:Rat):eV ⟨0,t,true,false⟩= .ag [.v (.bool false), .sl [], .sl [], .v (.bool (decide (t.num<0))),dN t.num.natAbs,dD t.den, .v (.bool true), .v (.bool false)]:=by
 unfold eV dD
 simp only[show(0:Rat).num=0 from rfl,show(0:Rat).den=1 from rfl,jS,ac6];rfl
def asU(l m:LnQ)(side:Int):DV:= .tp [.sl ((adt l m side).map eV),vB (onB l m)]
theorem anr{l m:LnQ}(h:crossI l m≠0):onB l m=false:=by unfold onB;rw[decide_eq_false];exact fun e=>h e.1
theorem ass{l m:LnQ}(h:crossI l m=0):onB l m=decide ((m.value l.base).num.sign=0):=by unfold onB;simp[h]
theorem atp{l m:LnQ}{side:Int}[hl:LB l][hm:LB m](hlo:l.ok)(hmo:m.ok)(hs:side=1∨side= -1):PF GB prog 250 [eL l,eL m,vI side] (asU l m side):=by
 refine fn func250 J J ntmps250 J J (fun C=>?_)
 refine cl rfl (as0 (l:=l) (m:=m)) rfl<|?_
 refine bb J J J (fun hc19=>?_) (fun hc19=>?_)
 ·
  have hc:crossI l m=0:=by simpa using hc19
  refine cl rfl (atT hlo.ne) rfl<|cl rfl (aoP (l:=m) (p:=l.base)) rfl<|?_
  refine br J J J (fun hc26=>?_) (fun hc26=>?_)
  ·
   refine cl rfl axZ rfl<|rf J J<|?_
   exact rz rfl (by unfold asU adt;rw[if_pos hc,if_pos hc26,ass hc];rfl)
  ·
   exact rz rfl (by unfold asU adt;rw[if_pos hc,if_neg hc26,ass hc];rfl)
 ·
  have hc:crossI l m≠0:=by simpa using hc19
  haveI hpb:=ah0 (l:=l) (m:=m) hlo.ne hc
  obtain⟨t,ht⟩: ∃t,t=abp l (abH l m):=⟨_,rfl⟩
  refine cl (fu:=⟨0⟩) rfl (ak5 (l:=l) (p:=abH l m) hlo.ne) rfl<|?_
  refine eqF 35 (.d (eQ t)) rfl (by rw[ht]) ?_
  rw[←ht] at hpb
  refine gx rfl<|cl rfl (ale (n:=1) (by decide) (by decide)) rfl<|cl rfl (aeN (a:=t) (b:=((1:Int):Rat))) rfl<|cl rfl (aFx (l:=l) (t:=t+((1:Int):Rat)) hlo.ne) rfl<|?_
  refine cl rfl (aoP (l:=m) (p:=l.at (t+((1:Int):Rat)))) rfl<|?_
  refine br J J J (fun hc44=>?_) (fun hc44=>?_)
  ·
   refine rf J J<|?_
   exact rz rfl (by unfold asU adt;rw[if_neg hc,←ht,if_pos (show(m.value (l.at (t+1))).num.sign=side from hc44),anr hc,cZ,auO];rfl)
  ·
   refine rf J J<|?_
   exact rz rfl (by unfold asU adt;rw[if_neg hc,←ht,if_neg (show¬(m.value (l.at (t+1))).num.sign=side from hc44),anr hc,cZ,awX];rfl)
def eFF(f:FrQ):DV:= .ag [.v (.bool (decide (f.l.a<0))),dN f.l.a.natAbs, .v (.bool (decide (f.l.b<0))),dN f.l.b.natAbs, .v (.bool (decide (f.l.c<0))),dN f.l.c.natAbs, .v (.bool (decide (f.v.lo.num<0))),dN f.v.lo.num.natAbs,dD f.v.lo.den, .v (.bool (decide (f.v.hi.num<0))),dN f.v.hi.num.natAbs,dD f.v.hi.den, .v (.bool f.v.nl), .v (.bool f.v.nh)]
theorem ajZ(fs:List FrQ):acI 14 (fs.map eFF):=fun d hd=>by
 obtain⟨u,_,rfl⟩:=bW.1 hd;exact⟨rfl,rfl⟩
theorem bpZ{p:ZP}(h:ZP.le 100 p):BPt p.q 12:=by
 haveI:BI p.1 11:=biC (by have:=h.1;omega) (by decide)
 haveI:BI p.2 11:=biC (by have:=h.2;omega) (by decide)
 exact(inferInstance:BPt (iP p.1 p.2) 12)
theorem aq7{v w:ZP}(hv:ZP.le 100 v)(hw:ZP.le 100 w)(h:v≠w):PF GB prog 191 [eP v.q,eP w.q] (.tp [eFF (aeS v w),vB true]):=by
 have hne: ¬(w.1=v.1∧w.2=v.2):=fun e=>h (Prod.ext e.1.symm e.2.symm)
 obtain⟨hlb,hlo⟩:=axR (m:=v.1) (n:=v.2) (p:=w.1) (q:=w.2) (by have:=hv.1;omega) (by have:=hv.2;omega) (by have:=hw.1;omega) (by have:=hw.2;omega) hne
 haveI:=hlb
 haveI:=bpZ hv
 haveI:=bpZ hw
 refine fn func191 J J ntmps191 J J (fun C=>?_)
 refine cl (fu:=⟨3⟩) rfl (amj (m:=v.1) (n:=v.2) (m':=w.1) (n':=w.2) (by have:=hv.1;omega) (by have:=hv.2;omega) (by have:=hw.1;omega) (by have:=hw.2;omega) (fun e=>hne ⟨e.1.symm,e.2.symm⟩)) rfl<|?_
 refine kbT 13 rfl ?_
 refine gx rfl<|cl rfl (ak5 (l:=alU v.1 v.2 w.1 w.2) (p:=v.q) hlo.ne) rfl<|cl rfl (ak5 (l:=alU v.1 v.2 w.1 w.2) (p:=w.q) hlo.ne) rfl<|?_
 exact rz J J
theorem aEm(a b:Bool):eV ⟨0,0,a,b⟩= .ag [.v (.bool false), .sl [], .sl [], .v (.bool false), .sl [], .sl [], .v (.bool a), .v (.bool b)]:=by
 unfold eV dD
 simp only[show(0:Rat).num=0 from rfl,show(0:Rat).den=1 from rfl,jS,ac6];rfl
theorem aBa(t:Rat)(a b:Bool):eV ⟨t,0,a,b⟩= .ag [.v (.bool (decide (t.num<0))),dN t.num.natAbs,dD t.den, .v (.bool false), .sl [], .sl [], .v (.bool a), .v (.bool b)]:=by
 unfold eV dD
 simp only[show(0:Rat).num=0 from rfl,show(0:Rat).den=1 from rfl,jS,ac6];rfl
theorem aEa(t:Rat)(a b:Bool):eV ⟨0,t,a,b⟩= .ag [.v (.bool false), .sl [], .sl [], .v (.bool (decide (t.num<0))),dN t.num.natAbs,dD t.den, .v (.bool a), .v (.bool b)]:=by
 unfold eV dD
 simp only[show(0:Rat).num=0 from rfl,show(0:Rat).den=1 from rfl,jS,ac6];rfl
theorem ay2{cuts:List Rat}{i:Nat}(h:i=0)(k: ¬i<cuts.length):adG cuts i=⟨0,0,decide (i=0),decide (i=cuts.length)⟩:=by unfold adG;rw[if_pos h,if_neg k]
theorem azD{cuts:List Rat}{i:Nat}{y:Rat}(h:i=0)(k:cuts[i]? =some y):adG cuts i=⟨0,y,decide (i=0),decide (i=cuts.length)⟩:=by
 unfold adG;rw[if_pos h,if_pos (bJ.1 k).1,aX,k];rfl
theorem aAv{cuts:List Rat}{i:Nat}{x:Rat}(h: ¬i=0)(k:cuts[i-1]? =some x)(k2: ¬i<cuts.length):adG cuts i=⟨x,0,decide (i=0),decide (i=cuts.length)⟩:=by
 unfold adG;rw[if_neg h,if_neg k2,aX,k];rfl
theorem azH{cuts:List Rat}{i:Nat}{x y:Rat}(h: ¬i=0)(k:cuts[i-1]? =some x)(k2:cuts[i]? =some y):adG cuts i=⟨x,y,decide (i=0),decide (i=cuts.length)⟩:=by
 unfold adG;rw[if_neg h,if_pos (bJ.1 k2).1,aX,k,aX,k2];rfl
theorem av1{cuts:List Rat}{marks:List Bool}{k:Nat}(h:marks[k]? =some false):acg cuts marks (k+1)=acg cuts marks k:=by
 rw[acg,aX,h];rfl
theorem agy{cuts:List Rat}{marks:List Bool}{k:Nat}(h:marks[k]? =some true)(hp: ¬(0<k∧marks[k-1]? =some true)):acg cuts marks (k+1)=acg cuts marks k++[adG cuts k]:=by
 rw[acg,aX,h]
 show(if 0<k∧_ then _ else _)=_
 rw[if_neg]
 rintro ⟨h1,h2⟩
 rw[aX] at h2
 cases e:marks[k-1]? with
 |none=>rw[e] at h2;cases h2
 |some b=>rw[e] at h2;exact hp ⟨h1,by rw[e];simp at h2;rw[h2]⟩
theorem apC{cuts:List Rat}{marks:List Bool}{k:Nat}(h:marks[k]? =some true):acg cuts marks (k+1)≠[]:=by
 rw[acg,aX,h]
 show(if 0<k∧_ then _ else _)≠[]
 split
 ·split<;>simp
 ·simp
theorem akm{cuts:List Rat}{marks:List Bool}{k:Nat}{xs:List IvQ}{v:IvQ}(hk:0<k)(h:marks[k]? =some true)(hp:marks[k-1]? =some true)(hx:acg cuts marks k=xs)(hv:xs[xs.length-1]? =some v):acg cuts marks (k+1)=xs.set (xs.length-1) (ame v (adG cuts k)):=by
 rw[acg,aX,h]
 show(if 0<k∧_ then _ else _)=_
 rw[if_pos ⟨hk,by rw[aX,hp];rfl⟩,hx,kV,hv]
 have hn:0<xs.length:=by
  have:=(bJ.1 hv).1;omega
 show xs.dropLast++[_]=_
 apply kN
 intro i
 rw[oX]
 by_cases hi:i<xs.length-1
 ·rw[gL (by rw[gV];exact hi),qX,if_pos hi,if_neg (by omega)]
 ·by_cases hi2:i=xs.length-1
  ·subst hi2
   rw[iS (by rw[gV];exact aL _),gV,Nat.sub_self,if_pos rfl,if_pos (by omega)];rfl
  ·rw[dX (by rw[aW,gV];simp;omega),if_neg (by omega),dX (by omega)]
theorem afr{α:Type}{f:α→DV}{l:List α}{k:Nat}{x:α}(hk:0<k)(h:l[k-1]? =some x):(l.map f)[(((k:Nat):Int)-1).toNat]? =some (f x):=by
 rw[show(((k:Nat):Int)-1).toNat=k-1 by omega,cN,h];rfl
theorem aut{k n:Nat}:decide (k=n)=decide (((k:Nat):Int)=((n:Nat):Int)):=decide_eq_decide.2 (by omega)
def aGi(v w:IvQ):IvQ:=⟨v.lo,w.hi,v.nl,v.nh⟩
theorem aAT{cuts:List Rat}{marks:List Bool}(hn:cuts.length≤100000)(hmk:marks.length≤cuts.length+1):PF GB prog 292 [.sl (cuts.map eQ), .sl (marks.map vB)] (.sl ((amo cuts marks).map eV)):=by
 have hm:=aaI vB marks
 have hmc:=aaI eQ cuts
 refine fn (fu:=⟨15⟩) func292 J J ntmps292 J J (fun C=>?_)
 refine eqF 11 (.d (vI (marks.length:Nat))) rfl (by rw[hm]<;>rfl) ?_
 refine gx rfl<|?_
 refine nr 5 5 233 8 J J J ?_
 refine lp (X:=List IvQ×Nat) (fun⟨xs,k⟩=>[(12, .d (vI (k:Nat))),(5, .rw 5)]) (fun⟨xs,k⟩=>[(5,some (.b 233 8 (xs.map eV) true))]) (fun⟨xs,k⟩=>xs=acg cuts marks k∧k≤marks.length) (fun⟨xs,k⟩=>marks.length-k) ([],0) rfl ⟨rfl,aR _⟩ (fun _=>rfl) (fun⟨xs,k⟩ hk=>?_)
 dsimp only at hk⊢
 obtain⟨h1,h2⟩:=hk
 have hml:=aaI eV xs
 have hxl:xs.length≤k:=by rw[h1];exact ajA
 refine br J J J (fun hc13=>?_) (fun hc13=>?_)
 ·
  obtain⟨b,hz⟩: ∃s,marks[k]? =some s:=⟨_,aQ (by omega)⟩
  refine ix (fu:=⟨8⟩) _ rfl (aak hz) rfl<|?_
  cases b
  ·
   refine knF (fu:=⟨12⟩) J J J<|?_
   exact at_ (xs,k+1) (by dsimp only;exact⟨⟨by rw[av1 hz,←h1],by omega⟩,(by omega)⟩)
  ·
   refine knT (fu:=⟨13⟩) J J J<|?_
   rcases(show(k=0∧k<cuts.length)∨(k=0∧ ¬k<cuts.length)∨(0<k∧k<cuts.length)∨(0<k∧ ¬k<cuts.length) by omega) with⟨c1,c2⟩|⟨c1,c2⟩|⟨c1,c2⟩|⟨c1,c2⟩
   ·
    obtain⟨y,hy⟩: ∃s,cuts[k]? =some s:=⟨_,aQ (by omega)⟩
    have hgap:=azD (cuts:=cuts) (i:=k) c1 hy
    have hnp: ¬(0<k∧marks[k-1]? =some true):=fun e=>by omega
    refine eqF 23 (.d (vI (cuts.length:Nat))) rfl (by rw[hmc]<;>rfl) ?_
    refine gx (fu:=⟨10⟩) rfl<|knF (fu:=⟨11⟩) rfl (by show some (decide _)=some false;rw[decide_eq_false (by omega)]) rfl<|?_
    refine eqF 36 (.d (vI (cuts.length:Nat))) rfl (by rw[hmc]<;>rfl) ?_
    refine gx (fu:=⟨0⟩) rfl<|knT rfl (by show some (decide _)=some true;rw[decide_eq_true (by omega)]) rfl<|ix (fu:=⟨10⟩) _ rfl (aak hy) rfl<|?_
    refine eqF 44 (.d (vI (xs.length:Nat))) rfl (by rw[hml]<;>rfl) ?_
    refine gx (fu:=⟨6⟩) rfl<|knF (fu:=⟨19⟩) rfl (by show some (decide _)=some false;rw[decide_eq_false (by omega)]) rfl<|?_
    refine eqF 73 (.d (eV (adG cuts k))) rfl (by rw[hgap,aEa,aut (k:=k) (n:=0),aut (k:=k) (n:=cuts.length)]<;>rfl) ?_
    refine gx rfl<|rf J J<|ap (fu:=⟨12⟩) ((xs++[adG cuts k]).map eV) rfl (by rw[aN];rfl) (aqt [adG cuts k]) rfl<|?_
    refine rnE 75 5 rfl ?_
    exact at_ (xs++[adG cuts k],k+1) (by dsimp only;exact⟨⟨by rw[agy hz hnp,←h1],by omega⟩,(by omega)⟩)
   ·
    have hgap:=ay2 (cuts:=cuts) (i:=k) c1 c2
    have hnp: ¬(0<k∧marks[k-1]? =some true):=fun e=>by omega
    refine eqF 23 (.d (vI (cuts.length:Nat))) rfl (by rw[hmc]<;>rfl) ?_
    refine gx (fu:=⟨10⟩) rfl<|knF (fu:=⟨11⟩) rfl (by show some (decide _)=some false;rw[decide_eq_false (by omega)]) rfl<|?_
    refine eqF 36 (.d (vI (cuts.length:Nat))) rfl (by rw[hmc]<;>rfl) ?_
    refine gx (fu:=⟨0⟩) rfl<|knF (fu:=⟨10⟩) rfl (by show some (decide _)=some false;rw[decide_eq_false (by omega)]) rfl<|?_
    refine eqF 44 (.d (vI (xs.length:Nat))) rfl (by rw[hml]<;>rfl) ?_
    refine gx (fu:=⟨6⟩) rfl<|knF (fu:=⟨19⟩) rfl (by show some (decide _)=some false;rw[decide_eq_false (by omega)]) rfl<|?_
    refine eqF 73 (.d (eV (adG cuts k))) rfl (by rw[hgap,aEm,aut (k:=k) (n:=0),aut (k:=k) (n:=cuts.length)]<;>rfl) ?_
    refine gx rfl<|rf J J<|ap (fu:=⟨12⟩) ((xs++[adG cuts k]).map eV) rfl (by rw[aN];rfl) (aqt [adG cuts k]) rfl<|?_
    refine rnE 75 5 rfl ?_
    exact at_ (xs++[adG cuts k],k+1) (by dsimp only;exact⟨⟨by rw[agy hz hnp,←h1],by omega⟩,(by omega)⟩)
   ·
    obtain⟨x,hx⟩: ∃s,cuts[k-1]? =some s:=⟨_,aQ (by omega)⟩
    obtain⟨pb,hpb⟩: ∃s,marks[k-1]? =some s:=⟨_,aQ (by omega)⟩
    obtain⟨y,hy⟩: ∃s,cuts[k]? =some s:=⟨_,aQ (by omega)⟩
    have hgap:=azH (cuts:=cuts) (i:=k) (by omega) hx hy
    refine eqF 23 (.d (vI (cuts.length:Nat))) rfl (by rw[hmc]<;>rfl) ?_
    refine gx (fu:=⟨10⟩) rfl<|knT rfl (by show some (decide _)=some true;rw[decide_eq_true (by omega)]) rfl<|ix (fu:=⟨11⟩) _ rfl (afr (by omega) hx) rfl<|?_
    refine eqF 36 (.d (vI (cuts.length:Nat))) rfl (by rw[hmc]<;>rfl) ?_
    refine gx (fu:=⟨0⟩) rfl<|knT rfl (by show some (decide _)=some true;rw[decide_eq_true (by omega)]) rfl<|ix (fu:=⟨10⟩) _ rfl (aak hy) rfl<|?_
    refine eqF 44 (.d (vI (xs.length:Nat))) rfl (by rw[hml]<;>rfl) ?_
    refine gx (fu:=⟨6⟩) rfl<|knT rfl (by show some (decide _)=some true;rw[decide_eq_true (by omega)]) rfl<|ix _ rfl (afr (by omega) hpb) rfl<|?_
    refine csb (fu1:=⟨1⟩) (fu2:=⟨11⟩) 54 J J J (fun hg54=>?_) (fun hg54=>?_)
    ·
     have hpb':marks[k-1]? =some true:=by rw[hpb];congr 1
     have hxn:0<xs.length:=by rw[h1];have:=apC (cuts:=cuts) hpb';rw[show k-1+1=k by omega] at this;exact mS.2 this
     obtain⟨w,hw⟩: ∃s,xs[xs.length-1]? =some s:=⟨_,aQ (by omega)⟩
     refine knT rfl (by show some (decide _)=some true;rw[decide_eq_true (by omega)]) rfl<|sb (eV w) ((xs.set (xs.length-1) (⟨w.lo,y,w.nl,w.nh⟩:IvQ)).map eV) rfl (afr hxn hw) rfl (by rw[show(((xs.length:Nat):Int)-1).toNat=xs.length-1 by omega,jN];rfl) rfl<|?_
     refine sb (hv:=by simp only[aah];exact⟨by kernel_rfl,by omega⟩) (eV (⟨w.lo,y,w.nl,w.nh⟩:IvQ)) ((xs.set (xs.length-1) (ame w (adG cuts k))).map eV) rfl (by rw[show(((xs.length:Nat):Int)-1).toNat=xs.length-1 by omega,jN,nU (by rw[hml];omega)]) rfl (by rw[show(((xs.length:Nat):Int)-1).toNat=xs.length-1 by omega,jN,List.set_set,jN,hgap];unfold ame;dsimp only;rw[aut (k:=k) (n:=cuts.length)]<;>rfl) rfl<|?_
     exact at_ (xs.set (xs.length-1) (ame w (adG cuts k)),k+1) (by dsimp only;exact⟨⟨(akm (by omega) hz hpb' h1.symm hw).symm,by omega⟩,(by omega)⟩)
    ·
     have hnp: ¬(0<k∧marks[k-1]? =some true):=fun e=>by rw[hpb,hg54] at e;simpa using e.2
     refine eqF 73 (.d (eV (adG cuts k))) rfl (by rw[hgap];unfold eV;dsimp only;rw[aut (k:=k) (n:=0),aut (k:=k) (n:=cuts.length)]<;>rfl) ?_
     refine gx rfl<|rf J J<|ap (fu:=⟨12⟩) ((xs++[adG cuts k]).map eV) rfl (by rw[aN];rfl) (aqt [adG cuts k]) rfl<|?_
     refine rnE 75 5 rfl ?_
     exact at_ (xs++[adG cuts k],k+1) (by dsimp only;exact⟨⟨by rw[agy hz hnp,←h1],by omega⟩,(by omega)⟩)
   ·
    obtain⟨x,hx⟩: ∃s,cuts[k-1]? =some s:=⟨_,aQ (by omega)⟩
    obtain⟨pb,hpb⟩: ∃s,marks[k-1]? =some s:=⟨_,aQ (by omega)⟩
    have hgap:=aAv (cuts:=cuts) (i:=k) (by omega) hx c2
    refine eqF 23 (.d (vI (cuts.length:Nat))) rfl (by rw[hmc]<;>rfl) ?_
    refine gx (fu:=⟨10⟩) rfl<|knT rfl (by show some (decide _)=some true;rw[decide_eq_true (by omega)]) rfl<|ix (fu:=⟨11⟩) _ rfl (afr (by omega) hx) rfl<|?_
    refine eqF 36 (.d (vI (cuts.length:Nat))) rfl (by rw[hmc]<;>rfl) ?_
    refine gx (fu:=⟨0⟩) rfl<|knF (fu:=⟨10⟩) rfl (by show some (decide _)=some false;rw[decide_eq_false (by omega)]) rfl<|?_
    refine eqF 44 (.d (vI (xs.length:Nat))) rfl (by rw[hml]<;>rfl) ?_
    refine gx (fu:=⟨6⟩) rfl<|knT rfl (by show some (decide _)=some true;rw[decide_eq_true (by omega)]) rfl<|ix _ rfl (afr (by omega) hpb) rfl<|?_
    refine csb (fu1:=⟨1⟩) (fu2:=⟨11⟩) 54 J J J (fun hg54=>?_) (fun hg54=>?_)
    ·
     have hpb':marks[k-1]? =some true:=by rw[hpb];congr 1
     have hxn:0<xs.length:=by rw[h1];have:=apC (cuts:=cuts) hpb';rw[show k-1+1=k by omega] at this;exact mS.2 this
     obtain⟨w,hw⟩: ∃s,xs[xs.length-1]? =some s:=⟨_,aQ (by omega)⟩
     refine knT rfl (by show some (decide _)=some true;rw[decide_eq_true (by omega)]) rfl<|sb (eV w) ((xs.set (xs.length-1) (⟨w.lo,0,w.nl,w.nh⟩:IvQ)).map eV) rfl (afr hxn hw) rfl (by rw[show(((xs.length:Nat):Int)-1).toNat=xs.length-1 by omega,jN,aBa];rfl) rfl<|?_
     refine sb (hv:=by simp only[aah];exact⟨by kernel_rfl,by omega⟩) (eV (⟨w.lo,0,w.nl,w.nh⟩:IvQ)) ((xs.set (xs.length-1) (ame w (adG cuts k))).map eV) rfl (by rw[show(((xs.length:Nat):Int)-1).toNat=xs.length-1 by omega,jN,nU (by rw[hml];omega)]) rfl (by rw[show(((xs.length:Nat):Int)-1).toNat=xs.length-1 by omega,jN,List.set_set,jN,hgap];unfold ame;dsimp only;rw[aut (k:=k) (n:=cuts.length)]<;>rfl) rfl<|?_
     exact at_ (xs.set (xs.length-1) (ame w (adG cuts k)),k+1) (by dsimp only;exact⟨⟨(akm (by omega) hz hpb' h1.symm hw).symm,by omega⟩,(by omega)⟩)
    ·
     have hnp: ¬(0<k∧marks[k-1]? =some true):=fun e=>by rw[hpb,hg54] at e;simpa using e.2
     refine eqF 73 (.d (eV (adG cuts k))) rfl (by rw[hgap,aBa,aut (k:=k) (n:=0),aut (k:=k) (n:=cuts.length)]<;>rfl) ?_
     refine gx rfl<|rf J J<|ap ((xs++[adG cuts k]).map eV) rfl (by rw[aN];rfl) (aqt [adG cuts k]) rfl<|?_
     refine rnE 75 5 rfl ?_
     exact at_ (xs++[adG cuts k],k+1) (by dsimp only;exact⟨⟨by rw[agy hz hnp,←h1],by omega⟩,(by omega)⟩)
 ·
  have hfin:amo cuts marks=xs:=by rw[h1,amo,show k=marks.length by omega]
  refine fzE 5 rfl ?_
  exact rz rfl (by rw[hfin];rfl)
theorem aoS{g:Rat}: ∀{l:List Rat},g∈ady l→ ∃a∈l,∃b∈l,g=(a+b)/2
 |[],h=>by cases h
 |[_],h=>by cases h
 |a::b::t,h=>by
  rw[ady] at h
  rcases aS.1 h with rfl|h
  ·exact⟨a,aZ,b,aK _ aZ,rfl⟩
  ·obtain⟨c,hc,d,hd,e⟩:=aoS h
   exact⟨c,aK _ hc,d,aK _ hd,e⟩
theorem ayv{l:List Rat}(h: ∀q∈l,BQ q 1200): ∀g∈abW l,BQ g 2500:=fun g hg=>by
 cases l with
 |nil=>
  rw[abW,aY] at hg;subst hg
  exact BQ.mono (k:=1) ⟨by decide,by decide⟩ (by decide)
 |cons a t=>
  rw[abW] at hg
  rcases aS.1 hg with rfl|hg
  ·haveI:=h a aZ
   exact BQ.mono (inferInstance:BQ (a-1) _) (by omega)
  ·rcases bS.1 hg with hg|hg
   ·obtain⟨c,hc,d,hd,rfl⟩:=aoS hg
    haveI:=h c hc
    haveI:=h d hd
    exact BQ.mono (inferInstance:BQ ((c+d)/2) _) (by omega)
   ·rw[aY] at hg
    haveI:=h _ (List.getLast_mem (l:=a::t) (by simp))
    subst hg
    exact BQ.mono (inferInstance:BQ ((a::t).getLast (by simp)+1) _) (by omega)
theorem ajY(l:List IvQ):ajD l l.length=acZ l:=by unfold ajD;rw[fV]
theorem avi{l:List IvQ}(h: ∀v∈l,IvB v): ∀y∈acZ l,BQ y 1200:=by rw[←ajY];exact aql h
theorem ajp(l:List IvQ):(acZ l).length≤2*l.length:=by rw[←ajY];exact agn l _
theorem IvB.app{a b:List IvQ}(ha: ∀v∈a,IvB v)(hb: ∀v∈b,IvB v): ∀v∈a++b,IvB v:=fun v hv=>(bS.1 hv).elim (ha v) (hb v)
theorem amw{a b:List IvQ}(ha: ∀v∈a,IvB v)(hb: ∀v∈b,IvB v)(hna:a.length≤100)(hnb:b.length≤100):PF GB prog 251 [vI 2, .sl (a.map eV), .sl (b.map eV)] (.sl ((ahc 2 a b).map eV)):=by
 obtain⟨cuts,hcu⟩: ∃c,c=acZ (a++b):=⟨_,rfl⟩
 have hab:=IvB.app ha hb
 have hcb: ∀q∈cuts,BQ q 1200:=by rw[hcu];exact avi hab
 have hcl:cuts.length≤2*(a.length+b.length):=by rw[hcu];have:=ajp (a++b);rw[aW] at this;exact this
 have hgb:=ayv hcb
 have hgl:=ae3 (l:=cuts)
 have hmp:=aaI eQ (abW cuts)
 refine fn func251 J J ntmps251 J J (fun C=>?_)
 refine ro0 J J<|ap (a.map eV) J J (aqt _) rfl<|apf ((a++b).map eV) rfl (by rw[aN]) (aqt b) rfl<|cl (fu:=⟨0⟩) rfl (aB3 (l:=a++b) hab (by rw[aW];omega)) rfl<|?_
 refine eqF 19 (.d (.sl (cuts.map eQ))) rfl (by rw[hcu]) ?_
 refine gx rfl<|cl (fu:=⟨1⟩) rfl (auW (cuts:=cuts) hcb (by omega)) rfl<|?_
 refine eqF 22 (.d (vI ((cuts.length+1:Nat):Int))) rfl (by rw[hmp,hgl]<;>rfl) ?_
 refine gx rfl<|?_
 refine nr 8 8 4 1 J J J ?_
 refine lp (X:=Nat) (fun k=>[(23, .d (vI (k:Nat))),(8, .rw 8)]) (fun k=>[(8,some (.b 4 1 ((((abW cuts).map (fun t=>agp 2 (ace a t) (ace b t))).take k).map vB) true))]) (fun k=>k≤cuts.length+1) (fun k=>cuts.length+1-k) 0 rfl (aR _) (fun _=>rfl) (fun k hk=>?_)
 have hml:(((((abW cuts).map (fun t=>agp 2 (ace a t) (ace b t))).take k).map vB)).length=k:=by rw[aJ,cK,aJ,hgl];omega
 refine br (fu2:=⟨0⟩) J J J (fun hc24=>?_) (fun hc24=>?_)
 ·
  obtain⟨t,hz⟩: ∃s,(abW cuts)[k]? =some s:=⟨_,aQ (by omega)⟩
  haveI:=hgb t (aM hz)
  have hz2:((abW cuts).map (fun t=>agp 2 (ace a t) (ace b t)))[k]? =some (agp 2 (ace a t) (ace b t)):=by rw[cN,hz];rfl
  refine ix _ rfl (aak hz) rfl<|cl rfl (aCB (l:=a) (t:=t) ha (by omega)) rfl<|cl (fu:=⟨6⟩) rfl (aCB (l:=b) (t:=t) hb (by omega)) rfl<|?_
  cases hx:ace a t
  ·
   refine knF (fu:=⟨15⟩) J J J<|knT (fu:=⟨5⟩) J J J<|knF J J J<|rf J J<|ap (fu:=⟨8⟩) ((((abW cuts).map (fun t=>agp 2 (ace a t) (ace b t))).take (k+1)).map vB) rfl (by rw[←abm hz2,hx];rfl) (aA5 [false]) rfl<|?_
   refine rnE 59 8 rfl ?_
   exact at_ (k+1) ⟨(by omega),(by omega)⟩
  ·
   refine knT (fu:=⟨15⟩) J J J<|knT (fu:=⟨5⟩) J J J<|knT J J J<|rf J J<|ap ((((abW cuts).map (fun t=>agp 2 (ace a t) (ace b t))).take (k+1)).map vB) rfl (by rw[←abm hz2,hx];rfl) (aA5 [_]) rfl<|?_
   refine rnE 59 8 rfl ?_
   exact at_ (k+1) ⟨(by omega),(by omega)⟩
 ·
  obtain rfl:k=cuts.length+1:=by omega
  have htk:((abW cuts).map (fun t=>agp 2 (ace a t) (ace b t))).take (cuts.length+1)=(abW cuts).map (fun t=>agp 2 (ace a t) (ace b t)):=aV (by rw[aJ,hgl];exact aL _)
  rw[htk]
  refine fzC 8 rfl ?_
  refine gx rfl<|cl rfl (aAT (cuts:=cuts) (marks:=(abW cuts).map (fun t=>agp 2 (ace a t) (ace b t))) (by omega) (by rw[aJ,hgl];exact aL _)) rfl<|?_
  exact rz rfl (by unfold ahc;rw[←hcu];rfl)
section
variable {GB:Gh} {C:Ctx} {n:Nat} {Q0:Exit→Act→World→Prop} {fr fr':FrX} {own own':OwX} {cf cf':Cf} {vc:List Prop}
theorem aBm{lk:LK}{bk:BM}{dst:Option Nat}{t ty':TypeId}{pos:String}{af:Array Edge}{gd:Option (Nat×Bool)}{x y:Operand}{e len s nm off:Nat}{k:IntKind}{i:Nat}(hu:prog.underlying t=some (.array len e))(hs:(prog.info? e).map (·.size)=some s)
  (e1:evX lk x=some (.ov nm off))(e2:evX lk y=some (.d (.v (.int k (i:Nat)))))(hi:i<len):OpR prog GB C n lk bk ⟨dst, .indexAddr t x y,ty',pos,af,gd⟩ (.ov nm (off+i*s)) [] []:= .yd fun ρ G ov a w r=>by
 obtain⟨p,h1,h2⟩:=r.ev e1
 obtain⟨q,h3,h4⟩:=r.ev e2
 rw[aay] at h4;subst h4
 obtain⟨b,hb,rfl⟩:=h2
 refine⟨_,⟨b,hb,rfl⟩,?_⟩
 obtain⟨j,hj,hjs⟩: ∃j,prog.info? e=some j∧j.size=s:=by
  cases h:prog.info? e with
  |none=>rw[h] at hs;cases hs
  |some j=>rw[h] at hs;exact⟨j,rfl,by simpa using hs⟩
 intro a' w' hf hh
 simp only[execOp,aab hf h1,aab hf h3]
 have:(Instr.indexAt t (.pointer (some ⟨b,off,none⟩)) (.int k (i:Nat))).run prog w'= .ok (.pointer (some ⟨b,off+i*s,none⟩)) w':=by
  unfold Instr.indexAt
  show(underlying t>>=_).run prog w'=_
  rw[aaa (adT hu w')]
  show(underlying t>>=_).run prog w'=_
  rw[aaa (adT hu w')]
  have h0:0≤((i:Nat):Int):=Int.natCast_nonneg i
  have h1:((i:Nat):Int)<((len:Nat):Int):=by omega
  simp only[h0,h1,and_self,if_true]
  show(sizeOf e>>=_).run prog w'=_
  rw[aaa (agN hj w'),acx,hjs,bZ]
  rfl
 exact aam this
def aFt(fr:FrX)(cf:Cf):Option (TypeId×Nat×Nat×Int):=match opC fr cf with
 |some ⟨_, .indexAddr t x y,_,_,_,_⟩=>match evX (lkC fr cf) x with
  |some (.ov nm off)=>match evX (lkC fr cf) y with
   |some (.d (.v (.int _ i)))=>some (t,nm,off,i)
   |_=>none
  |_=>none
 |_=>none
theorem ixa[fu:Fu](i:Nat){t nm off e len s:Nat}(h:aFt fr cf=some (t,nm,off,((i:Nat):Int)))(hu:prog.underlying t=some (.array len e))(hs:(prog.info? e).map (·.size)=some s)(hi:i<len)
  (hgo:goA tt n fu.n fr own cf (.ov nm (off+i*s)) [] []=⟨vc,fr',own',cf'⟩)(k:CfS prog GB C n Q0 fr' own' cf')
  (hv:aah vc:=by first|exact trivial|(simp only[aah];kernel_rfl)|(simp only[aah];omega)):CfS prog GB C n Q0 fr own cf:=by
 unfold aFt at h
 split at h<;>try (cases h;done)
 rename_i hh
 split at h<;>try (cases h;done)
 rename_i hx
 split at h<;>cases h
 rename_i hy
 exact us hh (aBm hu hs hx hy hi) hgo hv k
theorem aBo{lk:LK}{bk:BM}{d s:Nat}{e t ty':TypeId}{pos:String}{af:Array Edge}{gd:Option (Nat×Bool)}{ps:List (Nat×Operand)}{fo:List (Nat×Nat×Nat)}{i:TI}{z zx:List FX}{k:Nat}{pre post:List DV}(hi:aft prog t=some i)(hk:i.k= .st fo)(hz:i.z=some z)
  (hb:ayc lk fo z ps=some zx)(h0:zx[k]? =some .nl)(h1:ad0 (zx.take k)=some pre)(h2:ad0 (zx.drop (k+1))=some post):OpR prog GB C n lk bk ⟨some d, .build t ⟨ps⟩,ty',pos,af,gd⟩ (.bx false pre d post) [(d,some (.b e s [] true))] [d]:=by
 intro hd tl tb K' s1 s2 hf hk'
 refine⟨fun ρ G ov a w r Q=>?_⟩
 obtain⟨v,hv,hv'⟩:=akI hi hz
 have:=axt hi hk
 have hsp:zx=zx.take k++ .nl::zx.drop (k+1):=by
  obtain⟨hk1,hk2⟩:=bJ.1 h0
  conv=>lhs;rw[←jW k zx,bQ hk1,hk2]
 obtain⟨l,h1',h2'⟩:=alQ (r.mono s1 s2) (fo:=fo) ps _ _ _ hb (hv' ρ G)
 rw[hsp] at h2'
 obtain⟨m1,m2',rfl,k1,y,m2,rfl,k2,k3⟩:=aj2 h2'
 cases (show y= .slice none 0 0 from k2)
 have hy:Yd prog C (frA a) ov G ⟨some d, .build t ⟨ps⟩,ty',pos,af,gd⟩ (.agg ⟨m1++Value.slice none 0 0::m2⟩):=alp h1'
 have r3:=r.new' (x:=⟨none,0,0⟩) (B':= .b e s [] true) (os:=[]) (ov':=ov) (f:= .bx false pre d post) (y:= .agg ⟨m1++Value.slice none 0 0::m2⟩) hf (GLe.refl G) r.h
  ⟨[],by simp only[if_true];exact .inl ⟨rfl,rfl,rfl⟩, .nil,by simp,fun _ o ho=>by cases ho⟩ (fun o ho=>by cases ho) (fun m B _ _ o ho _=>⟨ho,by simp⟩)
  ⟨m1,m2,by simp,acR k1 h1,acR k3 h2⟩ (r.putA _ hd)
 exact abu (hy a w (aaP a) r.h) (hk'.run _ G ov _ w r3)
def aE9(fr:FrX)(cf:Cf):Option (Nat×List FX):=match opC fr cf with
 |some ⟨some d, .build t ⟨ps⟩,_,_,_,_⟩=>match abD tt t with
  |some ⟨.st fo,_,some zx,_⟩=>match ayc (lkC fr cf) fo zx ps with
   |some l=>some (d,l)
   |none=>none
  |_=>none
 |_=>none
theorem bzp[fu:Fu]{d:Nat}{zx:List FX}(e s kk:Nat)(pre post:List DV)(h:aE9 fr cf=some (d,zx))(h0:zx[kk]? =some .nl)(h1:ad0 (zx.take kk)=some pre)(h2:ad0 (zx.drop (kk+1))=some post)(hgo:goA tt n fu.n fr own cf (.bx false pre d post) [(d,some (.b e s [] true))] [d]=⟨vc,fr',own',cf'⟩)(k:CfS prog GB C n Q0 fr' own' cf')
  (hv:aah vc:=by first|exact trivial|(simp only[aah];kernel_rfl)|(simp only[aah];omega)):CfS prog GB C n Q0 fr own cf:=by
 unfold aE9 at h
 split at h<;>try (cases h;done)
 rename_i hh
 split at h<;>try (cases h;done)
 rename_i hT
 split at h<;>cases h
 rename_i hb
 exact us hh (aBo (ab2 _ _ hT) J J hb h0 h1 h2) hgo hv k
end
def sp1(f:FrQ)(m:LnQ)(k:Nat):List FrQ:=if k=0 then [] else aaV f m 1
def sp2(f:FrQ)(m:LnQ)(k:Nat):List FrQ:=if k≤1 then [] else aaV f m (-1)
theorem apZ{l m:LnQ}(hl:LB l)(hm:LB m)(hlo:l.ok){side:Int}: ∀v∈adt l m side,IvB v:=fun v hv=>⟨(an9 hl hm hlo v hv).2.1,(an9 hl hm hlo v hv).2.2⟩
theorem af5{l m:LnQ}{side:Int}:(adt l m side).length≤1:=by
 unfold adt;split
 ·split<;>simp
 ·split<;>simp
theorem aqb(op:Int)(a b:List IvQ):(ahc op a b).length≤2*(a.length+b.length)+1:=by
 unfold ahc amo
 refine cJ ajA ?_
 rw[aJ,ae3]
 have:=ajp (a++b);rw[aW] at this;omega
theorem az2{f:FrQ}{m:LnQ}(h:FOk f)[hm:LB m](hmo:m.ok):PF GB prog 193 [eFF f,eL m] (.tp [.sl ((aaV f m 1).map eFF), .sl ((aaV f m (-1)).map eFF)]):=by
 haveI:=h.lb
 refine fn func193 J J ntmps193 J J (fun C=>?_)
 refine rf (fu:=⟨1⟩) J J<|?_
 refine eqF 14 (.d (vI (2:Nat))) J J ?_
 refine gx rfl<|?_
 refine nro 6 0 60 235 14 J J J J J ?_
 refine nro 6 1 61 235 14 J J J J J ?_
 refine lp (X:=Nat) (fun k=>[(15, .d (vI (k:Nat))),(6, .ov 6 0)]) (fun k=>[(6,some (.o 361 [.rw 60, .rw 61] true)),(60,some (.b 235 14 ((sp1 f m k).map eFF) true)),(61,some (.b 235 14 ((sp2 f m k).map eFF) true))]) (fun k=>k≤2) (fun k=>2-k) 0 rfl (by omega) (fun _=>rfl) (fun k hk=>?_)
 refine br J J J (fun hc16=>?_) (fun hc16=>?_)
 ·
  rcases(show k=0∨k=1 by omega) with rfl|rfl
  ·
   refine ix _ J J J<|cl (fu:=⟨0⟩) rfl (atp (l:=f.l) (m:=m) (side:=1) h.ok hmo (.inl rfl)) rfl<|?_
   obtain⟨cs,hcs⟩: ∃c,c=ahc 2 [f.v] (adt f.l m 1):=⟨_,rfl⟩
   have hcl:cs.length≤5:=by rw[hcs];have h1:=aqb 2 [f.v] (adt f.l m 1);have h2:=af5 (l:=f.l) (m:=m) (side:=1);simp only[dK] at h1;omega
   refine eqF 25 (.d (.tp [.sl ((adt f.l m 1).map eV),vB (onB f.l m)])) J J ?_
   refine gx rfl<|?_
   refine bb J J J (fun hc28=>?_) (fun hc28=>?_)
   ·
    have hon:onB f.l m=true:=hc28
    exact rz rfl (by first|(unfold aaV;rw[if_pos hon,if_pos hon];rfl)|rfl)
   ·
    have hon:onB f.l m=false:=by simpa using hc28
    refine rf J J<|cl (fu:=⟨0⟩) rfl (amw (a:=[f.v]) (b:=adt f.l m 1) (fun v hv=>by rw[aY] at hv;subst hv;exact⟨h.lo,h.hi⟩) (apZ h.lb hm h.ok) (by show 1≤100;decide) (by have:=af5 (l:=f.l) (m:=m) (side:=1);omega)) rfl<|?_
    refine eqF 33 (.d (.sl (cs.map eV))) rfl (by rw[hcs]) ?_
    refine gx (fu:=⟨1⟩) rfl<|?_
    refine eqF 34 (.d (vI (cs.length:Nat))) rfl (by rw[aaI eV cs]<;>rfl) ?_
    refine gx rfl<|?_
    refine lp (X:=Nat) (fun j=>[(35, .d (vI (j:Nat)))]) (fun j=>[(60,some (.b 235 14 (((cs.take j).map fun v=>(⟨f.l,v⟩:FrQ)).map eFF) true))]) (fun j=>j≤cs.length) (fun j=>cs.length-j) 0 rfl (aR _) (fun _=>rfl) (fun j hk=>?_)
    have hml:(((cs.take j).map fun v=>(⟨f.l,v⟩:FrQ)).map eFF).length≤j:=by rw[aJ,aJ,cK];omega
    refine br J J J (fun hc36=>?_) (fun hc36=>?_)
    ·
     obtain⟨z,hz⟩: ∃s,cs[j]? =some s:=⟨_,aQ (by omega)⟩
     refine ix _ rfl (aak hz) rfl<|ixa 0 (e:=228) (len:=2) (s:=1) rfl (by kernel_rfl) (by kernel_rfl) (by decide) rfl<|rf J J<|?_
     refine ap (((cs.take (j+1)).map fun v=>(⟨f.l,v⟩:FrQ)).map eFF) rfl (by rw[←abm hz,aN];rfl) (ajZ [⟨f.l,z⟩]) rfl<|ixa (hv:=by simp only[aah];exact⟨by kernel_rfl,by omega⟩) 0 (e:=228) (len:=2) (s:=1) rfl (by kernel_rfl) (by kernel_rfl) (by decide) rfl<|?_
     refine rnE 48 60 rfl ?_
     exact at_ (j+1) ⟨(by omega),(by omega)⟩
    ·
     obtain rfl:j=cs.length:=by omega
     rw[show(cs.take cs.length).map (fun v=>(⟨f.l,v⟩:FrQ))=aaV f m 1 from by rw[fV];unfold aaV;rw[if_neg (by rw[hon];decide),←hcs]]
     exact at_ (0+1) ⟨(by omega),(by omega)⟩
  ·
   refine ix _ J J J<|cl (fu:=⟨0⟩) rfl (atp (l:=f.l) (m:=m) (side:= -1) h.ok hmo (.inr rfl)) rfl<|?_
   obtain⟨cs,hcs⟩: ∃c,c=ahc 2 [f.v] (adt f.l m (-1)):=⟨_,rfl⟩
   have hcl:cs.length≤5:=by rw[hcs];have h1:=aqb 2 [f.v] (adt f.l m (-1));have h2:=af5 (l:=f.l) (m:=m) (side:=(-1));simp only[dK] at h1;omega
   refine eqF 25 (.d (.tp [.sl ((adt f.l m (-1)).map eV),vB (onB f.l m)])) J J ?_
   refine gx rfl<|?_
   refine bb J J J (fun hc28=>?_) (fun hc28=>?_)
   ·
    have hon:onB f.l m=true:=hc28
    exact rz rfl (by first|(unfold aaV;rw[if_pos hon,if_pos hon];rfl)|rfl)
   ·
    have hon:onB f.l m=false:=by simpa using hc28
    refine rf J J<|cl (fu:=⟨0⟩) rfl (amw (a:=[f.v]) (b:=adt f.l m (-1)) (fun v hv=>by rw[aY] at hv;subst hv;exact⟨h.lo,h.hi⟩) (apZ h.lb hm h.ok) (by show 1≤100;decide) (by have:=af5 (l:=f.l) (m:=m) (side:=(-1));omega)) rfl<|?_
    refine eqF 33 (.d (.sl (cs.map eV))) rfl (by rw[hcs]) ?_
    refine gx (fu:=⟨1⟩) rfl<|?_
    refine eqF 34 (.d (vI (cs.length:Nat))) rfl (by rw[aaI eV cs]<;>rfl) ?_
    refine gx rfl<|?_
    refine lp (X:=Nat) (fun j=>[(35, .d (vI (j:Nat)))]) (fun j=>[(61,some (.b 235 14 (((cs.take j).map fun v=>(⟨f.l,v⟩:FrQ)).map eFF) true))]) (fun j=>j≤cs.length) (fun j=>cs.length-j) 0 rfl (aR _) (fun _=>rfl) (fun j hk=>?_)
    have hml:(((cs.take j).map fun v=>(⟨f.l,v⟩:FrQ)).map eFF).length≤j:=by rw[aJ,aJ,cK];omega
    refine br J J J (fun hc36=>?_) (fun hc36=>?_)
    ·
     obtain⟨z,hz⟩: ∃s,cs[j]? =some s:=⟨_,aQ (by omega)⟩
     refine ix _ rfl (aak hz) rfl<|ixa 1 (e:=228) (len:=2) (s:=1) rfl (by kernel_rfl) (by kernel_rfl) (by decide) rfl<|rf J J<|?_
     refine ap (((cs.take (j+1)).map fun v=>(⟨f.l,v⟩:FrQ)).map eFF) rfl (by rw[←abm hz,aN];rfl) (ajZ [⟨f.l,z⟩]) rfl<|ixa (hv:=by simp only[aah];exact⟨by kernel_rfl,by omega⟩) 1 (e:=228) (len:=2) (s:=1) rfl (by kernel_rfl) (by kernel_rfl) (by decide) rfl<|?_
     refine rnE 48 61 rfl ?_
     exact at_ (j+1) ⟨(by omega),(by omega)⟩
    ·
     obtain rfl:j=cs.length:=by omega
     rw[show(cs.take cs.length).map (fun v=>(⟨f.l,v⟩:FrQ))=aaV f m (-1) from by rw[fV];unfold aaV;rw[if_neg (by rw[hon];decide),←hcs]]
     exact at_ (1+1) ⟨(by omega),(by omega)⟩
 ·
  obtain rfl:k=2:=by omega
  refine ixa 0 (e:=228) (len:=2) (s:=1) rfl (by kernel_rfl) (by kernel_rfl) (by decide) rfl<|ixa 1 (e:=228) (len:=2) (s:=1) rfl (by kernel_rfl) (by kernel_rfl) (by decide) rfl<|?_
  refine fzE 60 rfl ?_
  refine fzE 61 rfl ?_
  exact rz rfl (by first|(unfold aaV;rw[if_pos hon,if_pos hon];rfl)|rfl)
end Go.Sx
end
