import Derived.Test.YtfccecinjmbfhaaGreatDoorMd15
set_option linter.unusedSimpArgs false
set_option maxHeartbeats 4000000
set_option maxRecDepth 100000
set_option linter.unusedVariables false
section
namespace Go.Sx
open Go Go.Proofs Tryz
variable {GB:Gh}
def akj{α β:Type}(c:β→β→Int)(g:α→β)(l:List α)(k:Nat):List β:=amp c ((l.take k).map g)
section
variable {α β:Type} {c:β→β→Int} {g:α→β} {l:List α} {k:Nat}
theorem adC{x:α}(h:l[k]? =some x):akj c g l (k+1)=afS c (g x) (akj c g l k):=by
 unfold akj amp
 rw[iX,h,Option.toList_some,bY,pZ];rfl
theorem anB(h:k=l.length):akj c g l k=amp c (l.map g):=by unfold akj;rw[h,dX]
theorem anS:(akj c g l k).length≤k:=by
 have:=anR c ((l.take k).map g) []
 have h2:((l.take k).map g).length≤k:=by rw[aJ,cR];omega
 rw[fY] at this
 unfold akj amp
 omega
theorem anC{y:β}(h:y∈akj c g l k): ∃x∈l,y=g x:=by
 rcases am0 c h with h|h
 ·obtain⟨x,hx,rfl⟩:=bK.1 h
  exact⟨x,dK hx,rfl⟩
 ·cases h
end
theorem slT{α:Type}{f:α→DV}{s:Nat}(ok: ∀l:List α,adl s (l.map f))(xs:List α)(n:Nat):adl s ((xs.map f).take n):=fun d hd=>ok xs d (dK hd)
theorem slD{α:Type}{f:α→DV}{s:Nat}(ok: ∀l:List α,adl s (l.map f))(xs:List α)(n m:Nat):adl s (((xs.map f).take n).drop m):=fun d hd=>ok xs d (dK (gK hd))
theorem slI{α:Type}{f:α→DV}{s:Nat}(ok: ∀l:List α,adl s (l.map f))(xs:List α)(n m:Nat)(x:α):adl s ([f x]++((xs.map f).take n).drop m):=fun d hd=>by
 rcases bR.1 hd with h|h
 ·exact ok [x] d h
 ·exact slD ok xs n m d h
theorem ac9{α:Type}{f:α→DV}{l:List α}{i:Nat}(h:i<l.length):(l.map f)[(i:Int).toNat]? =some (f l[i]):=by
 rw[bZ,cW,aQ h];rfl
theorem axh{ps:List PtQ}(hb: ∀p∈ps,BPt p 1200)(hn:ps.length≤100000):PF GB prog 188 [.sl (ps.map eP)] (.sl ((amp agN ps).map eP)):=by
 have hm':=aaI eP ps
 refine fn (fu:=⟨15⟩) func188 J J ntmps188 J J (fun C=>?_)
 refine eqF 8 (.d (vI (ps.length:Nat))) rfl (by rw[hm'];rfl) ?_
 refine gx rfl<|?_
 refine nlC 3 rfl ?_
 refine lp (X:=List PtQ×Nat) (fun⟨xs,k⟩=>[(9, .d (vI (k:Nat))),(8, .d (vI (ps.length:Nat))),(7, .d (.sl (ps.map eP))),(0, .d (.sl (ps.map eP))),(3, .d (.sl (xs.map eP)))]) (fun⟨xs,k⟩=>[]) (fun⟨xs,k⟩=>xs=akj agN id ps k∧k≤ps.length) (fun⟨xs,k⟩=>ps.length-k) ⟨[],0⟩ rfl ⟨rfl,bQ _⟩ (fun _=>rfl) (fun⟨xs,k⟩ hk=>?_)
 try dsimp only at hk⊢
 obtain⟨hS,hkl⟩:=hk
 refine br J J J (fun hc10=>?_) (fun hc10=>?_)
 ·
  have hk:k<ps.length:=by omega
  obtain⟨m,hm⟩: ∃m,m=ps[k]:=⟨_,rfl⟩
  have hz:ps[k]? =some m:=by rw[hm];exact aQ hk
  haveI hmb:BPt m 1200:=hm▸hb _ (bN hk)
  have hxl:=aaI eP xs
  have hxn:xs.length≤k:=by rw[hS];exact anS
  have hxb: ∀q∈xs,BPt q 1200:=fun q hq=>by rw[hS] at hq;obtain⟨z,hz,he⟩:=anC hq;rw[he];exact hb z hz
  refine ix (fu:=⟨1⟩) _ rfl (ac9 hk) rfl<|?_
  refine eqF 12 (.d (eP m)) rfl (by rw[hm];rfl) ?_
  refine gx (fu:=⟨10⟩) rfl<|?_
  refine mg (fu:=⟨5⟩) (X:=Unit) (fun _=>[(9, .d (vI (k:Nat))),(8, .d (vI (ps.length:Nat))),(7, .d (.sl (ps.map eP))),(0, .d (.sl (ps.map eP))),(3, .d (.sl (xs.map eP))),(5, .ov 5 0),(6, .d (vI (al5 agN m xs:Nat)))]) (fun _=>[(5,some (.o 54 [.d ((.v (.bool (decide (m.x.num<0))))), .d (dN m.x.num.natAbs), .d (dD m.x.den), .d ((.v (.bool (decide (m.y.num<0))))), .d (dN m.y.num.natAbs), .d (dD m.y.den)] true))]) (fun _=>True) [9,8,7,0,3,5,6] [5] rfl ?_ (fun _=>rfl) (fun _ _=>?_)
  ·
   refine gx rfl<|?_
   refine lp (fu:=⟨6⟩) (X:=Nat) (fun n=>[(9, .d (vI (k:Nat))),(8, .d (vI (ps.length:Nat))),(7, .d (.sl (ps.map eP))),(0, .d (.sl (ps.map eP))),(3, .d (.sl (xs.map eP))),(5, .ov 5 0),(6, .d (vI (n:Nat)))]) (fun n=>[(5,some (.o 54 [.d ((.v (.bool (decide (m.x.num<0))))), .d (dN m.x.num.natAbs), .d (dD m.x.den), .d ((.v (.bool (decide (m.y.num<0))))), .d (dN m.y.num.natAbs), .d (dD m.y.den)] true))]) (fun n=>n≤xs.length∧ ∀j (h:j<xs.length),j<n→agN xs[j] m<0) (fun n=>xs.length-n) 0 rfl ⟨bQ _,fun j _ hj=>absurd hj (by omega)⟩ (fun _=>rfl) (fun n hk=>?_)
   obtain⟨n1,n2⟩:=hk
   refine csS (v2:=fun hg16=>by simp only[aah];kernel_rfl) J J J J (fun hg16=>?_) (fun hg16=>?_)
   ·
    refine ix _ rfl (ac9 (by omega)) rfl<|cl rfl (akW (p:=xs[n]'(by omega)) (q:=m) (hp:=hxb _ (bN (by omega))) (hq:=hmb)) rfl<|?_
    refine br J J J (fun hc25=>?_) (fun hc25=>?_)
    ·
     exact at_ (n+1) ⟨⟨by omega,fun j h hj=>by by_cases q:j=n;(subst q;exact hc25);exact n2 j h (by omega)⟩,(by omega)⟩
    ·
     have hidx:al5 agN m xs=n:=afe agN n1 n2 (fun h=>hc25)
     exact at_ () trivial
   ·
    have hidx:al5 agN m xs=n:=afe agN n1 n2 (fun h=>absurd h (by omega))
    exact at_ () trivial
  ·
   obtain⟨n,hnx⟩: ∃n,al5 agN m xs=n:=⟨_,rfl⟩
   rw[hnx]
   have hnl:n≤xs.length:=by rw[←hnx];exact alM _ _ _
   refine csS (v1:=fun hg31=>by simp only[aah];kernel_rfl) J J J J (fun hg31=>?_) (fun hg31=>?_)
   ·
    have hnew: ∀h:n<xs.length,agN xs[n] m≠0:=fun h=>absurd h (by omega)
    obtain⟨ys,hys⟩: ∃ys,ys=xs.take n++m::xs.drop n:=⟨_,rfl⟩
    have hin:afS agN m xs=ys:=by rw[hys];exact adt agN hnx hnew
    have hyl:ys.length≤xs.length+1:=by rw[hys];simp;omega
    refine s3 n _ J J J J (aji _) (by rw[hxl];exact hnl) rfl<|ro J J<|sc' n xs.length _ J J (by rw[hxl]) rfl (aji _) hnl (by omega) rfl<|?_
    refine ap _ J J (slD aji _ _ _) rfl<|apf (hv:=by simp only[aah];exact⟨by kernel_rfl,by omega⟩) (ho:=fun _=>⟨slT aji _ _,by simp⟩) (ys.map eP) rfl (by rw[hys,bY,cX,gT,iL,aT (l:=xs.map eP) (i:=xs.length) (by simp)];rfl) (slI aji _ _ _ _) rfl<|?_
    exact at_ ⟨ys,k+1⟩ (by dsimp only;exact⟨⟨by rw[adC hz,←hS];exact hin.symm,by omega⟩,(by omega)⟩)
   ·
    refine ix _ rfl (ac9 (by omega)) rfl<|cl rfl (akW (p:=xs[n]'(by omega)) (q:=m) (hp:=hxb _ (bN (by omega))) (hq:=hmb)) rfl<|?_
    refine br J J J (fun hc40=>?_) (fun hc40=>?_)
    ·
     have hnew: ∀h:n<xs.length,agN xs[n] m≠0:=fun h=>hc40
     obtain⟨ys,hys⟩: ∃ys,ys=xs.take n++m::xs.drop n:=⟨_,rfl⟩
     have hin:afS agN m xs=ys:=by rw[hys];exact adt agN hnx hnew
     have hyl:ys.length≤xs.length+1:=by rw[hys];simp;omega
     refine s3 n _ J J J J (aji _) (by rw[hxl];exact hnl) rfl<|ro J J<|sc' n xs.length _ J J (by rw[hxl]) rfl (aji _) hnl (by omega) rfl<|?_
     refine ap _ J J (slD aji _ _ _) rfl<|apf (hv:=by simp only[aah];exact⟨by kernel_rfl,by omega⟩) (ho:=fun _=>⟨slT aji _ _,by simp⟩) (ys.map eP) rfl (by rw[hys,bY,cX,gT,iL,aT (l:=xs.map eP) (i:=xs.length) (by simp)];rfl) (slI aji _ _ _ _) rfl<|?_
     exact at_ ⟨ys,k+1⟩ (by dsimp only;exact⟨⟨by rw[adC hz,←hS];exact hin.symm,by omega⟩,(by omega)⟩)
    ·
     have hin:afS agN m xs=xs:=ahk agN hnx (by omega) (Decidable.not_not.1 hc40)
     exact at_ ⟨xs,k+1⟩ (by dsimp only;exact⟨⟨by rw[adC hz,←hS];exact hin.symm,by omega⟩,(by omega)⟩)
 ·
  have hfin:amp agN ps=xs:=by rw[hS,anB (by omega),List.map_id]
  exact rz rfl (by rw[hfin];rfl)
def aov(ls:List LnQ):List LnQ:=amp ajV (ls.map LnQ.canon)
theorem ar7{ls:List LnQ}(hb: ∀p∈ls,LB p)(hn:ls.length≤100000):PF GB prog 136 [.sl (ls.map eL)] (.sl ((aov ls).map eL)):=by
 have hm':=aaI eL ls
 refine fn (fu:=⟨15⟩) func136 J J ntmps136 J J (fun C=>?_)
 refine eqF 8 (.d (vI (ls.length:Nat))) rfl (by rw[hm'];rfl) ?_
 refine gx rfl<|?_
 refine nlC 3 rfl ?_
 refine lp (X:=List LnQ×Nat) (fun⟨xs,k⟩=>[(9, .d (vI (k:Nat))),(8, .d (vI (ls.length:Nat))),(7, .d (.sl (ls.map eL))),(0, .d (.sl (ls.map eL))),(3, .d (.sl (xs.map eL)))]) (fun⟨xs,k⟩=>[]) (fun⟨xs,k⟩=>xs=akj ajV LnQ.canon ls k∧k≤ls.length) (fun⟨xs,k⟩=>ls.length-k) ⟨[],0⟩ rfl ⟨rfl,bQ _⟩ (fun _=>rfl) (fun⟨xs,k⟩ hk=>?_)
 try dsimp only at hk⊢
 obtain⟨hS,hkl⟩:=hk
 refine br J J J (fun hc10=>?_) (fun hc10=>?_)
 ·
  have hk:k<ls.length:=by omega
  obtain⟨z,hm⟩: ∃m,m=ls[k]:=⟨_,rfl⟩
  have hz:ls[k]? =some z:=by rw[hm];exact aQ hk
  haveI hzb:LB z:=hm▸hb _ (bN hk)
  obtain⟨m,hmc⟩: ∃m,m=z.canon:=⟨_,rfl⟩
  haveI hmb:LB m:=by rw[hmc];infer_instance
  have hxl:=aaI eL xs
  have hxn:xs.length≤k:=by rw[hS];exact anS
  have hxb: ∀q∈xs,LB q:=fun q hq=>by rw[hS] at hq;obtain⟨z,hz,rfl⟩:=anC hq;haveI:=hb z hz;infer_instance
  refine ix (fu:=⟨1⟩) _ rfl (ac9 hk) rfl<|?_
  refine eqF 12 (.d (eL z)) rfl (by rw[hm];rfl) ?_
  refine gx rfl<|cl (fu:=⟨2⟩) rfl (awl (l:=z)) rfl<|?_
  refine eqF 16 (.d (eL m)) rfl (by rw[hmc]) ?_
  refine gx (fu:=⟨10⟩) rfl<|?_
  refine mg (fu:=⟨5⟩) (X:=Unit) (fun _=>[(9, .d (vI (k:Nat))),(8, .d (vI (ls.length:Nat))),(7, .d (.sl (ls.map eL))),(0, .d (.sl (ls.map eL))),(3, .d (.sl (xs.map eL))),(5, .ov 5 0),(6, .d (vI (al5 ajV m xs:Nat)))]) (fun _=>[(5,some (.o 109 [.d ((.v (.bool (decide (m.a<0))))), .d (dN m.a.natAbs), .d ((.v (.bool (decide (m.b<0))))), .d (dN m.b.natAbs), .d ((.v (.bool (decide (m.c<0))))), .d (dN m.c.natAbs)] true))]) (fun _=>True) [9,8,7,0,3,5,6] [5] rfl ?_ (fun _=>rfl) (fun _ _=>?_)
  ·
   refine gx rfl<|?_
   refine lp (fu:=⟨6⟩) (X:=Nat) (fun n=>[(9, .d (vI (k:Nat))),(8, .d (vI (ls.length:Nat))),(7, .d (.sl (ls.map eL))),(0, .d (.sl (ls.map eL))),(3, .d (.sl (xs.map eL))),(5, .ov 5 0),(6, .d (vI (n:Nat)))]) (fun n=>[(5,some (.o 109 [.d ((.v (.bool (decide (m.a<0))))), .d (dN m.a.natAbs), .d ((.v (.bool (decide (m.b<0))))), .d (dN m.b.natAbs), .d ((.v (.bool (decide (m.c<0))))), .d (dN m.c.natAbs)] true))]) (fun n=>n≤xs.length∧ ∀j (h:j<xs.length),j<n→ajV xs[j] m<0) (fun n=>xs.length-n) 0 rfl ⟨bQ _,fun j _ hj=>absurd hj (by omega)⟩ (fun _=>rfl) (fun n hk=>?_)
   obtain⟨n1,n2⟩:=hk
   refine csS (v2:=fun hg21=>by simp only[aah];kernel_rfl) J J J J (fun hg21=>?_) (fun hg21=>?_)
   ·
    refine ix _ rfl (ac9 (by omega)) rfl<|cl rfl (aqt (l:=xs[n]'(by omega)) (m:=m) (hl:=hxb _ (bN (by omega))) (hm:=hmb)) rfl<|?_
    refine br J J J (fun hc30=>?_) (fun hc30=>?_)
    ·
     exact at_ (n+1) ⟨⟨by omega,fun j h hj=>by by_cases q:j=n;(subst q;exact hc30);exact n2 j h (by omega)⟩,(by omega)⟩
    ·
     have hidx:al5 ajV m xs=n:=afe ajV n1 n2 (fun h=>hc30)
     exact at_ () trivial
   ·
    have hidx:al5 ajV m xs=n:=afe ajV n1 n2 (fun h=>absurd h (by omega))
    exact at_ () trivial
  ·
   obtain⟨n,hnx⟩: ∃n,al5 ajV m xs=n:=⟨_,rfl⟩
   rw[hnx]
   have hnl:n≤xs.length:=by rw[←hnx];exact alM _ _ _
   refine csS (v1:=fun hg36=>by simp only[aah];kernel_rfl) J J J J (fun hg36=>?_) (fun hg36=>?_)
   ·
    have hnew: ∀h:n<xs.length,ajV xs[n] m≠0:=fun h=>absurd h (by omega)
    obtain⟨ys,hys⟩: ∃ys,ys=xs.take n++m::xs.drop n:=⟨_,rfl⟩
    have hin:afS ajV m xs=ys:=by rw[hys];exact adt ajV hnx hnew
    have hyl:ys.length≤xs.length+1:=by rw[hys];simp;omega
    refine s3 n _ J J J J (acs _) (by rw[hxl];exact hnl) rfl<|ro J J<|sc' n xs.length _ J J (by rw[hxl]) rfl (acs _) hnl (by omega) rfl<|?_
    refine ap _ J J (slD acs _ _ _) rfl<|apf (hv:=by simp only[aah];exact⟨by kernel_rfl,by omega⟩) (ho:=fun _=>⟨slT acs _ _,by simp⟩) (ys.map eL) rfl (by rw[hys,bY,cX,gT,iL,aT (l:=xs.map eL) (i:=xs.length) (by simp)];rfl) (slI acs _ _ _ _) rfl<|?_
    exact at_ ⟨ys,k+1⟩ (by dsimp only;exact⟨⟨by rw[adC hz,←hS,←hmc];exact hin.symm,by omega⟩,(by omega)⟩)
   ·
    refine ix _ rfl (ac9 (by omega)) rfl<|cl rfl (aqt (l:=xs[n]'(by omega)) (m:=m) (hl:=hxb _ (bN (by omega))) (hm:=hmb)) rfl<|?_
    refine br J J J (fun hc45=>?_) (fun hc45=>?_)
    ·
     have hnew: ∀h:n<xs.length,ajV xs[n] m≠0:=fun h=>hc45
     obtain⟨ys,hys⟩: ∃ys,ys=xs.take n++m::xs.drop n:=⟨_,rfl⟩
     have hin:afS ajV m xs=ys:=by rw[hys];exact adt ajV hnx hnew
     have hyl:ys.length≤xs.length+1:=by rw[hys];simp;omega
     refine s3 n _ J J J J (acs _) (by rw[hxl];exact hnl) rfl<|ro J J<|sc' n xs.length _ J J (by rw[hxl]) rfl (acs _) hnl (by omega) rfl<|?_
     refine ap _ J J (slD acs _ _ _) rfl<|apf (hv:=by simp only[aah];exact⟨by kernel_rfl,by omega⟩) (ho:=fun _=>⟨slT acs _ _,by simp⟩) (ys.map eL) rfl (by rw[hys,bY,cX,gT,iL,aT (l:=xs.map eL) (i:=xs.length) (by simp)];rfl) (slI acs _ _ _ _) rfl<|?_
     exact at_ ⟨ys,k+1⟩ (by dsimp only;exact⟨⟨by rw[adC hz,←hS,←hmc];exact hin.symm,by omega⟩,(by omega)⟩)
    ·
     have hin:afS ajV m xs=xs:=ahk ajV hnx (by omega) (Decidable.not_not.1 hc45)
     exact at_ ⟨xs,k+1⟩ (by dsimp only;exact⟨⟨by rw[adC hz,←hS,←hmc];exact hin.symm,by omega⟩,(by omega)⟩)
 ·
  have hfin:aov ls=xs:=by rw[hS,anB (by omega)];rfl
  exact rz rfl (by rw[hfin];rfl)
def fcs(a b:Tr):List PtQ:=ayW (aov (a.lns++b.lns))
def eqR(a b:Tr):Bool:=(fcs a b).all fun p=>atQ a p==atQ b p
def aJk(f:Bool→Bool→Bool)(a b:Tr):Bool:=(fcs a b).any fun p=>f (atQ a p) (atQ b p)
def aIy(v:Bool)(t:Tr):Bool:=decide ((t.restrict []).isLeaf=true∧(t.restrict []).code=v)
def aGH(L:List LnQ)(p:PtQ):List PtQ:=L.flatMap fun l=>if Int.sign (l.value p).num=0 then [l.dir,ag4 l.dir] else []
theorem Bef.trans{u v w:PtQ}(hu:u.half≠0)(hv:v.half≠0)(hw:w.half≠0)(h:Bef u v)(k:Bef v w):Bef u w:=by
 rcases h with h|⟨h,h'⟩<;>rcases k with k|⟨k,k'⟩
 ·exact .inl (by omega)
 ·exact .inl (by omega)
 ·exact .inl (by omega)
 ·refine .inr ⟨h.trans k,?_⟩
  have id1:u.cross w*v.y=u.cross v*w.y+v.cross w*u.y:=by unfold PtQ.cross;grind
  rcases acB v with⟨x,q⟩|⟨x,q⟩|⟨x,q⟩
  ·rw[x] at h k
   have qu:=ade.1 h
   have qw:=ade.1 k.symm
   rcases q with q|⟨q,q'⟩
   ·rw[←aat q,id1]
    have wy:0≤w.y:=by grind
    have uy:0≤u.y:=by grind
    have a1:=aab (dQ h') wy
    rcases qu with qu|⟨qu,qu'⟩
    ·have:=aap k' qu;grind
    ·rcases qw with qw|⟨qw,qw'⟩
     ·have:=aap h' qw;rw[qu];grind
     ·exfalso
      have hx:v.cross w= -(w.x*v.y):=by unfold PtQ.cross;rw[qw];grind
      have:=aap qw' q
      grind
   ·exfalso
    have hx:u.cross v= -(v.x*u.y):=by unfold PtQ.cross;rw[q];grind
    have:=aab (a:=v.x) (b:=u.y) (dQ q') (by grind)
    grind
  ·rw[x] at h k
   have qu:=aeh.1 h
   have qw:=aeh.1 k.symm
   rcases q with q|⟨q,q'⟩
   ·have e1:u.cross w* -v.y=u.cross v* -w.y+v.cross w* -u.y:=by grind
    rw[←aat (k:= -v.y) (by grind),e1]
    have a1:=aab (a:=u.cross v) (b:= -w.y) (dQ h') (by grind)
    rcases qu with qu|⟨qu,qu'⟩
    ·have:=aap (a:=v.cross w) (b:= -u.y) k' (by grind);grind
    ·rcases qw with qw|⟨qw,qw'⟩
     ·have:=aap (a:=u.cross v) (b:= -w.y) h' (by grind);rw[qu];grind
     ·exfalso
      have hx:v.cross w= -(-w.x* -v.y):=by unfold PtQ.cross;rw[qw];grind
      have:=aap (a:= -w.x) (b:= -v.y) (by grind) (by grind)
      grind
   ·exfalso
    have hx:u.cross v= -(-v.x* -u.y):=by unfold PtQ.cross;rw[q];grind
    have:=aab (a:= -v.x) (b:= -u.y) (by grind) (by grind)
    grind
  ·exact absurd x hv
def aGL(S:List PtQ)(x:PtQ):Nat→Nat
 |0=>0
 |k+1=>if 0<aa7 (S.getD k ⟨0,0⟩) x then aGL S x k else k+1
def aH9(S:List PtQ)(x:PtQ):List PtQ:=S.take (aGL S x S.length)++x::S.drop (aGL S x S.length)
def aGw(ds:List PtQ):List PtQ:=ds.foldl aH9 []
structure aJo (L:List LnQ):Prop where
 ok: ∀l∈L,l.ok
 cn: ∀l∈L,aBf l=false
 nd:L.Pairwise (fun a b=>a≠b)
theorem avC{l:LnQ}(h:l.ok):l.dir.half≠0:=fun e=>by
 have hn:=h.ne
 unfold LnQ.Ne at hn
 rcases acB l.dir with⟨k,_⟩|⟨k,_⟩|⟨_,k1,k2⟩
 ·rw[k] at e;cases e
 ·rw[k] at e;cases e
 ·unfold LnQ.dir at k1 k2
  simp only at k1 k2
  apply hn
  refine⟨?_,cN.1 k2⟩
  have:(l.a:Rat)=0:=by grind
  exact cN.1 this
def aCR(v:PtQ):Nat:=Nat.gcd (v.x.num.natAbs*v.y.den) (v.y.num.natAbs*v.x.den)
def aDL(n:Int)(d g:Nat):Int:=if n<0 then-((n.natAbs*d/g:Nat):Int) else((n.natAbs*d/g:Nat):Int)
def aCX(v:PtQ):PtQ:=if v.half=0 then⟨0,0⟩ else⟨(aDL v.x.num v.y.den (aCR v):Int),(aDL v.y.num v.x.den (aCR v):Int)⟩
def aIB(ds:List PtQ)(i:Nat):List PtQ:=
 if aa7 (ds.getD i ⟨0,0⟩) (ds.getD ((i+1)%ds.length) ⟨0,0⟩)=0∧2<ds.length then []
 else if Int.sign ((ds.getD i ⟨0,0⟩).cross (ds.getD ((i+1)%ds.length) ⟨0,0⟩)).num=0 then [ahL (ds.getD i ⟨0,0⟩)]
 else [adv (aCX (ds.getD i ⟨0,0⟩)) (aCX (ds.getD ((i+1)%ds.length) ⟨0,0⟩)) 1]
def aFO(ds:List PtQ):List PtQ:=if ds.length=0 then [⟨1,0⟩] else(List.range ds.length).flatMap (aIB ds)
def aEu(L:List LnQ)(p:PtQ):List PtQ:=aFO (aGw (aGH L p))
def aIN(t:Tr)(p:PtQ):Bool:=(aEu (aov t.lns) p).any fun v=>(aA2 t p v).1
def aJd(t:Tr)(p:PtQ):Bool:=(aEu (aov t.lns) p).all fun v=>(aA2 t p v).1
def aFe:Tr→PtQ→List LnQ
 | .leaf _,_=>[]
 | .node l x y,p=>(if Int.sign (l.value p).num=0 then [l] else [])++((if 0≤Int.sign (l.value p).num then aFe x p else [])++(if Int.sign (l.value p).num≤0 then aFe y p else []))
def aIX(t:Tr)(p:PtQ)(b:Bool):Prop:= ∃v,Gn (aFe t p) p v∧(aA2 t p v).1=b
def aIm(ds:List PtQ)(i:Nat):PtQ:=
 if 0<Int.sign ((ds.getD i ⟨0,0⟩).cross (ds.getD ((i+1)%ds.length) ⟨0,0⟩)).num then(ds.getD i ⟨0,0⟩).add (ds.getD ((i+1)%ds.length) ⟨0,0⟩) else ahL (ds.getD i ⟨0,0⟩)
def aCL(ds:List PtQ):List PtQ:=if ds.length=0 then [⟨1,0⟩] else(List.range ds.length).map (aIm ds)
def aHH(v:PtQ):PtQ:=v.scale (rgcd v.x v.y)⁻¹
def aCY(t:Tr)(p:PtQ):List PtQ:=(aFe t p).flatMap fun l=>[aHH l.dir,ag4 (aHH l.dir)]
def aHp(ds:List PtQ):List PtQ:=amp aa7 ds
theorem awd{u v:PtQ}:aa7 u v=0↔u.half=v.half∧u.cross v=0:=by
 unfold aa7
 split
 ·constructor
  ·intro h;exact absurd h (by decide)
  ·intro h;omega
 ·split
  ·constructor
   ·intro h;exact absurd h (by decide)
   ·intro h;omega
  ·constructor
   ·intro h
    exact⟨by omega,(abT _).1 (by omega)⟩
   ·intro h
    rw[(abT _).2 h.2];rfl
theorem afn{u v w:PtQ}(h:Bef u v)(k:Bef v w):Bef u w:=by
 by_cases hu:u.half=0
 ·by_cases hw:w.half=0
  ·have z: ∀x y:PtQ,x.half=0→x.cross y=0:=fun x y hx=>by
    rcases acB x with⟨e,_⟩|⟨e,_⟩|⟨_,e1,e2⟩
    ·rw[hx] at e;exact absurd e (by decide)
    ·rw[hx] at e;exact absurd e (by decide)
    ·unfold PtQ.cross;rw[e1,e2];grind
   rcases h with h|⟨h,h'⟩
   ·rcases k with k|⟨k,k'⟩
    ·omega
    ·have hv:v.half≠0:=by omega
     omega
   ·rw[z u v hu] at h';exact absurd h' (by decide)
  ·refine .inl ?_
   have h1:=adR hw
   omega
 ·have hv:v.half≠0:=by
   intro e
   rcases h with h|⟨h,_⟩
   ·have:=adR hu;omega
   ·omega
  have hw:w.half≠0:=by
   intro e
   rcases k with k|⟨k,_⟩
   ·have:=adR hv;omega
   ·omega
  exact Bef.trans hu hv hw h k
section
variable {α:Type} (c:α→α→Int)
end
def inP(t:Tr)(p:PtQ):Bool:=(aCL (aHp (aCY t p))).any fun v=>(aA2 t p v).1
def alP(t:Tr)(p:PtQ):Bool:=(aCL (aHp (aCY t p))).all fun v=>(aA2 t p v).1
def aHF(t:Tr)(p:PtQ):Int:=if inP t p&&alP t p then 2 else if inP t p then 1 else 0
theorem agc(u:PtQ): ¬Bef u u:=by
 rintro (h|⟨_,h⟩)
 ·omega
 ·have:u.cross u=0:=by unfold PtQ.cross;grind
  rw[this] at h;exact absurd h (by decide)
theorem agt{u v:PtQ}(h:Bef u v)(k:Bef v u):False:=agc u (afn h k)
theorem auy{x y:PtQ}(h: ¬Bef x y)(k: ¬Bef y x):aa7 x y=0:=by
 rw[←ahS] at h k
 unfold aa7 at*
 split at h<;>try omega
 split at h<;>try omega
 split at k<;>try omega
 rw[show y.cross x= -(x.cross y) by unfold PtQ.cross;grind,oK,Int.sign_neg] at k
 omega
theorem ar5(vs:List IvQ):adl 8 (vs.map eV):=fun d hd=>by
 obtain⟨u,_,rfl⟩:=bK.1 hd;exact⟨rfl,rfl⟩
theorem ad3(qs:List Rat):adl 3 (qs.map eQ):=fun d hd=>by
 obtain⟨u,_,rfl⟩:=bK.1 hd;exact⟨rfl,rfl⟩
theorem aDr(bs:List Bool):adl 1 (bs.map vB):=fun d hd=>by
 obtain⟨u,_,rfl⟩:=bK.1 hd;exact⟨rfl,rfl⟩
theorem awV{l:List IvQ}{k:Nat}{v:IvQ}{t:Rat}{a b:Int}(h:l[k]? =some v)(ha:a=if v.nl then 1 else aa9 t v.lo)(hb:b=if v.nh then-1 else aa9 t v.hi):
  avN (l.drop k) t=if 0<a∧b<0 then 2 else if(a=0∧b≤0)∨(b=0∧0≤a) then 1 else avN (l.drop (k+1)) t:=by
 obtain⟨hk,rfl⟩:=aL.1 h
 rw[bJ hk,avN,ha,hb]
structure IvB (v:IvQ):Prop where
 lo:BQ v.lo 1200
 hi:BQ v.hi 1200
theorem awC{l:List IvQ}{t:Rat}{i:Nat}[ht:BQ t i](hb: ∀v∈l,IvB v)(hn:l.length≤100000)(hi:i≤20000:=by decide):PF GB prog 315 [.sl (l.map eV),eQ t] (vI (avN l t)):=by
 have hm:=aaI eV l
 refine fn (fu:=⟨11⟩) func315 J J ntmps315 J J (fun C=>?_)
 refine eqF 10 (.d (vI (l.length:Nat))) rfl (by rw[hm]<;>rfl) ?_
 refine gx rfl<|?_
 refine lp (X:=Nat) (fun k=>[(11, .d (vI (k:Nat)))]) (fun k=>[]) (fun k=>k≤l.length∧avN (l.drop k) t=avN l t) (fun k=>l.length-k) 0 rfl ⟨bQ _,rfl⟩ (fun _=>rfl) (fun k hk=>?_)
 obtain⟨h1,h2⟩:=hk
 refine br J J J (fun hc12=>?_) (fun hc12=>?_)
 ·
  obtain⟨v,hz⟩: ∃s,l[k]? =some s:=⟨_,aQ (by omega)⟩
  have hv:=hb v (aY hz)
  haveI:=hv.lo
  haveI:=hv.hi
  refine ix (fu:=⟨12⟩) _ rfl (aas hz) rfl<|?_
  refine mg (fu:=⟨1⟩) (X:=Int) (fun a=>[(7, .d (vI a))]) (fun a=>[]) (fun a=>a=if v.nl then 1 else aa9 t v.lo) [7] [] rfl ?_ (fun _=>rfl) (fun a ha=>?_)
  ·
   refine gx rfl<|?_
   refine bb J J J (fun hc17=>?_) (fun hc17=>?_)
   ·
    refine cl rfl (q_C (a:=t) (b:=v.lo) (i:=i) (by omega)) rfl<|?_
    exact at_ (aa9 t v.lo) (by rw[if_neg (by simpa using hc17)])
   ·
    exact at_ 1 (by rw[if_pos (by simpa using hc17)])
  ·
   refine mg (X:=Int) (fun b=>[(8, .d (vI b))]) (fun b=>[]) (fun b=>b=if v.nh then-1 else aa9 t v.hi) [8] [] rfl ?_ (fun _=>rfl) (fun b hb'=>?_)
   ·
    refine gx rfl<|?_
    refine bb J J J (fun hc24=>?_) (fun hc24=>?_)
    ·
     refine cl rfl (q_C (a:=t) (b:=v.hi) (i:=i) (by omega)) rfl<|?_
     exact at_ (aa9 t v.hi) (by rw[if_neg (by simpa using hc24)])
    ·
     exact at_ (-1) (by rw[if_pos (by simpa using hc24)])
   ·
    have hst:=awV hz ha hb'
    refine cs 31 J J J (fun hg31=>?_) (fun hg31=>?_)
    ·
     refine br J J J (fun hc34=>?_) (fun hc34=>?_)
     ·
      exact rz rfl (by first|(rw[←h2,fV];rfl)|(rw[←h2,hst,if_pos (by omega)];rfl)|(rw[←h2,hst,if_neg (by omega),if_pos (by omega)];rfl))
     ·
      refine cs 37 J J J (fun hg37=>?_) (fun hg37=>?_)
      ·
       refine cs 41 J J J (fun hg41=>?_) (fun hg41=>?_)
       ·
        exact rz rfl (by first|(rw[←h2,fV];rfl)|(rw[←h2,hst,if_pos (by omega)];rfl)|(rw[←h2,hst,if_neg (by omega),if_pos (by omega)];rfl))
       ·
        refine cs 44 J J J (fun hg44=>?_) (fun hg44=>?_)
        ·
         refine br J J J (fun hc48=>?_) (fun hc48=>?_)
         ·
          exact rz rfl (by first|(rw[←h2,fV];rfl)|(rw[←h2,hst,if_pos (by omega)];rfl)|(rw[←h2,hst,if_neg (by omega),if_pos (by omega)];rfl))
         ·
          exact at_ (k+1) ⟨⟨by omega,by rw[←h2,hst,if_neg (by omega),if_neg (by omega)]⟩,(by omega)⟩
        ·
         exact at_ (k+1) ⟨⟨by omega,by rw[←h2,hst,if_neg (by omega),if_neg (by omega)]⟩,(by omega)⟩
      ·
       refine cs 44 J J J (fun hg44=>?_) (fun hg44=>?_)
       ·
        refine br J J J (fun hc48=>?_) (fun hc48=>?_)
        ·
         exact rz rfl (by first|(rw[←h2,fV];rfl)|(rw[←h2,hst,if_pos (by omega)];rfl)|(rw[←h2,hst,if_neg (by omega),if_pos (by omega)];rfl))
        ·
         exact at_ (k+1) ⟨⟨by omega,by rw[←h2,hst,if_neg (by omega),if_neg (by omega)]⟩,(by omega)⟩
       ·
        exact at_ (k+1) ⟨⟨by omega,by rw[←h2,hst,if_neg (by omega),if_neg (by omega)]⟩,(by omega)⟩
    ·
     refine cs 37 J J J (fun hg37=>?_) (fun hg37=>?_)
     ·
      refine cs 41 J J J (fun hg41=>?_) (fun hg41=>?_)
      ·
       exact rz rfl (by first|(rw[←h2,fV];rfl)|(rw[←h2,hst,if_pos (by omega)];rfl)|(rw[←h2,hst,if_neg (by omega),if_pos (by omega)];rfl))
      ·
       refine cs 44 J J J (fun hg44=>?_) (fun hg44=>?_)
       ·
        refine br J J J (fun hc48=>?_) (fun hc48=>?_)
        ·
         exact rz rfl (by first|(rw[←h2,fV];rfl)|(rw[←h2,hst,if_pos (by omega)];rfl)|(rw[←h2,hst,if_neg (by omega),if_pos (by omega)];rfl))
        ·
         exact at_ (k+1) ⟨⟨by omega,by rw[←h2,hst,if_neg (by omega),if_neg (by omega)]⟩,(by omega)⟩
       ·
        exact at_ (k+1) ⟨⟨by omega,by rw[←h2,hst,if_neg (by omega),if_neg (by omega)]⟩,(by omega)⟩
     ·
      refine cs 44 J J J (fun hg44=>?_) (fun hg44=>?_)
      ·
       refine br J J J (fun hc48=>?_) (fun hc48=>?_)
       ·
        exact rz rfl (by first|(rw[←h2,fV];rfl)|(rw[←h2,hst,if_pos (by omega)];rfl)|(rw[←h2,hst,if_neg (by omega),if_pos (by omega)];rfl))
       ·
        exact at_ (k+1) ⟨⟨by omega,by rw[←h2,hst,if_neg (by omega),if_neg (by omega)]⟩,(by omega)⟩
      ·
       exact at_ (k+1) ⟨⟨by omega,by rw[←h2,hst,if_neg (by omega),if_neg (by omega)]⟩,(by omega)⟩
 ·
  obtain rfl:k=l.length:=by omega
  exact rz rfl (by first|(rw[←h2,fV];rfl)|(rw[←h2,hst,if_pos (by omega)];rfl)|(rw[←h2,hst,if_neg (by omega),if_pos (by omega)];rfl))
theorem aDq{l:List IvQ}{t:Rat}{i:Nat}[ht:BQ t i](hb: ∀v∈l,IvB v)(hn:l.length≤100000)(hi:i≤20000:=by decide):PF GB prog 291 [.sl (l.map eV),eQ t] (vB (act l t)):=by
 refine fn func291 J J ntmps291 J J (fun C=>?_)
 refine cl rfl (awC (l:=l) (t:=t) hb hn hi) rfl<|?_
 exact rz J J
theorem am8: ∀{l:List Rat} {i:Nat} {a b:Rat},l[i]? =some a→l[i+1]? =some b→adJ (l.take (i+2))=adJ (l.take (i+1))++[(a+b)/2]
 |[],i,a,b,h,_=>by simp at h
 |[_],i,a,b,h,k=>by simp at k
 |c::d::t,0,a,b,h,k=>by
  simp at h k;subst h;subst k
  simp[adJ]
 |c::d::t,i+1,a,b,h,k=>by
  have:=am8 (l:=d::t) (i:=i) (by simpa using h) (by simpa using k)
  rw[show(c::d::t).take (i+1+2)=c::d::t.take (i+1) by simp,show(c::d::t).take (i+1+1)=c::d::t.take i by simp,adJ,adJ,jZ]
  congr 1
theorem ajJ: ∀l:List Rat,(adJ l).length≤l.length
 |[]=>aM _
 |[_]=>bQ _
 |a::b::t=>by rw[adJ,bW,bW];exact Nat.succ_le_succ (ajJ (b::t))
theorem asF{a:Rat}{t:List Rat}{z:Rat}(h:(a::t)[t.length]? =some z):abZ (a::t)=(a-1)::(adJ (a::t)++[z+1]):=by
 rw[abZ]
 have:(a::t).getLast (by simp)=z:=by
  rw[List.getLast_eq_getElem]
  have:=aL.1 h
  obtain⟨h1,h2⟩:=this
  rw[←h2];congr 1
 rw[this]
theorem awh{cuts:List Rat}(hb: ∀q∈cuts,BQ q 1200)(hn:cuts.length≤100000):PF GB prog 290 [.sl (cuts.map eQ)] (.sl ((abZ cuts).map eQ)):=by
 have hm:=aaI eQ cuts
 refine fn (fu:=⟨10⟩) func290 J J ntmps290 J J (fun C=>?_)
 refine eqF 6 (.d (vI (cuts.length:Nat))) rfl (by rw[hm]<;>rfl) ?_
 refine gx rfl<|?_
 refine br J J J (fun hc7=>?_) (fun hc7=>?_)
 ·
  obtain rfl:cuts=[]:=bU (by omega)
  refine rf J J<|?_
  exact rz rfl (by rw[abZ];show DV.sl [_]=DV.sl [_];rw[ava])
 ·
  obtain⟨a,ct,rfl⟩: ∃a t,cuts=a::t:=by cases cuts with|nil=>exact absurd rfl hc7|cons a t=>exact⟨a,t,rfl⟩
  haveI hab:=hb a aZ
  have hcl:ct.length+1≤100000:=hn
  refine ix _ J J J<|cl rfl (amw (n:=1) (by decide) (by decide)) rfl<|cl (fu:=⟨0⟩) rfl (al7 (a:=a) (b:=((1:Int):Rat))) rfl<|?_
  refine eqF 14 (.d (eQ (a-1))) J J ?_
  refine gx rfl<|ro J J<|?_
  refine lp (fu:=⟨6⟩) (X:=Nat) (fun i=>[(4, .d (vI ((i+1:Nat):Int))),(3, .rw 15)]) (fun i=>[(15,some (.b 52 3 (((a-1)::adJ ((a::ct).take (i+1))).map eQ) true))]) (fun i=>i≤ct.length) (fun i=>ct.length-i) 0 rfl (bQ _) (fun _=>rfl) (fun i hk=>?_)
  have hm2:=aaI eQ (a::ct)
  have hml:=ajJ (a::ct.take i)
  rw[bW,cR] at hml
  have hml2:=ajJ (a::ct)
  rw[bW] at hml2
  refine eqF 18 (.d (vI ((ct.length+1:Nat):Int))) rfl (by rw[hm2]<;>rfl) ?_
  refine gx rfl<|?_
  refine br (fu2:=⟨11⟩) J J J (fun hc19=>?_) (fun hc19=>?_)
  ·
   obtain⟨u,hu⟩: ∃s,(a::ct)[i]? =some s:=⟨_,aQ (by simp;omega)⟩
   obtain⟨w,hw⟩: ∃s,(a::ct)[i+1]? =some s:=⟨_,aQ (by simp;omega)⟩
   haveI:=hb u (aY hu)
   haveI:=hb w (aY hw)
   refine ix _ rfl (by rw[show((((i+1:Nat):Int))-1).toNat=i by omega,cW,hu];rfl) rfl<|ix _ rfl (by rw[bZ,cW,hw];rfl) rfl<|?_
   refine cl rfl (aBY (a:=u) (b:=w)) rfl<|rf J J<|ap (hv:=by simp only[aah];exact⟨by kernel_rfl,by omega⟩) (((a-1)::adJ ((a::ct).take (i+1+1))).map eQ) rfl (by rw[am8 hu hw,←jZ,bY];rfl) (ad3 [(u+w)/2]) rfl<|?_
   refine rnE 34 15 rfl ?_
   exact at_ (i+1) ⟨(by omega),(by omega)⟩
  ·
   obtain rfl:i=ct.length:=by omega
   obtain⟨z,hz⟩: ∃s,(a::ct)[ct.length]? =some s:=⟨_,aQ (by simp)⟩
   haveI:=hb z (aY hz)
   rw[show(a::ct).take (ct.length+1)=a::ct from dX (l:=a::ct)]
   refine eqF 38 (.d (vI ((ct.length+1:Nat):Int))) rfl (by rw[hm2]<;>rfl) ?_
   refine gx rfl<|ix _ rfl (by rw[show((((ct.length+1:Nat):Int))-1).toNat=ct.length by omega,cW,hz];rfl) rfl<|cl rfl (amw (n:=1) (by decide) (by decide)) rfl<|?_
   refine cl rfl (ae6 (a:=z) (b:=((1:Int):Rat))) rfl<|rf J J<|ap ((abZ (a::ct)).map eQ) rfl (by rw[asF hz,←jZ,bY];rfl) (ad3 [z+1]) rfl<|?_
   refine fzE 45 rfl ?_
   exact rz J J
theorem aqa(o:List Rat)(s:IvQ):(aon o s).length≤o.length+2:=by
 unfold aon
 have h:=fun(x:Rat) (l:List Rat)=>anD (x:=x) (l:=l)▸aiB aa9 x l
 have h1:=h s.lo o
 have h2:=h s.hi o
 have h3:=h s.hi (aoH s.lo o)
 split<;>split<;>omega
def ajv(l:List IvQ)(k:Nat):List Rat:=adj (l.take k)
theorem ala{l:List IvQ}{k:Nat}{v:IvQ}(h:l[k]? =some v):ajv l (k+1)=aon (ajv l k) v:=by
 unfold ajv adj;rw[iX,h,pZ];rfl
theorem ag5(l:List IvQ): ∀k,(ajv l k).length≤2*k
 |0=>aM _
 |k+1=>by
  cases h:l[k]? with
  |none=>
   have:=ag5 l k
   unfold ajv at*
   rw[iX,h];simp;omega
  |some v=>rw[ala h];have:=ag5 l k;have:=aqa (ajv l k) v;omega
theorem apH{l:List IvQ}(hb: ∀v∈l,IvB v){k:Nat}: ∀y∈ajv l k,BQ y 1200:=fun y hy=>by
 obtain⟨s,hs,h⟩:=(ahC _).2 y hy
 have:=hb s (dK hs)
 rcases h with⟨_,rfl⟩|⟨_,rfl⟩
 ·exact this.lo
 ·exact this.hi
def avQ(o:List Rat)(v:IvQ)(j:Nat):List Rat:=if j=0 then o else if j=1 then(if v.nl then o else aoH v.lo o) else aon o v
def aCU(v:IvQ)(j:Nat):Rat:=if j=0 then v.lo else v.hi
def asU(v:IvQ)(j:Nat):Bool:=if j=0 then v.nl else v.nh
theorem adi{o:List Rat}{v:IvQ}{j:Nat}(hj:j<2):avQ o v (j+1)=if asU v j then avQ o v j else afS aa9 (aCU v j) (avQ o v j):=by
 have:j=0∨j=1:=by omega
 rcases this with rfl|rfl
 ·simp[avQ,asU,aCU,anD]
 ·simp[avQ,asU,aCU,aon,anD]
theorem awZ{o:List Rat}{v:IvQ}{j:Nat}(hj:j≤2):(avQ o v j).length≤o.length+2:=by
 unfold avQ
 have:=aqa o v
 have h:=anD (x:=v.lo) (l:=o)▸aiB aa9 v.lo o
 split
 ·omega
 ·split
  ·split<;>omega
  ·exact this
theorem aB9{o:List Rat}(ho: ∀q∈o,BQ q 1200){v:IvQ}(hv:IvB v){j:Nat}(hj:j≤2): ∀q∈avQ o v j,BQ q 1200:=fun q hq=>by
 unfold avQ aon at hq
 have lo:=hv.lo
 have hi:=hv.hi
 split at hq
 ·exact ho q hq
 ·split at hq
  ·split at hq
   ·exact ho q hq
   ·rcases acM.1 hq with rfl|hq
    ·exact lo
    ·exact ho q hq
  ·split at hq
   ·split at hq
    ·exact ho q hq
    ·rcases acM.1 hq with rfl|hq
     ·exact lo
     ·exact ho q hq
   ·rcases acM.1 hq with rfl|hq
    ·exact hi
    ·split at hq
     ·exact ho q hq
     ·rcases acM.1 hq with rfl|hq
      ·exact lo
      ·exact ho q hq
theorem aEW{l:List IvQ}(hb: ∀v∈l,IvB v)(hn:l.length≤10000):PF GB prog 289 [.sl (l.map eV)] (.sl ((adj l).map eQ)):=by
 have hm:=aaI eV l
 refine fn (fu:=⟨15⟩) func289 J J ntmps289 J J (fun C=>?_)
 refine eqF 10 (.d (vI (l.length:Nat))) rfl (by rw[hm]<;>rfl) ?_
 refine gx rfl<|?_
 refine nlC 3 rfl ?_
 refine lp (X:=List Rat×Nat) (fun⟨o,k⟩=>[(11, .d (vI (k:Nat))),(3, .d (.sl (o.map eQ)))]) (fun⟨o,k⟩=>[]) (fun⟨o,k⟩=>o=ajv l k∧k≤l.length) (fun⟨o,k⟩=>l.length-k) ([],0) rfl ⟨rfl,bQ _⟩ (fun _=>rfl) (fun⟨o,k⟩ hk=>?_)
 dsimp only at hk⊢
 obtain⟨h1,h2⟩:=hk
 refine br J J J (fun hc12=>?_) (fun hc12=>?_)
 ·
  obtain⟨v,hz⟩: ∃s,l[k]? =some s:=⟨_,aQ (by omega)⟩
  have hv:=hb v (aY hz)
  haveI:=hv.lo
  haveI:=hv.hi
  have hob:=apH hb (k:=k)
  have hol:=ag5 l k
  rw[←h1] at hob hol
  refine ix _ rfl (aas hz) rfl<|rf J J<|?_
  refine lp (X:=List Rat×Nat) (fun⟨xs,j⟩=>[(21, .d (vI (j:Nat))),(3, .d (.sl (xs.map eQ)))]) (fun⟨xs,j⟩=>[]) (fun⟨xs,j⟩=>xs=avQ o v j∧j≤2) (fun⟨xs,j⟩=>2-j) (o,0) rfl ⟨rfl,by omega⟩ (fun _=>rfl) (fun⟨xs,j⟩ hk=>?_)
  dsimp only at hk⊢
  obtain⟨g1,g2⟩:=hk
  refine br J J J (fun hc22=>?_) (fun hc22=>?_)
  ·
   have hj2:j<2:=by have:=hc22;simp only[bW,fY] at this;omega
   obtain⟨m,hm2⟩: ∃m,m=aCU v j:=⟨_,rfl⟩
   haveI hmb:BQ m 1200:=by rw[hm2];unfold aCU;split;exact hv.lo;exact hv.hi
   have hxl:=aaI eQ xs
   have hxn:xs.length≤2*k+2:=by rw[g1];have:=awZ (o:=o) (v:=v) (j:=j) g2;omega
   have hxb: ∀q∈xs,BQ q 1200:=by rw[g1];exact aB9 hob hv g2
   refine ix (fu:=⟨10⟩) _ rfl (by rw[bZ];exact(show([v.lo,v.hi].map eQ)[j]? =some (eQ m) by rw[hm2];have:j=0∨j=1:=(by omega);rcases this with rfl|rfl<;>rfl)) rfl<|?_
   rcases(show j=0∨j=1 by omega) with rfl|rfl
   ·
    refine knT J J J<|?_
    refine csb (fu2:=⟨1⟩) 32 J J J (fun hg32=>?_) (fun hg32=>?_)
    ·
     exact at_ (xs,0+1) (by dsimp only;exact⟨⟨by rw[adi (by decide),if_pos (by simpa[asU] using hg32),←g1],by omega⟩,(by omega)⟩)
    ·
     refine knF (fu:=⟨16⟩) J J J<|?_
     refine mg (fu:=⟨5⟩) (X:=Nat) (fun n=>[(8, .d (vI (n:Nat)))]) (fun n=>[]) (fun n=>al5 aa9 m xs=n) [8] [] rfl ?_ (fun _=>rfl) (fun n hnx=>?_)
     ·
      refine gx rfl<|?_
      refine lp (fu:=⟨6⟩) (X:=Nat) (fun n=>[(8, .d (vI (n:Nat)))]) (fun n=>[]) (fun n=>n≤xs.length∧ ∀j (h:j<xs.length),j<n→aa9 xs[j] m<0) (fun n=>xs.length-n) 0 rfl ⟨bQ _,fun j _ hj=>absurd hj (by omega)⟩ (fun _=>rfl) (fun n hk=>?_)
      obtain⟨n1,n2⟩:=hk
      refine csS (v2:=fun hg43=>by simp only[aah];kernel_rfl) J J J J (fun hg43=>?_) (fun hg43=>?_)
      ·
       refine ix _ rfl (ac9 (by omega)) rfl<|cl rfl (q_C (a:=xs[n]'(by omega)) (b:=m) (ha:=hxb _ (bN (by omega))) (hb:=hmb)) rfl<|?_
       refine br J J J (fun hc52=>?_) (fun hc52=>?_)
       ·
        exact at_ (n+1) ⟨⟨by omega,fun j h hj=>by by_cases q:j=n;(subst q;exact hc52);exact n2 j h (by omega)⟩,(by omega)⟩
       ·
        exact at_ n (afe aa9 n1 n2 (fun h=>hc52))
      ·
       exact at_ n (afe aa9 n1 n2 (fun h=>absurd h (by omega)))
     ·
      have hnl:n≤xs.length:=by rw[←hnx];exact alM _ _ _
      refine csS (v1:=fun hg58=>by simp only[aah];kernel_rfl) J J J J (fun hg58=>?_) (fun hg58=>?_)
      ·
       have hnew: ∀h:n<xs.length,aa9 xs[n] m≠0:=fun h=>absurd h (by omega)
       obtain⟨ys,hys⟩: ∃ys,ys=xs.take n++m::xs.drop n:=⟨_,rfl⟩
       have hin:afS aa9 m xs=ys:=by rw[hys];exact adt aa9 hnx hnew
       have hyl:ys.length≤xs.length+1:=by rw[hys];simp;omega
       refine s3 n _ J J J J (ad3 _) (by rw[hxl];exact hnl) rfl<|ro J J<|sc' n xs.length _ J J (by rw[hxl]) rfl (ad3 _) hnl (by omega) rfl<|?_
       refine ap _ J J (slD ad3 _ _ _) rfl<|apf (hv:=by simp only[aah];exact⟨by kernel_rfl,by omega⟩) (ho:=fun _=>⟨slT ad3 _ _,by simp⟩) (ys.map eQ) rfl (by rw[hys,bY,cX,gT,iL,aT (l:=xs.map eQ) (i:=xs.length) (by simp)];rfl) (slI ad3 _ _ _ _) rfl<|?_
       exact at_ (ys,0+1) (by dsimp only;exact⟨⟨by rw[adi (by decide),if_neg (by simpa[asU] using hg32),←g1,←hm2,hin],by omega⟩,(by omega)⟩)
      ·
       refine ix _ rfl (ac9 (by omega)) rfl<|cl rfl (q_C (a:=xs[n]'(by omega)) (b:=m) (ha:=hxb _ (bN (by omega))) (hb:=hmb)) rfl<|?_
       refine br (fu2:=⟨7⟩) J J J (fun hc67=>?_) (fun hc67=>?_)
       ·
        have hnew: ∀h:n<xs.length,aa9 xs[n] m≠0:=fun h=>hc67
        obtain⟨ys,hys⟩: ∃ys,ys=xs.take n++m::xs.drop n:=⟨_,rfl⟩
        have hin:afS aa9 m xs=ys:=by rw[hys];exact adt aa9 hnx hnew
        have hyl:ys.length≤xs.length+1:=by rw[hys];simp;omega
        refine s3 n _ J J J J (ad3 _) (by rw[hxl];exact hnl) rfl<|ro J J<|sc' n xs.length _ J J (by rw[hxl]) rfl (ad3 _) hnl (by omega) rfl<|?_
        refine ap _ J J (slD ad3 _ _ _) rfl<|apf (hv:=by simp only[aah];exact⟨by kernel_rfl,by omega⟩) (ho:=fun _=>⟨slT ad3 _ _,by simp⟩) (ys.map eQ) rfl (by rw[hys,bY,cX,gT,iL,aT (l:=xs.map eQ) (i:=xs.length) (by simp)];rfl) (slI ad3 _ _ _ _) rfl<|?_
        exact at_ (ys,0+1) (by dsimp only;exact⟨⟨by rw[adi (by decide),if_neg (by simpa[asU] using hg32),←g1,←hm2,hin],by omega⟩,(by omega)⟩)
       ·
        have hin:afS aa9 m xs=xs:=ahk aa9 hnx (by omega) (Decidable.not_not.1 hc67)
        exact at_ (xs,0+1) (by dsimp only;exact⟨⟨by rw[adi (by decide),if_neg (by simpa[asU] using hg32),←g1,←hm2,hin],by omega⟩,(by omega)⟩)
   ·
    refine knF (fu:=⟨6⟩) J J J<|knT J J J<|?_
    refine bb (fu2:=⟨8⟩) J J J (fun hc39=>?_) (fun hc39=>?_)
    ·
     exact at_ (xs,1+1) (by dsimp only;exact⟨⟨by rw[adi (by decide),if_pos (by simpa[asU] using hc39),←g1],by omega⟩,(by omega)⟩)
    ·
     refine mg (fu:=⟨5⟩) (X:=Nat) (fun n=>[(8, .d (vI (n:Nat)))]) (fun n=>[]) (fun n=>al5 aa9 m xs=n) [8] [] rfl ?_ (fun _=>rfl) (fun n hnx=>?_)
     ·
      refine gx rfl<|?_
      refine lp (fu:=⟨6⟩) (X:=Nat) (fun n=>[(8, .d (vI (n:Nat)))]) (fun n=>[]) (fun n=>n≤xs.length∧ ∀j (h:j<xs.length),j<n→aa9 xs[j] m<0) (fun n=>xs.length-n) 0 rfl ⟨bQ _,fun j _ hj=>absurd hj (by omega)⟩ (fun _=>rfl) (fun n hk=>?_)
      obtain⟨n1,n2⟩:=hk
      refine csS (v2:=fun hg43=>by simp only[aah];kernel_rfl) J J J J (fun hg43=>?_) (fun hg43=>?_)
      ·
       refine ix _ rfl (ac9 (by omega)) rfl<|cl rfl (q_C (a:=xs[n]'(by omega)) (b:=m) (ha:=hxb _ (bN (by omega))) (hb:=hmb)) rfl<|?_
       refine br J J J (fun hc52=>?_) (fun hc52=>?_)
       ·
        exact at_ (n+1) ⟨⟨by omega,fun j h hj=>by by_cases q:j=n;(subst q;exact hc52);exact n2 j h (by omega)⟩,(by omega)⟩
       ·
        exact at_ n (afe aa9 n1 n2 (fun h=>hc52))
      ·
       exact at_ n (afe aa9 n1 n2 (fun h=>absurd h (by omega)))
     ·
      have hnl:n≤xs.length:=by rw[←hnx];exact alM _ _ _
      refine csS (v1:=fun hg58=>by simp only[aah];kernel_rfl) J J J J (fun hg58=>?_) (fun hg58=>?_)
      ·
       have hnew: ∀h:n<xs.length,aa9 xs[n] m≠0:=fun h=>absurd h (by omega)
       obtain⟨ys,hys⟩: ∃ys,ys=xs.take n++m::xs.drop n:=⟨_,rfl⟩
       have hin:afS aa9 m xs=ys:=by rw[hys];exact adt aa9 hnx hnew
       have hyl:ys.length≤xs.length+1:=by rw[hys];simp;omega
       refine s3 n _ J J J J (ad3 _) (by rw[hxl];exact hnl) rfl<|ro J J<|sc' n xs.length _ J J (by rw[hxl]) rfl (ad3 _) hnl (by omega) rfl<|?_
       refine ap _ J J (slD ad3 _ _ _) rfl<|apf (hv:=by simp only[aah];exact⟨by kernel_rfl,by omega⟩) (ho:=fun _=>⟨slT ad3 _ _,by simp⟩) (ys.map eQ) rfl (by rw[hys,bY,cX,gT,iL,aT (l:=xs.map eQ) (i:=xs.length) (by simp)];rfl) (slI ad3 _ _ _ _) rfl<|?_
       exact at_ (ys,1+1) (by dsimp only;exact⟨⟨by rw[adi (by decide),if_neg (by simpa[asU] using hc39),←g1,←hm2,hin],by omega⟩,(by omega)⟩)
      ·
       refine ix _ rfl (ac9 (by omega)) rfl<|cl rfl (q_C (a:=xs[n]'(by omega)) (b:=m) (ha:=hxb _ (bN (by omega))) (hb:=hmb)) rfl<|?_
       refine br J J J (fun hc67=>?_) (fun hc67=>?_)
       ·
        have hnew: ∀h:n<xs.length,aa9 xs[n] m≠0:=fun h=>hc67
        obtain⟨ys,hys⟩: ∃ys,ys=xs.take n++m::xs.drop n:=⟨_,rfl⟩
        have hin:afS aa9 m xs=ys:=by rw[hys];exact adt aa9 hnx hnew
        have hyl:ys.length≤xs.length+1:=by rw[hys];simp;omega
        refine s3 n _ J J J J (ad3 _) (by rw[hxl];exact hnl) rfl<|ro J J<|sc' n xs.length _ J J (by rw[hxl]) rfl (ad3 _) hnl (by omega) rfl<|?_
        refine ap _ J J (slD ad3 _ _ _) rfl<|apf (hv:=by simp only[aah];exact⟨by kernel_rfl,by omega⟩) (ho:=fun _=>⟨slT ad3 _ _,by simp⟩) (ys.map eQ) rfl (by rw[hys,bY,cX,gT,iL,aT (l:=xs.map eQ) (i:=xs.length) (by simp)];rfl) (slI ad3 _ _ _ _) rfl<|?_
        exact at_ (ys,1+1) (by dsimp only;exact⟨⟨by rw[adi (by decide),if_neg (by simpa[asU] using hc39),←g1,←hm2,hin],by omega⟩,(by omega)⟩)
       ·
        have hin:afS aa9 m xs=xs:=ahk aa9 hnx (by omega) (Decidable.not_not.1 hc67)
        exact at_ (xs,1+1) (by dsimp only;exact⟨⟨by rw[adi (by decide),if_neg (by simpa[asU] using hc39),←g1,←hm2,hin],by omega⟩,(by omega)⟩)
  ·
   have hj2: ¬j<2:=by have:=hc22;simp only[bW,fY] at this;omega
   exact at_ (xs,k+1) (by dsimp only;exact⟨⟨by rw[ala hz,←h1,g1,show j=2 by omega];rfl,by omega⟩,(by omega)⟩)
 ·
  have hfin:adj l=o:=by rw[h1,show k=l.length by omega];unfold ajv;rw[dX]
  exact rz rfl (by rw[hfin];rfl)
theorem ax1(t:Rat):eV ⟨t,0,false,true⟩= .ag [.v (.bool (decide (t.num<0))),dN t.num.natAbs,dD t.den, .v (.bool false), .sl [], .sl [], .v (.bool false), .v (.bool true)]:=by
 unfold eV dD
 simp only[show(0:Rat).num=0 from rfl,show(0:Rat).den=1 from rfl,kU,ac5];rfl
theorem axP(t:Rat):eV ⟨0,t,true,false⟩= .ag [.v (.bool false), .sl [], .sl [], .v (.bool (decide (t.num<0))),dN t.num.natAbs,dD t.den, .v (.bool true), .v (.bool false)]:=by
 unfold eV dD
 simp only[show(0:Rat).num=0 from rfl,show(0:Rat).den=1 from rfl,kU,ac5];rfl
def au8(l m:LnQ)(side:Int):DV:= .tp [.sl ((adH l m side).map eV),vB (onB l m)]
theorem aoa{l m:LnQ}(h:crossI l m≠0):onB l m=false:=by unfold onB;rw[decide_eq_false];exact fun e=>h e.1
theorem avj{l m:LnQ}(h:crossI l m=0):onB l m=decide ((m.value l.base).num.sign=0):=by unfold onB;simp[h]
theorem asT{l m:LnQ}{side:Int}[hl:LB l][hm:LB m](hlo:l.ok)(hmo:m.ok)(hs:side=1∨side= -1):PF GB prog 250 [eL l,eL m,vI side] (au8 l m side):=by
 refine fn func250 J J ntmps250 J J (fun C=>?_)
 refine cl rfl (avu (l:=l) (m:=m)) rfl<|?_
 refine bb J J J (fun hc19=>?_) (fun hc19=>?_)
 ·
  have hc:crossI l m=0:=by simpa using hc19
  refine cl rfl (asp hlo.ne) rfl<|cl rfl (aqK (l:=m) (p:=l.base)) rfl<|?_
  refine br J J J (fun hc26=>?_) (fun hc26=>?_)
  ·
   refine cl rfl azx rfl<|rf J J<|?_
   exact rz rfl (by unfold au8 adH;rw[if_pos hc,if_pos hc26,avj hc];rfl)
  ·
   exact rz rfl (by unfold au8 adH;rw[if_pos hc,if_neg hc26,avj hc];rfl)
 ·
  have hc:crossI l m≠0:=by simpa using hc19
  haveI hpb:=aiH (l:=l) (m:=m) hlo.ne hc
  obtain⟨t,ht⟩: ∃t,t=abw l (abq l m):=⟨_,rfl⟩
  refine cl (fu:=⟨0⟩) rfl (alr (l:=l) (p:=abq l m) hlo.ne) rfl<|?_
  refine eqF 35 (.d (eQ t)) rfl (by rw[ht]) ?_
  rw[←ht] at hpb
  refine gx rfl<|cl rfl (amw (n:=1) (by decide) (by decide)) rfl<|cl rfl (ae6 (a:=t) (b:=((1:Int):Rat))) rfl<|cl rfl (aG5 (l:=l) (t:=t+((1:Int):Rat)) hlo.ne) rfl<|?_
  refine cl rfl (aqK (l:=m) (p:=l.at (t+((1:Int):Rat)))) rfl<|?_
  refine br J J J (fun hc44=>?_) (fun hc44=>?_)
  ·
   refine rf J J<|?_
   exact rz rfl (by unfold au8 adH;rw[if_neg hc,←ht,if_pos (show(m.value (l.at (t+1))).num.sign=side from hc44),aoa hc,cX,ax1];rfl)
  ·
   refine rf J J<|?_
   exact rz rfl (by unfold au8 adH;rw[if_neg hc,←ht,if_neg (show¬(m.value (l.at (t+1))).num.sign=side from hc44),aoa hc,cX,axP];rfl)
def eFF(f:FrQ):DV:= .ag [.v (.bool (decide (f.l.a<0))),dN f.l.a.natAbs, .v (.bool (decide (f.l.b<0))),dN f.l.b.natAbs, .v (.bool (decide (f.l.c<0))),dN f.l.c.natAbs, .v (.bool (decide (f.v.lo.num<0))),dN f.v.lo.num.natAbs,dD f.v.lo.den, .v (.bool (decide (f.v.hi.num<0))),dN f.v.hi.num.natAbs,dD f.v.hi.den, .v (.bool f.v.nl), .v (.bool f.v.nh)]
theorem akV(fs:List FrQ):adl 14 (fs.map eFF):=fun d hd=>by
 obtain⟨u,_,rfl⟩:=bK.1 hd;exact⟨rfl,rfl⟩
theorem bpZ{p:ZP}(h:ZP.le 100 p):BPt p.q 12:=by
 haveI:BI p.1 11:=biC (by have:=h.1;omega) (by decide)
 haveI:BI p.2 11:=biC (by have:=h.2;omega) (by decide)
 exact(inferInstance:BPt (iP p.1 p.2) 12)
theorem atY{v w:ZP}(hv:ZP.le 100 v)(hw:ZP.le 100 w)(h:v≠w):PF GB prog 191 [eP v.q,eP w.q] (.tp [eFF (afb v w),vB true]):=by
 have hne: ¬(w.1=v.1∧w.2=v.2):=fun e=>h (Prod.ext e.1.symm e.2.symm)
 obtain⟨hlb,hlo⟩:=ayO (m:=v.1) (n:=v.2) (p:=w.1) (q:=w.2) (by have:=hv.1;omega) (by have:=hv.2;omega) (by have:=hw.1;omega) (by have:=hw.2;omega) hne
 haveI:=hlb
 haveI:=bpZ hv
 haveI:=bpZ hw
 refine fn func191 J J ntmps191 J J (fun C=>?_)
 refine cl (fu:=⟨3⟩) rfl (aom (m:=v.1) (n:=v.2) (m':=w.1) (n':=w.2) (by have:=hv.1;omega) (by have:=hv.2;omega) (by have:=hw.1;omega) (by have:=hw.2;omega) (fun e=>hne ⟨e.1.symm,e.2.symm⟩)) rfl<|?_
 refine kbT 13 rfl ?_
 refine gx rfl<|cl rfl (alr (l:=amv v.1 v.2 w.1 w.2) (p:=v.q) hlo.ne) rfl<|cl rfl (alr (l:=amv v.1 v.2 w.1 w.2) (p:=w.q) hlo.ne) rfl<|?_
 exact rz J J
theorem aFV(a b:Bool):eV ⟨0,0,a,b⟩= .ag [.v (.bool false), .sl [], .sl [], .v (.bool false), .sl [], .sl [], .v (.bool a), .v (.bool b)]:=by
 unfold eV dD
 simp only[show(0:Rat).num=0 from rfl,show(0:Rat).den=1 from rfl,kU,ac5];rfl
theorem aCw(t:Rat)(a b:Bool):eV ⟨t,0,a,b⟩= .ag [.v (.bool (decide (t.num<0))),dN t.num.natAbs,dD t.den, .v (.bool false), .sl [], .sl [], .v (.bool a), .v (.bool b)]:=by
 unfold eV dD
 simp only[show(0:Rat).num=0 from rfl,show(0:Rat).den=1 from rfl,kU,ac5];rfl
theorem aFI(t:Rat)(a b:Bool):eV ⟨0,t,a,b⟩= .ag [.v (.bool false), .sl [], .sl [], .v (.bool (decide (t.num<0))),dN t.num.natAbs,dD t.den, .v (.bool a), .v (.bool b)]:=by
 unfold eV dD
 simp only[show(0:Rat).num=0 from rfl,show(0:Rat).den=1 from rfl,kU,ac5];rfl
theorem aBE{cuts:List Rat}{i:Nat}(h:i=0)(k: ¬i<cuts.length):adZ cuts i=⟨0,0,decide (i=0),decide (i=cuts.length)⟩:=by unfold adZ;rw[if_pos h,if_neg k]
theorem azD{cuts:List Rat}{i:Nat}{y:Rat}(h:i=0)(k:cuts[i]? =some y):adZ cuts i=⟨0,y,decide (i=0),decide (i=cuts.length)⟩:=by
 unfold adZ;rw[if_pos h,if_pos (aL.1 k).1,aX,k];rfl
theorem aBZ{cuts:List Rat}{i:Nat}{x:Rat}(h: ¬i=0)(k:cuts[i-1]? =some x)(k2: ¬i<cuts.length):adZ cuts i=⟨x,0,decide (i=0),decide (i=cuts.length)⟩:=by
 unfold adZ;rw[if_neg h,if_neg k2,aX,k];rfl
theorem aCk{cuts:List Rat}{i:Nat}{x y:Rat}(h: ¬i=0)(k:cuts[i-1]? =some x)(k2:cuts[i]? =some y):adZ cuts i=⟨x,y,decide (i=0),decide (i=cuts.length)⟩:=by
 unfold adZ;rw[if_neg h,if_pos (aL.1 k2).1,aX,k,aX,k2];rfl
theorem awD{cuts:List Rat}{marks:List Bool}{k:Nat}(h:marks[k]? =some false):acl cuts marks (k+1)=acl cuts marks k:=by
 rw[acl,aX,h];rfl
theorem agm{cuts:List Rat}{marks:List Bool}{k:Nat}(h:marks[k]? =some true)(hp: ¬(0<k∧marks[k-1]? =some true)):acl cuts marks (k+1)=acl cuts marks k++[adZ cuts k]:=by
 rw[acl,aX,h]
 show(if 0<k∧_ then _ else _)=_
 rw[if_neg]
 rintro ⟨h1,h2⟩
 rw[aX] at h2
 cases e:marks[k-1]? with
 |none=>rw[e] at h2;cases h2
 |some b=>rw[e] at h2;exact hp ⟨h1,by rw[e];simp at h2;rw[h2]⟩
theorem arb{cuts:List Rat}{marks:List Bool}{k:Nat}(h:marks[k]? =some true):acl cuts marks (k+1)≠[]:=by
 rw[acl,aX,h]
 show(if 0<k∧_ then _ else _)≠[]
 split
 ·split<;>simp
 ·simp
theorem akI{cuts:List Rat}{marks:List Bool}{k:Nat}{xs:List IvQ}{v:IvQ}(hk:0<k)(h:marks[k]? =some true)(hp:marks[k-1]? =some true)(hx:acl cuts marks k=xs)(hv:xs[xs.length-1]? =some v):acl cuts marks (k+1)=xs.set (xs.length-1) (anT v (adZ cuts k)):=by
 rw[acl,aX,h]
 show(if 0<k∧_ then _ else _)=_
 rw[if_pos ⟨hk,by rw[aX,hp];rfl⟩,hx,lX,hv]
 have hn:0<xs.length:=by
  have:=(aL.1 hv).1;omega
 show xs.dropLast++[_]=_
 apply jN
 intro i
 rw[lL]
 by_cases hi:i<xs.length-1
 ·rw[dT (by rw[gM];exact hi),rK,if_pos hi,if_neg (by omega)]
 ·by_cases hi2:i=xs.length-1
  ·subst hi2
   rw[jQ (by rw[gM];exact aM _),gM,Nat.sub_self,if_pos rfl,if_pos (by omega)];rfl
  ·rw[cM (by rw[aW,gM];simp;omega),if_neg (by omega),cM (by omega)]
theorem afI{α:Type}{f:α→DV}{l:List α}{k:Nat}{x:α}(hk:0<k)(h:l[k-1]? =some x):(l.map f)[(((k:Nat):Int)-1).toNat]? =some (f x):=by
 rw[show(((k:Nat):Int)-1).toNat=k-1 by omega,cW,h];rfl
theorem avR{k n:Nat}:decide (k=n)=decide (((k:Nat):Int)=((n:Nat):Int)):=decide_eq_decide.2 (by omega)
def aH4(v w:IvQ):IvQ:=⟨v.lo,w.hi,v.nl,v.nh⟩
theorem aEF{cuts:List Rat}{marks:List Bool}(hn:cuts.length≤100000)(hmk:marks.length≤cuts.length+1):PF GB prog 292 [.sl (cuts.map eQ), .sl (marks.map vB)] (.sl ((anp cuts marks).map eV)):=by
 have hm:=aaI vB marks
 have hmc:=aaI eQ cuts
 refine fn (fu:=⟨15⟩) func292 J J ntmps292 J J (fun C=>?_)
 refine eqF 11 (.d (vI (marks.length:Nat))) rfl (by rw[hm]<;>rfl) ?_
 refine gx rfl<|?_
 refine nr 5 5 233 8 J J J ?_
 refine lp (X:=List IvQ×Nat) (fun⟨xs,k⟩=>[(12, .d (vI (k:Nat))),(5, .rw 5)]) (fun⟨xs,k⟩=>[(5,some (.b 233 8 (xs.map eV) true))]) (fun⟨xs,k⟩=>xs=acl cuts marks k∧k≤marks.length) (fun⟨xs,k⟩=>marks.length-k) ([],0) rfl ⟨rfl,bQ _⟩ (fun _=>rfl) (fun⟨xs,k⟩ hk=>?_)
 dsimp only at hk⊢
 obtain⟨h1,h2⟩:=hk
 have hml:=aaI eV xs
 have hxl:xs.length≤k:=by rw[h1];exact aiY
 refine br J J J (fun hc13=>?_) (fun hc13=>?_)
 ·
  obtain⟨b,hz⟩: ∃s,marks[k]? =some s:=⟨_,aQ (by omega)⟩
  refine ix (fu:=⟨8⟩) _ rfl (aas hz) rfl<|?_
  cases b
  ·
   refine knF (fu:=⟨12⟩) J J J<|?_
   exact at_ (xs,k+1) (by dsimp only;exact⟨⟨by rw[awD hz,←h1],by omega⟩,(by omega)⟩)
  ·
   refine knT (fu:=⟨13⟩) J J J<|?_
   rcases(show(k=0∧k<cuts.length)∨(k=0∧ ¬k<cuts.length)∨(0<k∧k<cuts.length)∨(0<k∧ ¬k<cuts.length) by omega) with⟨c1,c2⟩|⟨c1,c2⟩|⟨c1,c2⟩|⟨c1,c2⟩
   ·
    obtain⟨y,hy⟩: ∃s,cuts[k]? =some s:=⟨_,aQ (by omega)⟩
    have hgap:=azD (cuts:=cuts) (i:=k) c1 hy
    have hnp: ¬(0<k∧marks[k-1]? =some true):=fun e=>by omega
    refine eqF 23 (.d (vI (cuts.length:Nat))) rfl (by rw[hmc]<;>rfl) ?_
    refine gx (fu:=⟨10⟩) rfl<|knF (fu:=⟨11⟩) rfl (by show some (decide _)=some false;rw[decide_eq_false (by omega)]) rfl<|?_
    refine eqF 36 (.d (vI (cuts.length:Nat))) rfl (by rw[hmc]<;>rfl) ?_
    refine gx (fu:=⟨0⟩) rfl<|knT rfl (by show some (decide _)=some true;rw[decide_eq_true (by omega)]) rfl<|ix (fu:=⟨10⟩) _ rfl (aas hy) rfl<|?_
    refine eqF 44 (.d (vI (xs.length:Nat))) rfl (by rw[hml]<;>rfl) ?_
    refine gx (fu:=⟨6⟩) rfl<|knF (fu:=⟨19⟩) rfl (by show some (decide _)=some false;rw[decide_eq_false (by omega)]) rfl<|?_
    refine eqF 73 (.d (eV (adZ cuts k))) rfl (by rw[hgap,aFI,avR (k:=k) (n:=0),avR (k:=k) (n:=cuts.length)]<;>rfl) ?_
    refine gx rfl<|rf J J<|ap (fu:=⟨12⟩) ((xs++[adZ cuts k]).map eV) rfl (by rw[bY];rfl) (ar5 [adZ cuts k]) rfl<|?_
    refine rnE 75 5 rfl ?_
    exact at_ (xs++[adZ cuts k],k+1) (by dsimp only;exact⟨⟨by rw[agm hz hnp,←h1],by omega⟩,(by omega)⟩)
   ·
    have hgap:=aBE (cuts:=cuts) (i:=k) c1 c2
    have hnp: ¬(0<k∧marks[k-1]? =some true):=fun e=>by omega
    refine eqF 23 (.d (vI (cuts.length:Nat))) rfl (by rw[hmc]<;>rfl) ?_
    refine gx (fu:=⟨10⟩) rfl<|knF (fu:=⟨11⟩) rfl (by show some (decide _)=some false;rw[decide_eq_false (by omega)]) rfl<|?_
    refine eqF 36 (.d (vI (cuts.length:Nat))) rfl (by rw[hmc]<;>rfl) ?_
    refine gx (fu:=⟨0⟩) rfl<|knF (fu:=⟨10⟩) rfl (by show some (decide _)=some false;rw[decide_eq_false (by omega)]) rfl<|?_
    refine eqF 44 (.d (vI (xs.length:Nat))) rfl (by rw[hml]<;>rfl) ?_
    refine gx (fu:=⟨6⟩) rfl<|knF (fu:=⟨19⟩) rfl (by show some (decide _)=some false;rw[decide_eq_false (by omega)]) rfl<|?_
    refine eqF 73 (.d (eV (adZ cuts k))) rfl (by rw[hgap,aFV,avR (k:=k) (n:=0),avR (k:=k) (n:=cuts.length)]<;>rfl) ?_
    refine gx rfl<|rf J J<|ap (fu:=⟨12⟩) ((xs++[adZ cuts k]).map eV) rfl (by rw[bY];rfl) (ar5 [adZ cuts k]) rfl<|?_
    refine rnE 75 5 rfl ?_
    exact at_ (xs++[adZ cuts k],k+1) (by dsimp only;exact⟨⟨by rw[agm hz hnp,←h1],by omega⟩,(by omega)⟩)
   ·
    obtain⟨x,hx⟩: ∃s,cuts[k-1]? =some s:=⟨_,aQ (by omega)⟩
    obtain⟨pb,hpb⟩: ∃s,marks[k-1]? =some s:=⟨_,aQ (by omega)⟩
    obtain⟨y,hy⟩: ∃s,cuts[k]? =some s:=⟨_,aQ (by omega)⟩
    have hgap:=aCk (cuts:=cuts) (i:=k) (by omega) hx hy
    refine eqF 23 (.d (vI (cuts.length:Nat))) rfl (by rw[hmc]<;>rfl) ?_
    refine gx (fu:=⟨10⟩) rfl<|knT rfl (by show some (decide _)=some true;rw[decide_eq_true (by omega)]) rfl<|ix (fu:=⟨11⟩) _ rfl (afI (by omega) hx) rfl<|?_
    refine eqF 36 (.d (vI (cuts.length:Nat))) rfl (by rw[hmc]<;>rfl) ?_
    refine gx (fu:=⟨0⟩) rfl<|knT rfl (by show some (decide _)=some true;rw[decide_eq_true (by omega)]) rfl<|ix (fu:=⟨10⟩) _ rfl (aas hy) rfl<|?_
    refine eqF 44 (.d (vI (xs.length:Nat))) rfl (by rw[hml]<;>rfl) ?_
    refine gx (fu:=⟨6⟩) rfl<|knT rfl (by show some (decide _)=some true;rw[decide_eq_true (by omega)]) rfl<|ix _ rfl (afI (by omega) hpb) rfl<|?_
    refine csb (fu1:=⟨1⟩) (fu2:=⟨11⟩) 54 J J J (fun hg54=>?_) (fun hg54=>?_)
    ·
     have hpb':marks[k-1]? =some true:=by rw[hpb];congr 1
     have hxn:0<xs.length:=by rw[h1];have:=arb (cuts:=cuts) hpb';rw[show k-1+1=k by omega] at this;exact nT.2 this
     obtain⟨w,hw⟩: ∃s,xs[xs.length-1]? =some s:=⟨_,aQ (by omega)⟩
     refine knT rfl (by show some (decide _)=some true;rw[decide_eq_true (by omega)]) rfl<|sb (eV w) ((xs.set (xs.length-1) (⟨w.lo,y,w.nl,w.nh⟩:IvQ)).map eV) rfl (afI hxn hw) rfl (by rw[show(((xs.length:Nat):Int)-1).toNat=xs.length-1 by omega,kL];rfl) rfl<|?_
     refine sb (hv:=by simp only[aah];exact⟨by kernel_rfl,by omega⟩) (eV (⟨w.lo,y,w.nl,w.nh⟩:IvQ)) ((xs.set (xs.length-1) (anT w (adZ cuts k))).map eV) rfl (by rw[show(((xs.length:Nat):Int)-1).toNat=xs.length-1 by omega,kL,oT (by rw[hml];omega)]) rfl (by rw[show(((xs.length:Nat):Int)-1).toNat=xs.length-1 by omega,kL,List.set_set,kL,hgap];unfold anT;dsimp only;rw[avR (k:=k) (n:=cuts.length)]<;>rfl) rfl<|?_
     exact at_ (xs.set (xs.length-1) (anT w (adZ cuts k)),k+1) (by dsimp only;exact⟨⟨(akI (by omega) hz hpb' h1.symm hw).symm,by omega⟩,(by omega)⟩)
    ·
     have hnp: ¬(0<k∧marks[k-1]? =some true):=fun e=>by rw[hpb,hg54] at e;simpa using e.2
     refine eqF 73 (.d (eV (adZ cuts k))) rfl (by rw[hgap];unfold eV;dsimp only;rw[avR (k:=k) (n:=0),avR (k:=k) (n:=cuts.length)]<;>rfl) ?_
     refine gx rfl<|rf J J<|ap (fu:=⟨12⟩) ((xs++[adZ cuts k]).map eV) rfl (by rw[bY];rfl) (ar5 [adZ cuts k]) rfl<|?_
     refine rnE 75 5 rfl ?_
     exact at_ (xs++[adZ cuts k],k+1) (by dsimp only;exact⟨⟨by rw[agm hz hnp,←h1],by omega⟩,(by omega)⟩)
   ·
    obtain⟨x,hx⟩: ∃s,cuts[k-1]? =some s:=⟨_,aQ (by omega)⟩
    obtain⟨pb,hpb⟩: ∃s,marks[k-1]? =some s:=⟨_,aQ (by omega)⟩
    have hgap:=aBZ (cuts:=cuts) (i:=k) (by omega) hx c2
    refine eqF 23 (.d (vI (cuts.length:Nat))) rfl (by rw[hmc]<;>rfl) ?_
    refine gx (fu:=⟨10⟩) rfl<|knT rfl (by show some (decide _)=some true;rw[decide_eq_true (by omega)]) rfl<|ix (fu:=⟨11⟩) _ rfl (afI (by omega) hx) rfl<|?_
    refine eqF 36 (.d (vI (cuts.length:Nat))) rfl (by rw[hmc]<;>rfl) ?_
    refine gx (fu:=⟨0⟩) rfl<|knF (fu:=⟨10⟩) rfl (by show some (decide _)=some false;rw[decide_eq_false (by omega)]) rfl<|?_
    refine eqF 44 (.d (vI (xs.length:Nat))) rfl (by rw[hml]<;>rfl) ?_
    refine gx (fu:=⟨6⟩) rfl<|knT rfl (by show some (decide _)=some true;rw[decide_eq_true (by omega)]) rfl<|ix _ rfl (afI (by omega) hpb) rfl<|?_
    refine csb (fu1:=⟨1⟩) (fu2:=⟨11⟩) 54 J J J (fun hg54=>?_) (fun hg54=>?_)
    ·
     have hpb':marks[k-1]? =some true:=by rw[hpb];congr 1
     have hxn:0<xs.length:=by rw[h1];have:=arb (cuts:=cuts) hpb';rw[show k-1+1=k by omega] at this;exact nT.2 this
     obtain⟨w,hw⟩: ∃s,xs[xs.length-1]? =some s:=⟨_,aQ (by omega)⟩
     refine knT rfl (by show some (decide _)=some true;rw[decide_eq_true (by omega)]) rfl<|sb (eV w) ((xs.set (xs.length-1) (⟨w.lo,0,w.nl,w.nh⟩:IvQ)).map eV) rfl (afI hxn hw) rfl (by rw[show(((xs.length:Nat):Int)-1).toNat=xs.length-1 by omega,kL,aCw];rfl) rfl<|?_
     refine sb (hv:=by simp only[aah];exact⟨by kernel_rfl,by omega⟩) (eV (⟨w.lo,0,w.nl,w.nh⟩:IvQ)) ((xs.set (xs.length-1) (anT w (adZ cuts k))).map eV) rfl (by rw[show(((xs.length:Nat):Int)-1).toNat=xs.length-1 by omega,kL,oT (by rw[hml];omega)]) rfl (by rw[show(((xs.length:Nat):Int)-1).toNat=xs.length-1 by omega,kL,List.set_set,kL,hgap];unfold anT;dsimp only;rw[avR (k:=k) (n:=cuts.length)]<;>rfl) rfl<|?_
     exact at_ (xs.set (xs.length-1) (anT w (adZ cuts k)),k+1) (by dsimp only;exact⟨⟨(akI (by omega) hz hpb' h1.symm hw).symm,by omega⟩,(by omega)⟩)
    ·
     have hnp: ¬(0<k∧marks[k-1]? =some true):=fun e=>by rw[hpb,hg54] at e;simpa using e.2
     refine eqF 73 (.d (eV (adZ cuts k))) rfl (by rw[hgap,aCw,avR (k:=k) (n:=0),avR (k:=k) (n:=cuts.length)]<;>rfl) ?_
     refine gx rfl<|rf J J<|ap ((xs++[adZ cuts k]).map eV) rfl (by rw[bY];rfl) (ar5 [adZ cuts k]) rfl<|?_
     refine rnE 75 5 rfl ?_
     exact at_ (xs++[adZ cuts k],k+1) (by dsimp only;exact⟨⟨by rw[agm hz hnp,←h1],by omega⟩,(by omega)⟩)
 ·
  have hfin:anp cuts marks=xs:=by rw[h1,anp,show k=marks.length by omega]
  refine fzE 5 rfl ?_
  exact rz rfl (by rw[hfin];rfl)
theorem apM{g:Rat}: ∀{l:List Rat},g∈adJ l→ ∃a∈l,∃b∈l,g=(a+b)/2
 |[],h=>by cases h
 |[_],h=>by cases h
 |a::b::t,h=>by
  rw[adJ] at h
  rcases aR.1 h with rfl|h
  ·exact⟨a,aZ,b,aK _ aZ,rfl⟩
  ·obtain⟨c,hc,d,hd,e⟩:=apM h
   exact⟨c,aK _ hc,d,aK _ hd,e⟩
theorem aAm{l:List Rat}(h: ∀q∈l,BQ q 1200): ∀g∈abZ l,BQ g 2500:=fun g hg=>by
 cases l with
 |nil=>
  rw[abZ,aV] at hg;subst hg
  exact BQ.mono (k:=1) ⟨by decide,by decide⟩ (by decide)
 |cons a t=>
  rw[abZ] at hg
  rcases aR.1 hg with rfl|hg
  ·haveI:=h a aZ
   exact BQ.mono (inferInstance:BQ (a-1) _) (by omega)
  ·rcases bR.1 hg with hg|hg
   ·obtain⟨c,hc,d,hd,rfl⟩:=apM hg
    haveI:=h c hc
    haveI:=h d hd
    exact BQ.mono (inferInstance:BQ ((c+d)/2) _) (by omega)
   ·rw[aV] at hg
    haveI:=h _ (List.getLast_mem (l:=a::t) (by simp))
    subst hg
    exact BQ.mono (inferInstance:BQ ((a::t).getLast (by simp)+1) _) (by omega)
theorem akz(l:List IvQ):ajv l l.length=adj l:=by unfold ajv;rw[dX]
theorem aya{l:List IvQ}(h: ∀v∈l,IvB v): ∀y∈adj l,BQ y 1200:=by rw[←akz];exact apH h
theorem ajU(l:List IvQ):(adj l).length≤2*l.length:=by rw[←akz];exact ag5 l _
theorem IvB.app{a b:List IvQ}(ha: ∀v∈a,IvB v)(hb: ∀v∈b,IvB v): ∀v∈a++b,IvB v:=fun v hv=>(bR.1 hv).elim (ha v) (hb v)
theorem anj{a b:List IvQ}(ha: ∀v∈a,IvB v)(hb: ∀v∈b,IvB v)(hna:a.length≤100)(hnb:b.length≤100):PF GB prog 251 [vI 2, .sl (a.map eV), .sl (b.map eV)] (.sl ((ahm 2 a b).map eV)):=by
 obtain⟨cuts,hcu⟩: ∃c,c=adj (a++b):=⟨_,rfl⟩
 have hab:=IvB.app ha hb
 have hcb: ∀q∈cuts,BQ q 1200:=by rw[hcu];exact aya hab
 have hcl:cuts.length≤2*(a.length+b.length):=by rw[hcu];have:=ajU (a++b);rw[aW] at this;exact this
 have hgb:=aAm hcb
 have hgl:=afo (l:=cuts)
 have hmp:=aaI eQ (abZ cuts)
 refine fn func251 J J ntmps251 J J (fun C=>?_)
 refine ro0 J J<|ap (a.map eV) J J (ar5 _) rfl<|apf ((a++b).map eV) rfl (by rw[bY]) (ar5 b) rfl<|cl (fu:=⟨0⟩) rfl (aEW (l:=a++b) hab (by rw[aW];omega)) rfl<|?_
 refine eqF 19 (.d (.sl (cuts.map eQ))) rfl (by rw[hcu]) ?_
 refine gx rfl<|cl (fu:=⟨1⟩) rfl (awh (cuts:=cuts) hcb (by omega)) rfl<|?_
 refine eqF 22 (.d (vI ((cuts.length+1:Nat):Int))) rfl (by rw[hmp,hgl]<;>rfl) ?_
 refine gx rfl<|?_
 refine nr 8 8 4 1 J J J ?_
 refine lp (X:=Nat) (fun k=>[(23, .d (vI (k:Nat))),(8, .rw 8)]) (fun k=>[(8,some (.b 4 1 ((((abZ cuts).map (fun t=>ag6 2 (act a t) (act b t))).take k).map vB) true))]) (fun k=>k≤cuts.length+1) (fun k=>cuts.length+1-k) 0 rfl (bQ _) (fun _=>rfl) (fun k hk=>?_)
 have hml:(((((abZ cuts).map (fun t=>ag6 2 (act a t) (act b t))).take k).map vB)).length=k:=by rw[aJ,cR,aJ,hgl];omega
 refine br (fu2:=⟨0⟩) J J J (fun hc24=>?_) (fun hc24=>?_)
 ·
  obtain⟨t,hz⟩: ∃s,(abZ cuts)[k]? =some s:=⟨_,aQ (by omega)⟩
  haveI:=hgb t (aY hz)
  have hz2:((abZ cuts).map (fun t=>ag6 2 (act a t) (act b t)))[k]? =some (ag6 2 (act a t) (act b t)):=by rw[cW,hz];rfl
  refine ix _ rfl (aas hz) rfl<|cl rfl (aDq (l:=a) (t:=t) ha (by omega)) rfl<|cl (fu:=⟨6⟩) rfl (aDq (l:=b) (t:=t) hb (by omega)) rfl<|?_
  cases hx:act a t
  ·
   refine knF (fu:=⟨15⟩) J J J<|knT (fu:=⟨5⟩) J J J<|knF J J J<|rf J J<|ap (fu:=⟨8⟩) ((((abZ cuts).map (fun t=>ag6 2 (act a t) (act b t))).take (k+1)).map vB) rfl (by rw[←abp hz2,hx];rfl) (aDr [false]) rfl<|?_
   refine rnE 59 8 rfl ?_
   exact at_ (k+1) ⟨(by omega),(by omega)⟩
  ·
   refine knT (fu:=⟨15⟩) J J J<|knT (fu:=⟨5⟩) J J J<|knT J J J<|rf J J<|ap ((((abZ cuts).map (fun t=>ag6 2 (act a t) (act b t))).take (k+1)).map vB) rfl (by rw[←abp hz2,hx];rfl) (aDr [_]) rfl<|?_
   refine rnE 59 8 rfl ?_
   exact at_ (k+1) ⟨(by omega),(by omega)⟩
 ·
  obtain rfl:k=cuts.length+1:=by omega
  have htk:((abZ cuts).map (fun t=>ag6 2 (act a t) (act b t))).take (cuts.length+1)=(abZ cuts).map (fun t=>ag6 2 (act a t) (act b t)):=aT (by rw[aJ,hgl];exact aM _)
  rw[htk]
  refine fzC 8 rfl ?_
  refine gx rfl<|cl rfl (aEF (cuts:=cuts) (marks:=(abZ cuts).map (fun t=>ag6 2 (act a t) (act b t))) (by omega) (by rw[aJ,hgl];exact aM _)) rfl<|?_
  exact rz rfl (by unfold ahm;rw[←hcu];rfl)
section
variable {GB:Gh} {C:Ctx} {n:Nat} {Q0:Exit→Act→World→Prop} {fr fr':FrX} {own own':OwX} {cf cf':Cf} {vc:List Prop}
theorem aDa{lk:LK}{bk:BM}{dst:Option Nat}{t ty':TypeId}{pos:String}{af:Array Edge}{gd:Option (Nat×Bool)}{x y:Operand}{e len s nm off:Nat}{k:IntKind}{i:Nat}(hu:prog.underlying t=some (.array len e))(hs:(prog.info? e).map (·.size)=some s)
  (e1:evX lk x=some (.ov nm off))(e2:evX lk y=some (.d (.v (.int k (i:Nat)))))(hi:i<len):OpR prog GB C n lk bk ⟨dst, .indexAddr t x y,ty',pos,af,gd⟩ (.ov nm (off+i*s)) [] []:= .yd fun ρ G ov a w r=>by
 obtain⟨p,h1,h2⟩:=r.ev e1
 obtain⟨q,h3,h4⟩:=r.ev e2
 rw[aaz] at h4;subst h4
 obtain⟨b,hb,rfl⟩:=h2
 refine⟨_,⟨b,hb,rfl⟩,?_⟩
 obtain⟨j,hj,hjs⟩: ∃j,prog.info? e=some j∧j.size=s:=by
  cases h:prog.info? e with
  |none=>rw[h] at hs;cases hs
  |some j=>rw[h] at hs;exact⟨j,rfl,by simpa using hs⟩
 intro a' w' hf hh
 simp only[execOp,aac hf h1,aac hf h3]
 have:(Instr.indexAt t (.pointer (some ⟨b,off,none⟩)) (.int k (i:Nat))).run prog w'= .ok (.pointer (some ⟨b,off+i*s,none⟩)) w':=by
  unfold Instr.indexAt
  show(underlying t>>=_).run prog w'=_
  rw[aaa (adn hu w')]
  show(underlying t>>=_).run prog w'=_
  rw[aaa (adn hu w')]
  have h0:0≤((i:Nat):Int):=qR i
  have h1:((i:Nat):Int)<((len:Nat):Int):=by omega
  simp only[h0,h1,and_self,if_true]
  show(sizeOf e>>=_).run prog w'=_
  rw[aaa (aee hj w'),acQ,hjs,bZ]
  rfl
 exact aam this
def aHG(fr:FrX)(cf:Cf):Option (TypeId×Nat×Nat×Int):=match opC fr cf with
 |some ⟨_, .indexAddr t x y,_,_,_,_⟩=>match evX (lkC fr cf) x with
  |some (.ov nm off)=>match evX (lkC fr cf) y with
   |some (.d (.v (.int _ i)))=>some (t,nm,off,i)
   |_=>none
  |_=>none
 |_=>none
theorem ixa[fu:Fu](i:Nat){t nm off e len s:Nat}(h:aHG fr cf=some (t,nm,off,((i:Nat):Int)))(hu:prog.underlying t=some (.array len e))(hs:(prog.info? e).map (·.size)=some s)(hi:i<len)
  (hgo:goA tt n fu.n fr own cf (.ov nm (off+i*s)) [] []=⟨vc,fr',own',cf'⟩)(k:CfS prog GB C n Q0 fr' own' cf')
  (hv:aah vc:=by first|exact trivial|(simp only[aah];kernel_rfl)|(simp only[aah];omega)):CfS prog GB C n Q0 fr own cf:=by
 unfold aHG at h
 split at h<;>try (cases h;done)
 rename_i hh
 split at h<;>try (cases h;done)
 rename_i hx
 split at h<;>cases h
 rename_i hy
 exact us hh (aDa hu hs hx hy hi) hgo hv k
theorem aDz{lk:LK}{bk:BM}{d s:Nat}{e t ty':TypeId}{pos:String}{af:Array Edge}{gd:Option (Nat×Bool)}{ps:List (Nat×Operand)}{fo:List (Nat×Nat×Nat)}{i:TI}{z zx:List FX}{k:Nat}{pre post:List DV}(hi:afL prog t=some i)(hk:i.k= .st fo)(hz:i.z=some z)
  (hb:awy lk fo z ps=some zx)(h0:zx[k]? =some .nl)(h1:ad4 (zx.take k)=some pre)(h2:ad4 (zx.drop (k+1))=some post):OpR prog GB C n lk bk ⟨some d, .build t ⟨ps⟩,ty',pos,af,gd⟩ (.bx false pre d post) [(d,some (.b e s [] true))] [d]:=by
 intro hd tl tb K' s1 s2 hf hk'
 refine⟨fun ρ G ov a w r Q=>?_⟩
 obtain⟨v,hv,hv'⟩:=ajZ hi hz
 have:=azw hi hk
 have hsp:zx=zx.take k++ .nl::zx.drop (k+1):=by
  obtain⟨hk1,hk2⟩:=aL.1 h0
  conv=>lhs;rw[←kX k zx,bJ hk1,hk2]
 obtain⟨l,h1',h2'⟩:=aiR (r.mono s1 s2) (fo:=fo) ps _ _ _ hb (hv' ρ G)
 rw[hsp] at h2'
 obtain⟨m1,m2',rfl,k1,y,m2,rfl,k2,k3⟩:=ak2 h2'
 cases (show y= .slice none 0 0 from k2)
 have hy:Yd prog C (frA a) ov G ⟨some d, .build t ⟨ps⟩,ty',pos,af,gd⟩ (.agg ⟨m1++Value.slice none 0 0::m2⟩):=als h1'
 have r3:=r.new' (x:=⟨none,0,0⟩) (B':= .b e s [] true) (os:=[]) (ov':=ov) (f:= .bx false pre d post) (y:= .agg ⟨m1++Value.slice none 0 0::m2⟩) hf (GLe.refl G) r.h
  ⟨[],by simp only[if_true];exact .inl ⟨rfl,rfl,rfl⟩, .nil,by simp,fun _ o ho=>by cases ho⟩ (fun o ho=>by cases ho) (fun m B _ _ o ho _=>⟨ho,by simp⟩)
  ⟨m1,m2,by simp,acJ k1 h1,acJ k3 h2⟩ (r.putA _ hd)
 exact abC (hy a w (aaD a) r.h) (hk'.run _ G ov _ w r3)
def aHn(fr:FrX)(cf:Cf):Option (Nat×List FX):=match opC fr cf with
 |some ⟨some d, .build t ⟨ps⟩,_,_,_,_⟩=>match abc tt t with
  |some ⟨.st fo,_,some zx,_⟩=>match awy (lkC fr cf) fo zx ps with
   |some l=>some (d,l)
   |none=>none
  |_=>none
 |_=>none
theorem bzp[fu:Fu]{d:Nat}{zx:List FX}(e s kk:Nat)(pre post:List DV)(h:aHn fr cf=some (d,zx))(h0:zx[kk]? =some .nl)(h1:ad4 (zx.take kk)=some pre)(h2:ad4 (zx.drop (kk+1))=some post)(hgo:goA tt n fu.n fr own cf (.bx false pre d post) [(d,some (.b e s [] true))] [d]=⟨vc,fr',own',cf'⟩)(k:CfS prog GB C n Q0 fr' own' cf')
  (hv:aah vc:=by first|exact trivial|(simp only[aah];kernel_rfl)|(simp only[aah];omega)):CfS prog GB C n Q0 fr own cf:=by
 unfold aHn at h
 split at h<;>try (cases h;done)
 rename_i hh
 split at h<;>try (cases h;done)
 rename_i hT
 split at h<;>cases h
 rename_i hb
 exact us hh (aDz (abX _ _ hT) J J hb h0 h1 h2) hgo hv k
end
def sp1(f:FrQ)(m:LnQ)(k:Nat):List FrQ:=if k=0 then [] else aaW f m 1
def sp2(f:FrQ)(m:LnQ)(k:Nat):List FrQ:=if k≤1 then [] else aaW f m (-1)
theorem aqR{l m:LnQ}(hl:LB l)(hm:LB m)(hlo:l.ok){side:Int}: ∀v∈adH l m side,IvB v:=fun v hv=>⟨(aoV hl hm hlo v hv).2.1,(aoV hl hm hlo v hv).2.2⟩
theorem agO{l m:LnQ}{side:Int}:(adH l m side).length≤1:=by
 unfold adH;split
 ·split<;>simp
 ·split<;>simp
theorem apS(op:Int)(a b:List IvQ):(ahm op a b).length≤2*(a.length+b.length)+1:=by
 unfold ahm anp
 refine cJ aiY ?_
 rw[aJ,afo]
 have:=ajU (a++b);rw[aW] at this;omega
theorem aAI{f:FrQ}{m:LnQ}(h:FOk f)[hm:LB m](hmo:m.ok):PF GB prog 193 [eFF f,eL m] (.tp [.sl ((aaW f m 1).map eFF), .sl ((aaW f m (-1)).map eFF)]):=by
 haveI:=h.lb
 refine fn func193 J J ntmps193 J J (fun C=>?_)
 refine rf (fu:=⟨1⟩) J J<|?_
 refine eqF 14 (.d (vI (2:Nat))) J J ?_
 refine gx rfl<|?_
 refine nro 6 0 60 235 14 J J J J J ?_
 refine nro 6 1 61 235 14 J J J J J ?_
 refine lp (X:=Nat) (fun k=>[(15, .d (vI (k:Nat))),(6, .ov 6 0)]) (fun k=>[(6,some (.o 361 [.rw 60, .rw 61] true)),(60,some (.b 235 14 ((sp1 f m k).map eFF) true)),(61,some (.b 235 14 ((sp2 f m k).map eFF) true))]) (fun k=>k≤2) (fun k=>2-k) 0 rfl (by omega) (fun _=>rfl) (fun k hk=>?_)
 refine br J J J (fun hc16=>?_) (fun hc16=>?_)
 ·
  rcases(show k=0∨k=1 by omega) with rfl|rfl
  ·
   refine ix _ J J J<|cl (fu:=⟨0⟩) rfl (asT (l:=f.l) (m:=m) (side:=1) h.ok hmo (.inl rfl)) rfl<|?_
   obtain⟨cs,hcs⟩: ∃c,c=ahm 2 [f.v] (adH f.l m 1):=⟨_,rfl⟩
   have hcl:cs.length≤5:=by rw[hcs];have h1:=apS 2 [f.v] (adH f.l m 1);have h2:=agO (l:=f.l) (m:=m) (side:=1);simp only[fT] at h1;omega
   refine eqF 25 (.d (.tp [.sl ((adH f.l m 1).map eV),vB (onB f.l m)])) J J ?_
   refine gx rfl<|?_
   refine bb J J J (fun hc28=>?_) (fun hc28=>?_)
   ·
    have hon:onB f.l m=true:=hc28
    exact rz rfl (by first|(unfold aaW;rw[if_pos hon,if_pos hon];rfl)|rfl)
   ·
    have hon:onB f.l m=false:=by simpa using hc28
    refine rf J J<|cl (fu:=⟨0⟩) rfl (anj (a:=[f.v]) (b:=adH f.l m 1) (fun v hv=>by rw[aV] at hv;subst hv;exact⟨h.lo,h.hi⟩) (aqR h.lb hm h.ok) (by show 1≤100;decide) (by have:=agO (l:=f.l) (m:=m) (side:=1);omega)) rfl<|?_
    refine eqF 33 (.d (.sl (cs.map eV))) rfl (by rw[hcs]) ?_
    refine gx (fu:=⟨1⟩) rfl<|?_
    refine eqF 34 (.d (vI (cs.length:Nat))) rfl (by rw[aaI eV cs]<;>rfl) ?_
    refine gx rfl<|?_
    refine lp (X:=Nat) (fun j=>[(35, .d (vI (j:Nat)))]) (fun j=>[(60,some (.b 235 14 (((cs.take j).map fun v=>(⟨f.l,v⟩:FrQ)).map eFF) true))]) (fun j=>j≤cs.length) (fun j=>cs.length-j) 0 rfl (bQ _) (fun _=>rfl) (fun j hk=>?_)
    have hml:(((cs.take j).map fun v=>(⟨f.l,v⟩:FrQ)).map eFF).length≤j:=by rw[aJ,aJ,cR];omega
    refine br J J J (fun hc36=>?_) (fun hc36=>?_)
    ·
     obtain⟨z,hz⟩: ∃s,cs[j]? =some s:=⟨_,aQ (by omega)⟩
     refine ix _ rfl (aas hz) rfl<|ixa 0 (e:=228) (len:=2) (s:=1) rfl (by kernel_rfl) (by kernel_rfl) (by decide) rfl<|rf J J<|?_
     refine ap (((cs.take (j+1)).map fun v=>(⟨f.l,v⟩:FrQ)).map eFF) rfl (by rw[←abp hz,bY];rfl) (akV [⟨f.l,z⟩]) rfl<|ixa (hv:=by simp only[aah];exact⟨by kernel_rfl,by omega⟩) 0 (e:=228) (len:=2) (s:=1) rfl (by kernel_rfl) (by kernel_rfl) (by decide) rfl<|?_
     refine rnE 48 60 rfl ?_
     exact at_ (j+1) ⟨(by omega),(by omega)⟩
    ·
     obtain rfl:j=cs.length:=by omega
     rw[show(cs.take cs.length).map (fun v=>(⟨f.l,v⟩:FrQ))=aaW f m 1 from by rw[dX];unfold aaW;rw[if_neg (by rw[hon];decide),←hcs]]
     exact at_ (0+1) ⟨(by omega),(by omega)⟩
  ·
   refine ix _ J J J<|cl (fu:=⟨0⟩) rfl (asT (l:=f.l) (m:=m) (side:= -1) h.ok hmo (.inr rfl)) rfl<|?_
   obtain⟨cs,hcs⟩: ∃c,c=ahm 2 [f.v] (adH f.l m (-1)):=⟨_,rfl⟩
   have hcl:cs.length≤5:=by rw[hcs];have h1:=apS 2 [f.v] (adH f.l m (-1));have h2:=agO (l:=f.l) (m:=m) (side:=(-1));simp only[fT] at h1;omega
   refine eqF 25 (.d (.tp [.sl ((adH f.l m (-1)).map eV),vB (onB f.l m)])) J J ?_
   refine gx rfl<|?_
   refine bb J J J (fun hc28=>?_) (fun hc28=>?_)
   ·
    have hon:onB f.l m=true:=hc28
    exact rz rfl (by first|(unfold aaW;rw[if_pos hon,if_pos hon];rfl)|rfl)
   ·
    have hon:onB f.l m=false:=by simpa using hc28
    refine rf J J<|cl (fu:=⟨0⟩) rfl (anj (a:=[f.v]) (b:=adH f.l m (-1)) (fun v hv=>by rw[aV] at hv;subst hv;exact⟨h.lo,h.hi⟩) (aqR h.lb hm h.ok) (by show 1≤100;decide) (by have:=agO (l:=f.l) (m:=m) (side:=(-1));omega)) rfl<|?_
    refine eqF 33 (.d (.sl (cs.map eV))) rfl (by rw[hcs]) ?_
    refine gx (fu:=⟨1⟩) rfl<|?_
    refine eqF 34 (.d (vI (cs.length:Nat))) rfl (by rw[aaI eV cs]<;>rfl) ?_
    refine gx rfl<|?_
    refine lp (X:=Nat) (fun j=>[(35, .d (vI (j:Nat)))]) (fun j=>[(61,some (.b 235 14 (((cs.take j).map fun v=>(⟨f.l,v⟩:FrQ)).map eFF) true))]) (fun j=>j≤cs.length) (fun j=>cs.length-j) 0 rfl (bQ _) (fun _=>rfl) (fun j hk=>?_)
    have hml:(((cs.take j).map fun v=>(⟨f.l,v⟩:FrQ)).map eFF).length≤j:=by rw[aJ,aJ,cR];omega
    refine br J J J (fun hc36=>?_) (fun hc36=>?_)
    ·
     obtain⟨z,hz⟩: ∃s,cs[j]? =some s:=⟨_,aQ (by omega)⟩
     refine ix _ rfl (aas hz) rfl<|ixa 1 (e:=228) (len:=2) (s:=1) rfl (by kernel_rfl) (by kernel_rfl) (by decide) rfl<|rf J J<|?_
     refine ap (((cs.take (j+1)).map fun v=>(⟨f.l,v⟩:FrQ)).map eFF) rfl (by rw[←abp hz,bY];rfl) (akV [⟨f.l,z⟩]) rfl<|ixa (hv:=by simp only[aah];exact⟨by kernel_rfl,by omega⟩) 1 (e:=228) (len:=2) (s:=1) rfl (by kernel_rfl) (by kernel_rfl) (by decide) rfl<|?_
     refine rnE 48 61 rfl ?_
     exact at_ (j+1) ⟨(by omega),(by omega)⟩
    ·
     obtain rfl:j=cs.length:=by omega
     rw[show(cs.take cs.length).map (fun v=>(⟨f.l,v⟩:FrQ))=aaW f m (-1) from by rw[dX];unfold aaW;rw[if_neg (by rw[hon];decide),←hcs]]
     exact at_ (1+1) ⟨(by omega),(by omega)⟩
 ·
  obtain rfl:k=2:=by omega
  refine ixa 0 (e:=228) (len:=2) (s:=1) rfl (by kernel_rfl) (by kernel_rfl) (by decide) rfl<|ixa 1 (e:=228) (len:=2) (s:=1) rfl (by kernel_rfl) (by kernel_rfl) (by decide) rfl<|?_
  refine fzE 60 rfl ?_
  refine fzE 61 rfl ?_
  exact rz rfl (by first|(unfold aaW;rw[if_pos hon,if_pos hon];rfl)|rfl)
end Go.Sx
end
