/- Part 16 of a proof. -/
import Derived.Test.YtopfgminkdfpkaaGreatDoorMp15
set_option linter.unusedSimpArgs false
set_option maxHeartbeats 4000000
set_option maxRecDepth 100000
set_option linter.unusedVariables false
section
namespace Go.Sx
open Go Go.Proofs Tryz
variable {GB:Gh}
def ah7{α β:Type}(c:β→β→Int)(g:α→β)(l:List α)(k:Nat):List β:=ahn c ((l.take k).map g)
section
variable {α β:Type} {c:β→β→Int} {g:α→β} {l:List α} {k:Nat}
theorem abm{x:α}(h:l[k]? =some x):ah7 c g l (k+1)=acV c (g x) (ah7 c g l k):=by
 unfold ah7 ahn
 rw[iU,h,Option.toList_some,bJ,oK];rfl
theorem ahd(h:k=l.length):ah7 c g l k=ahn c (l.map g):=by unfold ah7;rw[h,fX]
theorem aha:(ah7 c g l k).length≤k:=by
 have:=ag6 c ((l.take k).map g) []
 have h2:((l.take k).map g).length≤k:=by rw[aJ,cV];omega
 rw[dV] at this
 unfold ah7 ahn
 omega
theorem ag5{y:β}(h:y∈ah7 c g l k): ∃x∈l,y=g x:=by
 rcases afy c h with h|h
 ·obtain⟨x,hx,rfl⟩:=bU.1 h
  exact⟨x,cS hx,rfl⟩
 ·cases h
end
theorem slT{α:Type}{f:α→DV}{s:Nat}(ok: ∀l:List α,ads s (l.map f))(xs:List α)(n:Nat):ads s ((xs.map f).take n):=fun d hd=>ok xs d (cS hd)
theorem slD{α:Type}{f:α→DV}{s:Nat}(ok: ∀l:List α,ads s (l.map f))(xs:List α)(n m:Nat):ads s (((xs.map f).take n).drop m):=fun d hd=>ok xs d (cS (fN hd))
theorem slI{α:Type}{f:α→DV}{s:Nat}(ok: ∀l:List α,ads s (l.map f))(xs:List α)(n m:Nat)(x:α):ads s ([f x]++((xs.map f).take n).drop m):=fun d hd=>by
 rcases bK.1 hd with h|h
 ·exact ok [x] d h
 ·exact slD ok xs n m d h
theorem abC{α:Type}{f:α→DV}{l:List α}{i:Nat}(h:i<l.length):(l.map f)[(i:Int).toNat]? =some (f l[i]):=by
 rw[bX,dQ,aZ h];rfl
theorem avL{ps:List PtQ}(hb: ∀p∈ps,BPt p 1200)(hn:ps.length≤100000):PF GB prog 219 [.sl (ps.map eP)] (.sl ((ahn agI ps).map eP)):=by
 have hm':=aav eP ps
 refine fn (fu:=⟨15⟩) func219 J J ntmps219 J J (fun C=>?_)
 refine eqF 8 (.d (vI (ps.length:Nat))) rfl (by rw[hm'];rfl) ?_
 refine gx rfl<|?_
 refine nlC 3 rfl ?_
 refine lp (X:=List PtQ×Nat) (fun⟨xs,k⟩=>[(9, .d (vI (k:Nat))),(8, .d (vI (ps.length:Nat))),(7, .d (.sl (ps.map eP))),(0, .d (.sl (ps.map eP))),(3, .d (.sl (xs.map eP)))]) (fun⟨xs,k⟩=>[]) (fun⟨xs,k⟩=>xs=ah7 agI id ps k∧k≤ps.length) (fun⟨xs,k⟩=>ps.length-k) ⟨[],0⟩ rfl ⟨rfl,bZ _⟩ (fun _=>rfl) (fun⟨xs,k⟩ hk=>?_)
 try dsimp only at hk⊢
 obtain⟨hS,hkl⟩:=hk
 refine br J J J (fun hc10=>?_) (fun hc10=>?_)
 ·
  have hk:k<ps.length:=by omega
  obtain⟨m,hm⟩: ∃m,m=ps[k]:=⟨_,rfl⟩
  have hz:ps[k]? =some m:=by rw[hm];exact aZ hk
  haveI hmb:BPt m 1200:=hm▸hb _ (cK hk)
  have hxl:=aav eP xs
  have hxn:xs.length≤k:=by rw[hS];exact aha
  have hxb: ∀q∈xs,BPt q 1200:=fun q hq=>by rw[hS] at hq;obtain⟨z,hz,he⟩:=ag5 hq;rw[he];exact hb z hz
  refine ix (fu:=⟨1⟩) _ rfl (abC hk) rfl<|?_
  refine eqF 12 (.d (eP m)) rfl (by rw[hm];rfl) ?_
  refine gx (fu:=⟨10⟩) rfl<|?_
  refine mg (fu:=⟨5⟩) (X:=Unit) (fun _=>[(9, .d (vI (k:Nat))),(8, .d (vI (ps.length:Nat))),(7, .d (.sl (ps.map eP))),(0, .d (.sl (ps.map eP))),(3, .d (.sl (xs.map eP))),(5, .ov 5 0),(6, .d (vI (aj4 agI m xs:Nat)))]) (fun _=>[(5,some (.o 58 [.d ((.v (.bool (decide (m.x.num<0))))), .d (dN m.x.num.natAbs), .d (dD m.x.den), .d ((.v (.bool (decide (m.y.num<0))))), .d (dN m.y.num.natAbs), .d (dD m.y.den)] true))]) (fun _=>True) [9,8,7,0,3,5,6] [5] rfl ?_ (fun _=>rfl) (fun _ _=>?_)
  ·
   refine gx rfl<|?_
   refine lp (fu:=⟨6⟩) (X:=Nat) (fun n=>[(9, .d (vI (k:Nat))),(8, .d (vI (ps.length:Nat))),(7, .d (.sl (ps.map eP))),(0, .d (.sl (ps.map eP))),(3, .d (.sl (xs.map eP))),(5, .ov 5 0),(6, .d (vI (n:Nat)))]) (fun n=>[(5,some (.o 58 [.d ((.v (.bool (decide (m.x.num<0))))), .d (dN m.x.num.natAbs), .d (dD m.x.den), .d ((.v (.bool (decide (m.y.num<0))))), .d (dN m.y.num.natAbs), .d (dD m.y.den)] true))]) (fun n=>n≤xs.length∧ ∀j (h:j<xs.length),j<n→agI xs[j] m<0) (fun n=>xs.length-n) 0 rfl ⟨bZ _,fun j _ hj=>absurd hj (by omega)⟩ (fun _=>rfl) (fun n hk=>?_)
   obtain⟨n1,n2⟩:=hk
   refine csS (v2:=fun hg16=>by simp only[aag];kernel_rfl) J J J J (fun hg16=>?_) (fun hg16=>?_)
   ·
    refine ix _ rfl (abC (by omega)) rfl<|cl rfl (akT (p:=xs[n]'(by omega)) (q:=m) (hp:=hxb _ (cK (by omega))) (hq:=hmb)) rfl<|?_
    refine br J J J (fun hc25=>?_) (fun hc25=>?_)
    ·
     exact at_ (n+1) ⟨⟨by omega,fun j h hj=>by by_cases q:j=n;(subst q;exact hc25);exact n2 j h (by omega)⟩,(by omega)⟩
    ·
     have hidx:aj4 agI m xs=n:=adm agI n1 n2 (fun h=>hc25)
     exact at_ () trivial
   ·
    have hidx:aj4 agI m xs=n:=adm agI n1 n2 (fun h=>absurd h (by omega))
    exact at_ () trivial
  ·
   obtain⟨n,hnx⟩: ∃n,aj4 agI m xs=n:=⟨_,rfl⟩
   rw[hnx]
   have hnl:n≤xs.length:=by rw[←hnx];exact ahL _ _ _
   refine csS (v1:=fun hg31=>by simp only[aag];kernel_rfl) J J J J (fun hg31=>?_) (fun hg31=>?_)
   ·
    have hnew: ∀h:n<xs.length,agI xs[n] m≠0:=fun h=>absurd h (by omega)
    obtain⟨ys,hys⟩: ∃ys,ys=xs.take n++m::xs.drop n:=⟨_,rfl⟩
    have hin:acV agI m xs=ys:=by rw[hys];exact acf agI hnx hnew
    have hyl:ys.length≤xs.length+1:=by rw[hys];simp;omega
    refine s3 n _ J J J J (ah5 _) (by rw[hxl];exact hnl) rfl<|ro J J<|sc' n xs.length _ J J (by rw[hxl]) rfl (ah5 _) hnl (by omega) rfl<|?_
    refine ap _ J J (slD ah5 _ _ _) rfl<|apf (hv:=by simp only[aag];exact⟨by kernel_rfl,by omega⟩) (ho:=fun _=>⟨slT ah5 _ _,by simp⟩) (ys.map eP) rfl (by rw[hys,bJ,bM,fS,gL,aT (l:=xs.map eP) (i:=xs.length) (by simp)];rfl) (slI ah5 _ _ _ _) rfl<|?_
    exact at_ ⟨ys,k+1⟩ (by dsimp only;exact⟨⟨by rw[abm hz,←hS];exact hin.symm,by omega⟩,(by omega)⟩)
   ·
    refine ix _ rfl (abC (by omega)) rfl<|cl rfl (akT (p:=xs[n]'(by omega)) (q:=m) (hp:=hxb _ (cK (by omega))) (hq:=hmb)) rfl<|?_
    refine br J J J (fun hc40=>?_) (fun hc40=>?_)
    ·
     have hnew: ∀h:n<xs.length,agI xs[n] m≠0:=fun h=>hc40
     obtain⟨ys,hys⟩: ∃ys,ys=xs.take n++m::xs.drop n:=⟨_,rfl⟩
     have hin:acV agI m xs=ys:=by rw[hys];exact acf agI hnx hnew
     have hyl:ys.length≤xs.length+1:=by rw[hys];simp;omega
     refine s3 n _ J J J J (ah5 _) (by rw[hxl];exact hnl) rfl<|ro J J<|sc' n xs.length _ J J (by rw[hxl]) rfl (ah5 _) hnl (by omega) rfl<|?_
     refine ap _ J J (slD ah5 _ _ _) rfl<|apf (hv:=by simp only[aag];exact⟨by kernel_rfl,by omega⟩) (ho:=fun _=>⟨slT ah5 _ _,by simp⟩) (ys.map eP) rfl (by rw[hys,bJ,bM,fS,gL,aT (l:=xs.map eP) (i:=xs.length) (by simp)];rfl) (slI ah5 _ _ _ _) rfl<|?_
     exact at_ ⟨ys,k+1⟩ (by dsimp only;exact⟨⟨by rw[abm hz,←hS];exact hin.symm,by omega⟩,(by omega)⟩)
    ·
     have hin:acV agI m xs=xs:=aeU agI hnx (by omega) (Decidable.not_not.1 hc40)
     exact at_ ⟨xs,k+1⟩ (by dsimp only;exact⟨⟨by rw[abm hz,←hS];exact hin.symm,by omega⟩,(by omega)⟩)
 ·
  have hfin:ahn agI ps=xs:=by rw[hS,ahd (by omega),List.map_id]
  exact rz rfl (by rw[hfin];rfl)
def aem(ls:List LnQ):List LnQ:=ahn aeC (ls.map LnQ.canon)
theorem ajI{ls:List LnQ}{y:LnQ}(h:y∈aem ls): ∃x∈ls,y=x.canon:=by
 rcases afy aeC h with h|h
 ·obtain⟨x,hx,rfl⟩:=bU.1 h;exact⟨x,hx,rfl⟩
 ·cases h
theorem arl{ls:List LnQ}(hb: ∀p∈ls,LB p)(hn:ls.length≤100000):PF GB prog 32 [.sl (ls.map eL)] (.sl ((aem ls).map eL)):=by
 have hm':=aav eL ls
 refine fn (fu:=⟨15⟩) func32 J J ntmps32 J J (fun C=>?_)
 refine eqF 8 (.d (vI (ls.length:Nat))) rfl (by rw[hm'];rfl) ?_
 refine gx rfl<|?_
 refine nlC 3 rfl ?_
 refine lp (X:=List LnQ×Nat) (fun⟨xs,k⟩=>[(9, .d (vI (k:Nat))),(8, .d (vI (ls.length:Nat))),(7, .d (.sl (ls.map eL))),(0, .d (.sl (ls.map eL))),(3, .d (.sl (xs.map eL)))]) (fun⟨xs,k⟩=>[]) (fun⟨xs,k⟩=>xs=ah7 aeC LnQ.canon ls k∧k≤ls.length) (fun⟨xs,k⟩=>ls.length-k) ⟨[],0⟩ rfl ⟨rfl,bZ _⟩ (fun _=>rfl) (fun⟨xs,k⟩ hk=>?_)
 try dsimp only at hk⊢
 obtain⟨hS,hkl⟩:=hk
 refine br J J J (fun hc10=>?_) (fun hc10=>?_)
 ·
  have hk:k<ls.length:=by omega
  obtain⟨z,hm⟩: ∃m,m=ls[k]:=⟨_,rfl⟩
  have hz:ls[k]? =some z:=by rw[hm];exact aZ hk
  haveI hzb:LB z:=hm▸hb _ (cK hk)
  obtain⟨m,hmc⟩: ∃m,m=z.canon:=⟨_,rfl⟩
  haveI hmb:LB m:=by rw[hmc];infer_instance
  have hxl:=aav eL xs
  have hxn:xs.length≤k:=by rw[hS];exact aha
  have hxb: ∀q∈xs,LB q:=fun q hq=>by rw[hS] at hq;obtain⟨z,hz,rfl⟩:=ag5 hq;haveI:=hb z hz;infer_instance
  refine ix (fu:=⟨1⟩) _ rfl (abC hk) rfl<|?_
  refine eqF 12 (.d (eL z)) rfl (by rw[hm];rfl) ?_
  refine gx rfl<|cl (fu:=⟨2⟩) rfl (apu (l:=z)) rfl<|?_
  refine eqF 16 (.d (eL m)) rfl (by rw[hmc]) ?_
  refine gx (fu:=⟨10⟩) rfl<|?_
  refine mg (fu:=⟨5⟩) (X:=Unit) (fun _=>[(9, .d (vI (k:Nat))),(8, .d (vI (ls.length:Nat))),(7, .d (.sl (ls.map eL))),(0, .d (.sl (ls.map eL))),(3, .d (.sl (xs.map eL))),(5, .ov 5 0),(6, .d (vI (aj4 aeC m xs:Nat)))]) (fun _=>[(5,some (.o 88 [.d ((.v (.bool (decide (m.a<0))))), .d (dN m.a.natAbs), .d ((.v (.bool (decide (m.b<0))))), .d (dN m.b.natAbs), .d ((.v (.bool (decide (m.c<0))))), .d (dN m.c.natAbs)] true))]) (fun _=>True) [9,8,7,0,3,5,6] [5] rfl ?_ (fun _=>rfl) (fun _ _=>?_)
  ·
   refine gx rfl<|?_
   refine lp (fu:=⟨6⟩) (X:=Nat) (fun n=>[(9, .d (vI (k:Nat))),(8, .d (vI (ls.length:Nat))),(7, .d (.sl (ls.map eL))),(0, .d (.sl (ls.map eL))),(3, .d (.sl (xs.map eL))),(5, .ov 5 0),(6, .d (vI (n:Nat)))]) (fun n=>[(5,some (.o 88 [.d ((.v (.bool (decide (m.a<0))))), .d (dN m.a.natAbs), .d ((.v (.bool (decide (m.b<0))))), .d (dN m.b.natAbs), .d ((.v (.bool (decide (m.c<0))))), .d (dN m.c.natAbs)] true))]) (fun n=>n≤xs.length∧ ∀j (h:j<xs.length),j<n→aeC xs[j] m<0) (fun n=>xs.length-n) 0 rfl ⟨bZ _,fun j _ hj=>absurd hj (by omega)⟩ (fun _=>rfl) (fun n hk=>?_)
   obtain⟨n1,n2⟩:=hk
   refine csS (v2:=fun hg21=>by simp only[aag];kernel_rfl) J J J J (fun hg21=>?_) (fun hg21=>?_)
   ·
    refine ix _ rfl (abC (by omega)) rfl<|cl rfl (aiS (l:=xs[n]'(by omega)) (m:=m) (hl:=hxb _ (cK (by omega))) (hm:=hmb)) rfl<|?_
    refine br J J J (fun hc30=>?_) (fun hc30=>?_)
    ·
     exact at_ (n+1) ⟨⟨by omega,fun j h hj=>by by_cases q:j=n;(subst q;exact hc30);exact n2 j h (by omega)⟩,(by omega)⟩
    ·
     have hidx:aj4 aeC m xs=n:=adm aeC n1 n2 (fun h=>hc30)
     exact at_ () trivial
   ·
    have hidx:aj4 aeC m xs=n:=adm aeC n1 n2 (fun h=>absurd h (by omega))
    exact at_ () trivial
  ·
   obtain⟨n,hnx⟩: ∃n,aj4 aeC m xs=n:=⟨_,rfl⟩
   rw[hnx]
   have hnl:n≤xs.length:=by rw[←hnx];exact ahL _ _ _
   refine csS (v1:=fun hg36=>by simp only[aag];kernel_rfl) J J J J (fun hg36=>?_) (fun hg36=>?_)
   ·
    have hnew: ∀h:n<xs.length,aeC xs[n] m≠0:=fun h=>absurd h (by omega)
    obtain⟨ys,hys⟩: ∃ys,ys=xs.take n++m::xs.drop n:=⟨_,rfl⟩
    have hin:acV aeC m xs=ys:=by rw[hys];exact acf aeC hnx hnew
    have hyl:ys.length≤xs.length+1:=by rw[hys];simp;omega
    refine s3 n _ J J J J (abw _) (by rw[hxl];exact hnl) rfl<|ro J J<|sc' n xs.length _ J J (by rw[hxl]) rfl (abw _) hnl (by omega) rfl<|?_
    refine ap _ J J (slD abw _ _ _) rfl<|apf (hv:=by simp only[aag];exact⟨by kernel_rfl,by omega⟩) (ho:=fun _=>⟨slT abw _ _,by simp⟩) (ys.map eL) rfl (by rw[hys,bJ,bM,fS,gL,aT (l:=xs.map eL) (i:=xs.length) (by simp)];rfl) (slI abw _ _ _ _) rfl<|?_
    exact at_ ⟨ys,k+1⟩ (by dsimp only;exact⟨⟨by rw[abm hz,←hS,←hmc];exact hin.symm,by omega⟩,(by omega)⟩)
   ·
    refine ix _ rfl (abC (by omega)) rfl<|cl rfl (aiS (l:=xs[n]'(by omega)) (m:=m) (hl:=hxb _ (cK (by omega))) (hm:=hmb)) rfl<|?_
    refine br J J J (fun hc45=>?_) (fun hc45=>?_)
    ·
     have hnew: ∀h:n<xs.length,aeC xs[n] m≠0:=fun h=>hc45
     obtain⟨ys,hys⟩: ∃ys,ys=xs.take n++m::xs.drop n:=⟨_,rfl⟩
     have hin:acV aeC m xs=ys:=by rw[hys];exact acf aeC hnx hnew
     have hyl:ys.length≤xs.length+1:=by rw[hys];simp;omega
     refine s3 n _ J J J J (abw _) (by rw[hxl];exact hnl) rfl<|ro J J<|sc' n xs.length _ J J (by rw[hxl]) rfl (abw _) hnl (by omega) rfl<|?_
     refine ap _ J J (slD abw _ _ _) rfl<|apf (hv:=by simp only[aag];exact⟨by kernel_rfl,by omega⟩) (ho:=fun _=>⟨slT abw _ _,by simp⟩) (ys.map eL) rfl (by rw[hys,bJ,bM,fS,gL,aT (l:=xs.map eL) (i:=xs.length) (by simp)];rfl) (slI abw _ _ _ _) rfl<|?_
     exact at_ ⟨ys,k+1⟩ (by dsimp only;exact⟨⟨by rw[abm hz,←hS,←hmc];exact hin.symm,by omega⟩,(by omega)⟩)
    ·
     have hin:acV aeC m xs=xs:=aeU aeC hnx (by omega) (Decidable.not_not.1 hc45)
     exact at_ ⟨xs,k+1⟩ (by dsimp only;exact⟨⟨by rw[abm hz,←hS,←hmc];exact hin.symm,by omega⟩,(by omega)⟩)
 ·
  have hfin:aem ls=xs:=by rw[hS,ahd (by omega)];rfl
  exact rz rfl (by rw[hfin];rfl)
theorem aif{α:Type}{c:α→α→Int}(hc: ∀u x,c u x=0→u=x){x y:α}: ∀{xs:List α},y=x∨y∈xs→y∈acV c x xs
 |[],h=>by
  rcases h with rfl|h
  ·rw[acV];exact aU.2 rfl
  ·cases h
 |u::t,h=>by
  rw[acV]
  split
  ·rcases h with rfl|h
   ·exact aX _ (aif hc (.inl rfl))
   ·rcases aW.1 h with rfl|h
    ·exact aQ
    ·exact aX _ (aif hc (.inr h))
  ·split
   ·rename_i h0
    rcases h with rfl|h
    ·rw[←hc _ _ h0];exact aQ
    ·exact h
   ·rcases h with rfl|h
    ·exact aQ
    ·exact aX _ h
theorem aks{α:Type}{c:α→α→Int}(hc: ∀u x,c u x=0→u=x){y:α}: ∀{l o:List α},y∈l∨y∈o→y∈l.foldl (fun out x=>acV c x out) o
 |[],o,h=>h.elim (fun h=>by cases h) id
 |x::t,o,h=>by
  refine aks hc (l:=t) ?_
  rcases h with h|h
  ·rcases aW.1 h with rfl|h
   ·exact .inr (aif hc (.inl rfl))
   ·exact .inl h
  ·exact .inr (aif hc (.inr h))
theorem apR{ls:List LnQ}{x:LnQ}(h:x∈ls):x.canon∈aem ls:=
 aks (fun u x e=>(afk u x).1 e) (.inl (pK h))
theorem aiB(l:LnQ)(p:PtQ):l.canon.value p=l.value p∨l.canon.value p= -l.value p:=by
 unfold LnQ.canon
 split
 ·exact .inr (aaP l p)
 ·exact .inl rfl
theorem apo{ls:List LnQ}{p:PtQ}:Off (aem ls) p↔Off ls p:=by
 constructor
 ·intro h l hl e
  have:=h _ (apR hl)
  rcases aiB l p with k|k<;>rw[k,e] at this<;>exact this (by simp)
 ·intro h l hl e
  obtain⟨x,hx,rfl⟩:=ajI hl
  have:=h x hx
  rcases aiB x p with k|k<;>rw[k] at e
  ·exact this e
  ·exact this (by grind)
theorem arZ{ls:List LnQ}{p q:PtQ}(hp:Off ls p)(hq:Off ls q)(h: ∀l∈aem ls,0<l.value p↔0<l.value q): ∀l∈ls,0<l.value q↔0<l.value p:=fun l hl=>by
 have h1:=h _ (apR hl)
 have h2:=hp l hl
 have h3:=hq l hl
 unfold LnQ.canon at h1
 split at h1
 ·rw[aaP,aaP] at h1
  constructor
  ·intro k
   rcases aaW (l.value p) with e|e|e
   ·exact absurd e h2
   ·exact e
   ·have:=h1.1 (by grind);grind
  ·intro k
   rcases aaW (l.value q) with e|e|e
   ·exact absurd e h3
   ·exact e
   ·have:=h1.2 (by grind);grind
 ·exact h1.symm
def fcs(a b:Tr):List PtQ:=adQ (aem (a.lns++b.lns))
def eqR(a b:Tr):Bool:=(fcs a b).all fun p=>atQ a p==atQ b p
def aGQ(f:Bool→Bool→Bool)(a b:Tr):Bool:=(fcs a b).any fun p=>f (atQ a p) (atQ b p)
def amv(v:Bool)(t:Tr):Bool:=decide ((t.restrict []).isLeaf=true∧(t.restrict []).code=v)
/-! ### lists in order -/
theorem ap3{α:Type}{c:α→α→Int}(hT: ∀u v w,c u v<0→c v w<0→c u w<0)(hA: ∀u v,¬c u v<0→c u v≠0→c v u<0){x:α}: ∀{xs:List α},xs.Pairwise (fun a b=>c a b<0)→(acV c x xs).Pairwise (fun a b=>c a b<0)
 |[],_=>by rw[acV];exact List.pairwise_singleton _ _
 |u::t,h=>by
  obtain⟨h1,h2⟩:=bR.1 h
  rw[acV]
  split
  ·rename_i hu
   refine bR.2 ⟨fun y hy=>?_,ap3 hT hA h2⟩
   rcases alv c hy with rfl|hy
   ·exact hu
   ·exact h1 y hy
  ·rename_i hu
   split
   ·exact h
   ·rename_i hz
    have hx:=hA u x hu hz
    refine bR.2 ⟨fun y hy=>?_,h⟩
    rcases aW.1 hy with rfl|hy
    ·exact hx
    ·exact hT _ _ _ hx (h1 y hy)
theorem amd{α:Type}{c:α→α→Int}(hT: ∀u v w,c u v<0→c v w<0→c u w<0)(hA: ∀u v,¬c u v<0→c u v≠0→c v u<0): ∀{l o:List α},o.Pairwise (fun a b=>c a b<0)→(l.foldl (fun out x=>acV c x out) o).Pairwise (fun a b=>c a b<0)
 |[],o,h=>h
 |x::l,o,h=>amd (l:=l) (o:=acV c x o) hT hA (ap3 hT hA h)
/-! ### directions -/
def aD3(L:List LnQ)(p:PtQ):List PtQ:=L.flatMap fun l=>if Int.sign (l.value p).num=0 then [l.dir,ack l.dir] else []
theorem azA{u v:PtQ}:0<aaD u v↔Bef v u:=by
 unfold aaD Bef
 split
 ·rename_i h;exact⟨fun e=>absurd e (by decide),fun e=>by omega⟩
 ·rename_i h
  split
  ·rename_i h2;exact⟨fun _=> .inl h2,fun _=>by decide⟩
  ·rename_i h2
   have e:v.half=u.half:=by omega
   rw[aaA u v]
   constructor
   ·intro k
    have:Int.sign (u.cross v).num<0:=by omega
    rw[ahw] at this
    exact .inr ⟨e,by grind⟩
   ·rintro (k|⟨_,k⟩)
    ·omega
    ·have:Int.sign (u.cross v).num<0:=(ahw _).2 (by grind)
     omega
theorem Bef.trans{u v w:PtQ}(hu:u.half≠0)(hv:v.half≠0)(hw:w.half≠0)(h:Bef u v)(k:Bef v w):Bef u w:=by
 rcases h with h|⟨h,h'⟩<;>rcases k with k|⟨k,k'⟩
 ·exact .inl (by omega)
 ·exact .inl (by omega)
 ·exact .inl (by omega)
 ·refine .inr ⟨h.trans k,?_⟩
  have id1:u.cross w*v.y=u.cross v*w.y+v.cross w*u.y:=by unfold PtQ.cross;grind
  rcases aaU v with⟨x,q⟩|⟨x,q⟩|⟨x,q⟩
  ·rw[x] at h k
   have qu:=aeT.1 h
   have qw:=aeT.1 k.symm
   rcases q with q|⟨q,q'⟩
   ·rw[←aaj q,id1]
    have wy:0≤w.y:=by grind
    have uy:0≤u.y:=by grind
    have a1:=aai (gK h') wy
    rcases qu with qu|⟨qu,qu'⟩
    ·have:=aab k' qu;grind
    ·rcases qw with qw|⟨qw,qw'⟩
     ·have:=aab h' qw;rw[qu];grind
     ·exfalso
      have hx:v.cross w= -(w.x*v.y):=by unfold PtQ.cross;rw[qw];grind
      have:=aab qw' q
      grind
   ·exfalso
    have hx:u.cross v= -(v.x*u.y):=by unfold PtQ.cross;rw[q];grind
    have:=aai (a:=v.x) (b:=u.y) (gK q') (by grind)
    grind
  ·rw[x] at h k
   have qu:=aeR.1 h
   have qw:=aeR.1 k.symm
   rcases q with q|⟨q,q'⟩
   ·have e1:u.cross w* -v.y=u.cross v* -w.y+v.cross w* -u.y:=by grind
    rw[←aaj (k:= -v.y) (by grind),e1]
    have a1:=aai (a:=u.cross v) (b:= -w.y) (gK h') (by grind)
    rcases qu with qu|⟨qu,qu'⟩
    ·have:=aab (a:=v.cross w) (b:= -u.y) k' (by grind);grind
    ·rcases qw with qw|⟨qw,qw'⟩
     ·have:=aab (a:=u.cross v) (b:= -w.y) h' (by grind);rw[qu];grind
     ·exfalso
      have hx:v.cross w= -(-w.x* -v.y):=by unfold PtQ.cross;rw[qw];grind
      have:=aab (a:= -w.x) (b:= -v.y) (by grind) (by grind)
      grind
   ·exfalso
    have hx:u.cross v= -(-v.x* -u.y):=by unfold PtQ.cross;rw[q];grind
    have:=aai (a:= -v.x) (b:= -u.y) (by grind) (by grind)
    grind
  ·exact absurd x hv
def aEU(S:List PtQ)(x:PtQ):Nat→Nat
 |0=>0
 |k+1=>if 0<aaD (S.getD k ⟨0,0⟩) x then aEU S x k else k+1
def aGd(S:List PtQ)(x:PtQ):List PtQ:=S.take (aEU S x S.length)++x::S.drop (aEU S x S.length)
def aED(ds:List PtQ):List PtQ:=ds.foldl aGd []
structure aGL (L:List LnQ):Prop where
 ok: ∀l∈L,l.ok
 cn: ∀l∈L,ars l=false
 nd:L.Pairwise (fun a b=>a≠b)
theorem amb{l:LnQ}(h:l.ok):ars l.canon=false:=by
 have hn:=h.ne
 unfold LnQ.Ne at hn
 unfold LnQ.canon
 split
 ·rename_i k
  unfold ars at*
  rw[decide_eq_true_eq] at k
  rw[decide_eq_false_iff_not]
  show¬(-l.a<0∨(-l.a=0∧ -l.b<0))
  omega
 ·rename_i k;simpa using k
theorem anb{l:LnQ}(h:l.ok):l.dir.half≠0:=fun e=>by
 have hn:=h.ne
 unfold LnQ.Ne at hn
 rcases aaU l.dir with⟨k,_⟩|⟨k,_⟩|⟨_,k1,k2⟩
 ·rw[k] at e;cases e
 ·rw[k] at e;cases e
 ·unfold LnQ.dir at k1 k2
  simp only at k1 k2
  apply hn
  refine⟨?_,cZ.1 k2⟩
  have:(l.a:Rat)=0:=by grind
  exact cZ.1 this
theorem azx{d:PtQ}(h:d.half≠0):(ack d).half≠0:=by rw[ad8 h];have:=abZ h;omega
theorem afz(d:PtQ):ack (ack d)=d:=by unfold ack;cases d;simp
theorem azP{l m:LnQ}(hl:l.ok)(hm:m.ok)(cl:ars l=false)(cm:ars m=false){p:PtQ}(h1:l.value p=0)(h2:m.value p=0)(hc:l.dir.cross m.dir=0):l=m:=by
 have key: ∀t,l.value (m.at t)=0:=fun t=>by
  obtain⟨s,rfl⟩:=avS hm.ne h2
  rw[afu] at h1⊢
  have hk:m.cutK l=0:=by
   unfold LnQ.cutK
   rw[←adJ];exact hc
  rw[hk] at h1⊢
  grind
 rcases agC hl hm key with e|e
 ·exact e
 ·exfalso
  have hn:=hm.ne
  unfold LnQ.Ne at hn
  rw[e] at cl
  unfold ars at cl cm
  rw[decide_eq_false_iff_not] at cl cm
  have cl: ¬(-m.a<0∨(-m.a=0∧ -m.b<0)):=cl
  omega
theorem aye{ds:List PtQ}(h:ds.Pairwise Bef)(hd:axG ds){i:Nat}(hi:i<ds.length)(hj:(i+1)%ds.length<ds.length):Nxt ds ds[i] ds[(i+1)%ds.length]:=by
 have hp:=List.pairwise_iff_getElem.1 h
 have irr: ∀{u v:PtQ},Bef u v→ ¬Bef v u:=fun{u v} a b=>by
  unfold Bef at a b
  rw[aaA u v] at b
  rcases a with a|⟨a,a'⟩<;>rcases b with b|⟨b,b'⟩
  ·omega
  ·omega
  ·omega
  ·grind
 have ord: ∀{j k:Nat} (a:j<ds.length) (b:k<ds.length),Bef ds[j] ds[k]→j<k:=fun{j k} a b q=>by
  rcases qW j k with e|e|e
  ·exact e
  ·subst e;exact absurd q (irr q)
  ·exact absurd (hp k j b a e) (irr q)
 by_cases hl:i+1<ds.length
 ·have e:(i+1)%ds.length=i+1:=fZ hl
  simp only[e]
  refine .inl ⟨hp i (i+1) hi hl (by omega),fun d hd' ⟨q1,q2⟩=>?_⟩
  obtain⟨j,hj',rfl⟩:=pW hd'
  have:=ord hi hj' q1
  have:=ord hj' hl q2
  omega
 ·have e:(i+1)%ds.length=0:=by rw[show i+1=ds.length by omega];exact Nat.mod_self _
  simp only[e]
  refine .inr ⟨fun d hd' q=>?_,fun d hd' q=>?_⟩
  ·obtain⟨j,hj',rfl⟩:=pW hd'
   have:=ord hi hj' q
   omega
  ·obtain⟨j,hj',rfl⟩:=pW hd'
   have:=ord hj' (by omega) q
   omega
def aB0(v:PtQ):Nat:=Nat.gcd (v.x.num.natAbs*v.y.den) (v.y.num.natAbs*v.x.den)
def aCg(n:Int)(d g:Nat):Int:=if n<0 then-((n.natAbs*d/g:Nat):Int) else((n.natAbs*d/g:Nat):Int)
def aC9(v:PtQ):PtQ:=if v.half=0 then⟨0,0⟩ else⟨(aCg v.x.num v.y.den (aB0 v):Int),(aCg v.y.num v.x.den (aB0 v):Int)⟩
def aGk(ds:List PtQ)(i:Nat):List PtQ:=
 if aaD (ds.getD i ⟨0,0⟩) (ds.getD ((i+1)%ds.length) ⟨0,0⟩)=0∧2<ds.length then []
 else if Int.sign ((ds.getD i ⟨0,0⟩).cross (ds.getD ((i+1)%ds.length) ⟨0,0⟩)).num=0 then [afe (ds.getD i ⟨0,0⟩)]
 else [adB (aC9 (ds.getD i ⟨0,0⟩)) (aC9 (ds.getD ((i+1)%ds.length) ⟨0,0⟩)) 1]
def aEg(ds:List PtQ):List PtQ:=if ds.length=0 then [⟨1,0⟩] else(List.range ds.length).flatMap (aGk ds)
def aCt(L:List LnQ)(p:PtQ):List PtQ:=aEg (aED (aD3 L p))
theorem alF{ds:List PtQ}{i:Nat}(h:i<ds.length):ds.getD i ⟨0,0⟩=ds[i]:=by
 rw[aK,aZ h,kS]
def aGy(t:Tr)(p:PtQ):Bool:=(aCt (aem t.lns) p).any fun v=>(ae8 t p v).1
def aG3(t:Tr)(p:PtQ):Bool:=(aCt (aem t.lns) p).all fun v=>(ae8 t p v).1
/-! ### witnesses -/
theorem ajO{z:Rat}(h:z<0):Int.sign z.num= -1:=by
 have:=(ahw _).2 h
 rcases kU z.num 0 with q|q|q
 ·exact dS q
 ·rw[q] at this;simp at this
 ·rw[eJ q] at this;simp at this
def am0:Tr→PtQ→List LnQ
 | .leaf _,_=>[]
 | .node l x y,p=>(if Int.sign (l.value p).num=0 then [l] else [])++((if 0≤Int.sign (l.value p).num then am0 x p else [])++(if Int.sign (l.value p).num≤0 then am0 y p else []))
theorem acb: ∀{t:Tr} {p:PtQ} {l:LnQ},l∈am0 t p→l∈t.lns∧l.value p=0
 | .leaf _,p,l,h=>by cases h
 | .node m x y,p,l,h=>by
  rw[am0,bK,bK] at h
  rcases h with h|h|h
  ·split at h
   ·rw[aU] at h;subst h
    rename_i k;exact⟨aQ,(abN _).1 k⟩
   ·cases h
  ·split at h
   ·have:=acb h;exact⟨aX _ (bL _ this.1),this.2⟩
   ·cases h
  ·split at h
   ·have:=acb h;exact⟨aX _ (bY _ this.1),this.2⟩
   ·cases h
theorem aBM{t:Tr}{p v:PtQ}(h:Gn t.lns p v):Gn (am0 t p) p v:=fun l hl hz=>h l (acb hl).1 hz
theorem ahb: ∀{t:Tr} {p v w:PtQ},(∀l∈am0 t p,Int.sign (l.nor.dot v).num=Int.sign (l.nor.dot w).num)→ae8 t p v=ae8 t p w
 | .leaf _,_,_,_,_=>rfl
 | .node l x y,p,v,w,h=>by
  have hx:0≤Int.sign (l.value p).num→ae8 x p v=ae8 x p w:=fun k=>ahb fun m hm=>h m (by rw[am0,bK,bK,if_pos k];exact .inr (.inl hm))
  have hy:Int.sign (l.value p).num≤0→ae8 y p v=ae8 y p w:=fun k=>ahb fun m hm=>h m (by rw[am0,bK,bK,if_pos k];exact .inr (.inr hm))
  rw[ae8,ae8,adJ,adJ]
  by_cases k:Int.sign (l.value p).num=0
  ·rw[if_pos k,if_pos k,←h l (by rw[am0,if_pos k];exact aQ),hx (by omega),hy (by omega)]
  ·rw[if_neg k,if_neg k]
   generalize Int.sign (l.value p).num=s at*
   split
   ·exact hx (by decide)
   ·exact hy (by decide)
   ·rfl
theorem apZ{L M:List LnQ}{p v:PtQ}(hM: ∀l∈M,l.ok)(hL:Gn L p v): ∃w,Gn M p w∧ ∀l∈L,l.value p=0→Int.sign (l.nor.dot v).num=Int.sign (l.nor.dot w).num:=by
 have e2: ∀l:LnQ,l.value p=0→l.value (adB p v 1)=l.nor.dot v:=fun l hz=>by rw[abP,hz];grind
 have hp':InD ((L.filter fun l=>decide (l.value p=0)).map fun l=>(⟨if 0<l.value (adB p v 1) then l else l.rev,IvQ.all⟩:FrQ)) (adB p v 1):=fun s hs=>by
  obtain⟨l,hl,rfl⟩:=bU.1 hs
  obtain⟨h1,h2⟩:=iQ.1 hl
  have h3:=of_decide_eq_true h2
  have h0:l.value (adB p v 1)≠0:=by rw[e2 l h3];exact hL l h1 h3
  simp only
  split
  ·assumption
  ·rw[aaP];grind
 obtain⟨q,q1,q2⟩:=aps hp' M hM
 have e: ∀l:LnQ,l.value p=0→l.value q=l.nor.dot ⟨q.x-p.x,q.y-p.y⟩:=fun l hz=>by
  have h1:=abP l p ⟨q.x-p.x,q.y-p.y⟩ 1
  rw[hz] at h1
  have h2:adB p ⟨q.x-p.x,q.y-p.y⟩ 1=q:=by
   unfold adB
   cases q
   simp only[PtQ.mk.injEq]
   constructor<;>grind
  rw[h2] at h1
  rw[h1];grind
 refine⟨⟨q.x-p.x,q.y-p.y⟩,fun m hm hz=>?_,fun l hl hz=>?_⟩
 ·rw[←e m hz];exact q2 m hm
 ·have h1:=q1 _ (bU.2 ⟨l,iQ.2 ⟨hl,decide_eq_true hz⟩,rfl⟩)
  simp only at h1
  rw[e2 l hz] at h1
  rw[←e l hz]
  have h0:=hL l hl hz
  split at h1
  ·rename_i k
   rw[(adr _).2 k,(adr _).2 h1]
  ·rename_i k
   rw[aaP] at h1
   rw[ajO (by grind),ajO (by grind)]
def aqT(t:Tr)(p:PtQ)(b:Bool):Prop:= ∃v,Gn (am0 t p) p v∧(ae8 t p v).1=b
theorem arQ{t:Tr}{p w:PtQ}(h:Gn t.lns p w):aqT t p (ae8 t p w).1:=⟨w,aBM h,rfl⟩
theorem aAr{t:Tr}{p:PtQ}{b:Bool}(h:aqT t p b){M:List LnQ}(hM: ∀l∈M,l.ok): ∃w,Gn M p w∧(ae8 t p w).1=b:=by
 obtain⟨v,h1,h2⟩:=h
 obtain⟨w,k1,k2⟩:=apZ hM h1
 exact⟨w,k1,by rw[←h2,ahb fun l hl=>k2 l hl (acb hl).2]⟩
theorem aEq{M:List LnQ}(hM: ∀l∈M,l.ok)(p:PtQ): ∃w,Gn M p w:=by
 obtain⟨w,h,_⟩:=apZ (L:=[]) (M:=M) (p:=p) (v:=⟨1,0⟩) hM fun l hl=>by cases hl
 exact⟨w,h⟩
theorem apx{t:Tr}(ht:t.all LnQ.ok)(p:PtQ):aqT t p true∨aqT t p false:=by
 obtain⟨w,h⟩:=aEq (ae7 ht) p
 have:=arQ h
 cases hb:(ae8 t p w).1 with
 |true=>rw[hb] at this;exact .inl this
 |false=>rw[hb] at this;exact .inr this
theorem min2{a b:Rat}(ha:0<a)(hb:0<b): ∃d:Rat,0<d∧d≤a∧d≤b:=by
 by_cases k:a≤b
 ·exact⟨a,ha,by grind,k⟩
 ·exact⟨b,hb,by grind,by grind⟩
theorem aBT{m a b:Tr}{f:Bool→Bool→Bool}(hm:m.all LnQ.ok)(ha:a.all LnQ.ok)(hb:b.all LnQ.ok)(hf: ∀q,Off m.lns q→Off a.lns q→Off b.lns q→m.val q=f (a.val q) (b.val q)){p:PtQ}{c:Bool}(h:aqT m p c): ∃x y,aqT a p x∧aqT b p y∧f x y=c:=by
 obtain⟨w,k1,k2⟩:=aAr h (M:=m.lns++(a.lns++b.lns)) fun l hl=>(bK.1 hl).elim (ae7 hm l) fun hl=>(bK.1 hl).elim (ae7 ha l) (ae7 hb l)
 have gm:Gn m.lns p w:=fun l hl=>k1 l (bL _ hl)
 have ga:Gn a.lns p w:=fun l hl=>k1 l (bY _ (bL _ hl))
 have gb:Gn b.lns p w:=fun l hl=>k1 l (bY _ (bY _ hl))
 obtain⟨e1,a1,b1⟩:=agK gm
 obtain⟨e2,a2,b2⟩:=agK ga
 obtain⟨e3,a3,b3⟩:=agK gb
 obtain⟨d1,c1,c2,c3⟩:=min2 a1 a2
 obtain⟨d,c4,c5,c6⟩:=min2 c1 a3
 obtain⟨o1,v1⟩:=b1 d c4 (by grind)
 obtain⟨o2,v2⟩:=b2 d c4 (by grind)
 obtain⟨o3,v3⟩:=b3 d c4 (by grind)
 refine⟨_,_,arQ ga,arQ gb,?_⟩
 rw[v2,v3,←hf _ o1 o2 o3,←k2,v1]
/-! ### sectors -/
def aqG(ds:List PtQ)(i:Nat):PtQ:=
 if 0<Int.sign ((ds.getD i ⟨0,0⟩).cross (ds.getD ((i+1)%ds.length) ⟨0,0⟩)).num then(ds.getD i ⟨0,0⟩).add (ds.getD ((i+1)%ds.length) ⟨0,0⟩) else afe (ds.getD i ⟨0,0⟩)
def afd(ds:List PtQ):List PtQ:=if ds.length=0 then [⟨1,0⟩] else(List.range ds.length).map (aqG ds)
theorem asj(u w:PtQ):u.add w=btw 1 1 u w:=by
 unfold PtQ.add btw
 simp only[PtQ.mk.injEq]
 constructor<;>grind
theorem ao6{x:PtQ}: ∀{S:List PtQ},S≠[]→(∀d∈S,0<d.cross x)→ ∃u∈S,∀d∈S,0≤d.cross u
 |[],h,_=>absurd rfl h
 |[d],_,_=>⟨d,aQ,fun e he=>by rw[aU] at he;subst he;rw[akU];exact iR⟩
 |d0::d1::S,_,h=>by
  obtain⟨u,h1,h2⟩:=ao6 (S:=d1::S) (by simp) fun d hd=>h d (aX _ hd)
  by_cases k:0≤d0.cross u
  ·exact⟨u,aX _ h1,fun d hd=>(aW.1 hd).elim (fun e=>e▸k) (h2 d)⟩
  ·refine⟨d0,aQ,fun d hd=>(aW.1 hd).elim (fun e=>by rw[e,akU];exact iR) fun hd=>?_⟩
   have p0:=h d0 aQ
   have pu:=h u (aX _ h1)
   have pd:=h d (aX _ hd)
   have k1:=h2 d hd
   have k2:0<u.cross d0:=by rw[aaA] at k;grind
   have e:d.cross d0*u.cross x=u.cross d0*d.cross x+d.cross u*d0.cross x:=by unfold PtQ.cross;grind
   have n1:=aab k2 pd
   have n2:=aai k1 (gK p0)
   generalize d.cross d0=A at*
   generalize u.cross x=B at*
   by_cases hA:0≤A
   ·exact hA
   ·have:=aab (a:= -A) (b:=B) (by grind) pu
    grind
theorem awK{ds:List PtQ}(h:ds.Pairwise Bef)(hd:axG ds)(hn:ds≠[]){x:PtQ}(hx: ∀d∈ds,d.cross x≠0): ∃i,i<ds.length∧ ∀d∈ds,Int.sign (d.cross x).num=Int.sign (d.cross (aqG ds i)).num:=by
 have hne:(ds.filter fun d=>decide (0<d.cross x))≠[]:=by
  obtain⟨d,r,rfl⟩:=List.exists_cons_of_ne_nil hn
  intro e
  have h1: ¬0<d.cross x:=fun k=>by
   have:d∈(d::r).filter fun d=>decide (0<d.cross x):=iQ.2 ⟨aQ,decide_eq_true k⟩
   rw[e] at this;cases this
  have h2:=hx d aQ
  have h3:0<(ack d).cross x:=by rw[aaA,abI,←aaA];grind
  have:ack d∈(d::r).filter fun d=>decide (0<d.cross x):=iQ.2 ⟨hd.neg d aQ,decide_eq_true h3⟩
  rw[e] at this;cases this
 obtain⟨u,hu,hl⟩:=ao6 hne fun d hd=>of_decide_eq_true (iQ.1 hd).2
 obtain⟨hu1,hu2⟩:=iQ.1 hu
 have hux:=of_decide_eq_true hu2
 obtain⟨i,hi,rfl⟩:=pW hu1
 have hj:(i+1)%ds.length<ds.length:=dZ _ (by omega)
 have hnx:=aye h hd hi hj
 have mw:=cK hj
 refine⟨i,hi,?_⟩
 have key: ∀d∈ds,0<d.cross x→0<d.cross (aqG ds i):=fun d hdm hdx=>by
  have hdu:0≤d.cross ds[i]:=hl d (iQ.2 ⟨hdm,decide_eq_true hdx⟩)
  unfold aqG
  rw[alF hi,alF hj]
  generalize ds[(i+1)%ds.length]=w at*
  generalize ds[i]=u at*
  have hp:=hnx.pos hd hu1 mw
  have zd:=hd.nz d hdm
  have zu:=hd.nz u hu1
  split
  ·rename_i k
   have hc:=(acC _).1 k
   rw[asj]
   have hg:=hnx.gen hd hu1 mw (by grind) (a:=1) (b:=1) (by decide) (by decide) d hdm
   have e:d.cross (btw 1 1 u w)=d.cross u+d.cross w:=by unfold PtQ.cross btw;grind
   rw[e] at hg⊢
   by_cases hw:0≤d.cross w
   ·grind
   ·exfalso
    -- -d lies agl u and w
    rcases aaW (d.cross u) with q|q|q
    ·-- d runs along u
     have hdd:0<d.dot u:=by
      rcases aaW (d.dot u) with r|r|r
      ·exact absurd r (ap8 zd zu q)
      ·exact r
      ·exfalso
       have q':(ack d).cross u=0:=by unfold PtQ.cross ack at*;grind
       have r':0<(ack d).dot u:=by unfold PtQ.dot ack at*;grind
       obtain⟨g,g1,g2⟩:=ah3 q' r'
       have:d.cross x= -(g*u.cross x):=by
        have h1:(ack d).x=g*u.x:=by rw[g2]
        have h2:(ack d).y=g*u.y:=by rw[g2]
        unfold ack at h1 h2
        simp only at h1 h2
        unfold PtQ.cross;grind
       have:=aab g1 hux
       grind
     obtain⟨g,g1,g2⟩:=ah3 q hdd
     have:d.cross w=g*u.cross w:=by rw[g2];unfold PtQ.cross;grind
     have:=aab g1 hc
     grind
    ·have hb:ack d=btw (-(d.cross w)/u.cross w) (d.cross u/u.cross w) u w:=by
      have hz:u.cross w≠0:=by grind
      have e1: -(d.cross w)/u.cross w*u.cross w= -(d.cross w):=by grind
      have e2:d.cross u/u.cross w*u.cross w=d.cross u:=by grind
      unfold ack btw
      generalize-(d.cross w)/u.cross w=a at*
      generalize d.cross u/u.cross w=b at*
      simp only[PtQ.mk.injEq]
      have f1:(a*u.x+b*w.x+d.x)*u.cross w=0:=by
       have:(a*u.x+b*w.x+d.x)*u.cross w=a*u.cross w*u.x+b*u.cross w*w.x+d.x*u.cross w:=by grind
       rw[this,e1,e2];unfold PtQ.cross;grind
      have f2:(a*u.y+b*w.y+d.y)*u.cross w=0:=by
       have:(a*u.y+b*w.y+d.y)*u.cross w=a*u.cross w*u.y+b*u.cross w*w.y+d.y*u.cross w:=by grind
       rw[this,e1,e2];unfold PtQ.cross;grind
      constructor<;>grind
     refine hnx.none hd hu1 mw (by grind) (a:= -(d.cross w)/u.cross w) (b:=d.cross u/u.cross w) ?_ ?_ (by rw[←hb];exact hd.neg d hdm)
     ·refine(aaj (k:=u.cross w) hc).1 ?_
      have e1: -(d.cross w)/u.cross w*u.cross w= -(d.cross w):=by grind
      rw[e1];grind
     ·refine(aaj (k:=u.cross w) hc).1 ?_
      have e1:d.cross u/u.cross w*u.cross w=d.cross u:=by grind
      rw[e1];exact q
    ·grind
  ·rename_i k
   have hc:u.cross w=0:=by have: ¬0<u.cross w:=fun e=>k ((acC _).2 e);grind
   have hg:=hnx.turn hd hu1 mw hc d hdm
   rw[akV] at hg⊢
   rcases aaW (d.dot u) with r|r|r
   ·exact absurd r hg
   ·exact r
   ·exfalso
    -- all directions run along u
    have hdc:d.cross u=0:=by
     rcases hnx.spec hd hu1 mw with⟨_,h2,_⟩|⟨h1,h2,h3⟩
     ·rw[hc] at h2;exact absurd h2 (by decide)
     ·have zw:=abZ (hd.nz w mw)
      have zu':=abZ zu
      have zd':=abZ zd
      have hwu: ∃g:Rat,0<g∧w=⟨g*(ack u).x,g*(ack u).y⟩:=by
       refine ah3 (d:=ack u) (e:=w) (by rw[abI,aaA,hc];grind) ?_
       rcases aaW (w.dot u) with s|s|s
       ·exact absurd s (ap8 (hd.nz w mw) zu (by rw[aaA,hc];rfl))
       ·exfalso
        obtain⟨g,g1,g2⟩:=ah3 (d:=u) (e:=w) (by rw[aaA,hc];rfl) s
        apply h1
        rw[g2]
        rcases aaU u with⟨x0,s0⟩|⟨x0,s0⟩|⟨x0,s0⟩
        ·rw[x0]
         refine(aeT.2 ?_).symm
         rcases s0 with s0|⟨s0,s1⟩
         ·exact .inl (aab g1 s0)
         ·exact .inr ⟨by show g*u.y=0;rw[s0];grind,aab g1 s1⟩
        ·rw[x0]
         refine(aeR.2 ?_).symm
         rcases s0 with s0|⟨s0,s1⟩
         ·exact .inl (by show g*u.y<0;have:=aab (a:=g) (b:= -u.y) g1 (by grind);grind)
         ·exact .inr ⟨by show g*u.y=0;rw[s0];grind,by show g*u.x<0;have:=aab (a:=g) (b:= -u.x) g1 (by grind);grind⟩
        ·exact absurd x0 zu
       ·unfold PtQ.dot ack at*;grind
      obtain⟨g,g1,g2⟩:=hwu
      have cw: ∀e:PtQ,w.cross e=g* -(u.cross e):=fun e=>by rw[g2];unfold PtQ.cross ack;grind
      by_cases hh:d.half=u.half
      ·have a1:=h2 d hdm hh
       have a2:=h3 _ (hd.neg d hdm) (by rw[ad8 zd];omega)
       rw[cw,abI,aaA d u] at a2
       rcases aaW (d.cross u) with s|s|s
       ·exact s
       ·have:=aab g1 s;grind
       ·grind
      ·have a1:=h2 _ (hd.neg d hdm) (by rw[ad8 zd];omega)
       have a2:=h3 d hdm (by omega)
       rw[cw,aaA d u] at a2
       have e3:(ack d).cross u= -(d.cross u):=by unfold PtQ.cross ack;grind
       rw[e3] at a1
       rcases aaW (d.cross u) with s|s|s
       ·exact s
       ·grind
       ·have:=aab (a:=g) (b:= -(d.cross u)) g1 (by grind);grind
    have q':(ack d).cross u=0:=by unfold PtQ.cross ack at*;grind
    have r':0<(ack d).dot u:=by unfold PtQ.dot ack at*;grind
    obtain⟨g,g1,g2⟩:=ah3 q' r'
    have:d.cross x= -(g*u.cross x):=by
     have h1:(ack d).x=g*u.x:=by rw[g2]
     have h2:(ack d).y=g*u.y:=by rw[g2]
     unfold ack at h1 h2
     simp only at h1 h2
     unfold PtQ.cross;grind
    have:=aab g1 hux
    grind
 intro d hdm
 rcases aaW (d.cross x) with k|k|k
 ·exact absurd k (hx d hdm)
 ·rw[(adr _).2 k,(adr _).2 (key d hdm k)]
 ·have en: ∀y:PtQ,(ack d).cross y= -(d.cross y):=fun y=>by unfold PtQ.cross ack;grind
  have:=key _ (hd.neg d hdm) (by rw[en];grind)
  rw[en] at this
  rw[ajO k,ajO (by grind)]
def aen(v:PtQ):PtQ:=v.scale (rgcd v.x v.y)⁻¹
def abv(t:Tr)(p:PtQ):List PtQ:=(am0 t p).flatMap fun l=>[aen l.dir,ack (aen l.dir)]
def aia(ds:List PtQ):List PtQ:=ahn aaD ds
theorem abQ{t:Tr}{p d:PtQ}:d∈abv t p↔ ∃l∈am0 t p,d=aen l.dir∨d=ack (aen l.dir):=by
 unfold abv
 rw[nU]
 constructor
 ·rintro ⟨l,h1,h2⟩
  refine⟨l,h1,?_⟩
  rcases aW.1 h2 with h|h
  ·exact .inl h
  ·exact .inr (aU.1 h)
 ·rintro ⟨l,h1,rfl|rfl⟩
  ·exact⟨l,h1,aQ⟩
  ·exact⟨l,h1,aX _ aQ⟩
theorem avx{x y:Rat}(h:x≠0∨y≠0):0<rgcd x y:=by
 unfold rgcd
 have hd:0<x.den*y.den:=iT x.den_pos y.den_pos
 have hg:0<Nat.gcd (x.num.natAbs*y.den) (y.num.natAbs*x.den):=by
  rcases h with h|h
  ·exact nW _ (iT (Int.natAbs_pos.2 fun e=>h (lX.1 e)) y.den_pos)
  ·exact mN _ (iT (Int.natAbs_pos.2 fun e=>h (lX.1 e)) x.den_pos)
 generalize Nat.gcd (x.num.natAbs*y.den) (y.num.natAbs*x.den)=g at*
 generalize x.den*y.den=d at*
 rw[←alb]
 have h1:mkRat (g:Int) d=(g:Rat)/(d:Rat):=by rw[nV];rfl
 rw[alb,h1]
 have hg':(0:Rat)<(g:Rat):=by exact_mod_cast hg
 have hd':(0:Rat)<(d:Rat):=by exact_mod_cast hd
 have e:(g:Rat)/(d:Rat)*(d:Rat)=(g:Rat):=by grind
 exact(aaj (k:=(d:Rat)) hd').1 (by rw[e];exact hg')
theorem ay7{v:PtQ}(h:v.half≠0):v.x≠0∨v.y≠0:=by
 rcases aaU v with⟨_,k⟩|⟨_,k⟩|⟨k,_⟩
 ·rcases k with k|⟨_,k⟩
  ·exact .inr (by grind)
  ·exact .inl (by grind)
 ·rcases k with k|⟨_,k⟩
  ·exact .inr (by grind)
  ·exact .inl (by grind)
 ·exact absurd k h
theorem ajl{v:PtQ}(h:v.half≠0): ∃a:Rat,0<a∧aen v=⟨a*v.x,a*v.y⟩:=by
 have hg:=avx (ay7 h)
 refine⟨(rgcd v.x v.y)⁻¹,?_,?_⟩
 ·generalize rgcd v.x v.y=g at*
  have e:g⁻¹*g=1:=by grind
  exact(aaj (k:=g) hg).1 (by rw[e];decide)
 ·unfold aen PtQ.scale
  simp only[PtQ.mk.injEq]
  constructor<;>grind
theorem azZ(v:PtQ):aen (ack v)=ack (aen v):=by
 have e:rgcd (-v.x) (-v.y)=rgcd v.x v.y:=by
  unfold rgcd
  rw[lY,lY,oR,oR,iL,iL]
 unfold aen PtQ.scale ack
 simp only[PtQ.mk.injEq,e]
 constructor<;>grind
theorem al5{v:PtQ}(h:v.half≠0):(aen v).half=v.half:=by
 obtain⟨a,a1,e⟩:=ajl h
 have:=alL (a:=a) (b:=a) (u:=v) (w:=v) a1 a1 rfl h
 rw[←this]
 have h2:aen v=btw (a*(1/2)) (a*(1/2)) v v:=by rw[e];unfold btw;simp only[PtQ.mk.injEq];constructor<;>grind
 have h3:=alL (a:=a*(1/2)) (b:=a*(1/2)) (u:=v) (w:=v) (aab a1 (by grind)) (aab a1 (by grind)) rfl h
 rw[h2,h3,this]
theorem awF{u v:PtQ}:aaD u v=0↔u.half=v.half∧u.cross v=0:=by
 unfold aaD
 split
 ·constructor
  ·intro h;exact absurd h (by decide)
  ·intro h;omega
 ·split
  ·constructor
   ·intro h;exact absurd h (by decide)
   ·intro h;omega
  ·constructor
   ·intro h
    exact⟨by omega,(abN _).1 (by omega)⟩
   ·intro h
    rw[(abN _).2 h.2];rfl
theorem agO{u v w:PtQ}(h:Bef u v)(k:Bef v w):Bef u w:=by
 by_cases hu:u.half=0
 ·by_cases hw:w.half=0
  ·have z: ∀x y:PtQ,x.half=0→x.cross y=0:=fun x y hx=>by
    rcases aaU x with⟨e,_⟩|⟨e,_⟩|⟨_,e1,e2⟩
    ·rw[hx] at e;exact absurd e (by decide)
    ·rw[hx] at e;exact absurd e (by decide)
    ·unfold PtQ.cross;rw[e1,e2];grind
   rcases h with h|⟨h,h'⟩
   ·rcases k with k|⟨k,k'⟩
    ·omega
    ·have hv:v.half≠0:=by omega
     omega
   ·rw[z u v hu] at h';exact absurd h' (by decide)
  ·refine .inl ?_
   have h1:=abZ hw
   omega
 ·have hv:v.half≠0:=by
   intro e
   rcases h with h|⟨h,_⟩
   ·have:=abZ hu;omega
   ·omega
  have hw:w.half≠0:=by
   intro e
   rcases k with k|⟨k,_⟩
   ·have:=abZ hv;omega
   ·omega
  exact Bef.trans hu hv hw h k
section
variable {α:Type} (c:α→α→Int)
theorem as2{x y:α}: ∀{xs:List α},y∈xs→y∈acV c x xs
 |[],h=>by cases h
 |u::t,h=>by
  rw[acV]
  split
  ·rcases aW.1 h with rfl|h
   ·exact aQ
   ·exact aX _ (as2 h)
  ·split
   ·exact h
   ·exact aX _ h
theorem atp{x:α}: ∀{xs:List α},∃e∈acV c x xs,e=x∨c e x=0
 |[]=>⟨x,aQ, .inl rfl⟩
 |u::t=>by
  rw[acV]
  split
  ·obtain⟨e,h1,h2⟩:=atp (x:=x) (xs:=t)
   exact⟨e,aX _ h1,h2⟩
  ·split
   ·exact⟨u,aQ, .inr (by assumption)⟩
   ·exact⟨x,aQ, .inl rfl⟩
theorem amK{y:α}: ∀{l o:List α},y∈o→y∈l.foldl (fun out x=>acV c x out) o
 |[],o,h=>h
 |x::t,o,h=>amK (l:=t) (as2 c h)
theorem alK{d:α}: ∀{l o:List α},d∈l→ ∃e∈l.foldl (fun out x=>acV c x out) o,e=d∨c e d=0
 |[],o,h=>by cases h
 |x::t,o,h=>by
  rcases aW.1 h with rfl|h
  ·obtain⟨e,h1,h2⟩:=atp c (x:=d) (xs:=o)
   exact⟨e,amK c (l:=t) h1,h2⟩
  ·exact alK (l:=t) h
end
theorem apQ(ds:List PtQ):(aia ds).Pairwise Bef:=by
 have:=amd (c:=aaD) (fun u v w h k=>aei.2 (agO (aei.1 h) (aei.1 k))) (fun u v h k=>aei.2 (azA.1 (by omega))) (l:=ds) (o:=[]) List.Pairwise.nil
 exact this.imp fun h=>aei.1 h
theorem axY{l m:LnQ}(hl:l.ok)(hm:m.ok){p:PtQ}(h1:l.value p=0)(h2:m.value p=0){d e:PtQ}(hd:d=aen l.dir∨d=ack (aen l.dir))(he:e=aen m.dir∨e=ack (aen m.dir))(h:aaD d e=0):d=e:=by
 obtain⟨hh,hc⟩:=awF.1 h
 have zl:=anb hl
 have zm:=anb hm
 have zpl:(aen l.dir).half≠0:=by rw[al5 zl];exact zl
 have zpm:(aen m.dir).half≠0:=by rw[al5 zm];exact zm
 have cr:l.dir.cross m.dir=0:=by
  obtain⟨a,a1,e1⟩:=ajl zl
  obtain⟨b,b1,e2⟩:=ajl zm
  have c0:(aen l.dir).cross (aen m.dir)=0:=by
   rcases hd with rfl|rfl<;>rcases he with rfl|rfl
   ·exact hc
   ·rw[abI] at hc;grind
   ·rw[aaA,abI] at hc;rw[aaA];grind
   ·rw[abI,aaA,abI] at hc;rw[aaA];grind
  have e3:(aen l.dir).cross (aen m.dir)=(a*b)*l.dir.cross m.dir:=by rw[e1,e2];unfold PtQ.cross;grind
  have hab:=aab a1 b1
  rw[e3] at c0
  clear e1 e2 e3
  generalize a*b=k at*
  generalize l.dir.cross m.dir=z at*
  rcases aaW z with q|q|q
  ·exact q
  ·have:=aab hab q;grind
  ·have:=aab (a:=k) (b:= -z) hab (by grind);grind
 have dirR: ∀k:LnQ,k.rev.dir=ack k.dir:=fun k=>by
  unfold LnQ.dir LnQ.rev ack
  simp only[PtQ.mk.injEq,oQ]
  try constructor<;>grind
 have cdir: ∀k:LnQ,k.canon.dir=k.dir∨k.canon.dir=ack k.dir:=fun k=>by
  unfold LnQ.canon
  split
  ·exact .inr (dirR k)
  ·exact .inl rfl
 have cval: ∀k:LnQ,k.value p=0→k.canon.value p=0:=fun k hk=>by rcases aiB k p with e|e<;>rw[e,hk]<;>rfl
 have okc: ∀k:LnQ,k.ok→k.canon.ok:=fun k hk=>by unfold LnQ.canon;split;exact hk.rev;exact hk
 have ec:l.canon=m.canon:=azP (okc l hl) (okc m hm) (amb hl) (amb hm) (cval l h1) (cval m h2) (by
  rcases cdir l with e1|e1<;>rcases cdir m with e2|e2<;>rw[e1,e2]
  ·exact cr
  ·rw[abI,cr];rfl
  ·rw[aaA,abI,aaA,cr];rfl
  ·rw[abI,aaA,abI,aaA,cr];rfl)
 have hdir:l.dir=m.dir∨l.dir=ack m.dir:=by
  have e1:=cdir l
  have e2:=cdir m
  rw[ec] at e1
  rcases e1 with e1|e1<;>rcases e2 with e2|e2
  ·exact .inl (e1.symm.trans e2)
  ·exact .inr (e1.symm.trans e2)
  ·right;rw[←e2,e1,afz]
  ·left;rw[←afz l.dir,←e1,e2,afz]
 have hP:aen l.dir=aen m.dir∨aen l.dir=ack (aen m.dir):=by
  rcases hdir with e|e
  ·exact .inl (by rw[e])
  ·exact .inr (by rw[e,azZ])
 have hn:=ad8 zpm
 have h3:=abZ zpm
 have key:d=aen m.dir∨d=ack (aen m.dir):=by
  rcases hd with rfl|rfl<;>rcases hP with e|e
  ·exact .inl e
  ·exact .inr e
  ·exact .inr (by rw[e])
  ·exact .inl (by rw[e,afz])
 rcases key with rfl|rfl<;>rcases he with rfl|rfl
 ·rfl
 ·exfalso;omega
 ·exfalso;omega
 ·rfl
theorem ans{t:Tr}(ht:t.all LnQ.ok)(p:PtQ):(aia (abv t p)).Pairwise Bef∧axG (aia (abv t p))∧ ∀y,y∈aia (abv t p)↔y∈abv t p:=by
 have h2: ∀y,y∈aia (abv t p)→y∈abv t p:=fun y hy=>by
  rcases afy aaD hy with h|h
  ·exact h
  ·cases h
 have h3: ∀y,y∈abv t p→y∈aia (abv t p):=fun y hy=>by
  obtain⟨e,e1,e2⟩:=alK aaD (o:=[]) hy
  rcases e2 with rfl|e2
  ·exact e1
  ·obtain⟨l,k1,k2⟩:=abQ.1 hy
   obtain⟨m,k3,k4⟩:=abQ.1 (h2 e e1)
   obtain⟨a1,a2⟩:=acb k1
   obtain⟨b1,b2⟩:=acb k3
   rw[←axY (ae7 ht _ b1) (ae7 ht _ a1) b2 a2 k4 k2 e2]
   exact e1
 refine⟨apQ _,⟨fun d hd=>?_,fun d hd=>?_⟩,fun y=>⟨h2 y,h3 y⟩⟩
 ·obtain⟨l,k1,k2⟩:=abQ.1 (h2 d hd)
  have z:=anb (ae7 ht _ (acb k1).1)
  have z2:(aen l.dir).half≠0:=by rw[al5 z];exact z
  rcases k2 with rfl|rfl
  ·exact z2
  ·exact azx z2
 ·obtain⟨l,k1,k2⟩:=abQ.1 (h2 d hd)
  refine h3 _ (abQ.2 ⟨l,k1,?_⟩)
  rcases k2 with rfl|rfl
  ·exact .inr rfl
  ·exact .inl (afz _)
theorem atz{t:Tr}(ht:t.all LnQ.ok){p v:PtQ}(hv:v∈afd (aia (abv t p))):Gn (am0 t p) p v:=by
 obtain⟨h1,h2,h3⟩:=ans ht p
 have key:(∀d∈aia (abv t p),d.cross v≠0)→Gn (am0 t p) p v:=fun k l hl hz e=>by
  have z:=anb (ae7 ht _ (acb hl).1)
  obtain⟨a,a1,a2⟩:=ajl z
  refine k _ ((h3 _).2 (abQ.2 ⟨l,hl, .inl rfl⟩)) ?_
  rw[←adJ] at e
  have:(aen l.dir).cross v=a*l.dir.cross v:=by rw[a2];unfold PtQ.cross;grind
  rw[this,e];grind
 generalize aia (abv t p)=ds at*
 unfold afd at hv
 split at hv
 ·rename_i hn
  refine key fun d hd=>?_
  rw[List.length_eq_zero_iff.1 hn] at hd;cases hd
 ·obtain⟨i,hi,rfl⟩:=bU.1 hv
  rw[oT] at hi
  have hj:(i+1)%ds.length<ds.length:=dZ _ (by omega)
  have hx:=aye h1 h2 hi hj
  have mu:=cK hi
  have mw:=cK hj
  have hp:=hx.pos h2 mu mw
  refine key ?_
  unfold aqG
  rw[alF hi,alF hj]
  split
  ·rename_i k
   have hc:=(acC _).1 k
   rw[asj]
   exact hx.gen h2 mu mw (by grind) (by decide) (by decide)
  ·rename_i k
   exact hx.turn h2 mu mw (by have: ¬0<ds[i].cross ds[(i+1)%ds.length]:=fun e=>k ((acC _).2 e);grind)
theorem anq{t:Tr}(ht:t.all LnQ.ok){p x:PtQ}(hx:Gn (am0 t p) p x): ∃v∈afd (aia (abv t p)),(ae8 t p v).1=(ae8 t p x).1:=by
 obtain⟨h1,h2,h3⟩:=ans ht p
 have cr: ∀l∈am0 t p,∃a:Rat,0<a∧ ∀y,(aen l.dir).cross y=a*l.nor.dot y:=fun l hl=>by
  obtain⟨a,a1,a2⟩:=ajl (anb (ae7 ht _ (acb hl).1))
  exact⟨a,a1,fun y=>by rw[a2,←adJ];unfold PtQ.cross;grind⟩
 by_cases hn:aia (abv t p)=[]
 ·refine⟨⟨1,0⟩,by unfold afd;rw[if_pos (by rw[hn];rfl)];exact aQ,?_⟩
  rw[ahb fun l hl=>?_]
  have:=(h3 _).2 (abQ.2 ⟨l,hl, .inl rfl⟩)
  rw[hn] at this;cases this
 ·obtain⟨i,hi,hs⟩:=awK h1 h2 hn (x:=x) fun d hd=>by
   obtain⟨l,k1,k2⟩:=abQ.1 ((h3 d).1 hd)
   obtain⟨a,a1,a2⟩:=cr l k1
   have hz:=hx l k1 (acb k1).2
   have e:(aen l.dir).cross x≠0:=by rw[a2];grind
   rcases k2 with rfl|rfl
   ·exact e
   ·intro q;apply e;unfold PtQ.cross ack at*;grind
  refine⟨aqG (aia (abv t p)) i,?_,?_⟩
  ·unfold afd
   rw[if_neg (by omega)]
   exact bU.2 ⟨i,oT.2 hi,rfl⟩
  ·rw[ahb fun l hl=>?_]
   have:=hs _ ((h3 _).2 (abQ.2 ⟨l,hl, .inl rfl⟩))
   obtain⟨a,a1,a2⟩:=cr l hl
   rw[a2,a2] at this
   have sg: ∀z:Rat,Int.sign (a*z).num=Int.sign z.num:=fun z=>by
    rcases aaW z with k|k|k
    ·subst k;rw[show a*0=0 by grind]
    ·rw[(adr _).2 k,(adr _).2 (aab a1 k)]
    ·rw[ajO k,ajO (by have:=aab (a:=a) (b:= -z) a1 (by grind);grind)]
   rw[sg,sg] at this
   exact this.symm
def inP(t:Tr)(p:PtQ):Bool:=(afd (aia (abv t p))).any fun v=>(ae8 t p v).1
def alP(t:Tr)(p:PtQ):Bool:=(afd (aia (abv t p))).all fun v=>(ae8 t p v).1
def af1(t:Tr)(p:PtQ):Int:=if inP t p&&alP t p then 2 else if inP t p then 1 else 0
theorem atD{t:Tr}(ht:t.all LnQ.ok){p:PtQ}:inP t p=true↔aqT t p true:=by
 unfold inP
 rw[kX]
 constructor
 ·rintro ⟨v,h1,h2⟩;exact⟨v,atz ht h1,h2⟩
 ·rintro ⟨x,h1,h2⟩
  obtain⟨v,k1,k2⟩:=anq ht h1
  exact⟨v,k1,by rw[k2,h2]⟩
theorem axw{t:Tr}(ht:t.all LnQ.ok){p:PtQ}:alP t p=true↔ ¬aqT t p false:=by
 unfold alP
 rw[fU]
 constructor
 ·rintro h ⟨x,h1,h2⟩
  obtain⟨v,k1,k2⟩:=anq ht h1
  have:=h v k1
  rw[k2,h2] at this;cases this
 ·intro h v hv
  cases hb:(ae8 t p v).1 with
  |true=>rfl
  |false=>exact absurd ⟨v,atz ht hv,hb⟩ h
theorem atd{t:Tr}(ht:t.all LnQ.ok){p:PtQ}:af1 t p=2↔ ¬aqT t p false:=by
 unfold af1
 constructor
 ·intro h
  split at h
  ·rename_i k;rw[cJ] at k;exact(axw ht).1 k.2
  ·split at h<;>exact absurd h (by decide)
 ·intro h
  have h1:=(axw ht).2 h
  have h2:=(atD ht).2 ((apx ht p).resolve_right h)
  rw[h1,h2];rfl
theorem aqU{t:Tr}(ht:t.all LnQ.ok){p:PtQ}:af1 t p=0↔ ¬aqT t p true:=by
 unfold af1
 constructor
 ·intro h k
  rw[(atD ht).2 k] at h
  split at h
  ·exact absurd h (by decide)
  ·exact absurd h (by decide)
 ·intro h
  have h1:inP t p=false:=by
   cases e:inP t p with
   |false=>rfl
   |true=>exact absurd ((atD ht).1 e) h
  rw[h1];rfl
theorem aq1(vs:List IvQ):ads 8 (vs.map eV):=fun d hd=>by
 obtain⟨u,_,rfl⟩:=bU.1 hd;exact⟨rfl,rfl⟩
theorem abY(qs:List Rat):ads 3 (qs.map eQ):=fun d hd=>by
 obtain⟨u,_,rfl⟩:=bU.1 hd;exact⟨rfl,rfl⟩
theorem aCA(bs:List Bool):ads 1 (bs.map vB):=fun d hd=>by
 obtain⟨u,_,rfl⟩:=bU.1 hd;exact⟨rfl,rfl⟩
theorem avj{l:List IvQ}{k:Nat}{v:IvQ}{t:Rat}{a b:Int}(h:l[k]? =some v)(ha:a=if v.nl then 1 else aa2 t v.lo)(hb:b=if v.nh then-1 else aa2 t v.hi):
  axy (l.drop k) t=if 0<a∧b<0 then 2 else if(a=0∧b≤0)∨(b=0∧0≤a) then 1 else axy (l.drop (k+1)) t:=by
 obtain⟨hk,rfl⟩:=aL.1 h
 rw[aS hk,axy,ha,hb]
structure IvB (v:IvQ):Prop where
 lo:BQ v.lo 1200
 hi:BQ v.hi 1200
theorem axa{l:List IvQ}{t:Rat}{i:Nat}[ht:BQ t i](hb: ∀v∈l,IvB v)(hn:l.length≤100000)(hi:i≤20000:=by decide):PF GB prog 321 [.sl (l.map eV),eQ t] (vI (axy l t)):=by
 have hm:=aav eV l
 refine fn (fu:=⟨11⟩) func321 J J ntmps321 J J (fun C=>?_)
 refine eqF 10 (.d (vI (l.length:Nat))) rfl (by rw[hm]<;>rfl) ?_
 refine gx rfl<|?_
 refine lp (X:=Nat) (fun k=>[(11, .d (vI (k:Nat)))]) (fun k=>[]) (fun k=>k≤l.length∧axy (l.drop k) t=axy l t) (fun k=>l.length-k) 0 rfl ⟨bZ _,rfl⟩ (fun _=>rfl) (fun k hk=>?_)
 obtain⟨h1,h2⟩:=hk
 refine br J J J (fun hc12=>?_) (fun hc12=>?_)
 ·
  obtain⟨v,hz⟩: ∃s,l[k]? =some s:=⟨_,aZ (by omega)⟩
  have hv:=hb v (aM hz)
  haveI:=hv.lo
  haveI:=hv.hi
  refine ix (fu:=⟨12⟩) _ rfl (aas hz) rfl<|?_
  refine mg (fu:=⟨1⟩) (X:=Int) (fun a=>[(7, .d (vI a))]) (fun a=>[]) (fun a=>a=if v.nl then 1 else aa2 t v.lo) [7] [] rfl ?_ (fun _=>rfl) (fun a ha=>?_)
  ·
   refine gx rfl<|?_
   refine bb J J J (fun hc17=>?_) (fun hc17=>?_)
   ·
    refine cl rfl (q_C (a:=t) (b:=v.lo) (i:=i) (by omega)) rfl<|?_
    exact at_ (aa2 t v.lo) (by rw[if_neg (by simpa using hc17)])
   ·
    exact at_ 1 (by rw[if_pos (by simpa using hc17)])
  ·
   refine mg (X:=Int) (fun b=>[(8, .d (vI b))]) (fun b=>[]) (fun b=>b=if v.nh then-1 else aa2 t v.hi) [8] [] rfl ?_ (fun _=>rfl) (fun b hb'=>?_)
   ·
    refine gx rfl<|?_
    refine bb J J J (fun hc24=>?_) (fun hc24=>?_)
    ·
     refine cl rfl (q_C (a:=t) (b:=v.hi) (i:=i) (by omega)) rfl<|?_
     exact at_ (aa2 t v.hi) (by rw[if_neg (by simpa using hc24)])
    ·
     exact at_ (-1) (by rw[if_pos (by simpa using hc24)])
   ·
    have hst:=avj hz ha hb'
    refine cs 31 J J J (fun hg31=>?_) (fun hg31=>?_)
    ·
     refine br J J J (fun hc34=>?_) (fun hc34=>?_)
     ·
      exact rz rfl (by first|(rw[←h2,dJ];rfl)|(rw[←h2,hst,if_pos (by omega)];rfl)|(rw[←h2,hst,if_neg (by omega),if_pos (by omega)];rfl))
     ·
      refine cs 37 J J J (fun hg37=>?_) (fun hg37=>?_)
      ·
       refine cs 41 J J J (fun hg41=>?_) (fun hg41=>?_)
       ·
        exact rz rfl (by first|(rw[←h2,dJ];rfl)|(rw[←h2,hst,if_pos (by omega)];rfl)|(rw[←h2,hst,if_neg (by omega),if_pos (by omega)];rfl))
       ·
        refine cs 44 J J J (fun hg44=>?_) (fun hg44=>?_)
        ·
         refine br J J J (fun hc48=>?_) (fun hc48=>?_)
         ·
          exact rz rfl (by first|(rw[←h2,dJ];rfl)|(rw[←h2,hst,if_pos (by omega)];rfl)|(rw[←h2,hst,if_neg (by omega),if_pos (by omega)];rfl))
         ·
          exact at_ (k+1) ⟨⟨by omega,by rw[←h2,hst,if_neg (by omega),if_neg (by omega)]⟩,(by omega)⟩
        ·
         exact at_ (k+1) ⟨⟨by omega,by rw[←h2,hst,if_neg (by omega),if_neg (by omega)]⟩,(by omega)⟩
      ·
       refine cs 44 J J J (fun hg44=>?_) (fun hg44=>?_)
       ·
        refine br J J J (fun hc48=>?_) (fun hc48=>?_)
        ·
         exact rz rfl (by first|(rw[←h2,dJ];rfl)|(rw[←h2,hst,if_pos (by omega)];rfl)|(rw[←h2,hst,if_neg (by omega),if_pos (by omega)];rfl))
        ·
         exact at_ (k+1) ⟨⟨by omega,by rw[←h2,hst,if_neg (by omega),if_neg (by omega)]⟩,(by omega)⟩
       ·
        exact at_ (k+1) ⟨⟨by omega,by rw[←h2,hst,if_neg (by omega),if_neg (by omega)]⟩,(by omega)⟩
    ·
     refine cs 37 J J J (fun hg37=>?_) (fun hg37=>?_)
     ·
      refine cs 41 J J J (fun hg41=>?_) (fun hg41=>?_)
      ·
       exact rz rfl (by first|(rw[←h2,dJ];rfl)|(rw[←h2,hst,if_pos (by omega)];rfl)|(rw[←h2,hst,if_neg (by omega),if_pos (by omega)];rfl))
      ·
       refine cs 44 J J J (fun hg44=>?_) (fun hg44=>?_)
       ·
        refine br J J J (fun hc48=>?_) (fun hc48=>?_)
        ·
         exact rz rfl (by first|(rw[←h2,dJ];rfl)|(rw[←h2,hst,if_pos (by omega)];rfl)|(rw[←h2,hst,if_neg (by omega),if_pos (by omega)];rfl))
        ·
         exact at_ (k+1) ⟨⟨by omega,by rw[←h2,hst,if_neg (by omega),if_neg (by omega)]⟩,(by omega)⟩
       ·
        exact at_ (k+1) ⟨⟨by omega,by rw[←h2,hst,if_neg (by omega),if_neg (by omega)]⟩,(by omega)⟩
     ·
      refine cs 44 J J J (fun hg44=>?_) (fun hg44=>?_)
      ·
       refine br J J J (fun hc48=>?_) (fun hc48=>?_)
       ·
        exact rz rfl (by first|(rw[←h2,dJ];rfl)|(rw[←h2,hst,if_pos (by omega)];rfl)|(rw[←h2,hst,if_neg (by omega),if_pos (by omega)];rfl))
       ·
        exact at_ (k+1) ⟨⟨by omega,by rw[←h2,hst,if_neg (by omega),if_neg (by omega)]⟩,(by omega)⟩
      ·
       exact at_ (k+1) ⟨⟨by omega,by rw[←h2,hst,if_neg (by omega),if_neg (by omega)]⟩,(by omega)⟩
 ·
  obtain rfl:k=l.length:=by omega
  exact rz rfl (by first|(rw[←h2,dJ];rfl)|(rw[←h2,hst,if_pos (by omega)];rfl)|(rw[←h2,hst,if_neg (by omega),if_pos (by omega)];rfl))
theorem aDc{l:List IvQ}{t:Rat}{i:Nat}[ht:BQ t i](hb: ∀v∈l,IvB v)(hn:l.length≤100000)(hi:i≤20000:=by decide):PF GB prog 315 [.sl (l.map eV),eQ t] (vB (acS l t)):=by
 refine fn func315 J J ntmps315 J J (fun C=>?_)
 refine cl rfl (axa (l:=l) (t:=t) hb hn hi) rfl<|?_
 exact rz J J
theorem ajr: ∀{l:List Rat} {i:Nat} {a b:Rat},l[i]? =some a→l[i+1]? =some b→adX (l.take (i+2))=adX (l.take (i+1))++[(a+b)/2]
 |[],i,a,b,h,_=>by simp at h
 |[_],i,a,b,h,k=>by simp at k
 |c::d::t,0,a,b,h,k=>by
  simp at h k;subst h;subst k
  simp[adX]
 |c::d::t,i+1,a,b,h,k=>by
  have:=ajr (l:=d::t) (i:=i) (by simpa using h) (by simpa using k)
  rw[show(c::d::t).take (i+1+2)=c::d::t.take (i+1) by simp,show(c::d::t).take (i+1+1)=c::d::t.take i by simp,adX,adX,hJ]
  congr 1
theorem afp: ∀l:List Rat,(adX l).length≤l.length
 |[]=>bQ _
 |[_]=>bZ _
 |a::b::t=>by rw[adX,bV,bV];exact Nat.succ_le_succ (afp (b::t))
theorem anA{a:Rat}{t:List Rat}{z:Rat}(h:(a::t)[t.length]? =some z):aaY (a::t)=(a-1)::(adX (a::t)++[z+1]):=by
 rw[aaY]
 have:(a::t).getLast (by simp)=z:=by
  rw[List.getLast_eq_getElem]
  have:=aL.1 h
  obtain⟨h1,h2⟩:=this
  rw[←h2];congr 1
 rw[this]
theorem awg{cuts:List Rat}(hb: ∀q∈cuts,BQ q 1200)(hn:cuts.length≤100000):PF GB prog 314 [.sl (cuts.map eQ)] (.sl ((aaY cuts).map eQ)):=by
 have hm:=aav eQ cuts
 refine fn (fu:=⟨10⟩) func314 J J ntmps314 J J (fun C=>?_)
 refine eqF 6 (.d (vI (cuts.length:Nat))) rfl (by rw[hm]<;>rfl) ?_
 refine gx rfl<|?_
 refine br J J J (fun hc7=>?_) (fun hc7=>?_)
 ·
  obtain rfl:cuts=[]:=bS (by omega)
  refine rf J J<|?_
  exact rz rfl (by rw[aaY];show DV.sl [_]=DV.sl [_];rw[aol])
 ·
  obtain⟨a,ct,rfl⟩: ∃a t,cuts=a::t:=by cases cuts with|nil=>exact absurd rfl hc7|cons a t=>exact⟨a,t,rfl⟩
  haveI hab:=hb a aQ
  have hcl:ct.length+1≤100000:=hn
  refine ix _ J J J<|cl rfl (alz (n:=1) (by decide) (by decide)) rfl<|cl (fu:=⟨0⟩) rfl (aj8 (a:=a) (b:=((1:Int):Rat))) rfl<|?_
  refine eqF 14 (.d (eQ (a-1))) J J ?_
  refine gx rfl<|ro J J<|?_
  refine lp (fu:=⟨6⟩) (X:=Nat) (fun i=>[(4, .d (vI ((i+1:Nat):Int))),(3, .rw 15)]) (fun i=>[(15,some (.b 56 3 (((a-1)::adX ((a::ct).take (i+1))).map eQ) true))]) (fun i=>i≤ct.length) (fun i=>ct.length-i) 0 rfl (bZ _) (fun _=>rfl) (fun i hk=>?_)
  have hm2:=aav eQ (a::ct)
  have hml:=afp (a::ct.take i)
  rw[bV,cV] at hml
  have hml2:=afp (a::ct)
  rw[bV] at hml2
  refine eqF 18 (.d (vI ((ct.length+1:Nat):Int))) rfl (by rw[hm2]<;>rfl) ?_
  refine gx rfl<|?_
  refine br (fu2:=⟨11⟩) J J J (fun hc19=>?_) (fun hc19=>?_)
  ·
   obtain⟨u,hu⟩: ∃s,(a::ct)[i]? =some s:=⟨_,aZ (by simp;omega)⟩
   obtain⟨w,hw⟩: ∃s,(a::ct)[i+1]? =some s:=⟨_,aZ (by simp;omega)⟩
   haveI:=hb u (aM hu)
   haveI:=hb w (aM hw)
   refine ix _ rfl (by rw[show((((i+1:Nat):Int))-1).toNat=i by omega,dQ,hu];rfl) rfl<|ix _ rfl (by rw[bX,dQ,hw];rfl) rfl<|?_
   refine cl rfl (awn (a:=u) (b:=w)) rfl<|rf J J<|ap (hv:=by simp only[aag];exact⟨by kernel_rfl,by omega⟩) (((a-1)::adX ((a::ct).take (i+1+1))).map eQ) rfl (by rw[ajr hu hw,←hJ,bJ];rfl) (abY [(u+w)/2]) rfl<|?_
   refine rnE 34 15 rfl ?_
   exact at_ (i+1) ⟨(by omega),(by omega)⟩
  ·
   obtain rfl:i=ct.length:=by omega
   obtain⟨z,hz⟩: ∃s,(a::ct)[ct.length]? =some s:=⟨_,aZ (by simp)⟩
   haveI:=hb z (aM hz)
   rw[show(a::ct).take (ct.length+1)=a::ct from fX (l:=a::ct)]
   refine eqF 38 (.d (vI ((ct.length+1:Nat):Int))) rfl (by rw[hm2]<;>rfl) ?_
   refine gx rfl<|ix _ rfl (by rw[show((((ct.length+1:Nat):Int))-1).toNat=ct.length by omega,dQ,hz];rfl) rfl<|cl rfl (alz (n:=1) (by decide) (by decide)) rfl<|?_
   refine cl rfl (ad6 (a:=z) (b:=((1:Int):Rat))) rfl<|rf J J<|ap ((aaY (a::ct)).map eQ) rfl (by rw[anA hz,←hJ,bJ];rfl) (abY [z+1]) rfl<|?_
   refine fzE 45 rfl ?_
   exact rz J J
theorem apk(o:List Rat)(s:IvQ):(aq5 o s).length≤o.length+2:=by
 unfold aq5
 have h:=fun(x:Rat) (l:List Rat)=>akz (x:=x) (l:=l)▸ait aa2 x l
 have h1:=h s.lo o
 have h2:=h s.hi o
 have h3:=h s.hi (ama s.lo o)
 split<;>split<;>omega
def ajo(l:List IvQ)(k:Nat):List Rat:=aeK (l.take k)
theorem akW{l:List IvQ}{k:Nat}{v:IvQ}(h:l[k]? =some v):ajo l (k+1)=aq5 (ajo l k) v:=by
 unfold ajo aeK;rw[iU,h,oK];rfl
theorem agy(l:List IvQ): ∀k,(ajo l k).length≤2*k
 |0=>bQ _
 |k+1=>by
  cases h:l[k]? with
  |none=>
   have:=agy l k
   unfold ajo at*
   rw[iU,h];simp;omega
  |some v=>rw[akW h];have:=agy l k;have:=apk (ajo l k) v;omega
theorem aqd{l:List IvQ}(hb: ∀v∈l,IvB v){k:Nat}: ∀y∈ajo l k,BQ y 1200:=fun y hy=>by
 obtain⟨s,hs,h⟩:=(akI _).2 y hy
 have:=hb s (cS hs)
 rcases h with⟨_,rfl⟩|⟨_,rfl⟩
 ·exact this.lo
 ·exact this.hi
def au0(o:List Rat)(v:IvQ)(j:Nat):List Rat:=if j=0 then o else if j=1 then(if v.nl then o else ama v.lo o) else aq5 o v
def aBU(v:IvQ)(j:Nat):Rat:=if j=0 then v.lo else v.hi
def aux(v:IvQ)(j:Nat):Bool:=if j=0 then v.nl else v.nh
theorem adf{o:List Rat}{v:IvQ}{j:Nat}(hj:j<2):au0 o v (j+1)=if aux v j then au0 o v j else acV aa2 (aBU v j) (au0 o v j):=by
 have:j=0∨j=1:=by omega
 rcases this with rfl|rfl
 ·simp[au0,aux,aBU,akz]
 ·simp[au0,aux,aBU,aq5,akz]
theorem av3{o:List Rat}{v:IvQ}{j:Nat}(hj:j≤2):(au0 o v j).length≤o.length+2:=by
 unfold au0
 have:=apk o v
 have h:=akz (x:=v.lo) (l:=o)▸ait aa2 v.lo o
 split
 ·omega
 ·split
  ·split<;>omega
  ·exact this
theorem aAa{o:List Rat}(ho: ∀q∈o,BQ q 1200){v:IvQ}(hv:IvB v){j:Nat}(hj:j≤2): ∀q∈au0 o v j,BQ q 1200:=fun q hq=>by
 unfold au0 aq5 at hq
 have lo:=hv.lo
 have hi:=hv.hi
 split at hq
 ·exact ho q hq
 ·split at hq
  ·split at hq
   ·exact ho q hq
   ·rcases acN.1 hq with rfl|hq
    ·exact lo
    ·exact ho q hq
  ·split at hq
   ·split at hq
    ·exact ho q hq
    ·rcases acN.1 hq with rfl|hq
     ·exact lo
     ·exact ho q hq
   ·rcases acN.1 hq with rfl|hq
    ·exact hi
    ·split at hq
     ·exact ho q hq
     ·rcases acN.1 hq with rfl|hq
      ·exact lo
      ·exact ho q hq
theorem aCj{l:List IvQ}(hb: ∀v∈l,IvB v)(hn:l.length≤10000):PF GB prog 313 [.sl (l.map eV)] (.sl ((aeK l).map eQ)):=by
 have hm:=aav eV l
 refine fn (fu:=⟨15⟩) func313 J J ntmps313 J J (fun C=>?_)
 refine eqF 10 (.d (vI (l.length:Nat))) rfl (by rw[hm]<;>rfl) ?_
 refine gx rfl<|?_
 refine nlC 3 rfl ?_
 refine lp (X:=List Rat×Nat) (fun⟨o,k⟩=>[(11, .d (vI (k:Nat))),(3, .d (.sl (o.map eQ)))]) (fun⟨o,k⟩=>[]) (fun⟨o,k⟩=>o=ajo l k∧k≤l.length) (fun⟨o,k⟩=>l.length-k) ([],0) rfl ⟨rfl,bZ _⟩ (fun _=>rfl) (fun⟨o,k⟩ hk=>?_)
 dsimp only at hk⊢
 obtain⟨h1,h2⟩:=hk
 refine br J J J (fun hc12=>?_) (fun hc12=>?_)
 ·
  obtain⟨v,hz⟩: ∃s,l[k]? =some s:=⟨_,aZ (by omega)⟩
  have hv:=hb v (aM hz)
  haveI:=hv.lo
  haveI:=hv.hi
  have hob:=aqd hb (k:=k)
  have hol:=agy l k
  rw[←h1] at hob hol
  refine ix _ rfl (aas hz) rfl<|rf J J<|?_
  refine lp (X:=List Rat×Nat) (fun⟨xs,j⟩=>[(21, .d (vI (j:Nat))),(3, .d (.sl (xs.map eQ)))]) (fun⟨xs,j⟩=>[]) (fun⟨xs,j⟩=>xs=au0 o v j∧j≤2) (fun⟨xs,j⟩=>2-j) (o,0) rfl ⟨rfl,by omega⟩ (fun _=>rfl) (fun⟨xs,j⟩ hk=>?_)
  dsimp only at hk⊢
  obtain⟨g1,g2⟩:=hk
  refine br J J J (fun hc22=>?_) (fun hc22=>?_)
  ·
   have hj2:j<2:=by have:=hc22;simp only[bV,dV] at this;omega
   obtain⟨m,hm2⟩: ∃m,m=aBU v j:=⟨_,rfl⟩
   haveI hmb:BQ m 1200:=by rw[hm2];unfold aBU;split;exact hv.lo;exact hv.hi
   have hxl:=aav eQ xs
   have hxn:xs.length≤2*k+2:=by rw[g1];have:=av3 (o:=o) (v:=v) (j:=j) g2;omega
   have hxb: ∀q∈xs,BQ q 1200:=by rw[g1];exact aAa hob hv g2
   refine ix (fu:=⟨10⟩) _ rfl (by rw[bX];exact(show([v.lo,v.hi].map eQ)[j]? =some (eQ m) by rw[hm2];have:j=0∨j=1:=(by omega);rcases this with rfl|rfl<;>rfl)) rfl<|?_
   rcases(show j=0∨j=1 by omega) with rfl|rfl
   ·
    refine knT J J J<|?_
    refine csb (fu2:=⟨1⟩) 32 J J J (fun hg32=>?_) (fun hg32=>?_)
    ·
     exact at_ (xs,0+1) (by dsimp only;exact⟨⟨by rw[adf (by decide),if_pos (by simpa[aux] using hg32),←g1],by omega⟩,(by omega)⟩)
    ·
     refine knF (fu:=⟨16⟩) J J J<|?_
     refine mg (fu:=⟨5⟩) (X:=Nat) (fun n=>[(8, .d (vI (n:Nat)))]) (fun n=>[]) (fun n=>aj4 aa2 m xs=n) [8] [] rfl ?_ (fun _=>rfl) (fun n hnx=>?_)
     ·
      refine gx rfl<|?_
      refine lp (fu:=⟨6⟩) (X:=Nat) (fun n=>[(8, .d (vI (n:Nat)))]) (fun n=>[]) (fun n=>n≤xs.length∧ ∀j (h:j<xs.length),j<n→aa2 xs[j] m<0) (fun n=>xs.length-n) 0 rfl ⟨bZ _,fun j _ hj=>absurd hj (by omega)⟩ (fun _=>rfl) (fun n hk=>?_)
      obtain⟨n1,n2⟩:=hk
      refine csS (v2:=fun hg43=>by simp only[aag];kernel_rfl) J J J J (fun hg43=>?_) (fun hg43=>?_)
      ·
       refine ix _ rfl (abC (by omega)) rfl<|cl rfl (q_C (a:=xs[n]'(by omega)) (b:=m) (ha:=hxb _ (cK (by omega))) (hb:=hmb)) rfl<|?_
       refine br J J J (fun hc52=>?_) (fun hc52=>?_)
       ·
        exact at_ (n+1) ⟨⟨by omega,fun j h hj=>by by_cases q:j=n;(subst q;exact hc52);exact n2 j h (by omega)⟩,(by omega)⟩
       ·
        exact at_ n (adm aa2 n1 n2 (fun h=>hc52))
      ·
       exact at_ n (adm aa2 n1 n2 (fun h=>absurd h (by omega)))
     ·
      have hnl:n≤xs.length:=by rw[←hnx];exact ahL _ _ _
      refine csS (v1:=fun hg58=>by simp only[aag];kernel_rfl) J J J J (fun hg58=>?_) (fun hg58=>?_)
      ·
       have hnew: ∀h:n<xs.length,aa2 xs[n] m≠0:=fun h=>absurd h (by omega)
       obtain⟨ys,hys⟩: ∃ys,ys=xs.take n++m::xs.drop n:=⟨_,rfl⟩
       have hin:acV aa2 m xs=ys:=by rw[hys];exact acf aa2 hnx hnew
       have hyl:ys.length≤xs.length+1:=by rw[hys];simp;omega
       refine s3 n _ J J J J (abY _) (by rw[hxl];exact hnl) rfl<|ro J J<|sc' n xs.length _ J J (by rw[hxl]) rfl (abY _) hnl (by omega) rfl<|?_
       refine ap _ J J (slD abY _ _ _) rfl<|apf (hv:=by simp only[aag];exact⟨by kernel_rfl,by omega⟩) (ho:=fun _=>⟨slT abY _ _,by simp⟩) (ys.map eQ) rfl (by rw[hys,bJ,bM,fS,gL,aT (l:=xs.map eQ) (i:=xs.length) (by simp)];rfl) (slI abY _ _ _ _) rfl<|?_
       exact at_ (ys,0+1) (by dsimp only;exact⟨⟨by rw[adf (by decide),if_neg (by simpa[aux] using hg32),←g1,←hm2,hin],by omega⟩,(by omega)⟩)
      ·
       refine ix _ rfl (abC (by omega)) rfl<|cl rfl (q_C (a:=xs[n]'(by omega)) (b:=m) (ha:=hxb _ (cK (by omega))) (hb:=hmb)) rfl<|?_
       refine br (fu2:=⟨7⟩) J J J (fun hc67=>?_) (fun hc67=>?_)
       ·
        have hnew: ∀h:n<xs.length,aa2 xs[n] m≠0:=fun h=>hc67
        obtain⟨ys,hys⟩: ∃ys,ys=xs.take n++m::xs.drop n:=⟨_,rfl⟩
        have hin:acV aa2 m xs=ys:=by rw[hys];exact acf aa2 hnx hnew
        have hyl:ys.length≤xs.length+1:=by rw[hys];simp;omega
        refine s3 n _ J J J J (abY _) (by rw[hxl];exact hnl) rfl<|ro J J<|sc' n xs.length _ J J (by rw[hxl]) rfl (abY _) hnl (by omega) rfl<|?_
        refine ap _ J J (slD abY _ _ _) rfl<|apf (hv:=by simp only[aag];exact⟨by kernel_rfl,by omega⟩) (ho:=fun _=>⟨slT abY _ _,by simp⟩) (ys.map eQ) rfl (by rw[hys,bJ,bM,fS,gL,aT (l:=xs.map eQ) (i:=xs.length) (by simp)];rfl) (slI abY _ _ _ _) rfl<|?_
        exact at_ (ys,0+1) (by dsimp only;exact⟨⟨by rw[adf (by decide),if_neg (by simpa[aux] using hg32),←g1,←hm2,hin],by omega⟩,(by omega)⟩)
       ·
        have hin:acV aa2 m xs=xs:=aeU aa2 hnx (by omega) (Decidable.not_not.1 hc67)
        exact at_ (xs,0+1) (by dsimp only;exact⟨⟨by rw[adf (by decide),if_neg (by simpa[aux] using hg32),←g1,←hm2,hin],by omega⟩,(by omega)⟩)
   ·
    refine knF (fu:=⟨6⟩) J J J<|knT J J J<|?_
    refine bb (fu2:=⟨8⟩) J J J (fun hc39=>?_) (fun hc39=>?_)
    ·
     exact at_ (xs,1+1) (by dsimp only;exact⟨⟨by rw[adf (by decide),if_pos (by simpa[aux] using hc39),←g1],by omega⟩,(by omega)⟩)
    ·
     refine mg (fu:=⟨5⟩) (X:=Nat) (fun n=>[(8, .d (vI (n:Nat)))]) (fun n=>[]) (fun n=>aj4 aa2 m xs=n) [8] [] rfl ?_ (fun _=>rfl) (fun n hnx=>?_)
     ·
      refine gx rfl<|?_
      refine lp (fu:=⟨6⟩) (X:=Nat) (fun n=>[(8, .d (vI (n:Nat)))]) (fun n=>[]) (fun n=>n≤xs.length∧ ∀j (h:j<xs.length),j<n→aa2 xs[j] m<0) (fun n=>xs.length-n) 0 rfl ⟨bZ _,fun j _ hj=>absurd hj (by omega)⟩ (fun _=>rfl) (fun n hk=>?_)
      obtain⟨n1,n2⟩:=hk
      refine csS (v2:=fun hg43=>by simp only[aag];kernel_rfl) J J J J (fun hg43=>?_) (fun hg43=>?_)
      ·
       refine ix _ rfl (abC (by omega)) rfl<|cl rfl (q_C (a:=xs[n]'(by omega)) (b:=m) (ha:=hxb _ (cK (by omega))) (hb:=hmb)) rfl<|?_
       refine br J J J (fun hc52=>?_) (fun hc52=>?_)
       ·
        exact at_ (n+1) ⟨⟨by omega,fun j h hj=>by by_cases q:j=n;(subst q;exact hc52);exact n2 j h (by omega)⟩,(by omega)⟩
       ·
        exact at_ n (adm aa2 n1 n2 (fun h=>hc52))
      ·
       exact at_ n (adm aa2 n1 n2 (fun h=>absurd h (by omega)))
     ·
      have hnl:n≤xs.length:=by rw[←hnx];exact ahL _ _ _
      refine csS (v1:=fun hg58=>by simp only[aag];kernel_rfl) J J J J (fun hg58=>?_) (fun hg58=>?_)
      ·
       have hnew: ∀h:n<xs.length,aa2 xs[n] m≠0:=fun h=>absurd h (by omega)
       obtain⟨ys,hys⟩: ∃ys,ys=xs.take n++m::xs.drop n:=⟨_,rfl⟩
       have hin:acV aa2 m xs=ys:=by rw[hys];exact acf aa2 hnx hnew
       have hyl:ys.length≤xs.length+1:=by rw[hys];simp;omega
       refine s3 n _ J J J J (abY _) (by rw[hxl];exact hnl) rfl<|ro J J<|sc' n xs.length _ J J (by rw[hxl]) rfl (abY _) hnl (by omega) rfl<|?_
       refine ap _ J J (slD abY _ _ _) rfl<|apf (hv:=by simp only[aag];exact⟨by kernel_rfl,by omega⟩) (ho:=fun _=>⟨slT abY _ _,by simp⟩) (ys.map eQ) rfl (by rw[hys,bJ,bM,fS,gL,aT (l:=xs.map eQ) (i:=xs.length) (by simp)];rfl) (slI abY _ _ _ _) rfl<|?_
       exact at_ (ys,1+1) (by dsimp only;exact⟨⟨by rw[adf (by decide),if_neg (by simpa[aux] using hc39),←g1,←hm2,hin],by omega⟩,(by omega)⟩)
      ·
       refine ix _ rfl (abC (by omega)) rfl<|cl rfl (q_C (a:=xs[n]'(by omega)) (b:=m) (ha:=hxb _ (cK (by omega))) (hb:=hmb)) rfl<|?_
       refine br J J J (fun hc67=>?_) (fun hc67=>?_)
       ·
        have hnew: ∀h:n<xs.length,aa2 xs[n] m≠0:=fun h=>hc67
        obtain⟨ys,hys⟩: ∃ys,ys=xs.take n++m::xs.drop n:=⟨_,rfl⟩
        have hin:acV aa2 m xs=ys:=by rw[hys];exact acf aa2 hnx hnew
        have hyl:ys.length≤xs.length+1:=by rw[hys];simp;omega
        refine s3 n _ J J J J (abY _) (by rw[hxl];exact hnl) rfl<|ro J J<|sc' n xs.length _ J J (by rw[hxl]) rfl (abY _) hnl (by omega) rfl<|?_
        refine ap _ J J (slD abY _ _ _) rfl<|apf (hv:=by simp only[aag];exact⟨by kernel_rfl,by omega⟩) (ho:=fun _=>⟨slT abY _ _,by simp⟩) (ys.map eQ) rfl (by rw[hys,bJ,bM,fS,gL,aT (l:=xs.map eQ) (i:=xs.length) (by simp)];rfl) (slI abY _ _ _ _) rfl<|?_
        exact at_ (ys,1+1) (by dsimp only;exact⟨⟨by rw[adf (by decide),if_neg (by simpa[aux] using hc39),←g1,←hm2,hin],by omega⟩,(by omega)⟩)
       ·
        have hin:acV aa2 m xs=xs:=aeU aa2 hnx (by omega) (Decidable.not_not.1 hc67)
        exact at_ (xs,1+1) (by dsimp only;exact⟨⟨by rw[adf (by decide),if_neg (by simpa[aux] using hc39),←g1,←hm2,hin],by omega⟩,(by omega)⟩)
  ·
   have hj2: ¬j<2:=by have:=hc22;simp only[bV,dV] at this;omega
   exact at_ (xs,k+1) (by dsimp only;exact⟨⟨by rw[akW hz,←h1,g1,show j=2 by omega];rfl,by omega⟩,(by omega)⟩)
 ·
  have hfin:aeK l=o:=by rw[h1,show k=l.length by omega];unfold ajo;rw[fX]
  exact rz rfl (by rw[hfin];rfl)
theorem awz(t:Rat):eV ⟨t,0,false,true⟩= .ag [.v (.bool (decide (t.num<0))),dN t.num.natAbs,dD t.den, .v (.bool false), .sl [], .sl [], .v (.bool false), .v (.bool true)]:=by
 unfold eV dD
 simp only[show(0:Rat).num=0 from rfl,show(0:Rat).den=1 from rfl,jN,adq];rfl
theorem avY(t:Rat):eV ⟨0,t,true,false⟩= .ag [.v (.bool false), .sl [], .sl [], .v (.bool (decide (t.num<0))),dN t.num.natAbs,dD t.den, .v (.bool true), .v (.bool false)]:=by
 unfold eV dD
 simp only[show(0:Rat).num=0 from rfl,show(0:Rat).den=1 from rfl,jN,adq];rfl
def auJ(l m:LnQ)(side:Int):DV:= .tp [.sl ((aeg l m side).map eV),vB (onB l m)]
theorem amZ{l m:LnQ}(h:crossI l m≠0):onB l m=false:=by unfold onB;rw[decide_eq_false];exact fun e=>h e.1
theorem asC{l m:LnQ}(h:crossI l m=0):onB l m=decide ((m.value l.base).num.sign=0):=by unfold onB;simp[h]
theorem arA{l m:LnQ}{side:Int}[hl:LB l][hm:LB m](hlo:l.ok)(hmo:m.ok)(hs:side=1∨side= -1):PF GB prog 298 [eL l,eL m,vI side] (auJ l m side):=by
 refine fn func298 J J ntmps298 J J (fun C=>?_)
 refine cl rfl (asv (l:=l) (m:=m)) rfl<|?_
 refine bb J J J (fun hc19=>?_) (fun hc19=>?_)
 ·
  have hc:crossI l m=0:=by simpa using hc19
  refine cl rfl (apn hlo.ne) rfl<|cl rfl (am2 (l:=m) (p:=l.base)) rfl<|?_
  refine br J J J (fun hc26=>?_) (fun hc26=>?_)
  ·
   refine cl rfl axx rfl<|rf J J<|?_
   exact rz rfl (by unfold auJ aeg;rw[if_pos hc,if_pos hc26,asC hc];rfl)
  ·
   exact rz rfl (by unfold auJ aeg;rw[if_pos hc,if_neg hc26,asC hc];rfl)
 ·
  have hc:crossI l m≠0:=by simpa using hc19
  haveI hpb:=ail (l:=l) (m:=m) hlo.ne hc
  obtain⟨t,ht⟩: ∃t,t=acr l (ach l m):=⟨_,rfl⟩
  refine cl (fu:=⟨0⟩) rfl (alu (l:=l) (p:=ach l m) hlo.ne) rfl<|?_
  refine eqF 35 (.d (eQ t)) rfl (by rw[ht]) ?_
  rw[←ht] at hpb
  refine gx rfl<|cl rfl (alz (n:=1) (by decide) (by decide)) rfl<|cl rfl (ad6 (a:=t) (b:=((1:Int):Rat))) rfl<|cl rfl (aFm (l:=l) (t:=t+((1:Int):Rat)) hlo.ne) rfl<|?_
  refine cl rfl (am2 (l:=m) (p:=l.at (t+((1:Int):Rat)))) rfl<|?_
  refine br J J J (fun hc44=>?_) (fun hc44=>?_)
  ·
   refine rf J J<|?_
   exact rz rfl (by unfold auJ aeg;rw[if_neg hc,←ht,if_pos (show(m.value (l.at (t+1))).num.sign=side from hc44),amZ hc,bM,awz];rfl)
  ·
   refine rf J J<|?_
   exact rz rfl (by unfold auJ aeg;rw[if_neg hc,←ht,if_neg (show¬(m.value (l.at (t+1))).num.sign=side from hc44),amZ hc,bM,avY];rfl)
def eFF(f:FrQ):DV:= .ag [.v (.bool (decide (f.l.a<0))),dN f.l.a.natAbs, .v (.bool (decide (f.l.b<0))),dN f.l.b.natAbs, .v (.bool (decide (f.l.c<0))),dN f.l.c.natAbs, .v (.bool (decide (f.v.lo.num<0))),dN f.v.lo.num.natAbs,dD f.v.lo.den, .v (.bool (decide (f.v.hi.num<0))),dN f.v.hi.num.natAbs,dD f.v.hi.den, .v (.bool f.v.nl), .v (.bool f.v.nh)]
theorem akt(fs:List FrQ):ads 14 (fs.map eFF):=fun d hd=>by
 obtain⟨u,_,rfl⟩:=bU.1 hd;exact⟨rfl,rfl⟩
theorem bpZ{p:ZP}(h:ZP.le 100 p):BPt p.q 12:=by
 haveI:BI p.1 11:=biC (by have:=h.1;omega) (by decide)
 haveI:BI p.2 11:=biC (by have:=h.2;omega) (by decide)
 exact(inferInstance:BPt (iP p.1 p.2) 12)
theorem asf{v w:ZP}(hv:ZP.le 100 v)(hw:ZP.le 100 w)(h:v≠w):PF GB prog 262 [eP v.q,eP w.q] (.tp [eFF (avb v w),vB true]):=by
 have hne: ¬(w.1=v.1∧w.2=v.2):=fun e=>h (Prod.ext e.1.symm e.2.symm)
 obtain⟨hlb,hlo⟩:=ayA (m:=v.1) (n:=v.2) (p:=w.1) (q:=w.2) (by have:=hv.1;omega) (by have:=hv.2;omega) (by have:=hw.1;omega) (by have:=hw.2;omega) hne
 haveI:=hlb
 haveI:=bpZ hv
 haveI:=bpZ hw
 refine fn func262 J J ntmps262 J J (fun C=>?_)
 refine cl (fu:=⟨3⟩) rfl (amj (m:=v.1) (n:=v.2) (m':=w.1) (n':=w.2) (by have:=hv.1;omega) (by have:=hv.2;omega) (by have:=hw.1;omega) (by have:=hw.2;omega) (fun e=>hne ⟨e.1.symm,e.2.symm⟩)) rfl<|?_
 refine kbT 13 rfl ?_
 refine gx rfl<|cl rfl (alu (l:=arr v.1 v.2 w.1 w.2) (p:=v.q) hlo.ne) rfl<|cl rfl (alu (l:=arr v.1 v.2 w.1 w.2) (p:=w.q) hlo.ne) rfl<|?_
 exact rz J J
end Go.Sx
end
