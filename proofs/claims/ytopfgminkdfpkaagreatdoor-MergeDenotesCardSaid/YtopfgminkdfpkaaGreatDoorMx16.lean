/- Part 16 of a proof. -/
import Derived.Test.YtopfgminkdfpkaaGreatDoorMx15
set_option linter.unusedSimpArgs false
set_option maxHeartbeats 4000000
set_option maxRecDepth 100000
set_option linter.unusedVariables false
section
namespace Go.Sx
open Go Go.Proofs Tryz
variable {GB:Gh}
def ah6{α β:Type}(c:β→β→Int)(g:α→β)(l:List α)(k:Nat):List β:=ahF c ((l.take k).map g)
section
variable {α β:Type} {c:β→β→Int} {g:α→β} {l:List α} {k:Nat}
theorem abl{x:α}(h:l[k]? =some x):ah6 c g l (k+1)=ac0 c (g x) (ah6 c g l k):=by
 unfold ah6 ahF
 rw[iU,h,Option.toList_some,bK,oJ];rfl
theorem agS(h:k=l.length):ah6 c g l k=ahF c (l.map g):=by unfold ah6;rw[h,fZ]
theorem ahj:(ah6 c g l k).length≤k:=by
 have:=agw c ((l.take k).map g) []
 have h2:((l.take k).map g).length≤k:=by rw[aJ,cK];omega
 rw[dV] at this
 unfold ah6 ahF
 omega
theorem ag7{y:β}(h:y∈ah6 c g l k): ∃x∈l,y=g x:=by
 rcases afz c h with h|h
 ·obtain⟨x,hx,rfl⟩:=bR.1 h
  exact⟨x,cM hx,rfl⟩
 ·cases h
end
theorem slT{α:Type}{f:α→DV}{s:Nat}(ok: ∀l:List α,adB s (l.map f))(xs:List α)(n:Nat):adB s ((xs.map f).take n):=fun d hd=>ok xs d (cM hd)
theorem slD{α:Type}{f:α→DV}{s:Nat}(ok: ∀l:List α,adB s (l.map f))(xs:List α)(n m:Nat):adB s (((xs.map f).take n).drop m):=fun d hd=>ok xs d (cM (fN hd))
theorem slI{α:Type}{f:α→DV}{s:Nat}(ok: ∀l:List α,adB s (l.map f))(xs:List α)(n m:Nat)(x:α):adB s ([f x]++((xs.map f).take n).drop m):=fun d hd=>by
 rcases bV.1 hd with h|h
 ·exact ok [x] d h
 ·exact slD ok xs n m d h
theorem abC{α:Type}{f:α→DV}{l:List α}{i:Nat}(h:i<l.length):(l.map f)[(i:Int).toNat]? =some (f l[i]):=by
 rw[aL,dZ,aZ h];rfl
theorem awp{ps:List PtQ}(hb: ∀p∈ps,BPt p 1200)(hn:ps.length≤100000):PF GB prog 219 [.sl (ps.map eP)] (.sl ((ahF aha ps).map eP)):=by
 have hm':=aau eP ps
 refine fn (fu:=⟨15⟩) func219 J J ntmps219 J J (fun C=>?_)
 refine eqF 8 (.d (vI (ps.length:Nat))) rfl (by rw[hm'];rfl) ?_
 refine gx rfl<|?_
 refine nlC 3 rfl ?_
 refine lp (X:=List PtQ×Nat) (fun⟨xs,k⟩=>[(9, .d (vI (k:Nat))),(8, .d (vI (ps.length:Nat))),(7, .d (.sl (ps.map eP))),(0, .d (.sl (ps.map eP))),(3, .d (.sl (xs.map eP)))]) (fun⟨xs,k⟩=>[]) (fun⟨xs,k⟩=>xs=ah6 aha id ps k∧k≤ps.length) (fun⟨xs,k⟩=>ps.length-k) ⟨[],0⟩ rfl ⟨rfl,bX _⟩ (fun _=>rfl) (fun⟨xs,k⟩ hk=>?_)
 try dsimp only at hk⊢
 obtain⟨hS,hkl⟩:=hk
 refine br J J J (fun hc10=>?_) (fun hc10=>?_)
 ·
  have hk:k<ps.length:=by omega
  obtain⟨m,hm⟩: ∃m,m=ps[k]:=⟨_,rfl⟩
  have hz:ps[k]? =some m:=by rw[hm];exact aZ hk
  haveI hmb:BPt m 1200:=hm▸hb _ (cX hk)
  have hxl:=aau eP xs
  have hxn:xs.length≤k:=by rw[hS];exact ahj
  have hxb: ∀q∈xs,BPt q 1200:=fun q hq=>by rw[hS] at hq;obtain⟨z,hz,he⟩:=ag7 hq;rw[he];exact hb z hz
  refine ix (fu:=⟨1⟩) _ rfl (abC hk) rfl<|?_
  refine eqF 12 (.d (eP m)) rfl (by rw[hm];rfl) ?_
  refine gx (fu:=⟨10⟩) rfl<|?_
  refine mg (fu:=⟨5⟩) (X:=Unit) (fun _=>[(9, .d (vI (k:Nat))),(8, .d (vI (ps.length:Nat))),(7, .d (.sl (ps.map eP))),(0, .d (.sl (ps.map eP))),(3, .d (.sl (xs.map eP))),(5, .ov 5 0),(6, .d (vI (aj2 aha m xs:Nat)))]) (fun _=>[(5,some (.o 58 [.d ((.v (.bool (decide (m.x.num<0))))), .d (dN m.x.num.natAbs), .d (dD m.x.den), .d ((.v (.bool (decide (m.y.num<0))))), .d (dN m.y.num.natAbs), .d (dD m.y.den)] true))]) (fun _=>True) [9,8,7,0,3,5,6] [5] rfl ?_ (fun _=>rfl) (fun _ _=>?_)
  ·
   refine gx rfl<|?_
   refine lp (fu:=⟨6⟩) (X:=Nat) (fun n=>[(9, .d (vI (k:Nat))),(8, .d (vI (ps.length:Nat))),(7, .d (.sl (ps.map eP))),(0, .d (.sl (ps.map eP))),(3, .d (.sl (xs.map eP))),(5, .ov 5 0),(6, .d (vI (n:Nat)))]) (fun n=>[(5,some (.o 58 [.d ((.v (.bool (decide (m.x.num<0))))), .d (dN m.x.num.natAbs), .d (dD m.x.den), .d ((.v (.bool (decide (m.y.num<0))))), .d (dN m.y.num.natAbs), .d (dD m.y.den)] true))]) (fun n=>n≤xs.length∧ ∀j (h:j<xs.length),j<n→aha xs[j] m<0) (fun n=>xs.length-n) 0 rfl ⟨bX _,fun j _ hj=>absurd hj (by omega)⟩ (fun _=>rfl) (fun n hk=>?_)
   obtain⟨n1,n2⟩:=hk
   refine csS (v2:=fun hg16=>by simp only[aai];kernel_rfl) J J J J (fun hg16=>?_) (fun hg16=>?_)
   ·
    refine ix _ rfl (abC (by omega)) rfl<|cl rfl (akZ (p:=xs[n]'(by omega)) (q:=m) (hp:=hxb _ (cX (by omega))) (hq:=hmb)) rfl<|?_
    refine br J J J (fun hc25=>?_) (fun hc25=>?_)
    ·
     exact at_ (n+1) ⟨⟨by omega,fun j h hj=>by by_cases q:j=n;(subst q;exact hc25);exact n2 j h (by omega)⟩,(by omega)⟩
    ·
     have hidx:aj2 aha m xs=n:=adn aha n1 n2 (fun h=>hc25)
     exact at_ () trivial
   ·
    have hidx:aj2 aha m xs=n:=adn aha n1 n2 (fun h=>absurd h (by omega))
    exact at_ () trivial
  ·
   obtain⟨n,hnx⟩: ∃n,aj2 aha m xs=n:=⟨_,rfl⟩
   rw[hnx]
   have hnl:n≤xs.length:=by rw[←hnx];exact aho _ _ _
   refine csS (v1:=fun hg31=>by simp only[aai];kernel_rfl) J J J J (fun hg31=>?_) (fun hg31=>?_)
   ·
    have hnew: ∀h:n<xs.length,aha xs[n] m≠0:=fun h=>absurd h (by omega)
    obtain⟨ys,hys⟩: ∃ys,ys=xs.take n++m::xs.drop n:=⟨_,rfl⟩
    have hin:ac0 aha m xs=ys:=by rw[hys];exact acg aha hnx hnew
    have hyl:ys.length≤xs.length+1:=by rw[hys];simp;omega
    refine s3 n _ J J J J (ah9 _) (by rw[hxl];exact hnl) rfl<|ro J J<|sc' n xs.length _ J J (by rw[hxl]) rfl (ah9 _) hnl (by omega) rfl<|?_
    refine ap _ J J (slD ah9 _ _ _) rfl<|apf (hv:=by simp only[aai];exact⟨by kernel_rfl,by omega⟩) (ho:=fun _=>⟨slT ah9 _ _,by simp⟩) (ys.map eP) rfl (by rw[hys,bK,bY,fS,hJ,aY (l:=xs.map eP) (i:=xs.length) (by simp)];rfl) (slI ah9 _ _ _ _) rfl<|?_
    exact at_ ⟨ys,k+1⟩ (by dsimp only;exact⟨⟨by rw[abl hz,←hS];exact hin.symm,by omega⟩,(by omega)⟩)
   ·
    refine ix _ rfl (abC (by omega)) rfl<|cl rfl (akZ (p:=xs[n]'(by omega)) (q:=m) (hp:=hxb _ (cX (by omega))) (hq:=hmb)) rfl<|?_
    refine br J J J (fun hc40=>?_) (fun hc40=>?_)
    ·
     have hnew: ∀h:n<xs.length,aha xs[n] m≠0:=fun h=>hc40
     obtain⟨ys,hys⟩: ∃ys,ys=xs.take n++m::xs.drop n:=⟨_,rfl⟩
     have hin:ac0 aha m xs=ys:=by rw[hys];exact acg aha hnx hnew
     have hyl:ys.length≤xs.length+1:=by rw[hys];simp;omega
     refine s3 n _ J J J J (ah9 _) (by rw[hxl];exact hnl) rfl<|ro J J<|sc' n xs.length _ J J (by rw[hxl]) rfl (ah9 _) hnl (by omega) rfl<|?_
     refine ap _ J J (slD ah9 _ _ _) rfl<|apf (hv:=by simp only[aai];exact⟨by kernel_rfl,by omega⟩) (ho:=fun _=>⟨slT ah9 _ _,by simp⟩) (ys.map eP) rfl (by rw[hys,bK,bY,fS,hJ,aY (l:=xs.map eP) (i:=xs.length) (by simp)];rfl) (slI ah9 _ _ _ _) rfl<|?_
     exact at_ ⟨ys,k+1⟩ (by dsimp only;exact⟨⟨by rw[abl hz,←hS];exact hin.symm,by omega⟩,(by omega)⟩)
    ·
     have hin:ac0 aha m xs=xs:=aeV aha hnx (by omega) (Decidable.not_not.1 hc40)
     exact at_ ⟨xs,k+1⟩ (by dsimp only;exact⟨⟨by rw[abl hz,←hS];exact hin.symm,by omega⟩,(by omega)⟩)
 ·
  have hfin:ahF aha ps=xs:=by rw[hS,agS (by omega),List.map_id]
  exact rz rfl (by rw[hfin];rfl)
def aa5(ls:List LnQ):List LnQ:=ahF ael (ls.map LnQ.canon)
theorem afg{ls:List LnQ}{y:LnQ}(h:y∈aa5 ls): ∃x∈ls,y=x.canon:=by
 rcases afz ael h with h|h
 ·obtain⟨x,hx,rfl⟩:=bR.1 h;exact⟨x,hx,rfl⟩
 ·cases h
theorem aq6{ls:List LnQ}(hb: ∀p∈ls,LB p)(hn:ls.length≤100000):PF GB prog 32 [.sl (ls.map eL)] (.sl ((aa5 ls).map eL)):=by
 have hm':=aau eL ls
 refine fn (fu:=⟨15⟩) func32 J J ntmps32 J J (fun C=>?_)
 refine eqF 8 (.d (vI (ls.length:Nat))) rfl (by rw[hm'];rfl) ?_
 refine gx rfl<|?_
 refine nlC 3 rfl ?_
 refine lp (X:=List LnQ×Nat) (fun⟨xs,k⟩=>[(9, .d (vI (k:Nat))),(8, .d (vI (ls.length:Nat))),(7, .d (.sl (ls.map eL))),(0, .d (.sl (ls.map eL))),(3, .d (.sl (xs.map eL)))]) (fun⟨xs,k⟩=>[]) (fun⟨xs,k⟩=>xs=ah6 ael LnQ.canon ls k∧k≤ls.length) (fun⟨xs,k⟩=>ls.length-k) ⟨[],0⟩ rfl ⟨rfl,bX _⟩ (fun _=>rfl) (fun⟨xs,k⟩ hk=>?_)
 try dsimp only at hk⊢
 obtain⟨hS,hkl⟩:=hk
 refine br J J J (fun hc10=>?_) (fun hc10=>?_)
 ·
  have hk:k<ls.length:=by omega
  obtain⟨z,hm⟩: ∃m,m=ls[k]:=⟨_,rfl⟩
  have hz:ls[k]? =some z:=by rw[hm];exact aZ hk
  haveI hzb:LB z:=hm▸hb _ (cX hk)
  obtain⟨m,hmc⟩: ∃m,m=z.canon:=⟨_,rfl⟩
  haveI hmb:LB m:=by rw[hmc];infer_instance
  have hxl:=aau eL xs
  have hxn:xs.length≤k:=by rw[hS];exact ahj
  have hxb: ∀q∈xs,LB q:=fun q hq=>by rw[hS] at hq;obtain⟨z,hz,rfl⟩:=ag7 hq;haveI:=hb z hz;infer_instance
  refine ix (fu:=⟨1⟩) _ rfl (abC hk) rfl<|?_
  refine eqF 12 (.d (eL z)) rfl (by rw[hm];rfl) ?_
  refine gx rfl<|cl (fu:=⟨2⟩) rfl (aqi (l:=z)) rfl<|?_
  refine eqF 16 (.d (eL m)) rfl (by rw[hmc]) ?_
  refine gx (fu:=⟨10⟩) rfl<|?_
  refine mg (fu:=⟨5⟩) (X:=Unit) (fun _=>[(9, .d (vI (k:Nat))),(8, .d (vI (ls.length:Nat))),(7, .d (.sl (ls.map eL))),(0, .d (.sl (ls.map eL))),(3, .d (.sl (xs.map eL))),(5, .ov 5 0),(6, .d (vI (aj2 ael m xs:Nat)))]) (fun _=>[(5,some (.o 88 [.d ((.v (.bool (decide (m.a<0))))), .d (dN m.a.natAbs), .d ((.v (.bool (decide (m.b<0))))), .d (dN m.b.natAbs), .d ((.v (.bool (decide (m.c<0))))), .d (dN m.c.natAbs)] true))]) (fun _=>True) [9,8,7,0,3,5,6] [5] rfl ?_ (fun _=>rfl) (fun _ _=>?_)
  ·
   refine gx rfl<|?_
   refine lp (fu:=⟨6⟩) (X:=Nat) (fun n=>[(9, .d (vI (k:Nat))),(8, .d (vI (ls.length:Nat))),(7, .d (.sl (ls.map eL))),(0, .d (.sl (ls.map eL))),(3, .d (.sl (xs.map eL))),(5, .ov 5 0),(6, .d (vI (n:Nat)))]) (fun n=>[(5,some (.o 88 [.d ((.v (.bool (decide (m.a<0))))), .d (dN m.a.natAbs), .d ((.v (.bool (decide (m.b<0))))), .d (dN m.b.natAbs), .d ((.v (.bool (decide (m.c<0))))), .d (dN m.c.natAbs)] true))]) (fun n=>n≤xs.length∧ ∀j (h:j<xs.length),j<n→ael xs[j] m<0) (fun n=>xs.length-n) 0 rfl ⟨bX _,fun j _ hj=>absurd hj (by omega)⟩ (fun _=>rfl) (fun n hk=>?_)
   obtain⟨n1,n2⟩:=hk
   refine csS (v2:=fun hg21=>by simp only[aai];kernel_rfl) J J J J (fun hg21=>?_) (fun hg21=>?_)
   ·
    refine ix _ rfl (abC (by omega)) rfl<|cl rfl (ajm (l:=xs[n]'(by omega)) (m:=m) (hl:=hxb _ (cX (by omega))) (hm:=hmb)) rfl<|?_
    refine br J J J (fun hc30=>?_) (fun hc30=>?_)
    ·
     exact at_ (n+1) ⟨⟨by omega,fun j h hj=>by by_cases q:j=n;(subst q;exact hc30);exact n2 j h (by omega)⟩,(by omega)⟩
    ·
     have hidx:aj2 ael m xs=n:=adn ael n1 n2 (fun h=>hc30)
     exact at_ () trivial
   ·
    have hidx:aj2 ael m xs=n:=adn ael n1 n2 (fun h=>absurd h (by omega))
    exact at_ () trivial
  ·
   obtain⟨n,hnx⟩: ∃n,aj2 ael m xs=n:=⟨_,rfl⟩
   rw[hnx]
   have hnl:n≤xs.length:=by rw[←hnx];exact aho _ _ _
   refine csS (v1:=fun hg36=>by simp only[aai];kernel_rfl) J J J J (fun hg36=>?_) (fun hg36=>?_)
   ·
    have hnew: ∀h:n<xs.length,ael xs[n] m≠0:=fun h=>absurd h (by omega)
    obtain⟨ys,hys⟩: ∃ys,ys=xs.take n++m::xs.drop n:=⟨_,rfl⟩
    have hin:ac0 ael m xs=ys:=by rw[hys];exact acg ael hnx hnew
    have hyl:ys.length≤xs.length+1:=by rw[hys];simp;omega
    refine s3 n _ J J J J (abz _) (by rw[hxl];exact hnl) rfl<|ro J J<|sc' n xs.length _ J J (by rw[hxl]) rfl (abz _) hnl (by omega) rfl<|?_
    refine ap _ J J (slD abz _ _ _) rfl<|apf (hv:=by simp only[aai];exact⟨by kernel_rfl,by omega⟩) (ho:=fun _=>⟨slT abz _ _,by simp⟩) (ys.map eL) rfl (by rw[hys,bK,bY,fS,hJ,aY (l:=xs.map eL) (i:=xs.length) (by simp)];rfl) (slI abz _ _ _ _) rfl<|?_
    exact at_ ⟨ys,k+1⟩ (by dsimp only;exact⟨⟨by rw[abl hz,←hS,←hmc];exact hin.symm,by omega⟩,(by omega)⟩)
   ·
    refine ix _ rfl (abC (by omega)) rfl<|cl rfl (ajm (l:=xs[n]'(by omega)) (m:=m) (hl:=hxb _ (cX (by omega))) (hm:=hmb)) rfl<|?_
    refine br J J J (fun hc45=>?_) (fun hc45=>?_)
    ·
     have hnew: ∀h:n<xs.length,ael xs[n] m≠0:=fun h=>hc45
     obtain⟨ys,hys⟩: ∃ys,ys=xs.take n++m::xs.drop n:=⟨_,rfl⟩
     have hin:ac0 ael m xs=ys:=by rw[hys];exact acg ael hnx hnew
     have hyl:ys.length≤xs.length+1:=by rw[hys];simp;omega
     refine s3 n _ J J J J (abz _) (by rw[hxl];exact hnl) rfl<|ro J J<|sc' n xs.length _ J J (by rw[hxl]) rfl (abz _) hnl (by omega) rfl<|?_
     refine ap _ J J (slD abz _ _ _) rfl<|apf (hv:=by simp only[aai];exact⟨by kernel_rfl,by omega⟩) (ho:=fun _=>⟨slT abz _ _,by simp⟩) (ys.map eL) rfl (by rw[hys,bK,bY,fS,hJ,aY (l:=xs.map eL) (i:=xs.length) (by simp)];rfl) (slI abz _ _ _ _) rfl<|?_
     exact at_ ⟨ys,k+1⟩ (by dsimp only;exact⟨⟨by rw[abl hz,←hS,←hmc];exact hin.symm,by omega⟩,(by omega)⟩)
    ·
     have hin:ac0 ael m xs=xs:=aeV ael hnx (by omega) (Decidable.not_not.1 hc45)
     exact at_ ⟨xs,k+1⟩ (by dsimp only;exact⟨⟨by rw[abl hz,←hS,←hmc];exact hin.symm,by omega⟩,(by omega)⟩)
 ·
  have hfin:aa5 ls=xs:=by rw[hS,agS (by omega)];rfl
  exact rz rfl (by rw[hfin];rfl)
theorem arj(vs:List IvQ):adB 8 (vs.map eV):=fun d hd=>by
 obtain⟨u,_,rfl⟩:=bR.1 hd;exact⟨rfl,rfl⟩
theorem abV(qs:List Rat):adB 3 (qs.map eQ):=fun d hd=>by
 obtain⟨u,_,rfl⟩:=bR.1 hd;exact⟨rfl,rfl⟩
theorem aCD(bs:List Bool):adB 1 (bs.map vB):=fun d hd=>by
 obtain⟨u,_,rfl⟩:=bR.1 hd;exact⟨rfl,rfl⟩
theorem awc{l:List IvQ}{k:Nat}{v:IvQ}{t:Rat}{a b:Int}(h:l[k]? =some v)(ha:a=if v.nl then 1 else aa0 t v.lo)(hb:b=if v.nh then-1 else aa0 t v.hi):
  aye (l.drop k) t=if 0<a∧b<0 then 2 else if(a=0∧b≤0)∨(b=0∧0≤a) then 1 else aye (l.drop (k+1)) t:=by
 obtain⟨hk,rfl⟩:=aN.1 h
 rw[aM hk,aye,ha,hb]
structure IvB (v:IvQ):Prop where
 lo:BQ v.lo 1200
 hi:BQ v.hi 1200
theorem aw3{l:List IvQ}{t:Rat}{i:Nat}[ht:BQ t i](hb: ∀v∈l,IvB v)(hn:l.length≤100000)(hi:i≤20000:=by decide):PF GB prog 321 [.sl (l.map eV),eQ t] (vI (aye l t)):=by
 have hm:=aau eV l
 refine fn (fu:=⟨11⟩) func321 J J ntmps321 J J (fun C=>?_)
 refine eqF 10 (.d (vI (l.length:Nat))) rfl (by rw[hm]<;>rfl) ?_
 refine gx rfl<|?_
 refine lp (X:=Nat) (fun k=>[(11, .d (vI (k:Nat)))]) (fun k=>[]) (fun k=>k≤l.length∧aye (l.drop k) t=aye l t) (fun k=>l.length-k) 0 rfl ⟨bX _,rfl⟩ (fun _=>rfl) (fun k hk=>?_)
 obtain⟨h1,h2⟩:=hk
 refine br J J J (fun hc12=>?_) (fun hc12=>?_)
 ·
  obtain⟨v,hz⟩: ∃s,l[k]? =some s:=⟨_,aZ (by omega)⟩
  have hv:=hb v (bQ hz)
  haveI:=hv.lo
  haveI:=hv.hi
  refine ix (fu:=⟨12⟩) _ rfl (aav hz) rfl<|?_
  refine mg (fu:=⟨1⟩) (X:=Int) (fun a=>[(7, .d (vI a))]) (fun a=>[]) (fun a=>a=if v.nl then 1 else aa0 t v.lo) [7] [] rfl ?_ (fun _=>rfl) (fun a ha=>?_)
  ·
   refine gx rfl<|?_
   refine bb J J J (fun hc17=>?_) (fun hc17=>?_)
   ·
    refine cl rfl (q_C (a:=t) (b:=v.lo) (i:=i) (by omega)) rfl<|?_
    exact at_ (aa0 t v.lo) (by rw[if_neg (by simpa using hc17)])
   ·
    exact at_ 1 (by rw[if_pos (by simpa using hc17)])
  ·
   refine mg (X:=Int) (fun b=>[(8, .d (vI b))]) (fun b=>[]) (fun b=>b=if v.nh then-1 else aa0 t v.hi) [8] [] rfl ?_ (fun _=>rfl) (fun b hb'=>?_)
   ·
    refine gx rfl<|?_
    refine bb J J J (fun hc24=>?_) (fun hc24=>?_)
    ·
     refine cl rfl (q_C (a:=t) (b:=v.hi) (i:=i) (by omega)) rfl<|?_
     exact at_ (aa0 t v.hi) (by rw[if_neg (by simpa using hc24)])
    ·
     exact at_ (-1) (by rw[if_pos (by simpa using hc24)])
   ·
    have hst:=awc hz ha hb'
    refine cs 31 J J J (fun hg31=>?_) (fun hg31=>?_)
    ·
     refine br J J J (fun hc34=>?_) (fun hc34=>?_)
     ·
      exact rz rfl (by first|(rw[←h2,fQ];rfl)|(rw[←h2,hst,if_pos (by omega)];rfl)|(rw[←h2,hst,if_neg (by omega),if_pos (by omega)];rfl))
     ·
      refine cs 37 J J J (fun hg37=>?_) (fun hg37=>?_)
      ·
       refine cs 41 J J J (fun hg41=>?_) (fun hg41=>?_)
       ·
        exact rz rfl (by first|(rw[←h2,fQ];rfl)|(rw[←h2,hst,if_pos (by omega)];rfl)|(rw[←h2,hst,if_neg (by omega),if_pos (by omega)];rfl))
       ·
        refine cs 44 J J J (fun hg44=>?_) (fun hg44=>?_)
        ·
         refine br J J J (fun hc48=>?_) (fun hc48=>?_)
         ·
          exact rz rfl (by first|(rw[←h2,fQ];rfl)|(rw[←h2,hst,if_pos (by omega)];rfl)|(rw[←h2,hst,if_neg (by omega),if_pos (by omega)];rfl))
         ·
          exact at_ (k+1) ⟨⟨by omega,by rw[←h2,hst,if_neg (by omega),if_neg (by omega)]⟩,(by omega)⟩
        ·
         exact at_ (k+1) ⟨⟨by omega,by rw[←h2,hst,if_neg (by omega),if_neg (by omega)]⟩,(by omega)⟩
      ·
       refine cs 44 J J J (fun hg44=>?_) (fun hg44=>?_)
       ·
        refine br J J J (fun hc48=>?_) (fun hc48=>?_)
        ·
         exact rz rfl (by first|(rw[←h2,fQ];rfl)|(rw[←h2,hst,if_pos (by omega)];rfl)|(rw[←h2,hst,if_neg (by omega),if_pos (by omega)];rfl))
        ·
         exact at_ (k+1) ⟨⟨by omega,by rw[←h2,hst,if_neg (by omega),if_neg (by omega)]⟩,(by omega)⟩
       ·
        exact at_ (k+1) ⟨⟨by omega,by rw[←h2,hst,if_neg (by omega),if_neg (by omega)]⟩,(by omega)⟩
    ·
     refine cs 37 J J J (fun hg37=>?_) (fun hg37=>?_)
     ·
      refine cs 41 J J J (fun hg41=>?_) (fun hg41=>?_)
      ·
       exact rz rfl (by first|(rw[←h2,fQ];rfl)|(rw[←h2,hst,if_pos (by omega)];rfl)|(rw[←h2,hst,if_neg (by omega),if_pos (by omega)];rfl))
      ·
       refine cs 44 J J J (fun hg44=>?_) (fun hg44=>?_)
       ·
        refine br J J J (fun hc48=>?_) (fun hc48=>?_)
        ·
         exact rz rfl (by first|(rw[←h2,fQ];rfl)|(rw[←h2,hst,if_pos (by omega)];rfl)|(rw[←h2,hst,if_neg (by omega),if_pos (by omega)];rfl))
        ·
         exact at_ (k+1) ⟨⟨by omega,by rw[←h2,hst,if_neg (by omega),if_neg (by omega)]⟩,(by omega)⟩
       ·
        exact at_ (k+1) ⟨⟨by omega,by rw[←h2,hst,if_neg (by omega),if_neg (by omega)]⟩,(by omega)⟩
     ·
      refine cs 44 J J J (fun hg44=>?_) (fun hg44=>?_)
      ·
       refine br J J J (fun hc48=>?_) (fun hc48=>?_)
       ·
        exact rz rfl (by first|(rw[←h2,fQ];rfl)|(rw[←h2,hst,if_pos (by omega)];rfl)|(rw[←h2,hst,if_neg (by omega),if_pos (by omega)];rfl))
       ·
        exact at_ (k+1) ⟨⟨by omega,by rw[←h2,hst,if_neg (by omega),if_neg (by omega)]⟩,(by omega)⟩
      ·
       exact at_ (k+1) ⟨⟨by omega,by rw[←h2,hst,if_neg (by omega),if_neg (by omega)]⟩,(by omega)⟩
 ·
  obtain rfl:k=l.length:=by omega
  exact rz rfl (by first|(rw[←h2,fQ];rfl)|(rw[←h2,hst,if_pos (by omega)];rfl)|(rw[←h2,hst,if_neg (by omega),if_pos (by omega)];rfl))
theorem aDw{l:List IvQ}{t:Rat}{i:Nat}[ht:BQ t i](hb: ∀v∈l,IvB v)(hn:l.length≤100000)(hi:i≤20000:=by decide):PF GB prog 315 [.sl (l.map eV),eQ t] (vB (acU l t)):=by
 refine fn func315 J J ntmps315 J J (fun C=>?_)
 refine cl rfl (aw3 (l:=l) (t:=t) hb hn hi) rfl<|?_
 exact rz J J
theorem aiT: ∀{l:List Rat} {i:Nat} {a b:Rat},l[i]? =some a→l[i+1]? =some b→aeD (l.take (i+2))=aeD (l.take (i+1))++[(a+b)/2]
 |[],i,a,b,h,_=>by simp at h
 |[_],i,a,b,h,k=>by simp at k
 |c::d::t,0,a,b,h,k=>by
  simp at h k;subst h;subst k
  simp[aeD]
 |c::d::t,i+1,a,b,h,k=>by
  have:=aiT (l:=d::t) (i:=i) (by simpa using h) (by simpa using k)
  rw[show(c::d::t).take (i+1+2)=c::d::t.take (i+1) by simp,show(c::d::t).take (i+1+1)=c::d::t.take i by simp,aeD,aeD,gS]
  congr 1
theorem afm: ∀l:List Rat,(aeD l).length≤l.length
 |[]=>bZ _
 |[_]=>bX _
 |a::b::t=>by rw[aeD,bJ,bJ];exact Nat.succ_le_succ (afm (b::t))
theorem anq{a:Rat}{t:List Rat}{z:Rat}(h:(a::t)[t.length]? =some z):aaZ (a::t)=(a-1)::(aeD (a::t)++[z+1]):=by
 rw[aaZ]
 have:(a::t).getLast (by simp)=z:=by
  rw[List.getLast_eq_getElem]
  have:=aN.1 h
  obtain⟨h1,h2⟩:=this
  rw[←h2];congr 1
 rw[this]
theorem aw8{cuts:List Rat}(hb: ∀q∈cuts,BQ q 1200)(hn:cuts.length≤100000):PF GB prog 314 [.sl (cuts.map eQ)] (.sl ((aaZ cuts).map eQ)):=by
 have hm:=aau eQ cuts
 refine fn (fu:=⟨10⟩) func314 J J ntmps314 J J (fun C=>?_)
 refine eqF 6 (.d (vI (cuts.length:Nat))) rfl (by rw[hm]<;>rfl) ?_
 refine gx rfl<|?_
 refine br J J J (fun hc7=>?_) (fun hc7=>?_)
 ·
  obtain rfl:cuts=[]:=bT (by omega)
  refine rf J J<|?_
  exact rz rfl (by rw[aaZ];show DV.sl [_]=DV.sl [_];rw[aoD])
 ·
  obtain⟨a,ct,rfl⟩: ∃a t,cuts=a::t:=by cases cuts with|nil=>exact absurd rfl hc7|cons a t=>exact⟨a,t,rfl⟩
  haveI hab:=hb a aQ
  have hcl:ct.length+1≤100000:=hn
  refine ix _ J J J<|cl rfl (alw (n:=1) (by decide) (by decide)) rfl<|cl (fu:=⟨0⟩) rfl (aj3 (a:=a) (b:=((1:Int):Rat))) rfl<|?_
  refine eqF 14 (.d (eQ (a-1))) J J ?_
  refine gx rfl<|ro J J<|?_
  refine lp (fu:=⟨6⟩) (X:=Nat) (fun i=>[(4, .d (vI ((i+1:Nat):Int))),(3, .rw 15)]) (fun i=>[(15,some (.b 56 3 (((a-1)::aeD ((a::ct).take (i+1))).map eQ) true))]) (fun i=>i≤ct.length) (fun i=>ct.length-i) 0 rfl (bX _) (fun _=>rfl) (fun i hk=>?_)
  have hm2:=aau eQ (a::ct)
  have hml:=afm (a::ct.take i)
  rw[bJ,cK] at hml
  have hml2:=afm (a::ct)
  rw[bJ] at hml2
  refine eqF 18 (.d (vI ((ct.length+1:Nat):Int))) rfl (by rw[hm2]<;>rfl) ?_
  refine gx rfl<|?_
  refine br (fu2:=⟨11⟩) J J J (fun hc19=>?_) (fun hc19=>?_)
  ·
   obtain⟨u,hu⟩: ∃s,(a::ct)[i]? =some s:=⟨_,aZ (by simp;omega)⟩
   obtain⟨w,hw⟩: ∃s,(a::ct)[i+1]? =some s:=⟨_,aZ (by simp;omega)⟩
   haveI:=hb u (bQ hu)
   haveI:=hb w (bQ hw)
   refine ix _ rfl (by rw[show((((i+1:Nat):Int))-1).toNat=i by omega,dZ,hu];rfl) rfl<|ix _ rfl (by rw[aL,dZ,hw];rfl) rfl<|?_
   refine cl rfl (awu (a:=u) (b:=w)) rfl<|rf J J<|ap (hv:=by simp only[aai];exact⟨by kernel_rfl,by omega⟩) (((a-1)::aeD ((a::ct).take (i+1+1))).map eQ) rfl (by rw[aiT hu hw,←gS,bK];rfl) (abV [(u+w)/2]) rfl<|?_
   refine rnE 34 15 rfl ?_
   exact at_ (i+1) ⟨(by omega),(by omega)⟩
  ·
   obtain rfl:i=ct.length:=by omega
   obtain⟨z,hz⟩: ∃s,(a::ct)[ct.length]? =some s:=⟨_,aZ (by simp)⟩
   haveI:=hb z (bQ hz)
   rw[show(a::ct).take (ct.length+1)=a::ct from fZ (l:=a::ct)]
   refine eqF 38 (.d (vI ((ct.length+1:Nat):Int))) rfl (by rw[hm2]<;>rfl) ?_
   refine gx rfl<|ix _ rfl (by rw[show((((ct.length+1:Nat):Int))-1).toNat=ct.length by omega,dZ,hz];rfl) rfl<|cl rfl (alw (n:=1) (by decide) (by decide)) rfl<|?_
   refine cl rfl (ad0 (a:=z) (b:=((1:Int):Rat))) rfl<|rf J J<|ap ((aaZ (a::ct)).map eQ) rfl (by rw[anq hz,←gS,bK];rfl) (abV [z+1]) rfl<|?_
   refine fzE 45 rfl ?_
   exact rz J J
theorem apd(o:List Rat)(s:IvQ):(aqT o s).length≤o.length+2:=by
 unfold aqT
 have h:=fun(x:Rat) (l:List Rat)=>akY (x:=x) (l:=l)▸aiu aa0 x l
 have h1:=h s.lo o
 have h2:=h s.hi o
 have h3:=h s.hi (amc s.lo o)
 split<;>split<;>omega
def aiS(l:List IvQ)(k:Nat):List Rat:=aeP (l.take k)
theorem akp{l:List IvQ}{k:Nat}{v:IvQ}(h:l[k]? =some v):aiS l (k+1)=aqT (aiS l k) v:=by
 unfold aiS aeP;rw[iU,h,oJ];rfl
theorem ag0(l:List IvQ): ∀k,(aiS l k).length≤2*k
 |0=>bZ _
 |k+1=>by
  cases h:l[k]? with
  |none=>
   have:=ag0 l k
   unfold aiS at*
   rw[iU,h];simp;omega
  |some v=>rw[akp h];have:=ag0 l k;have:=apd (aiS l k) v;omega
theorem apz{l:List IvQ}(hb: ∀v∈l,IvB v){k:Nat}: ∀y∈aiS l k,BQ y 1200:=fun y hy=>by
 obtain⟨s,hs,h⟩:=(akl _).2 y hy
 have:=hb s (cM hs)
 rcases h with⟨_,rfl⟩|⟨_,rfl⟩
 ·exact this.lo
 ·exact this.hi
def au8(o:List Rat)(v:IvQ)(j:Nat):List Rat:=if j=0 then o else if j=1 then(if v.nl then o else amc v.lo o) else aqT o v
def aDr(v:IvQ)(j:Nat):Rat:=if j=0 then v.lo else v.hi
def atl(v:IvQ)(j:Nat):Bool:=if j=0 then v.nl else v.nh
theorem ade{o:List Rat}{v:IvQ}{j:Nat}(hj:j<2):au8 o v (j+1)=if atl v j then au8 o v j else ac0 aa0 (aDr v j) (au8 o v j):=by
 have:j=0∨j=1:=by omega
 rcases this with rfl|rfl
 ·simp[au8,atl,aDr,akY]
 ·simp[au8,atl,aDr,aqT,akY]
theorem awx{o:List Rat}{v:IvQ}{j:Nat}(hj:j≤2):(au8 o v j).length≤o.length+2:=by
 unfold au8
 have:=apd o v
 have h:=akY (x:=v.lo) (l:=o)▸aiu aa0 v.lo o
 split
 ·omega
 ·split
  ·split<;>omega
  ·exact this
theorem ayW{o:List Rat}(ho: ∀q∈o,BQ q 1200){v:IvQ}(hv:IvB v){j:Nat}(hj:j≤2): ∀q∈au8 o v j,BQ q 1200:=fun q hq=>by
 unfold au8 aqT at hq
 have lo:=hv.lo
 have hi:=hv.hi
 split at hq
 ·exact ho q hq
 ·split at hq
  ·split at hq
   ·exact ho q hq
   ·rcases acR.1 hq with rfl|hq
    ·exact lo
    ·exact ho q hq
  ·split at hq
   ·split at hq
    ·exact ho q hq
    ·rcases acR.1 hq with rfl|hq
     ·exact lo
     ·exact ho q hq
   ·rcases acR.1 hq with rfl|hq
    ·exact hi
    ·split at hq
     ·exact ho q hq
     ·rcases acR.1 hq with rfl|hq
      ·exact lo
      ·exact ho q hq
theorem aDz{l:List IvQ}(hb: ∀v∈l,IvB v)(hn:l.length≤10000):PF GB prog 313 [.sl (l.map eV)] (.sl ((aeP l).map eQ)):=by
 have hm:=aau eV l
 refine fn (fu:=⟨15⟩) func313 J J ntmps313 J J (fun C=>?_)
 refine eqF 10 (.d (vI (l.length:Nat))) rfl (by rw[hm]<;>rfl) ?_
 refine gx rfl<|?_
 refine nlC 3 rfl ?_
 refine lp (X:=List Rat×Nat) (fun⟨o,k⟩=>[(11, .d (vI (k:Nat))),(3, .d (.sl (o.map eQ)))]) (fun⟨o,k⟩=>[]) (fun⟨o,k⟩=>o=aiS l k∧k≤l.length) (fun⟨o,k⟩=>l.length-k) ([],0) rfl ⟨rfl,bX _⟩ (fun _=>rfl) (fun⟨o,k⟩ hk=>?_)
 dsimp only at hk⊢
 obtain⟨h1,h2⟩:=hk
 refine br J J J (fun hc12=>?_) (fun hc12=>?_)
 ·
  obtain⟨v,hz⟩: ∃s,l[k]? =some s:=⟨_,aZ (by omega)⟩
  have hv:=hb v (bQ hz)
  haveI:=hv.lo
  haveI:=hv.hi
  have hob:=apz hb (k:=k)
  have hol:=ag0 l k
  rw[←h1] at hob hol
  refine ix _ rfl (aav hz) rfl<|rf J J<|?_
  refine lp (X:=List Rat×Nat) (fun⟨xs,j⟩=>[(21, .d (vI (j:Nat))),(3, .d (.sl (xs.map eQ)))]) (fun⟨xs,j⟩=>[]) (fun⟨xs,j⟩=>xs=au8 o v j∧j≤2) (fun⟨xs,j⟩=>2-j) (o,0) rfl ⟨rfl,by omega⟩ (fun _=>rfl) (fun⟨xs,j⟩ hk=>?_)
  dsimp only at hk⊢
  obtain⟨g1,g2⟩:=hk
  refine br J J J (fun hc22=>?_) (fun hc22=>?_)
  ·
   have hj2:j<2:=by have:=hc22;simp only[bJ,dV] at this;omega
   obtain⟨m,hm2⟩: ∃m,m=aDr v j:=⟨_,rfl⟩
   haveI hmb:BQ m 1200:=by rw[hm2];unfold aDr;split;exact hv.lo;exact hv.hi
   have hxl:=aau eQ xs
   have hxn:xs.length≤2*k+2:=by rw[g1];have:=awx (o:=o) (v:=v) (j:=j) g2;omega
   have hxb: ∀q∈xs,BQ q 1200:=by rw[g1];exact ayW hob hv g2
   refine ix (fu:=⟨10⟩) _ rfl (by rw[aL];exact(show([v.lo,v.hi].map eQ)[j]? =some (eQ m) by rw[hm2];have:j=0∨j=1:=(by omega);rcases this with rfl|rfl<;>rfl)) rfl<|?_
   rcases(show j=0∨j=1 by omega) with rfl|rfl
   ·
    refine knT J J J<|?_
    refine csb (fu2:=⟨1⟩) 32 J J J (fun hg32=>?_) (fun hg32=>?_)
    ·
     exact at_ (xs,0+1) (by dsimp only;exact⟨⟨by rw[ade (by decide),if_pos (by simpa[atl] using hg32),←g1],by omega⟩,(by omega)⟩)
    ·
     refine knF (fu:=⟨16⟩) J J J<|?_
     refine mg (fu:=⟨5⟩) (X:=Nat) (fun n=>[(8, .d (vI (n:Nat)))]) (fun n=>[]) (fun n=>aj2 aa0 m xs=n) [8] [] rfl ?_ (fun _=>rfl) (fun n hnx=>?_)
     ·
      refine gx rfl<|?_
      refine lp (fu:=⟨6⟩) (X:=Nat) (fun n=>[(8, .d (vI (n:Nat)))]) (fun n=>[]) (fun n=>n≤xs.length∧ ∀j (h:j<xs.length),j<n→aa0 xs[j] m<0) (fun n=>xs.length-n) 0 rfl ⟨bX _,fun j _ hj=>absurd hj (by omega)⟩ (fun _=>rfl) (fun n hk=>?_)
      obtain⟨n1,n2⟩:=hk
      refine csS (v2:=fun hg43=>by simp only[aai];kernel_rfl) J J J J (fun hg43=>?_) (fun hg43=>?_)
      ·
       refine ix _ rfl (abC (by omega)) rfl<|cl rfl (q_C (a:=xs[n]'(by omega)) (b:=m) (ha:=hxb _ (cX (by omega))) (hb:=hmb)) rfl<|?_
       refine br J J J (fun hc52=>?_) (fun hc52=>?_)
       ·
        exact at_ (n+1) ⟨⟨by omega,fun j h hj=>by by_cases q:j=n;(subst q;exact hc52);exact n2 j h (by omega)⟩,(by omega)⟩
       ·
        exact at_ n (adn aa0 n1 n2 (fun h=>hc52))
      ·
       exact at_ n (adn aa0 n1 n2 (fun h=>absurd h (by omega)))
     ·
      have hnl:n≤xs.length:=by rw[←hnx];exact aho _ _ _
      refine csS (v1:=fun hg58=>by simp only[aai];kernel_rfl) J J J J (fun hg58=>?_) (fun hg58=>?_)
      ·
       have hnew: ∀h:n<xs.length,aa0 xs[n] m≠0:=fun h=>absurd h (by omega)
       obtain⟨ys,hys⟩: ∃ys,ys=xs.take n++m::xs.drop n:=⟨_,rfl⟩
       have hin:ac0 aa0 m xs=ys:=by rw[hys];exact acg aa0 hnx hnew
       have hyl:ys.length≤xs.length+1:=by rw[hys];simp;omega
       refine s3 n _ J J J J (abV _) (by rw[hxl];exact hnl) rfl<|ro J J<|sc' n xs.length _ J J (by rw[hxl]) rfl (abV _) hnl (by omega) rfl<|?_
       refine ap _ J J (slD abV _ _ _) rfl<|apf (hv:=by simp only[aai];exact⟨by kernel_rfl,by omega⟩) (ho:=fun _=>⟨slT abV _ _,by simp⟩) (ys.map eQ) rfl (by rw[hys,bK,bY,fS,hJ,aY (l:=xs.map eQ) (i:=xs.length) (by simp)];rfl) (slI abV _ _ _ _) rfl<|?_
       exact at_ (ys,0+1) (by dsimp only;exact⟨⟨by rw[ade (by decide),if_neg (by simpa[atl] using hg32),←g1,←hm2,hin],by omega⟩,(by omega)⟩)
      ·
       refine ix _ rfl (abC (by omega)) rfl<|cl rfl (q_C (a:=xs[n]'(by omega)) (b:=m) (ha:=hxb _ (cX (by omega))) (hb:=hmb)) rfl<|?_
       refine br (fu2:=⟨7⟩) J J J (fun hc67=>?_) (fun hc67=>?_)
       ·
        have hnew: ∀h:n<xs.length,aa0 xs[n] m≠0:=fun h=>hc67
        obtain⟨ys,hys⟩: ∃ys,ys=xs.take n++m::xs.drop n:=⟨_,rfl⟩
        have hin:ac0 aa0 m xs=ys:=by rw[hys];exact acg aa0 hnx hnew
        have hyl:ys.length≤xs.length+1:=by rw[hys];simp;omega
        refine s3 n _ J J J J (abV _) (by rw[hxl];exact hnl) rfl<|ro J J<|sc' n xs.length _ J J (by rw[hxl]) rfl (abV _) hnl (by omega) rfl<|?_
        refine ap _ J J (slD abV _ _ _) rfl<|apf (hv:=by simp only[aai];exact⟨by kernel_rfl,by omega⟩) (ho:=fun _=>⟨slT abV _ _,by simp⟩) (ys.map eQ) rfl (by rw[hys,bK,bY,fS,hJ,aY (l:=xs.map eQ) (i:=xs.length) (by simp)];rfl) (slI abV _ _ _ _) rfl<|?_
        exact at_ (ys,0+1) (by dsimp only;exact⟨⟨by rw[ade (by decide),if_neg (by simpa[atl] using hg32),←g1,←hm2,hin],by omega⟩,(by omega)⟩)
       ·
        have hin:ac0 aa0 m xs=xs:=aeV aa0 hnx (by omega) (Decidable.not_not.1 hc67)
        exact at_ (xs,0+1) (by dsimp only;exact⟨⟨by rw[ade (by decide),if_neg (by simpa[atl] using hg32),←g1,←hm2,hin],by omega⟩,(by omega)⟩)
   ·
    refine knF (fu:=⟨6⟩) J J J<|knT J J J<|?_
    refine bb (fu2:=⟨8⟩) J J J (fun hc39=>?_) (fun hc39=>?_)
    ·
     exact at_ (xs,1+1) (by dsimp only;exact⟨⟨by rw[ade (by decide),if_pos (by simpa[atl] using hc39),←g1],by omega⟩,(by omega)⟩)
    ·
     refine mg (fu:=⟨5⟩) (X:=Nat) (fun n=>[(8, .d (vI (n:Nat)))]) (fun n=>[]) (fun n=>aj2 aa0 m xs=n) [8] [] rfl ?_ (fun _=>rfl) (fun n hnx=>?_)
     ·
      refine gx rfl<|?_
      refine lp (fu:=⟨6⟩) (X:=Nat) (fun n=>[(8, .d (vI (n:Nat)))]) (fun n=>[]) (fun n=>n≤xs.length∧ ∀j (h:j<xs.length),j<n→aa0 xs[j] m<0) (fun n=>xs.length-n) 0 rfl ⟨bX _,fun j _ hj=>absurd hj (by omega)⟩ (fun _=>rfl) (fun n hk=>?_)
      obtain⟨n1,n2⟩:=hk
      refine csS (v2:=fun hg43=>by simp only[aai];kernel_rfl) J J J J (fun hg43=>?_) (fun hg43=>?_)
      ·
       refine ix _ rfl (abC (by omega)) rfl<|cl rfl (q_C (a:=xs[n]'(by omega)) (b:=m) (ha:=hxb _ (cX (by omega))) (hb:=hmb)) rfl<|?_
       refine br J J J (fun hc52=>?_) (fun hc52=>?_)
       ·
        exact at_ (n+1) ⟨⟨by omega,fun j h hj=>by by_cases q:j=n;(subst q;exact hc52);exact n2 j h (by omega)⟩,(by omega)⟩
       ·
        exact at_ n (adn aa0 n1 n2 (fun h=>hc52))
      ·
       exact at_ n (adn aa0 n1 n2 (fun h=>absurd h (by omega)))
     ·
      have hnl:n≤xs.length:=by rw[←hnx];exact aho _ _ _
      refine csS (v1:=fun hg58=>by simp only[aai];kernel_rfl) J J J J (fun hg58=>?_) (fun hg58=>?_)
      ·
       have hnew: ∀h:n<xs.length,aa0 xs[n] m≠0:=fun h=>absurd h (by omega)
       obtain⟨ys,hys⟩: ∃ys,ys=xs.take n++m::xs.drop n:=⟨_,rfl⟩
       have hin:ac0 aa0 m xs=ys:=by rw[hys];exact acg aa0 hnx hnew
       have hyl:ys.length≤xs.length+1:=by rw[hys];simp;omega
       refine s3 n _ J J J J (abV _) (by rw[hxl];exact hnl) rfl<|ro J J<|sc' n xs.length _ J J (by rw[hxl]) rfl (abV _) hnl (by omega) rfl<|?_
       refine ap _ J J (slD abV _ _ _) rfl<|apf (hv:=by simp only[aai];exact⟨by kernel_rfl,by omega⟩) (ho:=fun _=>⟨slT abV _ _,by simp⟩) (ys.map eQ) rfl (by rw[hys,bK,bY,fS,hJ,aY (l:=xs.map eQ) (i:=xs.length) (by simp)];rfl) (slI abV _ _ _ _) rfl<|?_
       exact at_ (ys,1+1) (by dsimp only;exact⟨⟨by rw[ade (by decide),if_neg (by simpa[atl] using hc39),←g1,←hm2,hin],by omega⟩,(by omega)⟩)
      ·
       refine ix _ rfl (abC (by omega)) rfl<|cl rfl (q_C (a:=xs[n]'(by omega)) (b:=m) (ha:=hxb _ (cX (by omega))) (hb:=hmb)) rfl<|?_
       refine br J J J (fun hc67=>?_) (fun hc67=>?_)
       ·
        have hnew: ∀h:n<xs.length,aa0 xs[n] m≠0:=fun h=>hc67
        obtain⟨ys,hys⟩: ∃ys,ys=xs.take n++m::xs.drop n:=⟨_,rfl⟩
        have hin:ac0 aa0 m xs=ys:=by rw[hys];exact acg aa0 hnx hnew
        have hyl:ys.length≤xs.length+1:=by rw[hys];simp;omega
        refine s3 n _ J J J J (abV _) (by rw[hxl];exact hnl) rfl<|ro J J<|sc' n xs.length _ J J (by rw[hxl]) rfl (abV _) hnl (by omega) rfl<|?_
        refine ap _ J J (slD abV _ _ _) rfl<|apf (hv:=by simp only[aai];exact⟨by kernel_rfl,by omega⟩) (ho:=fun _=>⟨slT abV _ _,by simp⟩) (ys.map eQ) rfl (by rw[hys,bK,bY,fS,hJ,aY (l:=xs.map eQ) (i:=xs.length) (by simp)];rfl) (slI abV _ _ _ _) rfl<|?_
        exact at_ (ys,1+1) (by dsimp only;exact⟨⟨by rw[ade (by decide),if_neg (by simpa[atl] using hc39),←g1,←hm2,hin],by omega⟩,(by omega)⟩)
       ·
        have hin:ac0 aa0 m xs=xs:=aeV aa0 hnx (by omega) (Decidable.not_not.1 hc67)
        exact at_ (xs,1+1) (by dsimp only;exact⟨⟨by rw[ade (by decide),if_neg (by simpa[atl] using hc39),←g1,←hm2,hin],by omega⟩,(by omega)⟩)
  ·
   have hj2: ¬j<2:=by have:=hc22;simp only[bJ,dV] at this;omega
   exact at_ (xs,k+1) (by dsimp only;exact⟨⟨by rw[akp hz,←h1,g1,show j=2 by omega];rfl,by omega⟩,(by omega)⟩)
 ·
  have hfin:aeP l=o:=by rw[h1,show k=l.length by omega];unfold aiS;rw[fZ]
  exact rz rfl (by rw[hfin];rfl)
theorem avb(t:Rat):eV ⟨t,0,false,true⟩= .ag [.v (.bool (decide (t.num<0))),dN t.num.natAbs,dD t.den, .v (.bool false), .sl [], .sl [], .v (.bool false), .v (.bool true)]:=by
 unfold eV dD
 simp only[show(0:Rat).num=0 from rfl,show(0:Rat).den=1 from rfl,kZ,adp];rfl
theorem avx(t:Rat):eV ⟨0,t,true,false⟩= .ag [.v (.bool false), .sl [], .sl [], .v (.bool (decide (t.num<0))),dN t.num.natAbs,dD t.den, .v (.bool true), .v (.bool false)]:=by
 unfold eV dD
 simp only[show(0:Rat).num=0 from rfl,show(0:Rat).den=1 from rfl,kZ,adp];rfl
def at7(l m:LnQ)(side:Int):DV:= .tp [.sl ((ad8 l m side).map eV),vB (onB l m)]
theorem anv{l m:LnQ}(h:crossI l m≠0):onB l m=false:=by unfold onB;rw[decide_eq_false];exact fun e=>h e.1
theorem as2{l m:LnQ}(h:crossI l m=0):onB l m=decide ((m.value l.base).num.sign=0):=by unfold onB;simp[h]
theorem asG{l m:LnQ}{side:Int}[hl:LB l][hm:LB m](hlo:l.ok)(hmo:m.ok)(hs:side=1∨side= -1):PF GB prog 298 [eL l,eL m,vI side] (at7 l m side):=by
 refine fn func298 J J ntmps298 J J (fun C=>?_)
 refine cl rfl (asc (l:=l) (m:=m)) rfl<|?_
 refine bb J J J (fun hc19=>?_) (fun hc19=>?_)
 ·
  have hc:crossI l m=0:=by simpa using hc19
  refine cl rfl (apN hlo.ne) rfl<|cl rfl (ans (l:=m) (p:=l.base)) rfl<|?_
  refine br J J J (fun hc26=>?_) (fun hc26=>?_)
  ·
   refine cl rfl ayc rfl<|rf J J<|?_
   exact rz rfl (by unfold at7 ad8;rw[if_pos hc,if_pos hc26,as2 hc];rfl)
  ·
   exact rz rfl (by unfold at7 ad8;rw[if_pos hc,if_neg hc26,as2 hc];rfl)
 ·
  have hc:crossI l m≠0:=by simpa using hc19
  haveI hpb:=aij (l:=l) (m:=m) hlo.ne hc
  obtain⟨t,ht⟩: ∃t,t=acn l (acM l m):=⟨_,rfl⟩
  refine cl (fu:=⟨0⟩) rfl (aly (l:=l) (p:=acM l m) hlo.ne) rfl<|?_
  refine eqF 35 (.d (eQ t)) rfl (by rw[ht]) ?_
  rw[←ht] at hpb
  refine gx rfl<|cl rfl (alw (n:=1) (by decide) (by decide)) rfl<|cl rfl (ad0 (a:=t) (b:=((1:Int):Rat))) rfl<|cl rfl (aFz (l:=l) (t:=t+((1:Int):Rat)) hlo.ne) rfl<|?_
  refine cl rfl (ans (l:=m) (p:=l.at (t+((1:Int):Rat)))) rfl<|?_
  refine br J J J (fun hc44=>?_) (fun hc44=>?_)
  ·
   refine rf J J<|?_
   exact rz rfl (by unfold at7 ad8;rw[if_neg hc,←ht,if_pos (show(m.value (l.at (t+1))).num.sign=side from hc44),anv hc,bY,avb];rfl)
  ·
   refine rf J J<|?_
   exact rz rfl (by unfold at7 ad8;rw[if_neg hc,←ht,if_neg (show¬(m.value (l.at (t+1))).num.sign=side from hc44),anv hc,bY,avx];rfl)
def eFF(f:FrQ):DV:= .ag [.v (.bool (decide (f.l.a<0))),dN f.l.a.natAbs, .v (.bool (decide (f.l.b<0))),dN f.l.b.natAbs, .v (.bool (decide (f.l.c<0))),dN f.l.c.natAbs, .v (.bool (decide (f.v.lo.num<0))),dN f.v.lo.num.natAbs,dD f.v.lo.den, .v (.bool (decide (f.v.hi.num<0))),dN f.v.hi.num.natAbs,dD f.v.hi.den, .v (.bool f.v.nl), .v (.bool f.v.nh)]
theorem akG(fs:List FrQ):adB 14 (fs.map eFF):=fun d hd=>by
 obtain⟨u,_,rfl⟩:=bR.1 hd;exact⟨rfl,rfl⟩
theorem bpZ{p:ZP}(h:ZP.le 100 p):BPt p.q 12:=by
 haveI:BI p.1 11:=biC (by have:=h.1;omega) (by decide)
 haveI:BI p.2 11:=biC (by have:=h.2;omega) (by decide)
 exact(inferInstance:BPt (iP p.1 p.2) 12)
theorem as8{v w:ZP}(hv:ZP.le 100 v)(hw:ZP.le 100 w)(h:v≠w):PF GB prog 262 [eP v.q,eP w.q] (.tp [eFF (avu v w),vB true]):=by
 have hne: ¬(w.1=v.1∧w.2=v.2):=fun e=>h (Prod.ext e.1.symm e.2.symm)
 obtain⟨hlb,hlo⟩:=ax2 (m:=v.1) (n:=v.2) (p:=w.1) (q:=w.2) (by have:=hv.1;omega) (by have:=hv.2;omega) (by have:=hw.1;omega) (by have:=hw.2;omega) hne
 haveI:=hlb
 haveI:=bpZ hv
 haveI:=bpZ hw
 refine fn func262 J J ntmps262 J J (fun C=>?_)
 refine cl (fu:=⟨3⟩) rfl (ajp (m:=v.1) (n:=v.2) (m':=w.1) (n':=w.2) (by have:=hv.1;omega) (by have:=hv.2;omega) (by have:=hw.1;omega) (by have:=hw.2;omega) (fun e=>hne ⟨e.1.symm,e.2.symm⟩)) rfl<|?_
 refine kbT 13 rfl ?_
 refine gx rfl<|cl rfl (aly (l:=aqp v.1 v.2 w.1 w.2) (p:=v.q) hlo.ne) rfl<|cl rfl (aly (l:=aqp v.1 v.2 w.1 w.2) (p:=w.q) hlo.ne) rfl<|?_
 exact rz J J
theorem aEL(a b:Bool):eV ⟨0,0,a,b⟩= .ag [.v (.bool false), .sl [], .sl [], .v (.bool false), .sl [], .sl [], .v (.bool a), .v (.bool b)]:=by
 unfold eV dD
 simp only[show(0:Rat).num=0 from rfl,show(0:Rat).den=1 from rfl,kZ,adp];rfl
theorem aCq(t:Rat)(a b:Bool):eV ⟨t,0,a,b⟩= .ag [.v (.bool (decide (t.num<0))),dN t.num.natAbs,dD t.den, .v (.bool false), .sl [], .sl [], .v (.bool a), .v (.bool b)]:=by
 unfold eV dD
 simp only[show(0:Rat).num=0 from rfl,show(0:Rat).den=1 from rfl,kZ,adp];rfl
theorem aEE(t:Rat)(a b:Bool):eV ⟨0,t,a,b⟩= .ag [.v (.bool false), .sl [], .sl [], .v (.bool (decide (t.num<0))),dN t.num.natAbs,dD t.den, .v (.bool a), .v (.bool b)]:=by
 unfold eV dD
 simp only[show(0:Rat).num=0 from rfl,show(0:Rat).den=1 from rfl,kZ,adp];rfl
theorem aAy{cuts:List Rat}{i:Nat}(h:i=0)(k: ¬i<cuts.length):afp cuts i=⟨0,0,decide (i=0),decide (i=cuts.length)⟩:=by unfold afp;rw[if_pos h,if_neg k]
theorem azj{cuts:List Rat}{i:Nat}{y:Rat}(h:i=0)(k:cuts[i]? =some y):afp cuts i=⟨0,y,decide (i=0),decide (i=cuts.length)⟩:=by
 unfold afp;rw[if_pos h,if_pos (aN.1 k).1,aK,k];rfl
theorem azm{cuts:List Rat}{i:Nat}{x:Rat}(h: ¬i=0)(k:cuts[i-1]? =some x)(k2: ¬i<cuts.length):afp cuts i=⟨x,0,decide (i=0),decide (i=cuts.length)⟩:=by
 unfold afp;rw[if_neg h,if_neg k2,aK,k];rfl
theorem azf{cuts:List Rat}{i:Nat}{x y:Rat}(h: ¬i=0)(k:cuts[i-1]? =some x)(k2:cuts[i]? =some y):afp cuts i=⟨x,y,decide (i=0),decide (i=cuts.length)⟩:=by
 unfold afp;rw[if_neg h,if_pos (aN.1 k2).1,aK,k,aK,k2];rfl
theorem awm{cuts:List Rat}{marks:List Bool}{k:Nat}(h:marks[k]? =some false):adf cuts marks (k+1)=adf cuts marks k:=by
 rw[adf,aK,h];rfl
theorem ahh{cuts:List Rat}{marks:List Bool}{k:Nat}(h:marks[k]? =some true)(hp: ¬(0<k∧marks[k-1]? =some true)):adf cuts marks (k+1)=adf cuts marks k++[afp cuts k]:=by
 rw[adf,aK,h]
 show(if 0<k∧_ then _ else _)=_
 rw[if_neg]
 rintro ⟨h1,h2⟩
 rw[aK] at h2
 cases e:marks[k-1]? with
 |none=>rw[e] at h2;cases h2
 |some b=>rw[e] at h2;exact hp ⟨h1,by rw[e];simp at h2;rw[h2]⟩
theorem apL{cuts:List Rat}{marks:List Bool}{k:Nat}(h:marks[k]? =some true):adf cuts marks (k+1)≠[]:=by
 rw[adf,aK,h]
 show(if 0<k∧_ then _ else _)≠[]
 split
 ·split<;>simp
 ·simp
theorem akE{cuts:List Rat}{marks:List Bool}{k:Nat}{xs:List IvQ}{v:IvQ}(hk:0<k)(h:marks[k]? =some true)(hp:marks[k-1]? =some true)(hx:adf cuts marks k=xs)(hv:xs[xs.length-1]? =some v):adf cuts marks (k+1)=xs.set (xs.length-1) (amm v (afp cuts k)):=by
 rw[adf,aK,h]
 show(if 0<k∧_ then _ else _)=_
 rw[if_pos ⟨hk,by rw[aK,hp];rfl⟩,hx,kR,hv]
 have hn:0<xs.length:=by
  have:=(aN.1 hv).1;omega
 show xs.dropLast++[_]=_
 apply jT
 intro i
 rw[oX]
 by_cases hi:i<xs.length-1
 ·rw[fX (by rw[gR];exact hi),qL,if_pos hi,if_neg (by omega)]
 ·by_cases hi2:i=xs.length-1
  ·subst hi2
   rw[fV (by rw[gR];exact bZ _),gR,oS,if_pos rfl,if_pos (by omega)];rfl
  ·rw[cS (by rw[aV,gR];simp;omega),if_neg (by omega),cS (by omega)]
theorem afN{α:Type}{f:α→DV}{l:List α}{k:Nat}{x:α}(hk:0<k)(h:l[k-1]? =some x):(l.map f)[(((k:Nat):Int)-1).toNat]? =some (f x):=by
 rw[show(((k:Nat):Int)-1).toNat=k-1 by omega,dZ,h];rfl
theorem au6{k n:Nat}:decide (k=n)=decide (((k:Nat):Int)=((n:Nat):Int)):=decide_eq_decide.2 (by omega)
def aGF(v w:IvQ):IvQ:=⟨v.lo,w.hi,v.nl,v.nh⟩
theorem aBi{cuts:List Rat}{marks:List Bool}(hn:cuts.length≤100000)(hmk:marks.length≤cuts.length+1):PF GB prog 316 [.sl (cuts.map eQ), .sl (marks.map vB)] (.sl ((aoN cuts marks).map eV)):=by
 have hm:=aau vB marks
 have hmc:=aau eQ cuts
 refine fn (fu:=⟨15⟩) func316 J J ntmps316 J J (fun C=>?_)
 refine eqF 11 (.d (vI (marks.length:Nat))) rfl (by rw[hm]<;>rfl) ?_
 refine gx rfl<|?_
 refine nr 5 5 292 8 J J J ?_
 refine lp (X:=List IvQ×Nat) (fun⟨xs,k⟩=>[(12, .d (vI (k:Nat))),(5, .rw 5)]) (fun⟨xs,k⟩=>[(5,some (.b 292 8 (xs.map eV) true))]) (fun⟨xs,k⟩=>xs=adf cuts marks k∧k≤marks.length) (fun⟨xs,k⟩=>marks.length-k) ([],0) rfl ⟨rfl,bX _⟩ (fun _=>rfl) (fun⟨xs,k⟩ hk=>?_)
 dsimp only at hk⊢
 obtain⟨h1,h2⟩:=hk
 have hml:=aau eV xs
 have hxl:xs.length≤k:=by rw[h1];exact aju
 refine br J J J (fun hc13=>?_) (fun hc13=>?_)
 ·
  obtain⟨b,hz⟩: ∃s,marks[k]? =some s:=⟨_,aZ (by omega)⟩
  refine ix (fu:=⟨8⟩) _ rfl (aav hz) rfl<|?_
  cases b
  ·
   refine knF (fu:=⟨12⟩) J J J<|?_
   exact at_ (xs,k+1) (by dsimp only;exact⟨⟨by rw[awm hz,←h1],by omega⟩,(by omega)⟩)
  ·
   refine knT (fu:=⟨13⟩) J J J<|?_
   rcases(show(k=0∧k<cuts.length)∨(k=0∧ ¬k<cuts.length)∨(0<k∧k<cuts.length)∨(0<k∧ ¬k<cuts.length) by omega) with⟨c1,c2⟩|⟨c1,c2⟩|⟨c1,c2⟩|⟨c1,c2⟩
   ·
    obtain⟨y,hy⟩: ∃s,cuts[k]? =some s:=⟨_,aZ (by omega)⟩
    have hgap:=azj (cuts:=cuts) (i:=k) c1 hy
    have hnp: ¬(0<k∧marks[k-1]? =some true):=fun e=>by omega
    refine eqF 23 (.d (vI (cuts.length:Nat))) rfl (by rw[hmc]<;>rfl) ?_
    refine gx (fu:=⟨10⟩) rfl<|knF (fu:=⟨11⟩) rfl (by show some (decide _)=some false;rw[decide_eq_false (by omega)]) rfl<|?_
    refine eqF 36 (.d (vI (cuts.length:Nat))) rfl (by rw[hmc]<;>rfl) ?_
    refine gx (fu:=⟨0⟩) rfl<|knT rfl (by show some (decide _)=some true;rw[decide_eq_true (by omega)]) rfl<|ix (fu:=⟨10⟩) _ rfl (aav hy) rfl<|?_
    refine eqF 44 (.d (vI (xs.length:Nat))) rfl (by rw[hml]<;>rfl) ?_
    refine gx (fu:=⟨6⟩) rfl<|knF (fu:=⟨19⟩) rfl (by show some (decide _)=some false;rw[decide_eq_false (by omega)]) rfl<|?_
    refine eqF 73 (.d (eV (afp cuts k))) rfl (by rw[hgap,aEE,au6 (k:=k) (n:=0),au6 (k:=k) (n:=cuts.length)]<;>rfl) ?_
    refine gx rfl<|rf J J<|ap (fu:=⟨12⟩) ((xs++[afp cuts k]).map eV) rfl (by rw[bK];rfl) (arj [afp cuts k]) rfl<|?_
    refine rnE 75 5 rfl ?_
    exact at_ (xs++[afp cuts k],k+1) (by dsimp only;exact⟨⟨by rw[ahh hz hnp,←h1],by omega⟩,(by omega)⟩)
   ·
    have hgap:=aAy (cuts:=cuts) (i:=k) c1 c2
    have hnp: ¬(0<k∧marks[k-1]? =some true):=fun e=>by omega
    refine eqF 23 (.d (vI (cuts.length:Nat))) rfl (by rw[hmc]<;>rfl) ?_
    refine gx (fu:=⟨10⟩) rfl<|knF (fu:=⟨11⟩) rfl (by show some (decide _)=some false;rw[decide_eq_false (by omega)]) rfl<|?_
    refine eqF 36 (.d (vI (cuts.length:Nat))) rfl (by rw[hmc]<;>rfl) ?_
    refine gx (fu:=⟨0⟩) rfl<|knF (fu:=⟨10⟩) rfl (by show some (decide _)=some false;rw[decide_eq_false (by omega)]) rfl<|?_
    refine eqF 44 (.d (vI (xs.length:Nat))) rfl (by rw[hml]<;>rfl) ?_
    refine gx (fu:=⟨6⟩) rfl<|knF (fu:=⟨19⟩) rfl (by show some (decide _)=some false;rw[decide_eq_false (by omega)]) rfl<|?_
    refine eqF 73 (.d (eV (afp cuts k))) rfl (by rw[hgap,aEL,au6 (k:=k) (n:=0),au6 (k:=k) (n:=cuts.length)]<;>rfl) ?_
    refine gx rfl<|rf J J<|ap (fu:=⟨12⟩) ((xs++[afp cuts k]).map eV) rfl (by rw[bK];rfl) (arj [afp cuts k]) rfl<|?_
    refine rnE 75 5 rfl ?_
    exact at_ (xs++[afp cuts k],k+1) (by dsimp only;exact⟨⟨by rw[ahh hz hnp,←h1],by omega⟩,(by omega)⟩)
   ·
    obtain⟨x,hx⟩: ∃s,cuts[k-1]? =some s:=⟨_,aZ (by omega)⟩
    obtain⟨pb,hpb⟩: ∃s,marks[k-1]? =some s:=⟨_,aZ (by omega)⟩
    obtain⟨y,hy⟩: ∃s,cuts[k]? =some s:=⟨_,aZ (by omega)⟩
    have hgap:=azf (cuts:=cuts) (i:=k) (by omega) hx hy
    refine eqF 23 (.d (vI (cuts.length:Nat))) rfl (by rw[hmc]<;>rfl) ?_
    refine gx (fu:=⟨10⟩) rfl<|knT rfl (by show some (decide _)=some true;rw[decide_eq_true (by omega)]) rfl<|ix (fu:=⟨11⟩) _ rfl (afN (by omega) hx) rfl<|?_
    refine eqF 36 (.d (vI (cuts.length:Nat))) rfl (by rw[hmc]<;>rfl) ?_
    refine gx (fu:=⟨0⟩) rfl<|knT rfl (by show some (decide _)=some true;rw[decide_eq_true (by omega)]) rfl<|ix (fu:=⟨10⟩) _ rfl (aav hy) rfl<|?_
    refine eqF 44 (.d (vI (xs.length:Nat))) rfl (by rw[hml]<;>rfl) ?_
    refine gx (fu:=⟨6⟩) rfl<|knT rfl (by show some (decide _)=some true;rw[decide_eq_true (by omega)]) rfl<|ix _ rfl (afN (by omega) hpb) rfl<|?_
    refine csb (fu1:=⟨1⟩) (fu2:=⟨11⟩) 54 J J J (fun hg54=>?_) (fun hg54=>?_)
    ·
     have hpb':marks[k-1]? =some true:=by rw[hpb];congr 1
     have hxn:0<xs.length:=by rw[h1];have:=apL (cuts:=cuts) hpb';rw[show k-1+1=k by omega] at this;exact lK.2 this
     obtain⟨w,hw⟩: ∃s,xs[xs.length-1]? =some s:=⟨_,aZ (by omega)⟩
     refine knT rfl (by show some (decide _)=some true;rw[decide_eq_true (by omega)]) rfl<|sb (eV w) ((xs.set (xs.length-1) (⟨w.lo,y,w.nl,w.nh⟩:IvQ)).map eV) rfl (afN hxn hw) rfl (by rw[show(((xs.length:Nat):Int)-1).toNat=xs.length-1 by omega,jY];rfl) rfl<|?_
     refine sb (hv:=by simp only[aai];exact⟨by kernel_rfl,by omega⟩) (eV (⟨w.lo,y,w.nl,w.nh⟩:IvQ)) ((xs.set (xs.length-1) (amm w (afp cuts k))).map eV) rfl (by rw[show(((xs.length:Nat):Int)-1).toNat=xs.length-1 by omega,jY,lW (by rw[hml];omega)]) rfl (by rw[show(((xs.length:Nat):Int)-1).toNat=xs.length-1 by omega,jY,List.set_set,jY,hgap];unfold amm;dsimp only;rw[au6 (k:=k) (n:=cuts.length)]<;>rfl) rfl<|?_
     exact at_ (xs.set (xs.length-1) (amm w (afp cuts k)),k+1) (by dsimp only;exact⟨⟨(akE (by omega) hz hpb' h1.symm hw).symm,by omega⟩,(by omega)⟩)
    ·
     have hnp: ¬(0<k∧marks[k-1]? =some true):=fun e=>by rw[hpb,hg54] at e;simpa using e.2
     refine eqF 73 (.d (eV (afp cuts k))) rfl (by rw[hgap];unfold eV;dsimp only;rw[au6 (k:=k) (n:=0),au6 (k:=k) (n:=cuts.length)]<;>rfl) ?_
     refine gx rfl<|rf J J<|ap (fu:=⟨12⟩) ((xs++[afp cuts k]).map eV) rfl (by rw[bK];rfl) (arj [afp cuts k]) rfl<|?_
     refine rnE 75 5 rfl ?_
     exact at_ (xs++[afp cuts k],k+1) (by dsimp only;exact⟨⟨by rw[ahh hz hnp,←h1],by omega⟩,(by omega)⟩)
   ·
    obtain⟨x,hx⟩: ∃s,cuts[k-1]? =some s:=⟨_,aZ (by omega)⟩
    obtain⟨pb,hpb⟩: ∃s,marks[k-1]? =some s:=⟨_,aZ (by omega)⟩
    have hgap:=azm (cuts:=cuts) (i:=k) (by omega) hx c2
    refine eqF 23 (.d (vI (cuts.length:Nat))) rfl (by rw[hmc]<;>rfl) ?_
    refine gx (fu:=⟨10⟩) rfl<|knT rfl (by show some (decide _)=some true;rw[decide_eq_true (by omega)]) rfl<|ix (fu:=⟨11⟩) _ rfl (afN (by omega) hx) rfl<|?_
    refine eqF 36 (.d (vI (cuts.length:Nat))) rfl (by rw[hmc]<;>rfl) ?_
    refine gx (fu:=⟨0⟩) rfl<|knF (fu:=⟨10⟩) rfl (by show some (decide _)=some false;rw[decide_eq_false (by omega)]) rfl<|?_
    refine eqF 44 (.d (vI (xs.length:Nat))) rfl (by rw[hml]<;>rfl) ?_
    refine gx (fu:=⟨6⟩) rfl<|knT rfl (by show some (decide _)=some true;rw[decide_eq_true (by omega)]) rfl<|ix _ rfl (afN (by omega) hpb) rfl<|?_
    refine csb (fu1:=⟨1⟩) (fu2:=⟨11⟩) 54 J J J (fun hg54=>?_) (fun hg54=>?_)
    ·
     have hpb':marks[k-1]? =some true:=by rw[hpb];congr 1
     have hxn:0<xs.length:=by rw[h1];have:=apL (cuts:=cuts) hpb';rw[show k-1+1=k by omega] at this;exact lK.2 this
     obtain⟨w,hw⟩: ∃s,xs[xs.length-1]? =some s:=⟨_,aZ (by omega)⟩
     refine knT rfl (by show some (decide _)=some true;rw[decide_eq_true (by omega)]) rfl<|sb (eV w) ((xs.set (xs.length-1) (⟨w.lo,0,w.nl,w.nh⟩:IvQ)).map eV) rfl (afN hxn hw) rfl (by rw[show(((xs.length:Nat):Int)-1).toNat=xs.length-1 by omega,jY,aCq];rfl) rfl<|?_
     refine sb (hv:=by simp only[aai];exact⟨by kernel_rfl,by omega⟩) (eV (⟨w.lo,0,w.nl,w.nh⟩:IvQ)) ((xs.set (xs.length-1) (amm w (afp cuts k))).map eV) rfl (by rw[show(((xs.length:Nat):Int)-1).toNat=xs.length-1 by omega,jY,lW (by rw[hml];omega)]) rfl (by rw[show(((xs.length:Nat):Int)-1).toNat=xs.length-1 by omega,jY,List.set_set,jY,hgap];unfold amm;dsimp only;rw[au6 (k:=k) (n:=cuts.length)]<;>rfl) rfl<|?_
     exact at_ (xs.set (xs.length-1) (amm w (afp cuts k)),k+1) (by dsimp only;exact⟨⟨(akE (by omega) hz hpb' h1.symm hw).symm,by omega⟩,(by omega)⟩)
    ·
     have hnp: ¬(0<k∧marks[k-1]? =some true):=fun e=>by rw[hpb,hg54] at e;simpa using e.2
     refine eqF 73 (.d (eV (afp cuts k))) rfl (by rw[hgap,aCq,au6 (k:=k) (n:=0),au6 (k:=k) (n:=cuts.length)]<;>rfl) ?_
     refine gx rfl<|rf J J<|ap ((xs++[afp cuts k]).map eV) rfl (by rw[bK];rfl) (arj [afp cuts k]) rfl<|?_
     refine rnE 75 5 rfl ?_
     exact at_ (xs++[afp cuts k],k+1) (by dsimp only;exact⟨⟨by rw[ahh hz hnp,←h1],by omega⟩,(by omega)⟩)
 ·
  have hfin:aoN cuts marks=xs:=by rw[h1,aoN,show k=marks.length by omega]
  refine fzE 5 rfl ?_
  exact rz rfl (by rw[hfin];rfl)
theorem ak0{g:Rat}: ∀{l:List Rat},g∈aeD l→ ∃a∈l,∃b∈l,g=(a+b)/2
 |[],h=>by cases h
 |[_],h=>by cases h
 |a::b::t,h=>by
  rw[aeD] at h
  rcases aT.1 h with rfl|h
  ·exact⟨a,aQ,b,aX _ aQ,rfl⟩
  ·obtain⟨c,hc,d,hd,e⟩:=ak0 h
   exact⟨c,aX _ hc,d,aX _ hd,e⟩
theorem az2{l:List Rat}(h: ∀q∈l,BQ q 1200): ∀g∈aaZ l,BQ g 2500:=fun g hg=>by
 cases l with
 |nil=>
  rw[aaZ,aR] at hg;subst hg
  exact BQ.mono (k:=1) ⟨by decide,by decide⟩ (by decide)
 |cons a t=>
  rw[aaZ] at hg
  rcases aT.1 hg with rfl|hg
  ·haveI:=h a aQ
   exact BQ.mono (inferInstance:BQ (a-1) _) (by omega)
  ·rcases bV.1 hg with hg|hg
   ·obtain⟨c,hc,d,hd,rfl⟩:=ak0 hg
    haveI:=h c hc
    haveI:=h d hd
    exact BQ.mono (inferInstance:BQ ((c+d)/2) _) (by omega)
   ·rw[aR] at hg
    haveI:=h _ (List.getLast_mem (l:=a::t) (by simp))
    subst hg
    exact BQ.mono (inferInstance:BQ ((a::t).getLast (by simp)+1) _) (by omega)
theorem akK(l:List IvQ):aiS l l.length=aeP l:=by unfold aiS;rw[fZ]
theorem avU{l:List IvQ}(h: ∀v∈l,IvB v): ∀y∈aeP l,BQ y 1200:=by rw[←akK];exact apz h
theorem aiO(l:List IvQ):(aeP l).length≤2*l.length:=by rw[←akK];exact ag0 l _
theorem IvB.app{a b:List IvQ}(ha: ∀v∈a,IvB v)(hb: ∀v∈b,IvB v): ∀v∈a++b,IvB v:=fun v hv=>(bV.1 hv).elim (ha v) (hb v)
theorem ank{a b:List IvQ}(ha: ∀v∈a,IvB v)(hb: ∀v∈b,IvB v)(hna:a.length≤100)(hnb:b.length≤100):PF GB prog 299 [vI 2, .sl (a.map eV), .sl (b.map eV)] (.sl ((ai6 2 a b).map eV)):=by
 obtain⟨cuts,hcu⟩: ∃c,c=aeP (a++b):=⟨_,rfl⟩
 have hab:=IvB.app ha hb
 have hcb: ∀q∈cuts,BQ q 1200:=by rw[hcu];exact avU hab
 have hcl:cuts.length≤2*(a.length+b.length):=by rw[hcu];have:=aiO (a++b);rw[aV] at this;exact this
 have hgb:=az2 hcb
 have hgl:=aev (l:=cuts)
 have hmp:=aau eQ (aaZ cuts)
 refine fn func299 J J ntmps299 J J (fun C=>?_)
 refine ro0 J J<|ap (a.map eV) J J (arj _) rfl<|apf ((a++b).map eV) rfl (by rw[bK]) (arj b) rfl<|cl (fu:=⟨0⟩) rfl (aDz (l:=a++b) hab (by rw[aV];omega)) rfl<|?_
 refine eqF 19 (.d (.sl (cuts.map eQ))) rfl (by rw[hcu]) ?_
 refine gx rfl<|cl (fu:=⟨1⟩) rfl (aw8 (cuts:=cuts) hcb (by omega)) rfl<|?_
 refine eqF 22 (.d (vI ((cuts.length+1:Nat):Int))) rfl (by rw[hmp,hgl]<;>rfl) ?_
 refine gx rfl<|?_
 refine nr 8 8 4 1 J J J ?_
 refine lp (X:=Nat) (fun k=>[(23, .d (vI (k:Nat))),(8, .rw 8)]) (fun k=>[(8,some (.b 4 1 ((((aaZ cuts).map (fun t=>ahK 2 (acU a t) (acU b t))).take k).map vB) true))]) (fun k=>k≤cuts.length+1) (fun k=>cuts.length+1-k) 0 rfl (bX _) (fun _=>rfl) (fun k hk=>?_)
 have hml:(((((aaZ cuts).map (fun t=>ahK 2 (acU a t) (acU b t))).take k).map vB)).length=k:=by rw[aJ,cK,aJ,hgl];omega
 refine br (fu2:=⟨0⟩) J J J (fun hc24=>?_) (fun hc24=>?_)
 ·
  obtain⟨t,hz⟩: ∃s,(aaZ cuts)[k]? =some s:=⟨_,aZ (by omega)⟩
  haveI:=hgb t (bQ hz)
  have hz2:((aaZ cuts).map (fun t=>ahK 2 (acU a t) (acU b t)))[k]? =some (ahK 2 (acU a t) (acU b t)):=by rw[dZ,hz];rfl
  refine ix _ rfl (aav hz) rfl<|cl rfl (aDw (l:=a) (t:=t) ha (by omega)) rfl<|cl (fu:=⟨6⟩) rfl (aDw (l:=b) (t:=t) hb (by omega)) rfl<|?_
  cases hx:acU a t
  ·
   refine knF (fu:=⟨15⟩) J J J<|knT (fu:=⟨5⟩) J J J<|knF J J J<|rf J J<|ap (fu:=⟨8⟩) ((((aaZ cuts).map (fun t=>ahK 2 (acU a t) (acU b t))).take (k+1)).map vB) rfl (by rw[←abp hz2,hx];rfl) (aCD [false]) rfl<|?_
   refine rnE 59 8 rfl ?_
   exact at_ (k+1) ⟨(by omega),(by omega)⟩
  ·
   refine knT (fu:=⟨15⟩) J J J<|knT (fu:=⟨5⟩) J J J<|knT J J J<|rf J J<|ap ((((aaZ cuts).map (fun t=>ahK 2 (acU a t) (acU b t))).take (k+1)).map vB) rfl (by rw[←abp hz2,hx];rfl) (aCD [_]) rfl<|?_
   refine rnE 59 8 rfl ?_
   exact at_ (k+1) ⟨(by omega),(by omega)⟩
 ·
  obtain rfl:k=cuts.length+1:=by omega
  have htk:((aaZ cuts).map (fun t=>ahK 2 (acU a t) (acU b t))).take (cuts.length+1)=(aaZ cuts).map (fun t=>ahK 2 (acU a t) (acU b t)):=aY (by rw[aJ,hgl];exact bZ _)
  rw[htk]
  refine fzC 8 rfl ?_
  refine gx rfl<|cl rfl (aBi (cuts:=cuts) (marks:=(aaZ cuts).map (fun t=>ahK 2 (acU a t) (acU b t))) (by omega) (by rw[aJ,hgl];exact bZ _)) rfl<|?_
  exact rz rfl (by unfold ai6;rw[←hcu];rfl)
def aA3(op:Int)(a b:Tr):Bool:=decide ((a.mergeQ op b []).isLeaf=true∧(a.mergeQ op b []).code=false)
theorem aq4{op:Int}{a b:Tr}{L:List LnQ}(ha: ∀l∈a.lns,l∈L)(hb: ∀l∈b.lns,l∈L)(c:aan): ∀l∈(a.mergeQ op b c).lns,l∈L:=
 acB.1 (Tr.mergeQ_all (· ∈L) op (acB.2 hb) a c (acB.2 ha))
def aD3(a b:Tr):Int:=if aA3 4 a b then 0 else if aA3 3 a b then-1 else if aA3 3 b a then 1 else 2
def atQ:Tr→PtQ→Bool
 | .leaf b,_=>b
 | .node l x y,p=>if(l.value p).num.sign=1 then atQ x p else if(l.value p).num.sign= -1 then atQ y p else false
theorem ald: ∀{t:Tr} {p:PtQ},Off t.lns p→atQ t p=t.val p
 | .leaf b,p,_=>rfl
 | .node l x y,p,h=>by
  rw[atQ,Tr.val]
  have h0:=h.l
  by_cases h1:0<l.value p
  ·rw[if_pos ((adF _).2 h1),if_pos h1,ald h.x]
  ·have h2:l.value p<0:=by grind
   have h3:=(ajd _).2 h2
   have h4:(l.value p).num.sign= -1:=by
    rcases Int.sign_trichotomy (l.value p).num with e|e|e<;>omega
   rw[if_neg (by omega),if_pos h4,if_neg h1,ald h.y]
theorem aio{α:Type}{c:α→α→Int}(hc: ∀u x,c u x=0→u=x){x y:α}: ∀{xs:List α},y=x∨y∈xs→y∈ac0 c x xs
 |[],h=>by
  rcases h with rfl|h
  ·rw[ac0];exact aR.2 rfl
  ·cases h
 |u::t,h=>by
  rw[ac0]
  split
  ·rcases h with rfl|h
   ·exact aX _ (aio hc (.inl rfl))
   ·rcases aT.1 h with rfl|h
    ·exact aQ
    ·exact aX _ (aio hc (.inr h))
  ·split
   ·rename_i h0
    rcases h with rfl|h
    ·rw[←hc _ _ h0];exact aQ
    ·exact h
   ·rcases h with rfl|h
    ·exact aQ
    ·exact aX _ h
theorem akx{α:Type}{c:α→α→Int}(hc: ∀u x,c u x=0→u=x){y:α}: ∀{l o:List α},y∈l∨y∈o→y∈l.foldl (fun out x=>ac0 c x out) o
 |[],o,h=>h.elim (fun h=>by cases h) id
 |x::t,o,h=>by
  refine akx hc (l:=t) ?_
  rcases h with h|h
  ·rcases aT.1 h with rfl|h
   ·exact .inr (aio hc (.inl rfl))
   ·exact .inl h
  ·exact .inr (aio hc (.inr h))
theorem awT{ls:List LnQ}{x:LnQ}(h:x∈ls):x.canon∈aa5 ls:=
 akx (fun u x e=>(afr u x).1 e) (.inl (pK h))
theorem ajs(l:LnQ)(p:PtQ):l.canon.value p=l.value p∨l.canon.value p= -l.value p:=by
 unfold LnQ.canon
 split
 ·exact .inr (aaY l p)
 ·exact .inl rfl
theorem alb{ls:List LnQ}{p:PtQ}:Off (aa5 ls) p↔Off ls p:=by
 constructor
 ·intro h l hl e
  have:=h _ (awT hl)
  rcases ajs l p with k|k<;>rw[k,e] at this<;>exact this (by simp)
 ·intro h l hl e
  obtain⟨x,hx,rfl⟩:=afg hl
  have:=h x hx
  rcases ajs x p with k|k<;>rw[k] at e
  ·exact this e
  ·exact this (by grind)
def fcs(a b:Tr):List PtQ:=adW (aa5 (a.lns++b.lns))
def eqR(a b:Tr):Bool:=(fcs a b).all fun p=>atQ a p==atQ b p
def aG1(f:Bool→Bool→Bool)(a b:Tr):Bool:=(fcs a b).any fun p=>f (atQ a p) (atQ b p)
def aGA(v:Bool)(t:Tr):Bool:=decide ((t.restrict []).isLeaf=true∧(t.restrict []).code=v)
theorem at9(l:List Rat):ach l=ahF aa0 l:=by
 unfold ach ahF
 have key: ∀(l o:List Rat),l.foldl (fun out x=>amc x out) o=l.foldl (fun out x=>ac0 aa0 x out) o:=by
  intro l
  induction l with
  |nil=>intro o;rfl
  |cons a t ih=>intro o;rw[jL,jL,akY,ih]
 exact key l []
theorem agM(l:List Rat):(ach l).length≤l.length:=by
 have:=agw aa0 l []
 rw[at9];simpa[ahF] using this
theorem aln{k:Nat}{l:List Rat}(h: ∀q∈l,BQ q k): ∀g∈aaZ l,BQ g (2*k+100):=fun g hg=>by
 cases l with
 |nil=>
  rw[aaZ,aR] at hg;subst hg
  exact BQ.mono (k:=1) ⟨by decide,by decide⟩ (by omega)
 |cons a t=>
  rw[aaZ] at hg
  rcases aT.1 hg with rfl|hg
  ·haveI:=h a aQ
   exact BQ.mono (inferInstance:BQ (a-1) _) (by omega)
  ·rcases bV.1 hg with hg|hg
   ·obtain⟨c,hc,d,hd,rfl⟩:=ak0 hg
    haveI:=h c hc
    haveI:=h d hd
    exact BQ.mono (inferInstance:BQ ((c+d)/2) _) (by omega)
   ·rw[aR] at hg
    haveI:=h _ (List.getLast_mem (l:=a::t) (by simp))
    subst hg
    exact BQ.mono (inferInstance:BQ ((a::t).getLast (by simp)+1) _) (by omega)
def mtQ(a:LnQ)(t:List LnQ):List Rat:=t.filterMap fun b=>if crossI a b=0 then none else some (acM a b).x
theorem alt(a:LnQ)(t:List LnQ):xsQ (a::t)=(if a.b=0 then [a.base.x] else [])++(mtQ a t++xsQ t):=rfl
theorem azZ(a:LnQ)(t:List LnQ):(mtQ a t).length≤t.length:=List.length_filterMap_le _ _
theorem aoZ: ∀l:List LnQ,(xsQ l).length≤l.length*(l.length+1)
 |[]=>bZ _
 |a::t=>by
  have h1:=aoZ t
  have h2:=azZ a t
  have h3:(if a.b=0 then [a.base.x] else []).length≤1:=by split<;>simp
  rw[alt,aV,aV,bJ]
  have e:(t.length+1)*(t.length+1+1)=t.length*(t.length+1)+2*t.length+2:=by simp only[cW,dQ];omega
  rw[e];omega
theorem an3: ∀{l:List LnQ},(∀a∈l,LB a)→ ∀x∈xsQ l,BQ x 900
 |[],_,x,h=>by cases h
 |a::t,hl,x,h=>by
  haveI:=hl a aQ
  have ht: ∀b∈t,LB b:=fun b hb=>hl b (aX _ hb)
  rw[alt] at h
  rcases bV.1 h with h|h
  ·split at h
   ·rw[aR] at h;subst h;infer_instance
   ·cases h
  ·rcases bV.1 h with h|h
   ·obtain⟨b,hb,e⟩:=List.mem_filterMap.1 h
    haveI:=ht b hb
    split at e
    ·cases e
    ·cases e;exact BQ.mono (inferInstance:BQ (acM a b).x 772) (by decide)
   ·exact an3 ht x h
theorem auv(l:List LnQ)(x:Rat):(ysQ l x).length≤l.length:=List.length_filterMap_le _ _
theorem ayt{l:List LnQ}(hl: ∀a∈l,LB a){x:Rat}(hx:BQ x 1900): ∀y∈ysQ l x,BQ y 2400:=fun y hy=>by
 obtain⟨a,ha,hb,rfl⟩:=aEU hy
 haveI:=hl a ha
 unfold yA
 exact BQ.mono (inferInstance:BQ (-(((a.a:Rat)*x+(a.c:Rat))/(a.b:Rat))) _) (by omega)
theorem apH{l:List LnQ}{k:Nat}{a:LnQ}{x:Rat}(h:l[k]? =some a):ysQ (l.drop k) x=(if a.b=0 then [] else [yA a x])++ysQ (l.drop (k+1)) x:=by
 obtain⟨hk,rfl⟩:=aN.1 h
 rw[aM hk]
 unfold ysQ
 rw[List.filterMap_cons]
 split<;>(rename_i e;split at e<;>simp_all)
theorem apq{t:List LnQ}{k:Nat}{a b:LnQ}(h:t[k]? =some b):mtQ a (t.drop k)=(if crossI a b=0 then [] else [(acM a b).x])++mtQ a (t.drop (k+1)):=by
 obtain⟨hk,rfl⟩:=aN.1 h
 rw[aM hk]
 unfold mtQ
 rw[List.filterMap_cons]
 split<;>(rename_i e;split at e<;>simp_all)
theorem apj{l:List LnQ}{k:Nat}{a:LnQ}(h:l[k]? =some a):xsQ (l.drop k)=(if a.b=0 then [a.base.x] else [])++(mtQ a (l.drop (k+1))++xsQ (l.drop (k+1))):=by
 obtain⟨hk,rfl⟩:=aN.1 h
 rw[aM hk,alt]
theorem adz{α:Type}{a b c:List α}(h:a++b=c):a.length≤c.length:=by rw[←h,aV];omega
def azP(l:List LnQ)(x:Rat):List PtQ:=(aaZ (ach (ysQ l x))).map fun y=>⟨x,y⟩
theorem arb(l:List LnQ):adW l=(aaZ (ach (xsQ l))).flatMap (azP l):=rfl
theorem aqL(l:List LnQ)(x:Rat):(azP l x).length≤l.length+1:=by
 unfold azP
 rw[aJ,aev]
 have:=agM (ysQ l x)
 have:=auv l x
 omega
theorem amZ{α β:Type}(f:α→List β)(m:Nat): ∀l:List α,(∀x,(f x).length≤m)→(l.flatMap f).length≤l.length*m
 |[],_=>by simp
 |a::t,h=>by
  have:=amZ f m t h
  have:=h a
  rw[qS,aV,bJ,fM];omega
theorem amI{l:List LnQ}(h:l.length≤6000):(aaZ (ach (xsQ l))).length≤36006001:=by
 have h1:=aoZ l
 have h2:=agM (xsQ l)
 have h3:l.length*(l.length+1)≤6000*6001:=gM h (by omega)
 rw[aev];omega
theorem amA{l:List LnQ}(h:l.length≤6000):(adW l).length≤216072012001:=by
 have h1:=amZ (azP l) 6001 (aaZ (ach (xsQ l))) (fun x=>by have:=aqL l x;omega)
 have h2:(aaZ (ach (xsQ l))).length*6001≤36006001*6001:=bU _ (amI h)
 rw[arb];omega
theorem arZ{α β:Type}{f:α→List β}{l:List α}{k:Nat}{x:α}(h:l[k]? =some x):(l.drop k).flatMap f=f x++(l.drop (k+1)).flatMap f:=by
 obtain⟨hk,rfl⟩:=aN.1 h
 rw[aM hk,qS]
theorem auy{α β:Type}{f:α→β}{l:List α}{k:Nat}{x:α}(h:l[k]? =some x):(l.drop k).map f=f x::(l.drop (k+1)).map f:=by
 obtain⟨hk,rfl⟩:=aN.1 h
 rw[aM hk,bY]
theorem ag3{α:Type}(l:List α):l.drop l.length=[]:=by simp
theorem anc{qs:List Rat}{k:Nat}(hb: ∀q∈qs,BQ q k)(hk:k≤100000)(hn:qs.length≤40000000):PF GB prog 83 [.sl (qs.map eQ)] (.sl ((ach qs).map eQ)):=by
 have hm':=aau eQ qs
 refine fn (fu:=⟨15⟩) func83 J J ntmps83 J J (fun C=>?_)
 refine eqF 8 (.d (vI (qs.length:Nat))) rfl (by rw[hm']<;>rfl) ?_
 refine gx rfl<|?_
 refine nlC 3 rfl ?_
 refine lp (X:=List Rat×Nat) (fun⟨xs,i⟩=>[(9, .d (vI (i:Nat))),(3, .d (.sl (xs.map eQ)))]) (fun⟨xs,i⟩=>[]) (fun⟨xs,i⟩=>xs=ah6 aa0 id qs i∧i≤qs.length) (fun⟨xs,i⟩=>qs.length-i) ⟨[],0⟩ rfl ⟨rfl,bX _⟩ (fun _=>rfl) (fun⟨xs,i⟩ hk=>?_)
 try dsimp only at hk⊢
 obtain⟨h1,h2⟩:=hk
 refine br J J J (fun hc10=>?_) (fun hc10=>?_)
 ·
  obtain⟨q,hz⟩: ∃s,qs[i]? =some s:=⟨_,aZ (by omega)⟩
  haveI hqb:=hb q (bQ hz)
  have hxl:=aau eQ xs
  have hxn:xs.length≤i:=by rw[h1];exact ahj
  have hxb: ∀u∈xs,BQ u k:=fun u hu=>by rw[h1] at hu;obtain⟨z,hz,he⟩:=ag7 hu;rw[he];exact hb z hz
  refine ix (fu:=⟨11⟩) _ rfl (aav hz) rfl<|?_
  refine mg (fu:=⟨5⟩) (X:=Nat) (fun n=>[(6, .d (vI (n:Nat)))]) (fun n=>[]) (fun n=>aj2 aa0 q xs=n) [6] [] rfl ?_ (fun _=>rfl) (fun n hnx=>?_)
  ·
   refine gx rfl<|?_
   refine lp (fu:=⟨6⟩) (X:=Nat) (fun n=>[(6, .d (vI (n:Nat)))]) (fun n=>[]) (fun n=>n≤xs.length∧ ∀j (h:j<xs.length),j<n→aa0 xs[j] q<0) (fun n=>xs.length-n) 0 rfl ⟨bX _,fun j _ hj=>absurd hj (by omega)⟩ (fun _=>rfl) (fun n hk=>?_)
   obtain⟨n1,n2⟩:=hk
   refine csS (v2:=fun hg16=>by simp only[aai];kernel_rfl) J J J J (fun hg16=>?_) (fun hg16=>?_)
   ·
    refine ix _ rfl (abC (by omega)) rfl<|cl rfl (q_C (a:=xs[n]'(by omega)) (b:=q) (ha:=hxb _ (cX (by omega))) (hb:=hqb) (by omega) (by omega)) rfl<|?_
    refine br J J J (fun hc25=>?_) (fun hc25=>?_)
    ·
     exact at_ (n+1) ⟨⟨by omega,fun j h hj=>by by_cases q:j=n;(subst q;exact hc25);exact n2 j h (by omega)⟩,(by omega)⟩
    ·
     exact at_ n (adn aa0 n1 n2 (fun h=>hc25))
   ·
    exact at_ n (adn aa0 n1 n2 (fun h=>absurd h (by omega)))
  ·
   have hnl:n≤xs.length:=by rw[←hnx];exact aho _ _ _
   refine csS (v1:=fun hg31=>by simp only[aai];kernel_rfl) J J J J (fun hg31=>?_) (fun hg31=>?_)
   ·
    have hnew: ∀h:n<xs.length,aa0 xs[n] q≠0:=fun h=>absurd h (by omega)
    obtain⟨ys,hys⟩: ∃ys,ys=xs.take n++q::xs.drop n:=⟨_,rfl⟩
    have hin:ac0 aa0 q xs=ys:=by rw[hys];exact acg aa0 hnx hnew
    have hyl:ys.length≤xs.length+1:=by rw[hys];simp;omega
    refine s3 n _ J J J J (abV _) (by rw[hxl];exact hnl) rfl<|ro J J<|sc' n xs.length _ J J (by rw[hxl]) rfl (abV _) hnl (by omega) rfl<|?_
    refine ap _ J J (slD abV _ _ _) rfl<|apf (hv:=by simp only[aai];exact⟨by kernel_rfl,by omega⟩) (ho:=fun _=>⟨slT abV _ _,by simp⟩) (ys.map eQ) rfl (by rw[hys,bK,bY,fS,hJ,aY (l:=xs.map eQ) (i:=xs.length) (by simp)];rfl) (slI abV _ _ _ _) rfl<|?_
    exact at_ ⟨ys,i+1⟩ (by dsimp only;exact⟨⟨by rw[abl hz,←h1];exact hin.symm,by omega⟩,(by omega)⟩)
   ·
    refine ix _ rfl (abC (by omega)) rfl<|cl rfl (q_C (a:=xs[n]'(by omega)) (b:=q) (ha:=hxb _ (cX (by omega))) (hb:=hqb) (by omega) (by omega)) rfl<|?_
    refine br J J J (fun hc40=>?_) (fun hc40=>?_)
    ·
     have hnew: ∀h:n<xs.length,aa0 xs[n] q≠0:=fun h=>hc40
     obtain⟨ys,hys⟩: ∃ys,ys=xs.take n++q::xs.drop n:=⟨_,rfl⟩
     have hin:ac0 aa0 q xs=ys:=by rw[hys];exact acg aa0 hnx hnew
     have hyl:ys.length≤xs.length+1:=by rw[hys];simp;omega
     refine s3 n _ J J J J (abV _) (by rw[hxl];exact hnl) rfl<|ro J J<|sc' n xs.length _ J J (by rw[hxl]) rfl (abV _) hnl (by omega) rfl<|?_
     refine ap _ J J (slD abV _ _ _) rfl<|apf (hv:=by simp only[aai];exact⟨by kernel_rfl,by omega⟩) (ho:=fun _=>⟨slT abV _ _,by simp⟩) (ys.map eQ) rfl (by rw[hys,bK,bY,fS,hJ,aY (l:=xs.map eQ) (i:=xs.length) (by simp)];rfl) (slI abV _ _ _ _) rfl<|?_
     exact at_ ⟨ys,i+1⟩ (by dsimp only;exact⟨⟨by rw[abl hz,←h1];exact hin.symm,by omega⟩,(by omega)⟩)
    ·
     have hin:ac0 aa0 q xs=xs:=aeV aa0 hnx (by omega) (Decidable.not_not.1 hc40)
     exact at_ ⟨xs,i+1⟩ (by dsimp only;exact⟨⟨by rw[abl hz,←h1];exact hin.symm,by omega⟩,(by omega)⟩)
 ·
  have hfin:ach qs=xs:=by rw[at9,h1,agS (by omega),List.map_id]
  exact rz rfl (by rw[hfin];rfl)
theorem ayP{cuts:List Rat}{k:Nat}(hb: ∀q∈cuts,BQ q k)(hk':k≤100000)(hn:cuts.length≤40000000):PF GB prog 82 [.sl (cuts.map eQ)] (.sl ((aaZ cuts).map eQ)):=by
 have hm:=aau eQ cuts
 refine fn (fu:=⟨10⟩) func82 J J ntmps82 J J (fun C=>?_)
 refine eqF 6 (.d (vI (cuts.length:Nat))) rfl (by rw[hm]<;>rfl) ?_
 refine gx rfl<|?_
 refine br J J J (fun hc7=>?_) (fun hc7=>?_)
 ·
  obtain rfl:cuts=[]:=bT (by omega)
  refine rf J J<|?_
  exact rz rfl (by rw[aaZ];show DV.sl [_]=DV.sl [_];rw[aoD])
 ·
  obtain⟨a,ct,rfl⟩: ∃a t,cuts=a::t:=by cases cuts with|nil=>exact absurd rfl hc7|cons a t=>exact⟨a,t,rfl⟩
  haveI hab:=hb a aQ
  have hcl:ct.length+1≤40000000:=hn
  refine ix _ J J J<|cl rfl (alw (n:=1) (by decide) (by decide)) rfl<|cl (fu:=⟨0⟩) rfl (aj3 (a:=a) (b:=((1:Int):Rat)) (by omega) (by omega)) rfl<|?_
  refine eqF 14 (.d (eQ (a-1))) J J ?_
  refine gx rfl<|ro J J<|?_
  refine lp (fu:=⟨6⟩) (X:=Nat) (fun i=>[(4, .d (vI ((i+1:Nat):Int))),(3, .rw 15)]) (fun i=>[(15,some (.b 56 3 (((a-1)::aeD ((a::ct).take (i+1))).map eQ) true))]) (fun i=>i≤ct.length) (fun i=>ct.length-i) 0 rfl (bX _) (fun _=>rfl) (fun i hk=>?_)
  have hm2:=aau eQ (a::ct)
  have hml:=afm (a::ct.take i)
  rw[bJ,cK] at hml
  have hml2:=afm (a::ct)
  rw[bJ] at hml2
  refine eqF 18 (.d (vI ((ct.length+1:Nat):Int))) rfl (by rw[hm2]<;>rfl) ?_
  refine gx rfl<|?_
  refine br (fu2:=⟨11⟩) J J J (fun hc19=>?_) (fun hc19=>?_)
  ·
   obtain⟨u,hu⟩: ∃s,(a::ct)[i]? =some s:=⟨_,aZ (by simp;omega)⟩
   obtain⟨w,hw⟩: ∃s,(a::ct)[i+1]? =some s:=⟨_,aZ (by simp;omega)⟩
   haveI:=hb u (bQ hu)
   haveI:=hb w (bQ hw)
   refine ix _ rfl (by rw[show((((i+1:Nat):Int))-1).toNat=i by omega,dZ,hu];rfl) rfl<|ix _ rfl (by rw[aL,dZ,hw];rfl) rfl<|?_
   refine cl rfl (awu (a:=u) (b:=w) (by omega) (by omega)) rfl<|rf J J<|ap (hv:=by simp only[aai];exact⟨by kernel_rfl,by omega⟩) (((a-1)::aeD ((a::ct).take (i+1+1))).map eQ) rfl (by rw[aiT hu hw,←gS,bK];rfl) (abV [(u+w)/2]) rfl<|?_
   refine rnE 34 15 rfl ?_
   exact at_ (i+1) ⟨(by omega),(by omega)⟩
  ·
   obtain rfl:i=ct.length:=by omega
   obtain⟨z,hz⟩: ∃s,(a::ct)[ct.length]? =some s:=⟨_,aZ (by simp)⟩
   haveI:=hb z (bQ hz)
   rw[show(a::ct).take (ct.length+1)=a::ct from fZ (l:=a::ct)]
   refine eqF 38 (.d (vI ((ct.length+1:Nat):Int))) rfl (by rw[hm2]<;>rfl) ?_
   refine gx rfl<|ix _ rfl (by rw[show((((ct.length+1:Nat):Int))-1).toNat=ct.length by omega,dZ,hz];rfl) rfl<|cl rfl (alw (n:=1) (by decide) (by decide)) rfl<|?_
   refine cl rfl (ad0 (a:=z) (b:=((1:Int):Rat)) (by omega) (by omega)) rfl<|rf J J<|ap ((aaZ (a::ct)).map eQ) rfl (by rw[anq hz,←gS,bK];rfl) (abV [z+1]) rfl<|?_
   refine fzE 45 rfl ?_
   exact rz J J
theorem ayY{l:List LnQ}(hb: ∀a∈l,LB a)(ho: ∀a∈l,a.Ne)(hn:l.length≤6000):PF GB prog 31 [.sl (l.map eL)] (.sl ((adW l).map eP)):=by
 have hbl:=hb
 have hml:=aau eL l
 have htot:=amA hn
 have hgl:=amI hn
 have hxl:=aoZ l
 have hxl2:l.length*(l.length+1)≤6000*6001:=gM hn (by omega)
 refine fn (fu:=⟨15⟩) func31 J J ntmps31 J J (fun C=>?_)
 refine eqF 19 (.d (vI (l.length:Nat))) rfl (by rw[aJ]<;>rfl) ?_
 refine gx rfl<|?_
 refine nr 3 3 56 3 J J J ?_
 refine lp (X:=List Rat×Nat) (fun⟨cur,i⟩=>[(20, .d (vI (i:Nat))),(3, .rw 3)]) (fun⟨cur,i⟩=>[(3,some (.b 56 3 (cur.map eQ) true))]) (fun⟨cur,i⟩=>cur++xsQ (l.drop i)=xsQ l∧i≤l.length) (fun⟨cur,i⟩=>l.length-i) ⟨[],0⟩ rfl ⟨by simp,bX _⟩ (fun _=>rfl) (fun⟨cur,i⟩ hk=>?_)
 try dsimp only at hk⊢
 obtain⟨h1,h2⟩:=hk
 have hcl:=adz h1
 have hcm:=aau eQ cur
 refine br (fu2:=⟨0⟩) J J J (fun hc21=>?_) (fun hc21=>?_)
 ·
  obtain⟨a,ha⟩: ∃s,l[i]? =some s:=⟨_,aZ (by omega)⟩
  haveI hab:=hb a (bQ ha)
  have hao:=ho a (bQ ha)
  refine ix (fu:=⟨7⟩) _ rfl (aav ha) rfl<|?_
  refine mg (X:=List Rat) (fun cur1=>[(3, .rw 3)]) (fun cur1=>[(3,some (.b 56 3 (cur1.map eQ) true))]) (fun cur1=>cur1++(mtQ a ((l.drop (i+1)).drop 0)++xsQ (l.drop (i+1)))=xsQ l) [3] [3] rfl ?_ (fun _=>rfl) (fun cur1 hc1=>?_)
  ·
   refine gx rfl<|cl rfl (akh (z:=a.b)) rfl<|?_
   refine br J J J (fun hc28=>?_) (fun hc28=>?_)
   ·
    refine cl rfl (apN (l:=a) hao) rfl<|rf J J<|ap ((cur++[a.base.x]).map eQ) rfl (by rw[bK];rfl) (abV [_]) rfl<|?_
    refine rnE 34 3 rfl ?_
    exact at_ (cur++[a.base.x]) (by rw[←h1,apj ha,if_pos (fJ.1 hc28)];simp)
   ·
    exact at_ cur (by rw[←h1,apj ha,if_neg (fun e=>hc28 (fJ.2 e))];simp)
  ·
   have hcl1:=adz hc1
   have hdl:(l.drop (i+1)).length≤6000:=by rw[gK];omega
   have hcm1:=aau eQ cur1
   refine sc' (fu:=⟨1⟩) (i+1) l.length ((l.drop (i+1)).map eL) J J (by rw[hml]) (by rw[aY (by rw[hml];exact bZ _),hJ]) (abz l) (by omega) (by rw[hml];exact bZ _) rfl<|?_
   refine eqF 39 (.d (vI ((l.drop (i+1)).length:Nat))) rfl (by rw[aJ]<;>rfl) ?_
   refine gx rfl<|?_
   refine lp (X:=List Rat×Nat) (fun⟨cur2,j⟩=>[(40, .d (vI (j:Nat))),(3, .rw 3)]) (fun⟨cur2,j⟩=>[(3,some (.b 56 3 (cur2.map eQ) true))]) (fun⟨cur2,j⟩=>cur2++(mtQ a ((l.drop (i+1)).drop j)++xsQ (l.drop (i+1)))=xsQ l∧j≤(l.drop (i+1)).length) (fun⟨cur2,j⟩=>(l.drop (i+1)).length-j) ⟨cur1,0⟩ rfl ⟨hc1,bX _⟩ (fun _=>rfl) (fun⟨cur2,j⟩ hk=>?_)
   try dsimp only at hk⊢
   obtain⟨j1,j2⟩:=hk
   have hcl2:=adz j1
   have hcm2:=aau eQ cur2
   refine br J J J (fun hc41=>?_) (fun hc41=>?_)
   ·
    obtain⟨b,hb⟩: ∃s,(l.drop (i+1))[j]? =some s:=⟨_,aZ (by omega)⟩
    haveI hbb:=hbl b (fN (bQ hb))
    refine ix _ rfl (aav hb) rfl<|cl rfl (asc (l:=a) (m:=b)) rfl<|?_
    refine bd J J J (fun hc50=>?_) (fun hc50=>?_)
    ·
     refine rf J J<|ap ((cur2++[(acM a b).x]).map eQ) rfl (by rw[bK];rfl) (abV [_]) rfl<|?_
     refine rnE 55 3 rfl ?_
     exact at_ ⟨cur2++[(acM a b).x],j+1⟩ (by dsimp only;exact⟨⟨by rw[←j1,apq hb,if_neg hc50];simp,by omega⟩,(by omega)⟩)
    ·
     exact at_ ⟨cur2,j+1⟩ (by dsimp only;exact⟨⟨by rw[←j1,apq hb,if_pos (Decidable.not_not.1 hc50)];simp,by omega⟩,(by omega)⟩)
   ·
    obtain rfl:j=(l.drop (i+1)).length:=by omega
    exact at_ ⟨cur2,i+1⟩ (by dsimp only;exact⟨⟨by rw[ag3] at j1;exact j1,by omega⟩,(by omega)⟩)
 ·
  obtain rfl:i=l.length:=by omega
  obtain rfl:cur=xsQ l:=by rw[ag3] at h1;simpa[xsQ] using h1
  refine fzC 3 rfl ?_
  refine gx rfl<|cl rfl (anc (qs:=xsQ l) (k:=900) (an3 hb) (by decide) (by omega)) rfl<|cl (fu:=⟨1⟩) rfl (ayP (cuts:=ach (xsQ l)) (k:=900) (fun q hq=>an3 hb q (aew.1 hq)) (by decide) (by have:=agM (xsQ l);omega)) rfl<|?_
  refine eqF 61 (.d (vI ((aaZ (ach (xsQ l))).length:Nat))) rfl (by rw[aJ]<;>rfl) ?_
  refine gx rfl<|?_
  refine nr 10 10 58 6 J J J ?_
  refine lp (X:=List PtQ×Nat) (fun⟨pts,g⟩=>[(62, .d (vI (g:Nat))),(10, .rw 10)]) (fun⟨pts,g⟩=>[(10,some (.b 58 6 (pts.map eP) true))]) (fun⟨pts,g⟩=>pts++((aaZ (ach (xsQ l))).drop g).flatMap (azP l)=adW l∧g≤(aaZ (ach (xsQ l))).length) (fun⟨pts,g⟩=>(aaZ (ach (xsQ l))).length-g) ⟨[],0⟩ rfl ⟨rfl,bX _⟩ (fun _=>rfl) (fun⟨pts,g⟩ hk=>?_)
  try dsimp only at hk⊢
  obtain⟨g1,g2⟩:=hk
  have hpl:=adz g1
  have hpm:=aau eP pts
  refine br J J J (fun hc63=>?_) (fun hc63=>?_)
  ·
   obtain⟨x,hx⟩: ∃s,(aaZ (ach (xsQ l)))[g]? =some s:=⟨_,aZ (by omega)⟩
   haveI hxb:BQ x 1900:=aln (k:=900) (fun q hq=>an3 hb q (aew.1 hq)) x (bQ hx)
   refine ix (fu:=⟨15⟩) _ rfl (aav hx) rfl<|?_
   refine eqF 67 (.d (vI (l.length:Nat))) rfl (by rw[aJ]<;>rfl) ?_
   refine gx rfl<|?_
   refine nr 13 13 56 3 J J J ?_
   refine lp (X:=List Rat×Nat) (fun⟨ys,j⟩=>[(68, .d (vI (j:Nat))),(13, .rw 13)]) (fun⟨ys,j⟩=>[(13,some (.b 56 3 (ys.map eQ) true))]) (fun⟨ys,j⟩=>ys++ysQ (l.drop j) x=ysQ l x∧j≤l.length) (fun⟨ys,j⟩=>l.length-j) ⟨[],0⟩ rfl ⟨rfl,bX _⟩ (fun _=>rfl) (fun⟨ys,j⟩ hk=>?_)
   try dsimp only at hk⊢
   obtain⟨y1,y2⟩:=hk
   have hyl:=adz y1
   have hym:=aau eQ ys
   have hyt:=auv l x
   refine br (fu2:=⟨0⟩) J J J (fun hc69=>?_) (fun hc69=>?_)
   ·
    obtain⟨a,ha⟩: ∃s,l[j]? =some s:=⟨_,aZ (by omega)⟩
    haveI hala:=hb a (bQ ha)
    refine ix _ rfl (aav ha) rfl<|cl rfl (akh (z:=a.b)) rfl<|?_
    refine br J J J (fun hc75=>?_) (fun hc75=>?_)
    ·
     have hab: ¬a.b=0:=fun e=>hc75 (fJ.2 e)
     have habR:((a.b:Int):Rat)≠0:=fun e=>hab (cY.1 e)
     refine cl rfl (aiM (z:=a.a)) rfl<|cl rfl (abj (a:=(a.a:Rat)) (b:=x)) rfl<|cl rfl (aiM (z:=a.c)) rfl<|cl rfl (ad0 (a:=(a.a:Rat)*x) (b:=(a.c:Rat))) rfl<|?_
     refine cl rfl (aiM (z:=a.b)) rfl<|cl rfl (aja (a:=(a.a:Rat)*x+(a.c:Rat)) (b:=(a.b:Rat)) habR) rfl<|cl rfl (amU (q:=((a.a:Rat)*x+(a.c:Rat))/(a.b:Rat))) rfl<|?_
     refine rf J J<|ap (hv:=by simp only[aai];exact⟨by kernel_rfl,by omega⟩) ((ys++[yA a x]).map eQ) rfl (by rw[bK];rfl) (abV [_]) rfl<|?_
     refine rnE 92 13 rfl ?_
     exact at_ ⟨ys++[yA a x],j+1⟩ (by dsimp only;exact⟨⟨by rw[←y1,apH ha,if_neg hab];simp,by omega⟩,(by omega)⟩)
    ·
     have hab:a.b=0:=fJ.1 (Decidable.not_not.1 hc75)
     exact at_ ⟨ys,j+1⟩ (by dsimp only;exact⟨⟨by rw[←y1,apH ha,if_pos hab];simp,by omega⟩,(by omega)⟩)
   ·
    obtain rfl:j=l.length:=by omega
    obtain rfl:ys=ysQ l x:=by rw[ag3] at y1;simpa[ysQ] using y1
    have hyb:=ayt hb hxb
    have hgy:(aaZ (ach (ysQ l x))).length≤6001:=by have:=aqL l x;unfold azP at this;rw[aJ] at this;omega
    refine fzC 13 rfl ?_
    refine gx rfl<|cl rfl (anc (qs:=ysQ l x) (k:=2400) hyb (by decide) (by omega)) rfl<|cl (fu:=⟨1⟩) rfl (ayP (cuts:=ach (ysQ l x)) (k:=2400) (fun q hq=>hyb q (aew.1 hq)) (by decide) (by have:=agM (ysQ l x);omega)) rfl<|?_
    refine eqF 97 (.d (vI ((aaZ (ach (ysQ l x))).length:Nat))) rfl (by rw[aJ]<;>rfl) ?_
    refine gx rfl<|?_
    refine lp (X:=List PtQ×Nat) (fun⟨pts2,j⟩=>[(98, .d (vI (j:Nat))),(10, .rw 10)]) (fun⟨pts2,j⟩=>[(10,some (.b 58 6 (pts2.map eP) true))]) (fun⟨pts2,j⟩=>pts2++(((aaZ (ach (ysQ l x))).drop j).map (fun y=>(⟨x,y⟩:PtQ))++((aaZ (ach (xsQ l))).drop (g+1)).flatMap (azP l))=adW l∧j≤(aaZ (ach (ysQ l x))).length) (fun⟨pts2,j⟩=>(aaZ (ach (ysQ l x))).length-j) ⟨pts,0⟩ rfl ⟨by rw[arZ hx] at g1;exact g1,bX _⟩ (fun _=>rfl) (fun⟨pts2,j⟩ hk=>?_)
    try dsimp only at hk⊢
    obtain⟨w1,w2⟩:=hk
    have hpl2:=adz w1
    have hpm2:=aau eP pts2
    refine br J J J (fun hc99=>?_) (fun hc99=>?_)
    ·
     obtain⟨y,hy⟩: ∃s,(aaZ (ach (ysQ l x)))[j]? =some s:=⟨_,aZ (by omega)⟩
     refine ix _ rfl (aav hy) rfl<|rf J J<|ap ((pts2++[(⟨x,y⟩:PtQ)]).map eP) rfl (by rw[bK];rfl) (ah9 [(⟨x,y⟩:PtQ)]) rfl<|?_
     refine rnE 107 10 rfl ?_
     exact at_ ⟨pts2++[⟨x,y⟩],j+1⟩ (by dsimp only;exact⟨⟨by rw[←w1,auy hy];simp,by omega⟩,(by omega)⟩)
    ·
     obtain rfl:j=(aaZ (ach (ysQ l x))).length:=by omega
     exact at_ ⟨pts2,g+1⟩ (by dsimp only;exact⟨⟨by rw[ag3] at w1;exact w1,by omega⟩,(by omega)⟩)
  ·
   obtain rfl:g=(aaZ (ach (xsQ l))).length:=by omega
   obtain rfl:pts=adW l:=by rw[ag3] at g1;simpa using g1
   refine fzE 10 rfl ?_
   exact rz J J
end Go.Sx
end
