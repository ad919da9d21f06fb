/- Part 19 of a proof. -/
import Derived.Test.YtopfgminkdfpkaaGreatDoorMp18
set_option linter.unusedSimpArgs false
set_option maxHeartbeats 4000000
set_option maxRecDepth 100000
set_option linter.unusedVariables false
section
namespace Go.Sx
open Go Go.Proofs Tryz
variable {GB:Gh}
theorem auY(l:List Rat):acj l=ahn aa2 l:=by
 unfold acj ahn
 have key: ∀(l o:List Rat),l.foldl (fun out x=>ama x out) o=l.foldl (fun out x=>acV aa2 x out) o:=by
  intro l
  induction l with
  |nil=>intro o;rfl
  |cons a t ih=>intro o;rw[jR,jR,akz,ih]
 exact key l []
theorem agJ(l:List Rat):(acj l).length≤l.length:=by
 have:=ag6 aa2 l []
 rw[auY];simpa[ahn] using this
theorem alQ{k:Nat}{l:List Rat}(h: ∀q∈l,BQ q k): ∀g∈aaY l,BQ g (2*k+100):=fun g hg=>by
 cases l with
 |nil=>
  rw[aaY,aU] at hg;subst hg
  exact BQ.mono (k:=1) ⟨by decide,by decide⟩ (by omega)
 |cons a t=>
  rw[aaY] at hg
  rcases aW.1 hg with rfl|hg
  ·haveI:=h a aQ
   exact BQ.mono (inferInstance:BQ (a-1) _) (by omega)
  ·rcases bK.1 hg with hg|hg
   ·obtain⟨c,hc,d,hd,rfl⟩:=alg hg
    haveI:=h c hc
    haveI:=h d hd
    exact BQ.mono (inferInstance:BQ ((c+d)/2) _) (by omega)
   ·rw[aU] at hg
    haveI:=h _ (List.getLast_mem (l:=a::t) (by simp))
    subst hg
    exact BQ.mono (inferInstance:BQ ((a::t).getLast (by simp)+1) _) (by omega)
def mtQ(a:LnQ)(t:List LnQ):List Rat:=t.filterMap fun b=>if crossI a b=0 then none else some (ach a b).x
theorem ak7(a:LnQ)(t:List LnQ):xsQ (a::t)=(if a.b=0 then [a.base.x] else [])++(mtQ a t++xsQ t):=rfl
theorem ay2(a:LnQ)(t:List LnQ):(mtQ a t).length≤t.length:=List.length_filterMap_le _ _
theorem aoL: ∀l:List LnQ,(xsQ l).length≤l.length*(l.length+1)
 |[]=>bQ _
 |a::t=>by
  have h1:=aoL t
  have h2:=ay2 a t
  have h3:(if a.b=0 then [a.base.x] else []).length≤1:=by split<;>simp
  rw[ak7,aV,aV,bV]
  have e:(t.length+1)*(t.length+1+1)=t.length*(t.length+1)+2*t.length+2:=by simp only[cY,cN];omega
  rw[e];omega
theorem amY: ∀{l:List LnQ},(∀a∈l,LB a)→ ∀x∈xsQ l,BQ x 900
 |[],_,x,h=>by cases h
 |a::t,hl,x,h=>by
  haveI:=hl a aQ
  have ht: ∀b∈t,LB b:=fun b hb=>hl b (aX _ hb)
  rw[ak7] at h
  rcases bK.1 h with h|h
  ·split at h
   ·rw[aU] at h;subst h;infer_instance
   ·cases h
  ·rcases bK.1 h with h|h
   ·obtain⟨b,hb,e⟩:=nN.1 h
    haveI:=ht b hb
    split at e
    ·cases e
    ·cases e;exact BQ.mono (inferInstance:BQ (ach a b).x 772) (by decide)
   ·exact amY ht x h
theorem atC(l:List LnQ)(x:Rat):(ysQ l x).length≤l.length:=List.length_filterMap_le _ _
theorem axV{l:List LnQ}(hl: ∀a∈l,LB a){x:Rat}(hx:BQ x 1900): ∀y∈ysQ l x,BQ y 2400:=fun y hy=>by
 obtain⟨a,ha,hb,rfl⟩:=aDs hy
 haveI:=hl a ha
 unfold yA
 exact BQ.mono (inferInstance:BQ (-(((a.a:Rat)*x+(a.c:Rat))/(a.b:Rat))) _) (by omega)
theorem aqq{l:List LnQ}{k:Nat}{a:LnQ}{x:Rat}(h:l[k]? =some a):ysQ (l.drop k) x=(if a.b=0 then [] else [yA a x])++ysQ (l.drop (k+1)) x:=by
 obtain⟨hk,rfl⟩:=aL.1 h
 rw[aS hk]
 unfold ysQ
 rw[List.filterMap_cons]
 split<;>(rename_i e;split at e<;>simp_all)
theorem ao9{t:List LnQ}{k:Nat}{a b:LnQ}(h:t[k]? =some b):mtQ a (t.drop k)=(if crossI a b=0 then [] else [(ach a b).x])++mtQ a (t.drop (k+1)):=by
 obtain⟨hk,rfl⟩:=aL.1 h
 rw[aS hk]
 unfold mtQ
 rw[List.filterMap_cons]
 split<;>(rename_i e;split at e<;>simp_all)
theorem aqj{l:List LnQ}{k:Nat}{a:LnQ}(h:l[k]? =some a):xsQ (l.drop k)=(if a.b=0 then [a.base.x] else [])++(mtQ a (l.drop (k+1))++xsQ (l.drop (k+1))):=by
 obtain⟨hk,rfl⟩:=aL.1 h
 rw[aS hk,ak7]
theorem adG{α:Type}{a b c:List α}(h:a++b=c):a.length≤c.length:=by rw[←h,aV];omega
def az6(l:List LnQ)(x:Rat):List PtQ:=(aaY (acj (ysQ l x))).map fun y=>⟨x,y⟩
theorem ara(l:List LnQ):adQ l=(aaY (acj (xsQ l))).flatMap (az6 l):=rfl
theorem apv(l:List LnQ)(x:Rat):(az6 l x).length≤l.length+1:=by
 unfold az6
 rw[aJ,aeq]
 have:=agJ (ysQ l x)
 have:=atC l x
 omega
theorem amC{α β:Type}(f:α→List β)(m:Nat): ∀l:List α,(∀x,(f x).length≤m)→(l.flatMap f).length≤l.length*m
 |[],_=>by simp
 |a::t,h=>by
  have:=amC f m t h
  have:=h a
  rw[qS,aV,bV,iV];omega
theorem anH{l:List LnQ}(h:l.length≤6000):(aaY (acj (xsQ l))).length≤36006001:=by
 have h1:=aoL l
 have h2:=agJ (xsQ l)
 have h3:l.length*(l.length+1)≤6000*6001:=gS h (by omega)
 rw[aeq];omega
theorem amL{l:List LnQ}(h:l.length≤6000):(adQ l).length≤216072012001:=by
 have h1:=amC (az6 l) 6001 (aaY (acj (xsQ l))) (fun x=>by have:=apv l x;omega)
 have h2:(aaY (acj (xsQ l))).length*6001≤36006001*6001:=bT _ (anH h)
 rw[ara];omega
theorem atw{α β:Type}{f:α→List β}{l:List α}{k:Nat}{x:α}(h:l[k]? =some x):(l.drop k).flatMap f=f x++(l.drop (k+1)).flatMap f:=by
 obtain⟨hk,rfl⟩:=aL.1 h
 rw[aS hk,qS]
theorem atT{α β:Type}{f:α→β}{l:List α}{k:Nat}{x:α}(h:l[k]? =some x):(l.drop k).map f=f x::(l.drop (k+1)).map f:=by
 obtain⟨hk,rfl⟩:=aL.1 h
 rw[aS hk,bM]
theorem ag9{α:Type}(l:List α):l.drop l.length=[]:=by simp
theorem anF{qs:List Rat}{k:Nat}(hb: ∀q∈qs,BQ q k)(hk:k≤100000)(hn:qs.length≤40000000):PF GB prog 83 [.sl (qs.map eQ)] (.sl ((acj qs).map eQ)):=by
 have hm':=aav eQ qs
 refine fn (fu:=⟨15⟩) func83 J J ntmps83 J J (fun C=>?_)
 refine eqF 8 (.d (vI (qs.length:Nat))) rfl (by rw[hm']<;>rfl) ?_
 refine gx rfl<|?_
 refine nlC 3 rfl ?_
 refine lp (X:=List Rat×Nat) (fun⟨xs,i⟩=>[(9, .d (vI (i:Nat))),(3, .d (.sl (xs.map eQ)))]) (fun⟨xs,i⟩=>[]) (fun⟨xs,i⟩=>xs=ah7 aa2 id qs i∧i≤qs.length) (fun⟨xs,i⟩=>qs.length-i) ⟨[],0⟩ rfl ⟨rfl,bZ _⟩ (fun _=>rfl) (fun⟨xs,i⟩ hk=>?_)
 try dsimp only at hk⊢
 obtain⟨h1,h2⟩:=hk
 refine br J J J (fun hc10=>?_) (fun hc10=>?_)
 ·
  obtain⟨q,hz⟩: ∃s,qs[i]? =some s:=⟨_,aZ (by omega)⟩
  haveI hqb:=hb q (aM hz)
  have hxl:=aav eQ xs
  have hxn:xs.length≤i:=by rw[h1];exact aha
  have hxb: ∀u∈xs,BQ u k:=fun u hu=>by rw[h1] at hu;obtain⟨z,hz,he⟩:=ag5 hu;rw[he];exact hb z hz
  refine ix (fu:=⟨11⟩) _ rfl (aas hz) rfl<|?_
  refine mg (fu:=⟨5⟩) (X:=Nat) (fun n=>[(6, .d (vI (n:Nat)))]) (fun n=>[]) (fun n=>aj4 aa2 q xs=n) [6] [] rfl ?_ (fun _=>rfl) (fun n hnx=>?_)
  ·
   refine gx rfl<|?_
   refine lp (fu:=⟨6⟩) (X:=Nat) (fun n=>[(6, .d (vI (n:Nat)))]) (fun n=>[]) (fun n=>n≤xs.length∧ ∀j (h:j<xs.length),j<n→aa2 xs[j] q<0) (fun n=>xs.length-n) 0 rfl ⟨bZ _,fun j _ hj=>absurd hj (by omega)⟩ (fun _=>rfl) (fun n hk=>?_)
   obtain⟨n1,n2⟩:=hk
   refine csS (v2:=fun hg16=>by simp only[aag];kernel_rfl) J J J J (fun hg16=>?_) (fun hg16=>?_)
   ·
    refine ix _ rfl (abC (by omega)) rfl<|cl rfl (q_C (a:=xs[n]'(by omega)) (b:=q) (ha:=hxb _ (cK (by omega))) (hb:=hqb) (by omega) (by omega)) rfl<|?_
    refine br J J J (fun hc25=>?_) (fun hc25=>?_)
    ·
     exact at_ (n+1) ⟨⟨by omega,fun j h hj=>by by_cases q:j=n;(subst q;exact hc25);exact n2 j h (by omega)⟩,(by omega)⟩
    ·
     exact at_ n (adm aa2 n1 n2 (fun h=>hc25))
   ·
    exact at_ n (adm aa2 n1 n2 (fun h=>absurd h (by omega)))
  ·
   have hnl:n≤xs.length:=by rw[←hnx];exact ahL _ _ _
   refine csS (v1:=fun hg31=>by simp only[aag];kernel_rfl) J J J J (fun hg31=>?_) (fun hg31=>?_)
   ·
    have hnew: ∀h:n<xs.length,aa2 xs[n] q≠0:=fun h=>absurd h (by omega)
    obtain⟨ys,hys⟩: ∃ys,ys=xs.take n++q::xs.drop n:=⟨_,rfl⟩
    have hin:acV aa2 q xs=ys:=by rw[hys];exact acf aa2 hnx hnew
    have hyl:ys.length≤xs.length+1:=by rw[hys];simp;omega
    refine s3 n _ J J J J (abY _) (by rw[hxl];exact hnl) rfl<|ro J J<|sc' n xs.length _ J J (by rw[hxl]) rfl (abY _) hnl (by omega) rfl<|?_
    refine ap _ J J (slD abY _ _ _) rfl<|apf (hv:=by simp only[aag];exact⟨by kernel_rfl,by omega⟩) (ho:=fun _=>⟨slT abY _ _,by simp⟩) (ys.map eQ) rfl (by rw[hys,bJ,bM,fS,gL,aT (l:=xs.map eQ) (i:=xs.length) (by simp)];rfl) (slI abY _ _ _ _) rfl<|?_
    exact at_ ⟨ys,i+1⟩ (by dsimp only;exact⟨⟨by rw[abm hz,←h1];exact hin.symm,by omega⟩,(by omega)⟩)
   ·
    refine ix _ rfl (abC (by omega)) rfl<|cl rfl (q_C (a:=xs[n]'(by omega)) (b:=q) (ha:=hxb _ (cK (by omega))) (hb:=hqb) (by omega) (by omega)) rfl<|?_
    refine br J J J (fun hc40=>?_) (fun hc40=>?_)
    ·
     have hnew: ∀h:n<xs.length,aa2 xs[n] q≠0:=fun h=>hc40
     obtain⟨ys,hys⟩: ∃ys,ys=xs.take n++q::xs.drop n:=⟨_,rfl⟩
     have hin:acV aa2 q xs=ys:=by rw[hys];exact acf aa2 hnx hnew
     have hyl:ys.length≤xs.length+1:=by rw[hys];simp;omega
     refine s3 n _ J J J J (abY _) (by rw[hxl];exact hnl) rfl<|ro J J<|sc' n xs.length _ J J (by rw[hxl]) rfl (abY _) hnl (by omega) rfl<|?_
     refine ap _ J J (slD abY _ _ _) rfl<|apf (hv:=by simp only[aag];exact⟨by kernel_rfl,by omega⟩) (ho:=fun _=>⟨slT abY _ _,by simp⟩) (ys.map eQ) rfl (by rw[hys,bJ,bM,fS,gL,aT (l:=xs.map eQ) (i:=xs.length) (by simp)];rfl) (slI abY _ _ _ _) rfl<|?_
     exact at_ ⟨ys,i+1⟩ (by dsimp only;exact⟨⟨by rw[abm hz,←h1];exact hin.symm,by omega⟩,(by omega)⟩)
    ·
     have hin:acV aa2 q xs=xs:=aeU aa2 hnx (by omega) (Decidable.not_not.1 hc40)
     exact at_ ⟨xs,i+1⟩ (by dsimp only;exact⟨⟨by rw[abm hz,←h1];exact hin.symm,by omega⟩,(by omega)⟩)
 ·
  have hfin:acj qs=xs:=by rw[auY,h1,ahd (by omega),List.map_id]
  exact rz rfl (by rw[hfin];rfl)
theorem axr{cuts:List Rat}{k:Nat}(hb: ∀q∈cuts,BQ q k)(hk':k≤100000)(hn:cuts.length≤40000000):PF GB prog 82 [.sl (cuts.map eQ)] (.sl ((aaY cuts).map eQ)):=by
 have hm:=aav eQ cuts
 refine fn (fu:=⟨10⟩) func82 J J ntmps82 J J (fun C=>?_)
 refine eqF 6 (.d (vI (cuts.length:Nat))) rfl (by rw[hm]<;>rfl) ?_
 refine gx rfl<|?_
 refine br J J J (fun hc7=>?_) (fun hc7=>?_)
 ·
  obtain rfl:cuts=[]:=bS (by omega)
  refine rf J J<|?_
  exact rz rfl (by rw[aaY];show DV.sl [_]=DV.sl [_];rw[aol])
 ·
  obtain⟨a,ct,rfl⟩: ∃a t,cuts=a::t:=by cases cuts with|nil=>exact absurd rfl hc7|cons a t=>exact⟨a,t,rfl⟩
  haveI hab:=hb a aQ
  have hcl:ct.length+1≤40000000:=hn
  refine ix _ J J J<|cl rfl (alz (n:=1) (by decide) (by decide)) rfl<|cl (fu:=⟨0⟩) rfl (aj8 (a:=a) (b:=((1:Int):Rat)) (by omega) (by omega)) rfl<|?_
  refine eqF 14 (.d (eQ (a-1))) J J ?_
  refine gx rfl<|ro J J<|?_
  refine lp (fu:=⟨6⟩) (X:=Nat) (fun i=>[(4, .d (vI ((i+1:Nat):Int))),(3, .rw 15)]) (fun i=>[(15,some (.b 56 3 (((a-1)::adX ((a::ct).take (i+1))).map eQ) true))]) (fun i=>i≤ct.length) (fun i=>ct.length-i) 0 rfl (bZ _) (fun _=>rfl) (fun i hk=>?_)
  have hm2:=aav eQ (a::ct)
  have hml:=afp (a::ct.take i)
  rw[bV,cV] at hml
  have hml2:=afp (a::ct)
  rw[bV] at hml2
  refine eqF 18 (.d (vI ((ct.length+1:Nat):Int))) rfl (by rw[hm2]<;>rfl) ?_
  refine gx rfl<|?_
  refine br (fu2:=⟨11⟩) J J J (fun hc19=>?_) (fun hc19=>?_)
  ·
   obtain⟨u,hu⟩: ∃s,(a::ct)[i]? =some s:=⟨_,aZ (by simp;omega)⟩
   obtain⟨w,hw⟩: ∃s,(a::ct)[i+1]? =some s:=⟨_,aZ (by simp;omega)⟩
   haveI:=hb u (aM hu)
   haveI:=hb w (aM hw)
   refine ix _ rfl (by rw[show((((i+1:Nat):Int))-1).toNat=i by omega,dQ,hu];rfl) rfl<|ix _ rfl (by rw[bX,dQ,hw];rfl) rfl<|?_
   refine cl rfl (awn (a:=u) (b:=w) (by omega) (by omega)) rfl<|rf J J<|ap (hv:=by simp only[aag];exact⟨by kernel_rfl,by omega⟩) (((a-1)::adX ((a::ct).take (i+1+1))).map eQ) rfl (by rw[ajr hu hw,←hJ,bJ];rfl) (abY [(u+w)/2]) rfl<|?_
   refine rnE 34 15 rfl ?_
   exact at_ (i+1) ⟨(by omega),(by omega)⟩
  ·
   obtain rfl:i=ct.length:=by omega
   obtain⟨z,hz⟩: ∃s,(a::ct)[ct.length]? =some s:=⟨_,aZ (by simp)⟩
   haveI:=hb z (aM hz)
   rw[show(a::ct).take (ct.length+1)=a::ct from fX (l:=a::ct)]
   refine eqF 38 (.d (vI ((ct.length+1:Nat):Int))) rfl (by rw[hm2]<;>rfl) ?_
   refine gx rfl<|ix _ rfl (by rw[show((((ct.length+1:Nat):Int))-1).toNat=ct.length by omega,dQ,hz];rfl) rfl<|cl rfl (alz (n:=1) (by decide) (by decide)) rfl<|?_
   refine cl rfl (ad6 (a:=z) (b:=((1:Int):Rat)) (by omega) (by omega)) rfl<|rf J J<|ap ((aaY (a::ct)).map eQ) rfl (by rw[anA hz,←hJ,bJ];rfl) (abY [z+1]) rfl<|?_
   refine fzE 45 rfl ?_
   exact rz J J
theorem azN{l:List LnQ}(hb: ∀a∈l,LB a)(ho: ∀a∈l,a.Ne)(hn:l.length≤6000):PF GB prog 31 [.sl (l.map eL)] (.sl ((adQ l).map eP)):=by
 have hbl:=hb
 have hml:=aav eL l
 have htot:=amL hn
 have hgl:=anH hn
 have hxl:=aoL l
 have hxl2:l.length*(l.length+1)≤6000*6001:=gS hn (by omega)
 refine fn (fu:=⟨15⟩) func31 J J ntmps31 J J (fun C=>?_)
 refine eqF 19 (.d (vI (l.length:Nat))) rfl (by rw[aJ]<;>rfl) ?_
 refine gx rfl<|?_
 refine nr 3 3 56 3 J J J ?_
 refine lp (X:=List Rat×Nat) (fun⟨cur,i⟩=>[(20, .d (vI (i:Nat))),(3, .rw 3)]) (fun⟨cur,i⟩=>[(3,some (.b 56 3 (cur.map eQ) true))]) (fun⟨cur,i⟩=>cur++xsQ (l.drop i)=xsQ l∧i≤l.length) (fun⟨cur,i⟩=>l.length-i) ⟨[],0⟩ rfl ⟨by simp,bZ _⟩ (fun _=>rfl) (fun⟨cur,i⟩ hk=>?_)
 try dsimp only at hk⊢
 obtain⟨h1,h2⟩:=hk
 have hcl:=adG h1
 have hcm:=aav eQ cur
 refine br (fu2:=⟨0⟩) J J J (fun hc21=>?_) (fun hc21=>?_)
 ·
  obtain⟨a,ha⟩: ∃s,l[i]? =some s:=⟨_,aZ (by omega)⟩
  haveI hab:=hb a (aM ha)
  have hao:=ho a (aM ha)
  refine ix (fu:=⟨7⟩) _ rfl (aas ha) rfl<|?_
  refine mg (X:=List Rat) (fun cur1=>[(3, .rw 3)]) (fun cur1=>[(3,some (.b 56 3 (cur1.map eQ) true))]) (fun cur1=>cur1++(mtQ a ((l.drop (i+1)).drop 0)++xsQ (l.drop (i+1)))=xsQ l) [3] [3] rfl ?_ (fun _=>rfl) (fun cur1 hc1=>?_)
  ·
   refine gx rfl<|cl rfl (akE (z:=a.b)) rfl<|?_
   refine br J J J (fun hc28=>?_) (fun hc28=>?_)
   ·
    refine cl rfl (apn (l:=a) hao) rfl<|rf J J<|ap ((cur++[a.base.x]).map eQ) rfl (by rw[bJ];rfl) (abY [_]) rfl<|?_
    refine rnE 34 3 rfl ?_
    exact at_ (cur++[a.base.x]) (by rw[←h1,aqj ha,if_pos (fK.1 hc28)];simp)
   ·
    exact at_ cur (by rw[←h1,aqj ha,if_neg (fun e=>hc28 (fK.2 e))];simp)
  ·
   have hcl1:=adG hc1
   have hdl:(l.drop (i+1)).length≤6000:=by rw[gJ];omega
   have hcm1:=aav eQ cur1
   refine sc' (fu:=⟨1⟩) (i+1) l.length ((l.drop (i+1)).map eL) J J (by rw[hml]) (by rw[aT (by rw[hml];exact bQ _),gL]) (abw l) (by omega) (by rw[hml];exact bQ _) rfl<|?_
   refine eqF 39 (.d (vI ((l.drop (i+1)).length:Nat))) rfl (by rw[aJ]<;>rfl) ?_
   refine gx rfl<|?_
   refine lp (X:=List Rat×Nat) (fun⟨cur2,j⟩=>[(40, .d (vI (j:Nat))),(3, .rw 3)]) (fun⟨cur2,j⟩=>[(3,some (.b 56 3 (cur2.map eQ) true))]) (fun⟨cur2,j⟩=>cur2++(mtQ a ((l.drop (i+1)).drop j)++xsQ (l.drop (i+1)))=xsQ l∧j≤(l.drop (i+1)).length) (fun⟨cur2,j⟩=>(l.drop (i+1)).length-j) ⟨cur1,0⟩ rfl ⟨hc1,bZ _⟩ (fun _=>rfl) (fun⟨cur2,j⟩ hk=>?_)
   try dsimp only at hk⊢
   obtain⟨j1,j2⟩:=hk
   have hcl2:=adG j1
   have hcm2:=aav eQ cur2
   refine br J J J (fun hc41=>?_) (fun hc41=>?_)
   ·
    obtain⟨b,hb⟩: ∃s,(l.drop (i+1))[j]? =some s:=⟨_,aZ (by omega)⟩
    haveI hbb:=hbl b (fN (aM hb))
    refine ix _ rfl (aas hb) rfl<|cl rfl (asv (l:=a) (m:=b)) rfl<|?_
    refine bd J J J (fun hc50=>?_) (fun hc50=>?_)
    ·
     refine rf J J<|ap ((cur2++[(ach a b).x]).map eQ) rfl (by rw[bJ];rfl) (abY [_]) rfl<|?_
     refine rnE 55 3 rfl ?_
     exact at_ ⟨cur2++[(ach a b).x],j+1⟩ (by dsimp only;exact⟨⟨by rw[←j1,ao9 hb,if_neg hc50];simp,by omega⟩,(by omega)⟩)
    ·
     exact at_ ⟨cur2,j+1⟩ (by dsimp only;exact⟨⟨by rw[←j1,ao9 hb,if_pos (Decidable.not_not.1 hc50)];simp,by omega⟩,(by omega)⟩)
   ·
    obtain rfl:j=(l.drop (i+1)).length:=by omega
    exact at_ ⟨cur2,i+1⟩ (by dsimp only;exact⟨⟨by rw[ag9] at j1;exact j1,by omega⟩,(by omega)⟩)
 ·
  obtain rfl:i=l.length:=by omega
  obtain rfl:cur=xsQ l:=by rw[ag9] at h1;simpa[xsQ] using h1
  refine fzC 3 rfl ?_
  refine gx rfl<|cl rfl (anF (qs:=xsQ l) (k:=900) (amY hb) (by decide) (by omega)) rfl<|cl (fu:=⟨1⟩) rfl (axr (cuts:=acj (xsQ l)) (k:=900) (fun q hq=>amY hb q (abS.1 hq)) (by decide) (by have:=agJ (xsQ l);omega)) rfl<|?_
  refine eqF 61 (.d (vI ((aaY (acj (xsQ l))).length:Nat))) rfl (by rw[aJ]<;>rfl) ?_
  refine gx rfl<|?_
  refine nr 10 10 58 6 J J J ?_
  refine lp (X:=List PtQ×Nat) (fun⟨pts,g⟩=>[(62, .d (vI (g:Nat))),(10, .rw 10)]) (fun⟨pts,g⟩=>[(10,some (.b 58 6 (pts.map eP) true))]) (fun⟨pts,g⟩=>pts++((aaY (acj (xsQ l))).drop g).flatMap (az6 l)=adQ l∧g≤(aaY (acj (xsQ l))).length) (fun⟨pts,g⟩=>(aaY (acj (xsQ l))).length-g) ⟨[],0⟩ rfl ⟨rfl,bZ _⟩ (fun _=>rfl) (fun⟨pts,g⟩ hk=>?_)
  try dsimp only at hk⊢
  obtain⟨g1,g2⟩:=hk
  have hpl:=adG g1
  have hpm:=aav eP pts
  refine br J J J (fun hc63=>?_) (fun hc63=>?_)
  ·
   obtain⟨x,hx⟩: ∃s,(aaY (acj (xsQ l)))[g]? =some s:=⟨_,aZ (by omega)⟩
   haveI hxb:BQ x 1900:=alQ (k:=900) (fun q hq=>amY hb q (abS.1 hq)) x (aM hx)
   refine ix (fu:=⟨15⟩) _ rfl (aas hx) rfl<|?_
   refine eqF 67 (.d (vI (l.length:Nat))) rfl (by rw[aJ]<;>rfl) ?_
   refine gx rfl<|?_
   refine nr 13 13 56 3 J J J ?_
   refine lp (X:=List Rat×Nat) (fun⟨ys,j⟩=>[(68, .d (vI (j:Nat))),(13, .rw 13)]) (fun⟨ys,j⟩=>[(13,some (.b 56 3 (ys.map eQ) true))]) (fun⟨ys,j⟩=>ys++ysQ (l.drop j) x=ysQ l x∧j≤l.length) (fun⟨ys,j⟩=>l.length-j) ⟨[],0⟩ rfl ⟨rfl,bZ _⟩ (fun _=>rfl) (fun⟨ys,j⟩ hk=>?_)
   try dsimp only at hk⊢
   obtain⟨y1,y2⟩:=hk
   have hyl:=adG y1
   have hym:=aav eQ ys
   have hyt:=atC l x
   refine br (fu2:=⟨0⟩) J J J (fun hc69=>?_) (fun hc69=>?_)
   ·
    obtain⟨a,ha⟩: ∃s,l[j]? =some s:=⟨_,aZ (by omega)⟩
    haveI hala:=hb a (aM ha)
    refine ix _ rfl (aas ha) rfl<|cl rfl (akE (z:=a.b)) rfl<|?_
    refine br J J J (fun hc75=>?_) (fun hc75=>?_)
    ·
     have hab: ¬a.b=0:=fun e=>hc75 (fK.2 e)
     have habR:((a.b:Int):Rat)≠0:=fun e=>hab (cZ.1 e)
     refine cl rfl (ajQ (z:=a.a)) rfl<|cl rfl (abl (a:=(a.a:Rat)) (b:=x)) rfl<|cl rfl (ajQ (z:=a.c)) rfl<|cl rfl (ad6 (a:=(a.a:Rat)*x) (b:=(a.c:Rat))) rfl<|?_
     refine cl rfl (ajQ (z:=a.b)) rfl<|cl rfl (ajN (a:=(a.a:Rat)*x+(a.c:Rat)) (b:=(a.b:Rat)) habR) rfl<|cl rfl (anf (q:=((a.a:Rat)*x+(a.c:Rat))/(a.b:Rat))) rfl<|?_
     refine rf J J<|ap (hv:=by simp only[aag];exact⟨by kernel_rfl,by omega⟩) ((ys++[yA a x]).map eQ) rfl (by rw[bJ];rfl) (abY [_]) rfl<|?_
     refine rnE 92 13 rfl ?_
     exact at_ ⟨ys++[yA a x],j+1⟩ (by dsimp only;exact⟨⟨by rw[←y1,aqq ha,if_neg hab];simp,by omega⟩,(by omega)⟩)
    ·
     have hab:a.b=0:=fK.1 (Decidable.not_not.1 hc75)
     exact at_ ⟨ys,j+1⟩ (by dsimp only;exact⟨⟨by rw[←y1,aqq ha,if_pos hab];simp,by omega⟩,(by omega)⟩)
   ·
    obtain rfl:j=l.length:=by omega
    obtain rfl:ys=ysQ l x:=by rw[ag9] at y1;simpa[ysQ] using y1
    have hyb:=axV hb hxb
    have hgy:(aaY (acj (ysQ l x))).length≤6001:=by have:=apv l x;unfold az6 at this;rw[aJ] at this;omega
    refine fzC 13 rfl ?_
    refine gx rfl<|cl rfl (anF (qs:=ysQ l x) (k:=2400) hyb (by decide) (by omega)) rfl<|cl (fu:=⟨1⟩) rfl (axr (cuts:=acj (ysQ l x)) (k:=2400) (fun q hq=>hyb q (abS.1 hq)) (by decide) (by have:=agJ (ysQ l x);omega)) rfl<|?_
    refine eqF 97 (.d (vI ((aaY (acj (ysQ l x))).length:Nat))) rfl (by rw[aJ]<;>rfl) ?_
    refine gx rfl<|?_
    refine lp (X:=List PtQ×Nat) (fun⟨pts2,j⟩=>[(98, .d (vI (j:Nat))),(10, .rw 10)]) (fun⟨pts2,j⟩=>[(10,some (.b 58 6 (pts2.map eP) true))]) (fun⟨pts2,j⟩=>pts2++(((aaY (acj (ysQ l x))).drop j).map (fun y=>(⟨x,y⟩:PtQ))++((aaY (acj (xsQ l))).drop (g+1)).flatMap (az6 l))=adQ l∧j≤(aaY (acj (ysQ l x))).length) (fun⟨pts2,j⟩=>(aaY (acj (ysQ l x))).length-j) ⟨pts,0⟩ rfl ⟨by rw[atw hx] at g1;exact g1,bZ _⟩ (fun _=>rfl) (fun⟨pts2,j⟩ hk=>?_)
    try dsimp only at hk⊢
    obtain⟨w1,w2⟩:=hk
    have hpl2:=adG w1
    have hpm2:=aav eP pts2
    refine br J J J (fun hc99=>?_) (fun hc99=>?_)
    ·
     obtain⟨y,hy⟩: ∃s,(aaY (acj (ysQ l x)))[j]? =some s:=⟨_,aZ (by omega)⟩
     refine ix _ rfl (aas hy) rfl<|rf J J<|ap ((pts2++[(⟨x,y⟩:PtQ)]).map eP) rfl (by rw[bJ];rfl) (ah5 [(⟨x,y⟩:PtQ)]) rfl<|?_
     refine rnE 107 10 rfl ?_
     exact at_ ⟨pts2++[⟨x,y⟩],j+1⟩ (by dsimp only;exact⟨⟨by rw[←w1,atT hy];simp,by omega⟩,(by omega)⟩)
    ·
     obtain rfl:j=(aaY (acj (ysQ l x))).length:=by omega
     exact at_ ⟨pts2,g+1⟩ (by dsimp only;exact⟨⟨by rw[ag9] at w1;exact w1,by omega⟩,(by omega)⟩)
  ·
   obtain rfl:g=(aaY (acj (xsQ l))).length:=by omega
   obtain rfl:pts=adQ l:=by rw[ag9] at g1;simpa using g1
   refine fzE 10 rfl ?_
   exact rz J J
def atO:Tr→PtQ→Bool
 | .leaf _,_=>true
 | .node l x y,p=>if(l.value p).num.sign=1 then atO x p else if(l.value p).num.sign= -1 then atO y p else false
theorem arP(ls:List LnQ):(aem ls).length≤ls.length:=by
 have:=ag6 aeC (ls.map LnQ.canon) []
 unfold aem ahn
 rw[aJ,dV] at this
 omega
theorem aql{l:List LnQ}(hl: ∀a∈l,LB a): ∀p∈adQ l,BPt p 4900:=fun p hp=>by
 obtain⟨h1,h2⟩:=aiI.1 hp
 have hx:BQ p.x 1900:=alQ (k:=900) (fun q hq=>amY hl q (abS.1 hq)) _ h1
 have hy:BQ p.y 4900:=alQ (k:=2400) (fun q hq=>axV hl hx q (abS.1 hq)) _ h2
 exact⟨hx.mono (by decide),hy⟩
theorem aoE{ls:List LnQ}(h: ∀l∈ls,LB l): ∀l∈aem ls,LB l:=fun l hl=>by
 obtain⟨x,hx,rfl⟩:=ajI hl
 haveI:=h x hx
 infer_instance
theorem aon{ls:List LnQ}(h: ∀l∈ls,l.ok): ∀l∈aem ls,l.Ne:=fun l hl=>by
 obtain⟨x,hx,rfl⟩:=ajI hl
 exact(awe (h x hx)).ne
structure Two (a b:Tr):Prop where
 ga:a.gd
 gb:b.gd
 sa:a.size≤3000
 sb:b.size≤3000
def f1R(x y:Bool):Bool:=x&&!y
def f2R(x y:Bool):Bool:=y&&!x
def f3R(x y:Bool):Bool:=x&&y
def f4R(x y:Bool):Bool:=!x&&!y
def anK(f:Bool→Bool→Bool)(a b:Tr)(k:Nat):Bool:=((fcs a b).take k).any fun p=>f (atQ a p) (atQ b p)
theorem aml{c:List LnQ}(hok: ∀l∈c,l.ok):ajJ c=true↔ ∃p,InL c p:=by
 rw[←aff hok]
 unfold ajJ acq
 cases c with
 |nil=>simp
 |cons a b=>
  rw[if_neg (by simp;omega)]
  simp only[decide_eq_true_eq,aJ,List.isEmpty_cons,Bool.false_or,kX]
  constructor
  ·intro h
   obtain⟨m,hm⟩:=List.exists_mem_of_length_pos (l:=aaR (a::b)) (by omega)
   exact⟨m,aa5.1 hm⟩
  ·rintro ⟨m,hm⟩
   have:=List.length_pos_of_mem (aa5.2 hm)
   omega
def abz:Tr→List LnQ→List (List LnQ×Bool)
 | .leaf b,c=>if ajJ c then [(aaR c,b)] else []
 | .node l x y,c=>if ajJ c then abz x (aaR c++[l])++abz y (aaR c++[l.rev]) else []
theorem ags{P:LnQ→Prop}(hr: ∀l,P l→P l.rev): ∀{t:Tr} {c:List LnQ},t.all P→(∀m∈c,P m)→ ∀d∈abz t c,(∀m∈d.1,P m)∧d.1.length≤c.length+t.depth
 | .leaf b,c,_,hc,d,h=>by
  rw[abz] at h
  split at h
  ·rw[aU] at h
   subst h
   exact⟨fun m hm=>hc m (aa5.1 hm).1,cW (acW c) (lT _ _)⟩
  ·cases h
 | .node l x y,c,ht,hc,d,h=>by
  have hd:(Tr.node l x y).depth=1+max x.depth y.depth:=rfl
  have hl:=acW c
  have go: ∀k,P k→ ∀m∈aaR c++[k],P m:=fun k hk m hm=>by
   rcases bK.1 hm with h|h
   ·exact hc m (aa5.1 h).1
   ·rw[aU.1 h];exact hk
  rw[abz] at h
  split at h
  ·rcases bK.1 h with h|h
   ·obtain⟨k1,k2⟩:=ags hr ht.2.1 (go l ht.1) d h
    exact⟨k1,by rw[aV,dK] at k2;omega⟩
   ·obtain⟨k1,k2⟩:=ags hr ht.2.2 (go l.rev (hr l ht.1)) d h
    exact⟨k1,by rw[aV,dK] at k2;omega⟩
  ·cases h
theorem adF: ∀(t:Tr) (c:List LnQ),(abz t c).length≤t.size+1
 | .leaf _,c=>by rw[abz];split<;>simp[Tr.size]
 | .node l x y,c=>by
  have h1:=adF x (aaR c++[l])
  have h2:=adF y (aaR c++[l.rev])
  rw[abz,Tr.size]
  split
  ·rw[aV];omega
  ·simp
theorem ajP: ∀{t:Tr} {c:List LnQ},t.all LnQ.ok→(∀m∈c,m.ok)→ ∀d∈abz t c,(∃q,InL d.1 q)∧ ∀p,InL d.1 p→InL c p∧ ∀v,(ae8 t p v).1=d.2
 | .leaf b,c,_,hc,d,h=>by
  rw[abz] at h
  split at h
  ·rename_i hb
   rw[aU] at h
   subst h
   have hq:=(aml hc).1 hb
   exact⟨hq.elim fun q k=>⟨q,(adW hc hq q).2 k⟩,fun p hp=>⟨(adW hc hq p).1 hp,fun _=>rfl⟩⟩
  ·cases h
 | .node l x y,c,ht,hc,d,h=>by
  have go: ∀k,k.ok→ ∀m∈aaR c++[k],m.ok:=fun k hk m hm=>by
   rcases bK.1 hm with h|h
   ·exact hc m (aa5.1 h).1
   ·rw[aU.1 h];exact hk
  rw[abz] at h
  split at h
  ·rename_i hb
   have hq:=(aml hc).1 hb
   have un: ∀{k:LnQ} {p:PtQ},InL (aaR c++[k]) p→InL c p∧0<k.value p:=fun{k p} hp=>
    ⟨(adW hc hq p).1 fun m hm=>hp m (bL _ hm),hp k (bY _ aQ)⟩
   rcases bK.1 h with h|h
   ·obtain⟨k1,k2⟩:=ajP ht.2.1 (go l ht.1) d h
    refine⟨k1,fun p hp=>?_⟩
    obtain⟨e1,e2⟩:=k2 p hp
    obtain⟨e3,e4⟩:=un e1
    have s:Int.sign (l.value p).num=1:=(adr _).2 e4
    exact⟨e3,fun v=>by rw[←e2 v,ae8,s];rfl⟩
   ·obtain⟨k1,k2⟩:=ajP ht.2.2 (go l.rev ht.1.rev) d h
    refine⟨k1,fun p hp=>?_⟩
    obtain⟨e1,e2⟩:=k2 p hp
    obtain⟨e3,e4⟩:=un e1
    rw[aaP] at e4
    have s:Int.sign (l.value p).num= -1:=ajO (by grind)
    exact⟨e3,fun v=>by rw[←e2 v,ae8,s];rfl⟩
  ·cases h
def ayv(c:List LnQ)(p:PtQ):Bool:=c.all fun l=>decide (0<Int.sign (l.value p).num)
def aBP(c:List LnQ):Option PtQ:=(adQ (aem c)).find? (ayv c)
theorem avM{c:List LnQ}(hok: ∀l∈c,l.ok)(hq: ∃q,InL c q): ∃p,aBP c=some p∧p∈adQ (aem c)∧InL c p:=by
 obtain⟨q,hq⟩:=hq
 have oq:Off c q:=fun l hl e=>by have:=hq l hl;rw[e] at this;exact absurd this (by decide)
 obtain⟨p,h1,h2⟩:=auo (aon hok) (apo.2 oq)
 have op:Off c p:=apo.1 (as9 (aon hok) h1)
 have h3:=arZ op oq fun l hl=>(h2 l hl).symm
 have hb:ayv c p=true:=by
  unfold ayv
  rw[fU]
  intro l hl
  rw[decide_eq_true_eq,acC]
  exact(h3 l hl).1 (hq l hl)
 cases h:aBP c with
 |none=>exact absurd hb (List.find?_eq_none.1 h p h1)
 |some u=>
  have k1:=List.find?_some h
  unfold ayv at k1
  rw[fU] at k1
  refine⟨u,rfl,List.mem_of_find?_eq_some h,fun l hl=>?_⟩
  have:=k1 l hl
  rw[decide_eq_true_eq,acC] at this
  exact this
theorem atY{op:Int}{a b:Tr}(h:adn op a b=true):a.mergeQ op b []= .leaf false:=by
 cases hm:a.mergeQ op b [] with
 |leaf v=>rw[atG hm.symm] at h;cases v with|true=>cases h|false=>rfl
 |node l x y=>rw[auw hm.symm] at h;cases h
theorem atR{op:Int}{a b:Tr}(ha:a.all LnQ.ok)(hb:b.all LnQ.ok)(h:adn op a b=true){p:PtQ}(hall: ∀v,(ae8 a p v).1=true): ∃y,aqT b p y∧opB op true y=false:=by
 have hm:(a.mergeQ op b []).all LnQ.ok:=Tr.mergeQ_all LnQ.ok op hb a [] ha
 have hd:aqT (a.mergeQ op b []) p false:=by
  rcases apx hm p with h1|h1
  ·rw[atY h] at h1
   obtain⟨v,_,e⟩:=h1
   cases e
  ·exact h1
 obtain⟨x,y,⟨v,_,e⟩,k2,k3⟩:=aBT (f:=opB op) hm ha hb (fun q _ o2 o3=>Tr.val_merge op b hb a [] q ha acg.nil (azk q) o2 o3) hd
 rw[hall v] at e
 subst e
 exact⟨y,k2,k3⟩
theorem aAj{a b:Tr}(ha:a.all LnQ.ok)(hb:b.all LnQ.ok)(h:adn 3 a b=true){p:PtQ}(hall: ∀v,(ae8 a p v).1=true):af1 b p≠0:=fun e=>by
 obtain⟨y,k1,k2⟩:=atR ha hb h hall
 cases y with
 |true=>exact(aqU hb).1 e k1
 |false=>cases k2
theorem az0{a b:Tr}(ha:a.all LnQ.ok)(hb:b.all LnQ.ok)(h:adn 2 a b=true){p:PtQ}(hall: ∀v,(ae8 a p v).1=true):af1 b p≠2:=fun e=>by
 obtain⟨y,k1,k2⟩:=atR ha hb h hall
 cases y with
 |true=>cases k2
 |false=>exact(atd hb).1 e k1
theorem an4{ls:List LnQ}(hb: ∀p∈ls,LB p)(hn:ls.length≤100000):PR GB prog 32 [.sl (ls.map eL)] 6 88 ((aem ls).map eL):=by
 have hm':=aav eL ls
 refine fnR (fu:=⟨15⟩) func32 J J ntmps32 J J (fun C hmb=>?_)
 refine eqF 8 (.d (vI (ls.length:Nat))) rfl (by rw[hm']<;>rfl) ?_
 refine gx rfl<|?_
 refine nr 3 3 88 6 J J J ?_
 refine lp (X:=List LnQ×Nat) (fun⟨xs,k⟩=>[(9, .d (vI (k:Nat))),(3, .rw 3)]) (fun⟨xs,k⟩=>[(3,some (.b 88 6 (xs.map eL) true))]) (fun⟨xs,k⟩=>xs=ah7 aeC LnQ.canon ls k∧k≤ls.length) (fun⟨xs,k⟩=>ls.length-k) ⟨[],0⟩ rfl ⟨rfl,bZ _⟩ (fun _=>rfl) (fun⟨xs,k⟩ hk=>?_)
 try dsimp only at hk⊢
 obtain⟨hS,hkl⟩:=hk
 refine br J J J (fun hc10=>?_) (fun hc10=>?_)
 ·
  have hk:k<ls.length:=by omega
  obtain⟨z,hm⟩: ∃m,m=ls[k]:=⟨_,rfl⟩
  have hz:ls[k]? =some z:=by rw[hm];exact aZ hk
  haveI hzb:LB z:=hm▸hb _ (cK hk)
  obtain⟨m,hmc⟩: ∃m,m=z.canon:=⟨_,rfl⟩
  haveI hmb:LB m:=by rw[hmc];infer_instance
  have hxl:=aav eL xs
  have hxn:xs.length≤k:=by rw[hS];exact aha
  have hxb: ∀q∈xs,LB q:=fun q hq=>by rw[hS] at hq;obtain⟨z,hz,rfl⟩:=ag5 hq;haveI:=hb z hz;infer_instance
  refine ix (fu:=⟨1⟩) _ rfl (abC hk) rfl<|?_
  refine eqF 12 (.d (eL z)) rfl (by rw[hm];rfl) ?_
  refine gx rfl<|cl (fu:=⟨2⟩) rfl (apu (l:=z)) rfl<|?_
  refine eqF 16 (.d (eL m)) rfl (by rw[hmc]) ?_
  refine gx (fu:=⟨10⟩) rfl<|?_
  refine mg (fu:=⟨0⟩) (X:=Nat) (fun n=>[(6, .d (vI (n:Nat)))]) (fun n=>[]) (fun n=>aj4 aeC m xs=n) [6] [] rfl ?_ (fun _=>rfl) (fun n hnx=>?_)
  ·
   refine gx rfl<|?_
   refine lp (fu:=⟨6⟩) (X:=Nat) (fun n=>[(6, .d (vI (n:Nat)))]) (fun n=>[]) (fun n=>n≤xs.length∧ ∀j (h:j<xs.length),j<n→aeC xs[j] m<0) (fun n=>xs.length-n) 0 rfl ⟨bZ _,fun j _ hj=>absurd hj (by omega)⟩ (fun _=>rfl) (fun n hk=>?_)
   obtain⟨n1,n2⟩:=hk
   refine csS (v2:=fun hg21=>by simp only[aag];kernel_rfl) J J J J (fun hg21=>?_) (fun hg21=>?_)
   ·
    refine lb _ rfl (abC (by omega)) rfl<|cl rfl (aiS (l:=xs[n]'(by omega)) (m:=m) (hl:=hxb _ (cK (by omega))) (hm:=hmb)) rfl<|?_
    refine br J J J (fun hc30=>?_) (fun hc30=>?_)
    ·
     exact at_ (n+1) ⟨⟨by omega,fun j h hj=>by by_cases q:j=n;(subst q;exact hc30);exact n2 j h (by omega)⟩,(by omega)⟩
    ·
     exact at_ n (adm aeC n1 n2 (fun h=>hc30))
   ·
    exact at_ n (adm aeC n1 n2 (fun h=>absurd h (by omega)))
  ·
   have hnl:n≤xs.length:=by rw[←hnx];exact ahL _ _ _
   rcases(show n=xs.length∨(∃h:n<xs.length,aeC xs[n] m≠0)∨ ∃h:n<xs.length,aeC xs[n] m=0 by by_cases q:n<xs.length;(by_cases q2:aeC xs[n] m=0;exact .inr (.inr ⟨q,q2⟩);exact .inr (.inl ⟨q,q2⟩));exact .inl (by omega)) with hq|⟨hq,hq2⟩|⟨hq,hq2⟩
   ·
    have hnew: ∀h:n<xs.length,aeC xs[n] m≠0:=fun h=>absurd h (by omega)
    obtain⟨ys,hys⟩: ∃ys,ys=xs.take n++m::xs.drop n:=⟨_,rfl⟩
    have hin:acV aeC m xs=ys:=by rw[hys];exact acf aeC hnx hnew
    have hyl:ys.length≤xs.length+1:=by rw[hys];simp;omega
    refine fzC 3 rfl ?_
    refine gx (fu:=⟨5⟩) rfl<|knT rfl (by show some (decide _)=some true;rw[decide_eq_true (by rw[hxl];omega)]) rfl<|s3 n _ J J J J (abw _) (by rw[hxl];exact hnl) rfl<|?_
    refine ro J J<|sc' n xs.length _ J J (by rw[hxl]) rfl (abw _) hnl (by omega) rfl<|ap _ J J (slD abw _ _ _) rfl<|ap (hv:=by simp only[aag];exact⟨by kernel_rfl,by omega⟩) (ho:=fun _=>⟨slT abw _ _,by simp⟩) (ys.map eL) rfl (by rw[hys,bJ,bM,fS,gL,aT (l:=xs.map eL) (i:=xs.length) (by simp)];rfl) (slI abw _ _ _ _) rfl<|?_
    refine rnE 56 3 rfl ?_
    exact at_ ⟨ys,k+1⟩ (by dsimp only;exact⟨⟨by rw[abm hz,←hS,←hmc];exact hin.symm,by omega⟩,(by omega)⟩)
   ·
    have hnew: ∀h:n<xs.length,aeC xs[n] m≠0:=fun h=>hq2
    obtain⟨ys,hys⟩: ∃ys,ys=xs.take n++m::xs.drop n:=⟨_,rfl⟩
    have hin:acV aeC m xs=ys:=by rw[hys];exact acf aeC hnx hnew
    have hyl:ys.length≤xs.length+1:=by rw[hys];simp;omega
    refine fzC 3 rfl ?_
    refine gx (fu:=⟨5⟩) rfl<|knF rfl (by show some (decide _)=some false;rw[decide_eq_false (by rw[hxl];omega)]) rfl<|ix _ rfl (abC hq) rfl<|cl (fu:=⟨0⟩) rfl (aiS (l:=xs[n]'(by omega)) (m:=m) (hl:=hxb _ (cK (by omega))) (hm:=hmb)) rfl<|?_
    refine knT rfl (by show some (decide _)=some true;rw[decide_eq_true (by assumption)]) rfl<|s3 n _ J J J J (abw _) (by rw[hxl];exact hnl) rfl<|?_
    refine ro J J<|sc' n xs.length _ J J (by rw[hxl]) rfl (abw _) hnl (by omega) rfl<|ap _ J J (slD abw _ _ _) rfl<|ap (hv:=by simp only[aag];exact⟨by kernel_rfl,by omega⟩) (ho:=fun _=>⟨slT abw _ _,by simp⟩) (ys.map eL) rfl (by rw[hys,bJ,bM,fS,gL,aT (l:=xs.map eL) (i:=xs.length) (by simp)];rfl) (slI abw _ _ _ _) rfl<|?_
    refine rnE 56 3 rfl ?_
    exact at_ ⟨ys,k+1⟩ (by dsimp only;exact⟨⟨by rw[abm hz,←hS,←hmc];exact hin.symm,by omega⟩,(by omega)⟩)
   ·
    have hin:acV aeC m xs=xs:=aeU aeC hnx hq hq2
    refine gx (fu:=⟨5⟩) rfl<|knF rfl (by show some (decide _)=some false;rw[decide_eq_false (by rw[hxl];omega)]) rfl<|lb _ rfl (abC hq) rfl<|cl (fu:=⟨0⟩) rfl (aiS (l:=xs[n]'(by omega)) (m:=m) (hl:=hxb _ (cK (by omega))) (hm:=hmb)) rfl<|?_
    refine knF (hv:=by simp only[aag];exact⟨by kernel_rfl,by omega⟩) rfl (by show some (decide _)=some false;rw[decide_eq_false (fun h=>h hq2)]) rfl<|?_
    exact at_ ⟨xs,k+1⟩ (by dsimp only;exact⟨⟨by rw[abm hz,←hS,←hmc];exact hin.symm,by omega⟩,(by omega)⟩)
 ·
  have hfin:aem ls=xs:=by rw[hS,ahd (by omega)];rfl
  exact rzR J J J (by rw[hfin])
def ePa(x:Bool×aan):DV:= .ag [.sl (x.2.map eFr),eU (.leaf x.1)]
def eC(c:aan):DV:= .sl (c.map eFr)
def aFs(ps:List (Bool×aan)):List aan:=(ps.filter (·.1)).map (·.2)
theorem asw(l:List PtQ):ads 6 (l.map eZ):=fun d hd=>by
 obtain⟨x,_,rfl⟩:=bU.1 hd
 exact⟨rfl,rfl⟩
instance BPt.negp (p:PtQ) (i:Nat) [h:BPt p i]:BPt (ack p) i:=⟨inferInstanceAs (BQ (-p.x) i),inferInstanceAs (BQ (-p.y) i)⟩
instance BPt.prip (l:LnQ) [LB l]:BPt (aen l.dir) 500:=by
 have h:=(inferInstance:BPt (l.dir.scale (rgcd l.dir.x l.dir.y)⁻¹) _)
 exact⟨h.x.mono (by decide),h.y.mono (by decide)⟩
theorem aCJ{p:PtQ}{i:Nat}[h:BPt p i](hi:i≤900000000:=by decide):PF GB prog 214 [eZ p] (eZ (ack p)):=by
 refine fn func214 J J ntmps214 J J (fun C=>?_)
 refine cl rfl (afg (q:=p.x) (i:=i) hi) rfl<|cl rfl (afg (q:=p.y) (i:=i) hi) rfl<|?_
 exact rz J J
theorem azr{p:PtQ}{i:Nat}[h:BPt p i](hi:i≤900000000:=by decide):PF GB prog 207 [eZ p] (eZ (afe p)):=by
 refine fn func207 J J ntmps207 J J (fun C=>?_)
 refine cl rfl (afg (q:=p.y) (i:=i) hi) rfl<|?_
 exact rz J J
theorem aAl{p:PtQ}{i:Nat}[h:BPt p i](hi:i≤1000000:=by decide):PF GB prog 213 [eZ p] (eZ (aen p)):=by
 refine fn func213 J J ntmps213 J J (fun C=>?_)
 refine cl rfl (agH (p:=p.x) (q:=p.y) (i:=i) (j:=i) (by omega) (by omega)) rfl<|cl rfl (ayh (q:=rgcd p.x p.y) (i:=i+i+(i+i)) (by omega)) rfl<|?_
 refine cl rfl (ak1 (p:=p) (c:=(rgcd p.x p.y)⁻¹) (i:=i) (j:=i+i+(i+i)) (by omega) (by omega)) rfl<|?_
 exact rz J J
theorem afJ(l:LnQ)(x y:Tr)(p:PtQ):abv (.node l x y) p=(if Int.sign (l.value p).num=0 then [aen l.dir,ack (aen l.dir)] else [])++((if 0≤Int.sign (l.value p).num then abv x p else [])++(if Int.sign (l.value p).num≤0 then abv y p else [])):=by
 unfold abv
 rw[am0,pY,pY]
 congr 1
 ·split<;>simp
 ·congr 1<;>split<;>simp
theorem ahf: ∀(t:Tr) (p:PtQ),(abv t p).length≤2*t.size
 | .leaf _,_=>bZ _
 | .node l x y,p=>by
  have h1:=ahf x p
  have h2:=ahf y p
  rw[afJ,aV,aV,Tr.size]
  split<;>split<;>split<;>simp only[bV,dV]<;>omega
theorem an5{b:Bool}{p:PtQ}{o:List PtQ}:PB GB prog 151 (mkB [some (eU (.leaf b)),some (eZ p),none]) 6 104 (o.map eZ) (fun w=> .v (.slice w.a w.n w.c)) ((o++abv (.leaf b) p).map eZ):=by
 refine fnQ func151 J J ntmps151 J J (fun C=>?_)
 refine cl (fu:=⟨0⟩) rfl abr rfl<|?_
 refine kbT 10 rfl ?_
 refine gx rfl<|?_
 exact rzQ J J J (by show _=(o++[]).map eZ;rw[lJ])
theorem axg{l:LnQ}{x y:Tr}{p:PtQ}{i:Nat}[hp:BPt p i](hl:LB l)(hi:i≤10000000){o:List PtQ}(hs:o.length+2*(Tr.node l x y).size≤1000000)(hz:Int.sign (l.value p).num=0)(ihx: ∀{o:List PtQ},o.length+2*x.size≤1000000→PB GB prog 151 (mkB [some (eU x),some (eZ p),none]) 6 104 (o.map eZ) (fun w=> .v (.slice w.a w.n w.c)) ((o++abv x p).map eZ))(ihy: ∀{o:List PtQ},o.length+2*y.size≤1000000→PB GB prog 151 (mkB [some (eU y),some (eZ p),none]) 6 104 (o.map eZ) (fun w=> .v (.slice w.a w.n w.c)) ((o++abv y p).map eZ)):PB GB prog 151 (mkB [some (eU (.node l x y)),some (eZ p),none]) 6 104 (o.map eZ) (fun w=> .v (.slice w.a w.n w.c)) ((o++abv (.node l x y) p).map eZ):=by
 haveI:=hl
 have hz2:(Tr.node l x y).size=1+x.size+y.size:=rfl
 have hp1:=ahf x p
 refine fnQ func151 J J ntmps151 J J (fun C=>?_)
 refine cl (fu:=⟨0⟩) rfl abf rfl<|?_
 refine kbF 10 rfl ?_
 refine gx rfl<|cl (fu:=⟨7⟩) rfl (ajq (l:=l) (p:=p) (i:=i) hi) rfl<|knT rfl (by show some (decide _)=some true;rw[decide_eq_true (by omega)]) rfl<|?_
 refine cl rfl (amO (l:=l)) rfl<|cl rfl (aAl (p:=l.dir) (i:=97)) rfl<|cl rfl (aCJ (p:=aen l.dir) (i:=500)) rfl<|rf J J<|?_
 refine apB (fu:=⟨7⟩) ((o++[aen l.dir,ack (aen l.dir)]).map eZ) rfl (by rw[bJ]<;>rfl) (asw [aen l.dir,ack (aen l.dir)]) rfl<|knT rfl (by show some (decide _)=some true;rw[decide_eq_true (by omega)]) rfl<|?_
 refine cq (fu:=⟨7⟩) (((o++[aen l.dir,ack (aen l.dir)])++abv x p).map eZ) rfl (ihx (by rw[aV,bV,bV,dV];omega)) J J<|?_
 refine knT rfl (by show some (decide _)=some true;rw[decide_eq_true (by omega)]) rfl<|cq _ rfl (ihy (by rw[aV,aV,bV,bV,dV];omega)) J J<|?_
 exact rzQ J J J (by rw[afJ,hz];simp)
theorem aws{l:LnQ}{x y:Tr}{p:PtQ}{i:Nat}[hp:BPt p i](hl:LB l)(hi:i≤10000000){o:List PtQ}(hs:o.length+2*(Tr.node l x y).size≤1000000)(hz:Int.sign (l.value p).num=1)(ihx: ∀{o:List PtQ},o.length+2*x.size≤1000000→PB GB prog 151 (mkB [some (eU x),some (eZ p),none]) 6 104 (o.map eZ) (fun w=> .v (.slice w.a w.n w.c)) ((o++abv x p).map eZ)):PB GB prog 151 (mkB [some (eU (.node l x y)),some (eZ p),none]) 6 104 (o.map eZ) (fun w=> .v (.slice w.a w.n w.c)) ((o++abv (.node l x y) p).map eZ):=by
 haveI:=hl
 have hz2:(Tr.node l x y).size=1+x.size+y.size:=rfl
 refine fnQ func151 J J ntmps151 J J (fun C=>?_)
 refine cl (fu:=⟨0⟩) rfl abf rfl<|?_
 refine kbF 10 rfl ?_
 refine gx rfl<|cl (fu:=⟨7⟩) rfl (ajq (l:=l) (p:=p) (i:=i) hi) rfl<|knF (fu:=⟨9⟩) rfl (by show some (decide _)=some false;rw[decide_eq_false (by omega)]) rfl<|?_
 refine knT rfl (by show some (decide _)=some true;rw[decide_eq_true (by omega)]) rfl<|cq (fu:=⟨7⟩) _ rfl (ihx (by omega)) J J<|knF rfl (by show some (decide _)=some false;rw[decide_eq_false (by omega)]) rfl<|?_
 exact rzQ J J J (by rw[afJ,hz];simp)
theorem avd{l:LnQ}{x y:Tr}{p:PtQ}{i:Nat}[hp:BPt p i](hl:LB l)(hi:i≤10000000){o:List PtQ}(hs:o.length+2*(Tr.node l x y).size≤1000000)(hz:Int.sign (l.value p).num= -1)(ihy: ∀{o:List PtQ},o.length+2*y.size≤1000000→PB GB prog 151 (mkB [some (eU y),some (eZ p),none]) 6 104 (o.map eZ) (fun w=> .v (.slice w.a w.n w.c)) ((o++abv y p).map eZ)):PB GB prog 151 (mkB [some (eU (.node l x y)),some (eZ p),none]) 6 104 (o.map eZ) (fun w=> .v (.slice w.a w.n w.c)) ((o++abv (.node l x y) p).map eZ):=by
 haveI:=hl
 have hz2:(Tr.node l x y).size=1+x.size+y.size:=rfl
 refine fnQ func151 J J ntmps151 J J (fun C=>?_)
 refine cl (fu:=⟨0⟩) rfl abf rfl<|?_
 refine kbF 10 rfl ?_
 refine gx rfl<|cl (fu:=⟨7⟩) rfl (ajq (l:=l) (p:=p) (i:=i) hi) rfl<|knF (fu:=⟨9⟩) rfl (by show some (decide _)=some false;rw[decide_eq_false (by omega)]) rfl<|?_
 refine knF (fu:=⟨9⟩) rfl (by show some (decide _)=some false;rw[decide_eq_false (by omega)]) rfl<|knT rfl (by show some (decide _)=some true;rw[decide_eq_true (by omega)]) rfl<|?_
 refine cq _ rfl (ihy (by omega)) J J<|?_
 exact rzQ J J J (by rw[afJ,hz];simp)
theorem amr{p:PtQ}{i:Nat}[hp:BPt p i](hi:i≤10000000:=by decide): ∀{t:Tr} {o:List PtQ},t.all LB→o.length+2*t.size≤1000000→PB GB prog 151 (mkB [some (eU t),some (eZ p),none]) 6 104 (o.map eZ) (fun w=> .v (.slice w.a w.n w.c)) ((o++abv t p).map eZ)
 | .leaf _,_,_,_=>an5
 | .node l x y,_,hb,hs=>by
  have hz2:(Tr.node l x y).size=1+x.size+y.size:=rfl
  rcases kU (l.value p).num 0 with h|h|h
  ·exact avd hb.1 hi hs (dS h) fun k=>amr hi hb.2.2 k
  ·exact axg hb.1 hi hs (by rw[h];rfl) (fun k=>amr hi hb.2.1 k) fun k=>amr hi hb.2.2 k
  ·exact aws hb.1 hi hs (eJ h) fun k=>amr hi hb.2.1 k
theorem auS{t:Tr}{p v:PtQ}{i j:Nat}[hp:BPt p i][hv:BPt v j](hb:t.all LB)(hi:i≤10000000:=by decide)(hj:j≤10000000:=by decide):PF GB prog 152 [eU t,eZ p,eZ v] (.tp [vB (ae8 t p v).1,vB (ae8 t p v).2]):=by
 refine fn func152 J J ntmps152 J J (fun C=>?_)
 refine lp (X:=Tr) (fun s=>[(0, .d (eU s))]) (fun s=>[]) (fun s=>ae8 s p v=ae8 t p v∧s.all LB) (fun s=>s.size) t rfl ⟨rfl,hb⟩ (fun _=>rfl) (fun s hk=>?_)
 obtain⟨h1,hb2⟩:=hk
 rcases s with b|⟨l,x,y⟩
 ·
  have hA:ae8 t p v=(b,true):=h1.symm
  refine cl (fu:=⟨0⟩) rfl abr rfl<|?_
  refine kbT 10 rfl ?_
  refine gx rfl<|?_
  exact rz rfl (by rw[hA];rfl)
 ·
  have hAn:=h1.symm
  rw[ae8,adJ] at hAn
  haveI:=hb2.1
  refine cl (fu:=⟨0⟩) rfl abf rfl<|?_
  refine kbF 10 rfl ?_
  refine gx rfl<|cl (fu:=⟨4⟩) rfl (ajq (l:=l) (p:=p) (i:=i) hi) rfl<|?_
  refine mg (X:=Int) (fun s8=>[(8, .d (vI s8))]) (fun s8=>[]) (fun s8=>s8=(if(l.value p).num.sign=0 then(l.nor.dot v).num.sign else(l.value p).num.sign)) [8] [] rfl ?_ (fun _=>rfl) (fun s8 hs8=>?_)
  ·
   refine gx rfl<|?_
   refine br J J J (fun hc19=>?_) (fun hc19=>?_)
   ·
    refine cl rfl (ao3 (l:=l)) rfl<|cl rfl (apX (p:=l.nor) (q:=v) (i:=97) (j:=j) (by decide) (by omega)) rfl<|cl rfl (acZ (q:=l.nor.dot v) (by omega)) rfl<|?_
    exact at_ (l.nor.dot v).num.sign (if_pos hc19).symm
   ·
    exact at_ (l.value p).num.sign (if_neg hc19).symm
  ·
   rw[←hs8] at hAn
   refine br J J J (fun hc29=>?_) (fun hc29=>?_)
   ·
    exact at_ x ⟨⟨by rw[hAn,hc29];rfl,hb2.2.1⟩,(by simp only[Tr.size];omega)⟩
   ·
    refine br J J J (fun hc35=>?_) (fun hc35=>?_)
    ·
     exact at_ y ⟨⟨by rw[hAn,hc35];rfl,hb2.2.2⟩,(by simp only[Tr.size];omega)⟩
    ·
     exact rz rfl (by rw[hAn];split<;>first|rfl|contradiction)
theorem aBn{q:Rat}{i:Nat}[h:BQ q i](hi:i≤400000000:=by decide):PF GB prog 154 [eR q] (eF q):=by
 haveI:BN q.num.natAbs i:=⟨h.hn⟩
 haveI:BN q.den i:=⟨h.hd⟩
 refine fn func154 J J ntmps154 J J (fun C=>?_)
 refine cl (fu:=⟨0⟩) rfl (ad5 (n:=decide (q.num<0)) (a:=q.num.natAbs) (d:=q.den) (i:=i) (j:=i) (by omega) (by omega)) rfl<|?_
 refine eqF 7 (.d (eF q)) rfl (by rw[adt,sZ]) ?_
 refine gx rfl<|?_
 exact rz J J
theorem aBH{p:PtQ}{i:Nat}[h:BPt p i](hi:i≤400000000:=by decide):PF GB prog 76 [ePt p] (eZ p):=by
 refine fn func76 J J ntmps76 J J (fun C=>?_)
 refine cl rfl (aBn (q:=p.x) (i:=i) hi) rfl<|cl rfl (aBn (q:=p.y) (i:=i) hi) rfl<|?_
 exact rz J J
theorem aEY(G:Gh)(y:Value)(h:Is G (.sl [.ag [vI (fn_ 1),vI (fd_ 1),fp_ 1,vI 0,vI 0, .v (.pointer none)]]) y):Is G (.sl ((afd []).map eZ)) y:=by
 obtain⟨s,x,es,rfl,h1,h2⟩:=adu.1 h
 obtain⟨v,m,rfl,k,h3⟩:=aac.1 h2
 cases aaJ.1 h3
 refine adu.2 ⟨s,x,_,rfl,h1, .cons ?_ .nil⟩
 obtain⟨m4,rfl,g4⟩:=abU.1 k
 obtain⟨v1,m1,rfl,k1,g1⟩:=aac.1 g4
 obtain⟨v2,m2,rfl,k2,g2⟩:=aac.1 g1
 obtain⟨v3,m3,rfl,k3,g3⟩:=aac.1 g2
 obtain⟨m5,q5,g5⟩:=abU.1 (aBJ _ _ (abU.2 ⟨m3,rfl,g3⟩))
 cases q5
 exact abU.2 ⟨_,rfl, .cons k1 (.cons k2 (.cons k3 g5))⟩
theorem as5{ds:List PtQ}{k:Nat}{u w:PtQ}(h1:ds[k]? =some u)(h2:ds[(k+1)%ds.length]? =some w):aqG ds k=if 0<Int.sign (u.cross w).num then u.add w else afe u:=by
 unfold aqG
 rw[aK,aK,h1,h2];rfl
theorem amD(ds:List PtQ)(k:Nat):(List.range (k+1)).map (aqG ds)=(List.range k).map (aqG ds)++[aqG ds k]:=by rw[List.range_succ,bJ];rfl
theorem aAO:PF GB prog 149 [.sl []] (.sl ((afd []).map eZ)):=by
 refine fn (fu:=⟨10⟩) func149 J J ntmps149 J J (fun C=>?_)
 refine knT rfl (by rfl) rfl<|cl rfl (aj7 (by omega)) rfl<|rf J J<|?_
 exact rzI rfl aEY
theorem ayR{ds:List PtQ}{i:Nat}(h0:0<ds.length)(hb: ∀d∈ds,BPt d i)(hn:ds.length≤10000000)(hi:i≤1000000:=by decide):PF GB prog 149 [.sl (ds.map eZ)] (.sl ((afd ds).map eZ)):=by
 have hml:(ds.map eZ).length=ds.length:=aJ ..
 refine fn (fu:=⟨10⟩) func149 J J ntmps149 J J (fun C=>?_)
 refine eqF 8 (.d (vI (ds.length:Nat))) rfl (by rw[hml]<;>rfl) ?_
 refine gx (fu:=⟨0⟩) rfl<|knF (fu:=⟨15⟩) rfl (by show some (decide _)=some false;rw[decide_eq_false (by omega)]) rfl<|?_
 refine eqF 14 (.d (vI (ds.length:Nat))) rfl (by rw[hml]<;>rfl) ?_
 refine gx rfl<|?_
 refine nr 3 3 104 6 J J J ?_
 refine lp (X:=List PtQ×Nat) (fun⟨acc,k⟩=>[(15, .d (vI (k:Nat))),(3, .rw 3)]) (fun⟨acc,k⟩=>[(3,some (.b 104 6 (acc.map eZ) true))]) (fun⟨acc,k⟩=>acc=(List.range k).map (aqG ds)∧k≤ds.length) (fun⟨acc,k⟩=>ds.length-k) ⟨[],0⟩ rfl ⟨rfl,bZ _⟩ (fun _=>rfl) (fun⟨acc,k⟩ hk=>?_)
 try dsimp only at hk⊢
 obtain⟨h1,h2⟩:=hk
 have hal:acc.length=k:=by rw[h1,aJ,qR]
 have ham:(acc.map eZ).length=acc.length:=aJ ..
 refine br J J J (fun hc16=>?_) (fun hc16=>?_)
 ·
  obtain⟨u,hx⟩: ∃u,ds[k]? =some u:=⟨_,aZ (by omega)⟩
  obtain⟨w,hw⟩: ∃w,ds[(k+1)%ds.length]? =some w:=⟨_,aZ (dZ _ (by omega))⟩
  haveI:=hb u (aM hx)
  haveI:=hb w (aM hw)
  refine ix (fu:=⟨13⟩) _ rfl (aas hx) rfl<|?_
  refine eqF 24 (.d (vI (ds.length:Nat))) rfl (by rw[hml]<;>rfl) ?_
  refine gx (fu:=⟨1⟩) rfl<|?_
  refine eqF 25 (.d (vI (((k+1)%ds.length:Nat):Int))) J J ?_
  refine gx rfl<|ix _ rfl (aas hw) rfl<|cl rfl (aoZ (p:=u) (q:=w) (by omega) (by omega)) rfl<|cl rfl (acZ (q:=u.cross w) (by omega)) rfl<|?_
  refine br J J J (fun hc32=>?_) (fun hc32=>?_)
  ·
   refine cl rfl (ayz (p:=u) (q:=w) (by omega) (by omega)) rfl<|rf J J<|ap ((acc++[u.add w]).map eZ) rfl (by rw[bJ]<;>rfl) (asw [u.add w]) rfl<|?_
   refine rnE 38 3 rfl ?_
   exact at_ ⟨acc++[u.add w],k+1⟩ (by dsimp only;exact⟨⟨by rw[amD,as5 hx hw,if_pos hc32,←h1],by omega⟩,(by omega)⟩)
  ·
   refine cl rfl (azr (p:=u) (by omega)) rfl<|rf J J<|ap ((acc++[afe u]).map eZ) rfl (by rw[bJ]<;>rfl) (asw [afe u]) rfl<|?_
   refine rnE 43 3 rfl ?_
   exact at_ ⟨acc++[afe u],k+1⟩ (by dsimp only;exact⟨⟨by rw[amD,as5 hx hw,if_neg hc32,←h1],by omega⟩,(by omega)⟩)
 ·
  obtain rfl:k=ds.length:=by omega
  have hS:afd ds=acc:=by unfold afd;rw[if_neg (by omega),h1]
  refine fzE 3 rfl ?_
  exact rz rfl (by rw[hS];rfl)
theorem atu{ds:List PtQ}{i:Nat}(hb: ∀d∈ds,BPt d i)(hn:ds.length≤10000000)(hi:i≤1000000:=by decide):PF GB prog 149 [.sl (ds.map eZ)] (.sl ((afd ds).map eZ)):=by
 cases ds with
 |nil=>exact aAO
 |cons d ds=>exact ayR (i:=i) (Nat.zero_lt_succ _) hb hn hi
def PW(GB:Gh)(P:Program)(f:FuncId)(l:List (Option DV))(s:Nat)(ty:TypeId)(dsi:List DV)(rv:DV)(dso:List DV):Prop:=
 ∀G w vs B,GLe GB G→aba G ⟨w,s,ty,dsi,false⟩ B→IsLs G (mkB l w) vs→FnO P f vs B G (fun v own' G'=>Is G' rv v∧aba G' ⟨w,s,ty,dso,false⟩ own')
theorem av0{B:List Own}{G:Gh}{w:SV}{s:Nat}{ty:TypeId}{ds:List DV}{lo:Bool}{ov:List Own}(h:aba G ⟨w,s,ty,ds,lo⟩ B)(g: ∀o∈B,o∈ov): ∃rest,ov.Perm (B++rest)∧ ∀o∈ov,(∀o'∈B,o.b≠o'.b)→o∈rest:=by
 rcases h with⟨vs',⟨_,_,e⟩|⟨b0,r0,lo0,_,e,_⟩,_⟩
 ·rw[e];exact⟨ov,List.Perm.refl _,fun o ho _=>ho⟩
 ·rw[e] at g⊢
  obtain⟨l1,l2,e2⟩:=kZ (g _ aQ)
  rw[e2]
  refine⟨l1++l2,lL,fun o ho hno=>?_⟩
  rcases bK.1 ho with ho|ho
  ·exact bL _ ho
  ·rcases aW.1 ho with rfl|ho
   ·exact absurd rfl (hno _ aQ)
   ·exact bY _ ho
section
variable {GB:Gh} {C:Ctx} {n:Nat} {Q0:Exit→Act→World→Prop} {fr fr':FrX} {own own':OwX} {cf cf':Cf} {vc:List Prop} {lk:LK} {bk:BM}
variable {dst:Option Nat} {t t' ty':TypeId} {pos:String} {af:Array Edge} {gd:Option (Nat×Bool)} {x y:Operand}
theorem au5{fo:Operand}{args:Array Operand}{tys:Array TypeId}{f:FuncId}{nm:Nat}{l:List (Option DV)}{s:Nat}{ty0:TypeId}{dsi dso:List DV}{lo:Bool}{rv:DV}
  (ha:anP lk fo args=some (f,nm,l))(hb:bk nm=some (.b ty0 s dsi lo))(hF:PW GB prog f l s ty0 dsi rv dso):OpR prog GB C n lk bk ⟨dst, .call ⟨.value fo,args,tys⟩,ty',pos,af,gd⟩ (.d rv) [(nm,some (.b ty0 s dso lo))] []:=by
 intro hd tl tb K' s1 s2 hf hk
 refine⟨fun ρ G ov a w r Q=>?_⟩
 have r1:=r.mono s1 s2
 unfold anP at ha
 split at ha<;>try (cases ha;done)
 rename_i h1
 split at ha<;>cases ha
 rename_i h2
 obtain⟨y,hy,hy'⟩:=r1.ev h1
 rw[(aaZ (G:=G)).1 hy'] at hy
 obtain⟨B,g1,g2⟩:=r1.bx _ _ hb
 have hB:aba G ⟨ρ nm,s,ty0,dsi,lo⟩ B:=g1
 obtain⟨vs,h7,h8⟩:=aiH r1 (z:=ρ nm) h2 (fun nm e=>by cases e;rfl)
 obtain⟨rest,h5,h6⟩:=av0 hB g2
 refine aec (M:=B) (rest:=rest) hy h7 h5 (hF G (ρ nm) vs B r.gb hB.weak h8) hd (fun v own1 G' hG hK a' w' rl=>?_) a w Q ⟨r.h,r.sz,aaN a,r.df⟩
 obtain⟨hr,vs',k1,k2,k3,k4⟩:=hK
 have k1':=k1.relo (flM B)
 have e2:lo=true→ ∀o∈own1.map (relo (flM B)),o.lo=true:=fun hl o ho=>by
  obtain⟨o',_,rfl⟩:=bU.1 ho
  obtain⟨_,_,_,_,hlo⟩:=hB
  exact ag4 _ (hlo hl)
 generalize own1.map (relo (flM B))=B' at rl e2 k1'
 have r2:=r.upB (G':=G') (ov':=B'++rest) (w':=w') (B':= .b ty0 s dso lo) (os:=B') hG.le rl.h ⟨vs',by simpa using k1',k2,k3,e2⟩ (fun o ho=>bL _ ho)
  (fun o ho hne=>bY _ (h6 o ho fun o' ho' he=>hne (by rw[g1.blk ho',he]))) ⟨_,s2 _ _ hb⟩
 exact hk.run _ G' _ a' w' (r2.put hr (abj rl))
def aFR(fr:FrX)(own:OwX)(cf:Cf):Option (FuncId×Nat×List (Option DV)×TypeId×Nat×List DV×Bool):=match opC fr cf with
 |some ⟨_, .call ⟨.value fo,args,_⟩,_,_,_,_⟩=>match anP (lkC fr cf) fo args with
  |some (f,nm,l)=>match bkC fr own cf nm with
   |some (.b ty s ds lo)=>some (f,nm,l,ty,s,ds,lo)
   |_=>none
  |none=>none
 |_=>none
theorem cw[fu:Fu]{f:FuncId}{nm:Nat}{l:List (Option DV)}{ty:TypeId}{s:Nat}{dsi dso:List DV}{lo:Bool}{rv:DV}(dso':List DV)(ha:aFR fr own cf=some (f,nm,l,ty,s,dsi,lo))(hF:PW GB prog f l s ty dsi rv dso)(he:dso=dso')
  (hgo:goA tt n fu.n fr own cf (.d rv) [(nm,some (.b ty s dso' lo))] []=⟨vc,fr',own',cf'⟩)(k:CfS prog GB C n Q0 fr' own' cf')
  (hv:aag vc:=by first|exact trivial|(simp only[aag];kernel_rfl)|(simp only[aag];omega)|(simp only[aag,aJ,aN,aY];omega)):CfS prog GB C n Q0 fr own cf:=by
 subst he
 unfold aFR at ha
 split at ha<;>try (cases ha;done)
 rename_i hh
 split at ha<;>try (cases ha;done)
 rename_i h1
 split at ha<;>cases ha
 rename_i h2
 exact us hh (au5 h1 h2 hF) hgo hv k
/-! slices of a row -/
theorem ax3{G:Gh}{w:SV}{s:Nat}{ty:TypeId}{ds:List DV}{lo:Bool}{B:List Own}(h:aba G ⟨w,s,ty,ds,lo⟩ B)(hn:0<ds.length): ∃b,w=⟨some ⟨b,0,none⟩,ds.length,w.c⟩∧ds.length≤w.c:=by
 obtain⟨vs,h1,h2,_⟩:=h
 rcases h1 with⟨e1,_,_⟩|⟨b,rest,lo',e1,_,_,_,h5⟩
 ·subst e1;have:=h2.len;simp at this;omega
 ·exact⟨b,by rw[←h2.len];exact e1,by rw[←h2.len];exact h5⟩
theorem aDb{P:Program}{e s by_:Nat}[hT:acH P t e s by_]{nm:Nat}{k:IntKind}{j m:Nat}{ty:TypeId}{ds:List DV}{lo:Bool}(hx:evX lk x=some (.rw nm))(hb:bk nm=some (.b ty s ds lo))(hy:evX lk y=some (.d (.v (.int k j))))(hm:j+m=ds.length)(h1:0<m):
  OpR P GB C n lk bk ⟨dst, .slice t x (some y) none none,ty',pos,af,gd⟩ (.rs nm s j m) [] []:= .yd fun ρ G ov a w r=>by
 obtain⟨u,hu,hu2⟩:=r.ev hx
 cases (show u=_ from hu2)
 obtain⟨v,hv,hv2⟩:=r.ev hy
 rw[aax] at hv2;subst hv2
 obtain⟨B,hB,_⟩:=r.row (y:= .nilFunc) hb
 obtain⟨b,hw,hc⟩:=ax3 hB (by omega)
 rw[hw] at hu
 have hs:=aeJ (P:=P) (C:=C) (own:=ov) (G:=G) (dst:=dst) (ty':=ty') (pos:=pos) (af:=af) (gd:=gd) (t:=t) hu hv (by omega) (by show(j:Int)≤(ds.length:Nat);omega)
 have hne:(ρ nm).c≠j:=by omega
 refine⟨_,⟨b,(ρ nm).c-j,by rw[hw],?_,?_⟩,hs⟩
 ·unfold aoB
  rw[bX,if_neg hne,jX,acu,dT,show ds.length-j=m by omega]
 ·omega
theorem aDt{P:Program}{e s by_:Nat}[hT:acH P t e s by_]{nm sz off m:Nat}(hx:evX lk x=some (.rs nm sz off m)):OpR P GB C n lk bk ⟨dst, .call ⟨.builtin .len, #[x], #[t]⟩,ty',pos,af,gd⟩ (.d (.v (.int .i64 (m:Nat)))) [] []:= .x1 hx fun ρ G ov a w y _ r h1 h2=>by
 obtain⟨b,c,_,rfl,_⟩:=h2
 exact⟨_,aax.2 rfl,aeD h1⟩
theorem aCs{P:Program}{e s by_:Nat}[hT:acH P t e s by_]{nm off m j:Nat}{k:IntKind}{i:Int}(hx:evX lk x=some (.rs nm s off m))(hy:evX lk y=some (.d (.v (.int k i))))(h0:0≤i)(h1:i<(m:Nat))(hj:(off:Int)+i=(j:Nat)):
  OpR P GB C n lk bk ⟨dst, .indexAddr t x y,ty',pos,af,gd⟩ (.be nm s j 0) [] []:= .yd fun ρ G ov a w r=>by
 obtain⟨u,hu,hu2⟩:=r.ev hx
 obtain⟨b,c,hb,rfl,hc⟩:=hu2
 obtain⟨v,hv,hv2⟩:=r.ev hy
 rw[aax] at hv2;subst hv2
 have:=ag7 (P:=P) (C:=C) (own:=ov) (G:=G) (dst:=dst) (ty':=ty') (pos:=pos) (af:=af) (gd:=gd) (t:=t) hu hv h0 h1
 obtain rfl:off+i.toNat=j:=by omega
 exact⟨_,⟨b,hb,rfl⟩,by rw[dY,cY];exact this⟩
def aFw(fr:FrX)(own:OwX)(cf:Cf):Option (Nat×Nat×List DV×Int):=match opC fr cf with
 |some ⟨_, .slice t x (some y) none none,_,_,_,_⟩=>match abk tt t with
  |some ⟨.sl _ s' _,_,_,_⟩=>match evX (lkC fr cf) x with
   |some (.rw nm)=>match bkC fr own cf nm with
    |some (.b _ s ds _)=>match evX (lkC fr cf) y with
     |some (.d (.v (.int _ i)))=>bif Nat.beq s s' then some (nm,s,ds,i) else none
     |_=>none
    |_=>none
   |_=>none
  |_=>none
 |_=>none
theorem rsl[fu:Fu]{nm s:Nat}{ds:List DV}{i:Int}(k m:Nat)(h:aFw fr own cf=some (nm,s,ds,i))(hi:i=(k:Nat))(hm:k+m=ds.length)(hp:0<m)(hgo:goA tt n fu.n fr own cf (.rs nm s k m) [] []=⟨vc,fr',own',cf'⟩)(kk:CfS prog GB C n Q0 fr' own' cf')
  (hv:aag vc:=by first|exact trivial|(simp only[aag];kernel_rfl)|(simp only[aag];omega)|(simp only[aag,aJ,aN,aY];omega)):CfS prog GB C n Q0 fr own cf:=by
 subst hi
 unfold aFw at h
 split at h<;>try (cases h;done)
 rename_i hh
 split at h<;>try (cases h;done)
 rename_i hT
 split at h<;>try (cases h;done)
 rename_i hx
 split at h<;>try (cases h;done)
 rename_i hb
 split at h<;>try (cases h;done)
 rename_i hy
 rw[cond_eq_ite] at h
 split at h<;>cases h
 rename_i hq
 cases aR hq
 have:=aef (abK _ _ hT) rfl
 exact us hh (aDb hx hb hy hm hp) hgo hv kk
def aFo(fr:FrX)(cf:Cf):Option Nat:=match opC fr cf with
 |some ⟨_, .call ⟨.builtin .len,⟨[x]⟩,⟨[t]⟩⟩,_,_,_,_⟩=>match abk tt t with
  |some ⟨.sl _ _ _,_,_,_⟩=>match evX (lkC fr cf) x with
   |some (.rs _ _ _ m)=>some m
   |_=>none
  |_=>none
 |_=>none
theorem rsn[fu:Fu]{m:Nat}(h:aFo fr cf=some m)(hgo:goA tt n fu.n fr own cf (.d (.v (.int .i64 (m:Nat)))) [] []=⟨vc,fr',own',cf'⟩)(kk:CfS prog GB C n Q0 fr' own' cf')
  (hv:aag vc:=by first|exact trivial|(simp only[aag];kernel_rfl)|(simp only[aag];omega)|(simp only[aag,aJ,aN,aY];omega)):CfS prog GB C n Q0 fr own cf:=by
 unfold aFo at h
 split at h<;>try (cases h;done)
 rename_i hh
 split at h<;>try (cases h;done)
 rename_i hT
 split at h<;>cases h
 rename_i hx
 have:=aef (abK _ _ hT) rfl
 exact us hh (aDt hx) hgo hv kk
def aFk(fr:FrX)(cf:Cf):Option (Nat×Nat×Nat×Nat×Int):=match opC fr cf with
 |some ⟨_, .indexAddr t x y,_,_,_,_⟩=>match abk tt t with
  |some ⟨.sl _ s' _,_,_,_⟩=>match evX (lkC fr cf) x with
   |some (.rs nm s off m)=>match evX (lkC fr cf) y with
    |some (.d (.v (.int _ i)))=>bif Nat.beq s s' then some (nm,s,off,m,i) else none
    |_=>none
   |_=>none
  |_=>none
 |_=>none
theorem rsi[fu:Fu]{nm s off m:Nat}{i:Int}(k:Nat)(h:aFk fr cf=some (nm,s,off,m,i))(hk:(off:Int)+i=(k:Nat))(h0:0≤i)(h1:i<(m:Nat))(hgo:goA tt n fu.n fr own cf (.be nm s k 0) [] []=⟨vc,fr',own',cf'⟩)(kk:CfS prog GB C n Q0 fr' own' cf')
  (hv:aag vc:=by first|exact trivial|(simp only[aag];kernel_rfl)|(simp only[aag];omega)|(simp only[aag,aJ,aN,aY];omega)):CfS prog GB C n Q0 fr own cf:=by
 unfold aFk at h
 split at h<;>try (cases h;done)
 rename_i hh
 split at h<;>try (cases h;done)
 rename_i hT
 split at h<;>try (cases h;done)
 rename_i hx
 split at h<;>try (cases h;done)
 rename_i hy
 rw[cond_eq_ite] at h
 split at h<;>cases h
 rename_i hq
 cases aR hq
 have:=aef (abK _ _ hT) rfl
 exact us hh (aCs hx hy h0 h1 hk) hgo hv kk
/-! a row cut short, under a new name -/
theorem Buf.cut{s:Nat}{ty:TypeId}{z:SV}{vs:List Value}{B:List Own}(h:Buf s ty z vs B)(hs: ∀v∈vs,(aae v).length=s){k:Nat}(hk:k≤vs.length)(hne:0<vs.length):Buf s ty ⟨z.a,k,z.c⟩ (vs.take k) B:=by
 rcases h with⟨h1,_,_⟩|⟨b,rest,lo,h1,h2,h3,h4,h5⟩
 ·subst h1;simp at hne
 ·have e:aah vs=aah (vs.take k)++aah (vs.drop k):=by rw[←ab7,jU]
  have hl:=aap (vs.take k) fun v hv=>hs v (cS hv)
  have hm:(vs.take k).length=k:=by rw[cV];omega
  refine .inr ⟨b,aah (vs.drop k)++rest,lo,by rw[hm,h1],by rw[h2,e,fQ],hl,?_,by rw[hm];show k≤z.c;omega⟩
  show _=z.c*s
  rw[←h4,e,aV,aV];omega
theorem aBC{P:Program}{e s by_:Nat}[hT:acH P t e s by_]{nm d:Nat}{k:IntKind}{j:Nat}{ty:TypeId}{ds:List DV}{lo:Bool}(hne:Nat.beq nm d=false)(hx:evX lk x=some (.rw nm))(hb:bk nm=some (.b ty s ds lo))(hy:evX lk y=some (.d (.v (.int k j))))(h1:j<ds.length):
  OpR P GB C n lk bk ⟨some d, .slice t x none (some y) none,ty',pos,af,gd⟩ (.rw d) [(nm,none),(d,some (.b ty s (ds.take j) lo))] [d]:=by
 intro hd tl tb K s1 s2 hf hk
 refine⟨fun ρ G ov a w r Q=>?_⟩
 have r1:=r.mono s1 s2
 obtain⟨u,hu,hu2⟩:=r1.ev hx
 cases (show u=_ from hu2)
 obtain⟨v,hv,hv2⟩:=r1.ev hy
 rw[aax] at hv2;subst hv2
 obtain⟨B,hB0,hBo⟩:=r1.bx _ _ hb
 have hB:aba G ⟨ρ nm,s,ty,ds,lo⟩ B:=hB0
 obtain⟨b,hw,hc⟩:=ax3 hB (by omega)
 obtain⟨vs,g1,g2,g3,g4⟩:=hB
 have hvl:=g2.len
 have hcut:aba G ⟨⟨(ρ nm).a,j,(ρ nm).c⟩,s,ty,ds.take j,lo⟩ B:=⟨vs.take j,Buf.cut g1 g3 (by simp only at hvl⊢;omega) (by simp only at hvl⊢;omega),g2.take _,fun v hv=>g3 v (cS hv),g4⟩
 have hs:=acA (P:=P) (C:=C) (own:=ov) (G:=G) (dst:=some d) (ty':=ty') (pos:=pos) (af:=af) (gd:=gd) (t:=t) hu hv (by omega) (by omega)
 have hnn:nm≠d:=fun e=>by subst e;rw[mS] at hne;cases hne
 have r2:=r.dropB nm
 have hf2:acM [d] (some d) tl (Sx.upB tb [(nm,none)]):=fun q hq=>by
  obtain⟨f1,f2⟩:=hf q hq
  refine⟨f1,fun k B e1 e=>?_⟩
  simp only[Sx.upB] at e
  split at e
  ·cases e
  ·exact f2 k B e1 e
 have r3:=r2.new' (x:=⟨(ρ nm).a,j,(ρ nm).c⟩) (B':= .b ty s (ds.take j) lo) (os:=B) (ov':=ov) (f:= .rw d) (y:= .slice (ρ nm).a j (ρ nm).c) hf2 (GLe.refl _) r.h (hcut.toBk (by simp)) hBo
  (fun m B' hm e o ho hmo=>⟨ho,fun hc=>by
   simp only[Sx.upB] at e
   split at e
   ·cases e
   ·rename_i hmn
    exact r.dj m nm B' _ e (s2 _ _ hb) hmn _ hmo hc⟩) (by simp[IsX]) (r.putA (.slice (ρ nm).a j (ρ nm).c) hd)
 exact abb (hs a w (aaN a) r.h) (hk.run _ G _ _ w r3)
def aFC(fr:FrX)(own:OwX)(cf:Cf):Option (Nat×Nat×TypeId×Nat×List DV×Bool×Int):=match opC fr cf with
 |some ⟨some d, .slice t x none (some y) none,_,_,_,_⟩=>match abk tt t with
  |some ⟨.sl _ s' _,_,_,_⟩=>match evX (lkC fr cf) x with
   |some (.rw nm)=>match bkC fr own cf nm with
    |some (.b ty s ds lo)=>match evX (lkC fr cf) y with
     |some (.d (.v (.int _ i)))=>bif Nat.beq s s'&&!Nat.beq nm d then some (d,nm,ty,s,ds,lo,i) else none
     |_=>none
    |_=>none
   |_=>none
  |_=>none
 |_=>none
theorem rct[fu:Fu]{d nm s:Nat}{ty:TypeId}{ds:List DV}{lo:Bool}{i:Int}(ds':List DV)(k:Nat)(h:aFC fr own cf=some (d,nm,ty,s,ds,lo,i))(hi:i=(k:Nat))(hl:k<ds.length)(hd:ds.take k=ds')(hgo:goA tt n fu.n fr own cf (.rw d) [(nm,none),(d,some (.b ty s ds' lo))] [d]=⟨vc,fr',own',cf'⟩)(kk:CfS prog GB C n Q0 fr' own' cf')
  (hv:aag vc:=by first|exact trivial|(simp only[aag];kernel_rfl)|(simp only[aag];omega)|(simp only[aag,aJ,aN,aY];omega)):CfS prog GB C n Q0 fr own cf:=by
 subst hi hd
 unfold aFC at h
 split at h<;>try (cases h;done)
 rename_i hh
 split at h<;>try (cases h;done)
 rename_i hT
 split at h<;>try (cases h;done)
 rename_i hx
 split at h<;>try (cases h;done)
 rename_i hb
 split at h<;>try (cases h;done)
 rename_i hy
 rw[cond_eq_ite] at h
 split at h<;>cases h
 rename_i hq
 simp only[cJ,gX] at hq
 cases aR hq.1
 have:=aef (abK _ _ hT) rfl
 exact us hh (aBC hq.2 hx hb hy hl) hgo hv kk
/-! the rest of a row cleared -/
theorem anl(v:Value)(m:Nat):aah (List.replicate m v)=aa7 v m:=by
 unfold aa7
 induction m with
 |zero=>rfl
 |succ m ih=>rw[iJ,iJ,kK,←ih];rfl
theorem ao8{G:Gh}{z:DV}{v:Value}(h:Is G z v): ∀m:Nat,IsLs G (List.replicate m z) (List.replicate m v)
 |0=> .nil
 |m+1=>by rw[iJ,iJ];exact .cons h (ao8 h m)
theorem aA2{P:Program}{e s by_:Nat}[hT:acH P t e s by_]{i:TI}{z:DV}(hi:afl P e=some i)(hz:zeE i=some z)(hzs:z.cells.length=s){nm off m:Nat}{ty:TypeId}{ds:List DV}{lo:Bool}(hx:evX lk x=some (.rs nm s off (m+1)))(hb:bk nm=some (.b ty s ds lo))(hm:off+(m+1)=ds.length):
  OpR P GB C n lk bk ⟨dst, .call ⟨.builtin .clear, #[x], #[t]⟩,ty',pos,af,gd⟩ (.d (.tp [])) [(nm,some (.b ty s (ds.take off++List.replicate (m+1) z) lo))] []:=by
 intro hd tl tb K s1 s2 hf hk
 refine⟨fun ρ G ov a w r Q=>?_⟩
 have r1:=r.mono s1 s2
 obtain⟨v,hz1,hz2,hz3⟩:=ajs hi hz
 have cz:=((hz2 G).cells hz3).1.len
 have cf:=((hz2 G).cells hz3).2
 rw[hzs] at cz
 obtain⟨u,hu,b,c,hbq,rfl,hc⟩:=r1.ev hx
 obtain⟨B,hB0,hBo⟩:=r1.bx _ _ hb
 have hB:aba G ⟨ρ nm,s,ty,ds,lo⟩ B:=hB0
 obtain⟨vs,g1,g2,g3,g4⟩:=hB
 simp only at g1 g2 g3 g4
 have hvl:=g2.len
 rcases g1 with⟨e1,e2,_⟩|⟨b',rest,lo',k1,k2,k3,k4,k5⟩
 ·subst e1;simp at hvl;omega
 ·have hbe:b'=b:=by rw[k1] at hbq;cases hbq;rfl
  subst hbe
  subst k2
  have hmem:=hBo _ aQ
  have hblk:=(r.h.hown _ hmem).1
  simp only at hblk
  have hzl:(aa7 v (m+1)).length=(m+1)*s:=by rw[abG,cz]
  have hls:vs.length*s=off*s+(m+1)*s:=by rw[←cY];congr 1;omega
  have hst:=abV (P:=P) (aa7 v (m+1)) w (off*s) 0 (aah vs++rest) (fun q hq=>by
   unfold aa7 at hq
   obtain⟨l,hl,hql⟩:=List.mem_flatten.1 hq
   rw[kN hl] at hql
   exact cf q hql) hblk (by rw[hzl,aV];omega)
  rw[dY] at hst
  have htk:=aap (vs.take off) fun q hq=>g3 q (cS hq)
  have hov:ovw (aah vs++rest) (off*s) (aa7 v (m+1))=aah (vs.take off++List.replicate (m+1) v)++rest:=by
   rw[act _ _ _ (by rw[hzl,aV];omega),ab7,anl]
   have e1:(aah vs++rest).take (off*s)=aah (vs.take off):=by
    rw[dW (by omega),afV vs off g3 (by omega)]
   rw[e1,hzl,←hls,iS (by omega),fL (by omega),jS]
  have hrun:(Builtin.clear_ #[t] ty' #[.slice (some ⟨b',off*s,none⟩) (m+1) c]).run P w= .ok (.tuple #[]) (abA w b' (.cells ⟨aah (vs.take off++List.replicate (m+1) v)++rest⟩ ty (0,0))):=by
   unfold Builtin.clear_
   show(underlying t>>=_).run P w=_
   rw[aaa (hT.u w)]
   show(zeroValue e>>=fun q=>storeCells ⟨b',off*s,none⟩ (Builtin.zeroCells q.cells (m+1)).toList>>=fun _=>pure (Value.tuple #[])).run P w=_
   rw[aaa (hz1.zero w)]
   show(storeCells ⟨b',off*s,none⟩ (Builtin.zeroCells v.cells (m+1)).toList>>=fun _=>pure (Value.tuple #[])).run P w=_
   rw[acv,agY,aaa (hov▸hst)];rfl
  obtain⟨own',u1,u2,u3⟩:=agm.of_mem (cs':=aah (vs.take off++List.replicate (m+1) v)++rest) hmem
  have r2:=r.upB (G':=G) (ov':=own') (w':=abA w b' (.cells ⟨aah (vs.take off++List.replicate (m+1) v)++rest⟩ ty (0,0))) (B':= .b ty s (ds.take off++List.replicate (m+1) z) lo) (os:=[⟨b',aah (vs.take off++List.replicate (m+1) v)++rest,ty,lo'⟩]) (GLe.refl _) (r.h.store u1)
   ⟨vs.take off++List.replicate (m+1) v, .inr ⟨b',rest,lo',?_,rfl,?_,?_,?_⟩,(g2.take _).app (ao8 (hz2 G) _),?_,?_⟩ (fun o ho=>by rw[aU.1 ho];exact u2) (fun o ho hne=>u3 o ho fun e=>hne (by rw[hbq,e])) ⟨_,s2 _ _ hb⟩
  ·have h3:=hk.run _ G _ _ _ (r2.put (f:= .d (.tp [])) (y:= .tuple #[]) (adM.2 ⟨[],rfl, .nil⟩) (r2.putA (.tuple #[]) hd))
   refine abb (v:= .tuple #[]) ?_ h3
   simp only[execOp,resolve,fR,bM,gW,aad (aaN a) hu]
   exact aam hrun
  ·rw[k1,aV,cV,aY,fT (by omega)]
   simp only[SV.mk.injEq,true_and,and_true];omega
  ·refine aap _ fun q hq=>?_
   rcases bK.1 hq with hq|hq
   ·exact g3 q (cS hq)
   ·rw[kN hq,cz]
  ·rw[ab7,anl,aV,htk,hzl,cV,fT (by omega)]
   omega
  ·rw[aV,cV,aY,fT (by omega)];omega
  ·intro q hq
   rcases bK.1 hq with hq|hq
   ·exact g3 q (cS hq)
   ·rw[kN hq,cz]
  ·intro hl o ho
   have:=g4 hl _ aQ
   rw[aU.1 ho];exact this
def aFt(fr:FrX)(own:OwX)(cf:Cf):Option (Nat×TypeId×Nat×List DV×Bool×Nat×Nat×DV):=match opC fr cf with
 |some ⟨_, .call ⟨.builtin .clear,⟨[x]⟩,⟨[t]⟩⟩,_,_,_,_⟩=>match abk tt t with
  |some ⟨.sl e s' _,_,_,_⟩=>match evX (lkC fr cf) x with
   |some (.rs nm s off m)=>match bkC fr own cf nm with
    |some (.b ty s2 ds lo)=>match abk tt e with
     |some i=>match zeE i with
      |some z=>bif Nat.beq s s'&&(Nat.beq s s2&&Nat.beq z.cells.length s) then some (nm,ty,s,ds,lo,off,m,z) else none
      |none=>none
     |none=>none
    |_=>none
   |_=>none
  |_=>none
 |_=>none
theorem rcl[fu:Fu]{nm s off m:Nat}{ty:TypeId}{ds:List DV}{lo:Bool}{z:DV}(ds':List DV)(h:aFt fr own cf=some (nm,ty,s,ds,lo,off,m,z))(hm:off+m=ds.length)(hp:0<m)(hd:ds.take off++List.replicate m z=ds')(hgo:goA tt n fu.n fr own cf (.d (.tp [])) [(nm,some (.b ty s ds' lo))] []=⟨vc,fr',own',cf'⟩)(kk:CfS prog GB C n Q0 fr' own' cf')
  (hv:aag vc:=by first|exact trivial|(simp only[aag];kernel_rfl)|(simp only[aag];omega)|(simp only[aag,aJ,aN,aY];omega)):CfS prog GB C n Q0 fr own cf:=by
 subst hd
 obtain⟨m,rfl⟩: ∃q,m=q+1:=⟨m-1,by omega⟩
 unfold aFt at h
 split at h<;>try (cases h;done)
 rename_i hh
 split at h<;>try (cases h;done)
 rename_i hT
 split at h<;>try (cases h;done)
 rename_i hx
 split at h<;>try (cases h;done)
 rename_i hb
 split at h<;>try (cases h;done)
 rename_i hi
 split at h<;>try (cases h;done)
 rename_i hz
 rw[cond_eq_ite] at h
 split at h<;>cases h
 rename_i hq
 simp only[cJ] at hq
 cases aR hq.1
 cases aR hq.2.1
 have:=aef (abK _ _ hT) rfl
 exact us hh (aA2 (abK _ _ hi) hz (aR hq.2.2) hx hb hm) hgo hv kk
end
theorem auO{u v:PtQ}{i j:Nat}[hp:BPt u i][hq:BPt v j](hi:i≤10000000:=by decide)(hj:j≤10000000:=by decide):PF GB prog 211 [eZ u,eZ v] (vB (decide (aaD u v=0))):=by
 refine fn func211 J J ntmps211 J J (fun C=>?_)
 refine cl rfl (aoc (u:=u) (v:=v) hi hj) rfl<|?_
 exact rz J J
def al9(x:PtQ):List PtQ→List PtQ
 |[]=>[]
 |y::l=>if aaD y x=0 then al9 y l else y::al9 y l
def aj9:List PtQ→List PtQ
 |[]=>[]
 |x::l=>x::al9 x l
theorem alr{l:List PtQ}{k:Nat}{x y:PtQ}(h:l[k]? =some y):al9 x (l.drop k)=if aaD y x=0 then al9 y (l.drop (k+1)) else y::al9 y (l.drop (k+1)):=by
 obtain⟨h1,h2⟩:=aL.1 h
 rw[aS h1,h2,al9]
theorem atH{l:List PtQ}{k:Nat}{y:PtQ}(h:l[k]? =some y):l.take (k+1)=l.take k++[y]:=by
 rw[iU,h];rfl
def vZ:DV:= .ag [vI 0,vI 0, .v (.pointer none),vI 0,vI 0, .v (.pointer none)]
theorem axb(l:List PtQ)(k:Nat)(y:PtQ):(l.map eZ).set k (eZ y)=(l.set k y).map eZ:=(jL ..).symm
theorem aoQ{l:List PtQ}(h:l.length<2):aj9 l=l:=by
 cases l with
 |nil=>rfl
 |cons x l=>cases l with
  |nil=>rfl
  |cons y l=>simp at h;omega
theorem aAq{l:List PtQ}{x:PtQ}(h:l[0]? =some x):aj9 l=l.take 1++al9 x (l.drop 1):=by
 cases l with
 |nil=>cases h
 |cons y l=>cases h;rfl
theorem atf{r l:List PtQ}{a b:Nat}(h:a≤b)(e:r.drop a=l.drop a):r[b]? =l[b]? :=by
 have:=congrArg (·[b-a]?) e
 simpa[nR,show a+(b-a)=b by omega] using this
theorem asS{r l:List PtQ}{a b:Nat}(h:a≤b)(e:r.drop a=l.drop a):r.drop b=l.drop b:=by
 have:=congrArg (List.drop (b-a)) e
 simpa[sX,show a+(b-a)=b by omega] using this
theorem alD{r:List PtQ}{i:Nat}{u:PtQ}(h:i<r.length):(r.set i u).take (i+1)=r.take i++[u]:=by
 rw[iU,lV h,List.take_set_of_le (bQ _)];rfl
theorem asT{r:List PtQ}{i:Nat}(h:i<r.length):(r.map eZ)[(i:Int).toNat]? =some (eZ r[i]):=by simp[h]
theorem arN{l:List PtQ}{i0:Nat}(hb: ∀d∈l,BPt d i0)(hn:l.length≤10000000)(hi:i0≤10000000):PB GB prog 210 (mkB [none,some (.v (.func (.func 211) #[] #[]))]) 6 104 (l.map eZ) (fun w=> .v (.slice w.a w.n w.c)) ((aj9 l).map eZ):=by
 have hml:(l.map eZ).length=l.length:=aJ ..
 refine fnQ (fu:=⟨10⟩) func210 J J ntmps210 J J (fun C=>?_)
 refine eqF 9 (.d (vI (l.length:Nat))) rfl (by rw[hml]<;>rfl) ?_
 refine gx rfl<|?_
 refine br J J J (fun hc10=>?_) (fun hc10=>?_)
 ·
  exact rzQ J J J (by rw[aoQ (by omega)])
 ·
  obtain⟨x0,hx0⟩: ∃x,l[0]? =some x:=⟨_,aZ (by omega)⟩
  refine lp (fu:=⟨6⟩) (X:=Nat×PtQ) (fun⟨k,x⟩=>[(5, .d (vI (k:Nat)))]) (fun⟨k,x⟩=>[]) (fun⟨k,x⟩=>1≤k∧k≤l.length∧l[k-1]? =some x∧aj9 l=l.take k++al9 x (l.drop k)) (fun⟨k,x⟩=>l.length-k) ⟨1,x0⟩ rfl ⟨bQ _,by omega,hx0,by rw[aAq hx0]⟩ (fun _=>rfl) (fun⟨k,x⟩ hk=>?_)
  try dsimp only at hk⊢
  obtain⟨h1,h2,h3,h4⟩:=hk
  refine eqF 14 (.d (vI (l.length:Nat))) rfl (by rw[hml]<;>rfl) ?_
  refine gx rfl<|?_
  refine br J J J (fun hc15=>?_) (fun hc15=>?_)
  ·
   obtain⟨y,hy⟩: ∃y,l[k]? =some y:=⟨_,aZ (by omega)⟩
   haveI:=hb y (aM hy)
   haveI:=hb x (aM h3)
   refine lb (fu:=⟨3⟩) _ rfl (aas hy) rfl<|?_
   refine eqF 25 (.d (vI ((k-1:Nat):Int))) rfl (by rw[Int.ofNat_sub h1]<;>rfl) ?_
   refine gx rfl<|lb (fu:=⟨0⟩) _ rfl (aas h3) rfl<|cl rfl (auO (u:=y) (v:=x) hi hi) rfl<|?_
   refine bd (fu1:=⟨4⟩) J J J (fun hc28=>?_) (fun hc28=>?_)
   ·
    have hc28':=hc28
    refine rsl k (l.length-k) J J (by omega) (by omega) rfl<|?_
    refine lp (fu:=⟨5⟩) (X:=Nat×Nat×PtQ×List PtQ) (fun⟨i,m,z,r⟩=>[(5, .d (vI (i:Nat))),(7, .d (vI (m:Nat)))]) (fun⟨i,m,z,r⟩=>[(1000000,some (.b 104 6 (r.map eZ) false))]) (fun⟨i,m,z,r⟩=>1≤m∧k+m≤l.length∧i+1≤k+m∧r.length=l.length∧r.drop (k+m-1)=l.drop (k+m-1)∧l[k+m-1]? =some z∧aj9 l=r.take i++al9 z (l.drop (k+m))) (fun⟨i,m,z,r⟩=>l.length-m) ⟨k,1,y,l⟩ rfl ⟨bQ _,by omega,by omega,rfl,rfl,by rw[kQ];exact hy,by rw[h4,alr hy,if_pos hc28']⟩ (fun _=>rfl) (fun⟨i,m,z,r⟩ hk=>?_)
    try dsimp only at hk⊢
    obtain⟨g1,g2,g3,g4,g5,g6,g7⟩:=hk
    have hrl:(r.map eZ).length=r.length:=aJ ..
    refine rsn J J<|?_
    refine br (fu1:=⟨9⟩) (fu2:=⟨9⟩) J J J (fun hc35=>?_) (fun hc35=>?_)
    ·
     obtain⟨u,hu⟩: ∃u,l[k+m]? =some u:=⟨_,aZ (by omega)⟩
     haveI:=hb u (aM hu)
     haveI:=hb z (aM g6)
     have g8:r[k+m]? =some u:=by rw[←hu];exact atf (by omega) g5
     have g10:r[k+m-1]? =some z:=by rw[←g6];exact atf (bQ _) g5
     have g9:r.drop (k+m)=l.drop (k+m):=asS (by omega) g5
     refine rsi (k+m) rfl (by omega) (by omega) (by omega) rfl<|lb (fu:=⟨3⟩) _ rfl (aas g8) rfl<|rsi (k+m-1) rfl (by omega) (by omega) (by omega) rfl<|?_
     refine lb (fu:=⟨0⟩) _ rfl (aas g10) rfl<|cl rfl (auO (u:=u) (v:=z) hi hi) rfl<|?_
     refine bb (fu1:=⟨6⟩) J J J (fun hc49=>?_) (fun hc49=>?_)
     ·
      have hc49': ¬aaD u z=0:=by simpa using hc49
      refine rsi (k+m) rfl (by omega) (by omega) (by omega) rfl<|lb _ rfl (aas g8) rfl<|sb _ ((r.set i u).map eZ) rfl (asT (by omega)) rfl (by rw[←axb]<;>rfl) rfl<|?_
      exact at_ ⟨i+1,m+1,u,r.set i u⟩ (by dsimp only;exact⟨⟨by omega,by omega,by omega,by rw[aN];exact g4,by rw[show k+(m+1)-1=k+m by omega,pX (by omega)];exact g9,by rw[show k+(m+1)-1=k+m by omega];exact hu,by rw[g7,alr hu,if_neg hc49',alD (by omega),fQ];rfl⟩,(by omega)⟩)
     ·
      have hc49':aaD u z=0:=by simpa using hc49
      exact at_ ⟨i,m+1,u,r⟩ (by dsimp only;exact⟨⟨by omega,by omega,by omega,g4,by rw[show k+(m+1)-1=k+m by omega];exact g9,by rw[show k+(m+1)-1=k+m by omega];exact hu,by rw[g7,alr hu,if_pos hc49'];rfl⟩,(by omega)⟩)
    ·
     obtain hm:k+m=l.length:=by omega
     refine rsl i (l.length-i) J J (by omega) (by omega) rfl<|rcl (fu:=⟨6⟩) _ rfl (by rw[hrl];omega) (by omega) J J<|rct ((r.take i).map eZ) i J J (by rw[aV,cV,aY,hrl];omega) (by rw[dW (by rw[cV,hrl];omega),List.take_take,Nat.min_self,fS]) rfl<|?_
     exact rzQ J J J (by rw[g7,hm,dJ,al9,lJ])
   ·
    have hc28':=hc28
    exact at_ ⟨k+1,y⟩ (by dsimp only;exact⟨⟨by omega,by omega,hy,by rw[h4,alr hy,if_neg hc28',atH hy,fQ];rfl⟩,(by omega)⟩)
  ·
   exact rzQ J J J (by rw[h4,show k=l.length by omega,dJ,al9,lJ,fX])
end Go.Sx
end
