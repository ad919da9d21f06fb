import Derived.Test.YtfccecinjmbfhaaGreatDoorMd17
set_option linter.unusedSimpArgs false
set_option maxHeartbeats 2000000
set_option maxRecDepth 100000
set_option linter.unusedVariables false
section
namespace Go.Sx
open Go Go.Proofs Tryz
variable {GB:Gh}
def atO:Tr→PtQ→Bool
 | .leaf _,_=>true
 | .node l x y,p=>if(l.value p).num.sign=1 then atO x p else if(l.value p).num.sign= -1 then atO y p else false
structure Two (a b:Tr):Prop where
 ga:a.gd
 gb:b.gd
 sa:a.size≤3000
 sb:b.size≤3000
def f1R(x y:Bool):Bool:=x&&!y
def f2R(x y:Bool):Bool:=y&&!x
def f3R(x y:Bool):Bool:=x&&y
def f4R(x y:Bool):Bool:=!x&&!y
def anK(f:Bool→Bool→Bool)(a b:Tr)(k:Nat):Bool:=((fcs a b).take k).any fun p=>f (atQ a p) (atQ b p)
theorem ajF{c:List LnQ}(hok: ∀l∈c,l.ok):afY c=true↔ ∃p,InL c p:=by
 rw[←aeG hok]
 unfold afY ab1
 cases c with
 |nil=>simp
 |cons a b=>
  rw[if_neg (by simp;omega)]
  simp only[decide_eq_true_eq,aJ,List.isEmpty_cons,Bool.false_or,jV]
  constructor
  ·intro h
   obtain⟨m,hm⟩:=List.exists_mem_of_length_pos (l:=aaJ (a::b)) (by omega)
   exact⟨m,aa4.1 hm⟩
  ·rintro ⟨m,hm⟩
   have:=List.length_pos_of_mem (aa4.2 hm)
   omega
def aa0:Tr→List LnQ→List (List LnQ×Bool)
 | .leaf b,c=>if afY c then [(aaJ c,b)] else []
 | .node l x y,c=>if afY c then aa0 x (aaJ c++[l])++aa0 y (aaJ c++[l.rev]) else []
theorem aeB: ∀(t:Tr) (c:List LnQ),(aa0 t c).length≤t.size+1
 | .leaf _,c=>by rw[aa0];split<;>simp[Tr.size]
 | .node l x y,c=>by
  have h1:=aeB x (aaJ c++[l])
  have h2:=aeB y (aaJ c++[l.rev])
  rw[aa0,Tr.size]
  split
  ·rw[aW];omega
  ·simp
def aHR(c:List LnQ)(p:PtQ):Bool:=c.all fun l=>decide (0<Int.sign (l.value p).num)
def aJa(c:List LnQ):Option PtQ:=(ayW (aov c)).find? (aHR c)
theorem azX{l m:LnQ}(hl:l.ok)(hm:m.ok)(h:aa7 l.dir m.dir=0): ∃k e:Rat,0<k∧ ∀p,m.value p=k*l.value p+e:=by
 obtain⟨h1,h2⟩:=awd.1 h
 have z1:=avC hl
 have key: ∃k:Rat,0<k∧m.dir.x=k*l.dir.x∧m.dir.y=k*l.dir.y:=by
  unfold PtQ.cross at h2
  rcases acB l.dir with⟨e,k⟩|⟨e,k⟩|⟨e,k⟩
  ·rw[e] at h1
   have k2:=ade.1 h1.symm
   rcases k with k|⟨k,k'⟩
   ·have y2:0<m.dir.y:=by
     rcases k2 with k2|⟨k2,k3⟩
     ·exact k2
     ·exfalso
      rw[k2] at h2
      have:=aap k k3
      grind
    refine⟨m.dir.y/l.dir.y,?_,by grind,by grind⟩
    have:0<m.dir.y/l.dir.y:=(aat k).1 (by rw[show m.dir.y/l.dir.y*l.dir.y=m.dir.y by grind];exact y2)
    exact this
   ·rw[k] at h2
    have y2:m.dir.y=0:=by
     rcases iV.1 (show l.dir.x*m.dir.y=0 by grind) with q|q
     ·rw[q] at k';exact absurd k' (by decide)
     ·exact q
    have x2:0<m.dir.x:=by
     rcases k2 with k2|⟨_,k3⟩
     ·rw[y2] at k2;exact absurd k2 (by decide)
     ·exact k3
    refine⟨m.dir.x/l.dir.x,(aat k').1 (by rw[show m.dir.x/l.dir.x*l.dir.x=m.dir.x by grind];exact x2),by grind,by rw[y2,k];grind⟩
  ·rw[e] at h1
   have k2:=aeh.1 h1.symm
   rcases k with k|⟨k,k'⟩
   ·have y2:m.dir.y<0:=by
     rcases k2 with k2|⟨k2,k3⟩
     ·exact k2
     ·exfalso
      rw[k2] at h2
      have:=aap (show 0< -l.dir.y by grind) (show 0< -m.dir.x by grind)
      grind
    refine⟨m.dir.y/l.dir.y,(aat (show 0< -l.dir.y by grind)).1 (by rw[show m.dir.y/l.dir.y* -l.dir.y= -m.dir.y by grind];grind),by grind,by grind⟩
   ·rw[k] at h2
    have y2:m.dir.y=0:=by
     rcases iV.1 (show l.dir.x*m.dir.y=0 by grind) with q|q
     ·rw[q] at k';exact absurd k' (by decide)
     ·exact q
    have x2:m.dir.x<0:=by
     rcases k2 with k2|⟨_,k3⟩
     ·rw[y2] at k2;exact absurd k2 (by decide)
     ·exact k3
    refine⟨m.dir.x/l.dir.x,(aat (show 0< -l.dir.x by grind)).1 (by rw[show m.dir.x/l.dir.x* -l.dir.x= -m.dir.x by grind];grind),by grind,by rw[y2,k];grind⟩
  ·exact absurd e z1
 obtain⟨k,k0,kx,ky⟩:=key
 simp only[LnQ.dir] at kx ky
 refine⟨k,(m.c:Rat)-k*(l.c:Rat),k0,fun p=>?_⟩
 rw[abD,abD,kx]
 have:(m.a:Rat)=k*(l.a:Rat):=by grind
 rw[this]
 grind
theorem aqo{e:aag}(hne: ∃q,InD e q){l m:LnQ}(hl:l.ok)(hm:m.ok)(pl: ∀p,InD e p→0<l.value p)(pm: ∀p,InD e p→0<m.value p)(tl: ∃p,InC e p∧l.value p=0)(tm: ∃p,InC e p∧m.value p=0)(ha:aa7 l.dir m.dir=0):l=m:=by
 obtain⟨k,c,k0,hk⟩:=azX hl hm ha
 obtain⟨p,p1,p2⟩:=tl
 obtain⟨q,q1,q2⟩:=tm
 have g1:=aa1 hne pm p1
 rw[hk,p2] at g1
 have g2:=aa1 hne pl q1
 have g3:=aab (dQ k0) g2
 rw[hk] at q2
 have c0:c=0:=by grind
 have hz: ∀t,m.value (l.at t)=0:=fun t=>by rw[hk,acw hl.ne,c0];grind
 rcases afv hm hl hz with h|h
 ·exact h.symm
 ·exfalso
  obtain⟨u,hu⟩:=hne
  have a:=pl u hu
  have b:=pm u hu
  rw[h,aaY] at b
  grind
theorem ahg{c:aag}(hc:aaV c){s:FrQ}(hs:s∈c):InC c (s.l.at s.v.sample)∧s.l.value (s.l.at s.v.sample)=0:=
 ⟨((hc.edge s hs).2 _).1 (abd (hc.edge s hs).1).has,acw (hc.ok s hs).ne _⟩
def apC(c:aag):Prop:=(c.map fun s=>s.l.dir).Pairwise Bef
theorem alu{p:Nat→Bool}{N:Nat}(hm: ∀i j,i≤j→j<N→p j=true→p i=true): ∀(d i j:Nat),j-i≤d→i≤j→j≤N→(∀k,k<i→p k=true)→(∀k,j≤k→k<N→p k=false)→(∀k,k<bsq p i j→p k=true)∧ ∀k,bsq p i j≤k→k<N→p k=false
 |0,i,j,h,hij,hN,h1,h2=>by
  obtain rfl:i=j:=by omega
  rw[bsq,dif_neg (by omega)];exact⟨h1,h2⟩
 |d+1,i,j,h,hij,hN,h1,h2=>by
  by_cases q:i<j
  ·rw[bsq,dif_pos q]
   by_cases r:p ((i+j)/2)=true
   ·rw[if_pos r]
    exact alu hm d _ _ (by omega) (by omega) hN (fun k hk=>hm k ((i+j)/2) (by omega) (by omega) r) h2
   ·rw[if_neg r]
    refine alu hm d _ _ (by omega) (by omega) (by omega) h1 fun k hk hkN=>?_
    cases hp:p k with
    |false=>rfl
    |true=>exact absurd (hm _ k hk hkN hp) r
  ·obtain rfl:i=j:=by omega
   rw[bsq,dif_neg q];exact⟨h1,h2⟩
theorem as3{ds:List PtQ}{d:PtQ}{n:Nat}(h:ds.Pairwise Bef)(h1: ∀x∈ds.take n,Bef x d)(h2: ∀x∈ds.drop n,Bef d x):(ds.take n++d::ds.drop n).Pairwise Bef:=by
 have hs:=h
 rw[←kX n ds,fN] at hs
 obtain⟨a,b,c⟩:=hs
 rw[fN]
 refine⟨a,cK.2 ⟨h2,b⟩,fun x hx y hy=>?_⟩
 rcases aR.1 hy with rfl|hy
 ·exact h1 x hx
 ·exact c x hx y hy
theorem amm(l:LnQ): ∀c:aag,((abP l c).map fun s=>s.l.dir).Sublist (c.map fun s=>s.l.dir)
 |[]=>List.Sublist.refl _
 |s::c=>by
  rw[abP]
  split
  ·exact(amm l c).cons_cons _
  ·exact(amm l c).cons _
theorem aqB{α:Type}{l:List α}{n:Nat}{x:α}(h:x∈l.take n): ∃i,i<n∧l[i]? =some x:=by
 obtain⟨i,hi,e⟩:=lS.1 h
 rw[cR] at hi
 exact⟨i,by omega,by rw[List.getElem_take] at e;rw[aQ (by omega),e]⟩
theorem arj{α:Type}{l:List α}{n:Nat}{x:α}(h:x∈l.drop n): ∃i,n≤i∧i<l.length∧l[i]? =some x:=by
 obtain⟨i,hi,e⟩:=lS.1 h
 rw[gU] at hi
 exact⟨n+i,by omega,by omega,by rw[List.getElem_drop] at e;rw[aQ (by omega),e]⟩
theorem alS{c:aag}{l:LnQ}(hc:aaV c)(hl:l.ok)(ha:apC c)(hb:abl c l=true):apC (aaP c l):=by
 have hg:=(aa8 hc hl hb).1
 unfold aaP at hg⊢
 cases hp:afs c l with
 |none=>exact ha
 |some v=>
  simp only[hp] at hg⊢
  have hs:apC (abP l c):=ha.sublist (amm l c)
  have nt: ∀s∈abP l c,aa7 s.l.dir l.dir≠0:=fun s h e=>by
   have m1:s∈apt (abP l c) l v:=acK.2 (.inr h)
   have m2:(⟨l,v⟩:FrQ)∈apt (abP l c) l v:=acK.2 (.inl rfl)
   have ee:=aqo hg.ne (hg.ok s m1) hl (fun p hp=>hp s m1) (fun p hp=>hp ⟨l,v⟩ m2) ⟨_,ahg hg m1⟩ ⟨_,ahg hg m2⟩ e
   obtain⟨s0,g1,_,rfl⟩:=acn.1 h
   obtain⟨_,q,q1,q2⟩:=ahN hl.ne hp
   have h5:=q1 s0 g1
   have e5:s0.l=l:=ee
   rw[e5] at h5
   grind
  generalize abP l c=d at*
  have hmo: ∀i j,i≤j→j<d.length→aeo d l j=true→aeo d l i=true:=fun i j hij hj h=>by
   unfold aeo at h⊢
   rw[aQ hj] at h
   rw[aQ (by omega)]
   simp only[decide_eq_true_eq,ahS] at h⊢
   by_cases q:i=j
   ·subst q;exact h
   ·have:=mN.1 hs i j (by simp;omega) (by simp;omega) (by omega)
    simp only[pW] at this
    exact afn this h
  obtain⟨k1,k2⟩:=alu hmo d.length 0 d.length (by omega) (by omega) (aM _) (fun k h=>absurd h (by omega)) (fun k h h'=>absurd h' (by omega))
  unfold apt apC
  generalize bsq (aeo d l) 0 d.length=n at*
  rw[bY,cX,gT,iL]
  refine as3 hs (fun x hx=>?_) (fun x hx=>?_)
  ·rw[←gT] at hx
   obtain⟨s,h1,rfl⟩:=bK.1 hx
   obtain⟨i,hi,e⟩:=aqB h1
   have:=k1 i hi
   unfold aeo at this
   rw[e] at this
   simpa[ahS] using this
  ·rw[←iL] at hx
   obtain⟨s,h1,rfl⟩:=bK.1 hx
   obtain⟨i,hi,hi2,e⟩:=arj h1
   have:=k2 i hi hi2
   unfold aeo at this
   rw[e] at this
   have h3: ¬Bef s.l.dir l.dir:=by simpa[ahS] using this
   by_cases q:Bef l.dir s.l.dir
   ·exact q
   ·exact absurd (auy h3 q) (nt s (gK h1))
theorem ajg: ∀{t:Tr} {c:aag},t.all LnQ.ok→aaV c→apC c→ ∀x∈t.parts c,apC x.2
 | .leaf b,c,_,_,ha,x,h=>by
  rw[Tr.parts,aV] at h
  subst h;exact ha
 | .node l u v,c,ht,hc,ha,x,h=>by
  rw[Tr.parts] at h
  rcases bR.1 h with h|h
  ·split at h
   ·rename_i hb
    exact ajg ht.2.1 (aa8 hc ht.1 hb).1 (alS hc ht.1 ha hb) x h
   ·cases h
  ·split at h
   ·rename_i hb
    exact ajg ht.2.2 (aa8 hc ht.1.rev hb).1 (alS hc ht.1.rev ha hb) x h
   ·cases h
def awo(c:List LnQ):Prop:=(c.map LnQ.dir).Pairwise Bef
theorem ajj{c:List LnQ}{e:aag}(hs: ∀s∈e,s.l∈c){l:LnQ}(hl:l.ok)(he:(acb l c IvQ.all).isSome=true): ∃w:IvQ,w.Pos∧ ∀t,w.ins t→InC e (l.at t)∧l.value (l.at t)=0∧ ∀m∈c,m≠l→0<m.value (l.at t):=by
 obtain⟨w,hw⟩:=qJ.1 he
 obtain⟨h1,h2⟩:=aeF l c _ w agb hw
 refine⟨w,h1,fun t ht=>?_⟩
 have h3:=((h2 t).1 ht).2
 refine⟨fun s hs'=>?_,acw hl.ne t,h3⟩
 by_cases q:s.l=l
 ·rw[q,acw hl.ne];exact gQ
 ·exact dQ (h3 _ (hs s hs') q)
theorem avv{α:Type}{p:α→Bool}: ∀(l:List α),(∀i x,i<(l.takeWhile p).length→l[i]? =some x→p x=true)∧ ∀x,l[(l.takeWhile p).length]? =some x→p x=false
 |[]=>⟨fun i x h _=>by simp at h,fun x h=>by simp at h⟩
 |a::l=>by
  obtain⟨h1,h2⟩:=avv (p:=p) l
  rw[nR]
  cases ha:p a with
  |false=>
   refine⟨fun i x h _=>by simp at h,fun x h=>?_⟩
   simp at h
   rw[←h];exact ha
  |true=>
   simp only[if_true,bW]
   refine⟨fun i x h e=>?_,fun x h=>h2 x (by simpa using h)⟩
   cases i with
   |zero=>simp at e;rw[←e];exact ha
   |succ i=>exact h1 i x (by omega) (by simpa using e)
theorem anP{out:List LnQ}{l:LnQ}(ha:awo out)(ht: ∀m∈out,aa7 m.dir l.dir=0→m=l):awo (acv out l):=by
 unfold acv
 split
 ·exact ha
 ·rename_i hne
  obtain⟨k1,k2⟩:=avv (p:=fun x:LnQ=>decide (aa7 x.dir l.dir<0)) out
  have e0:aeg out l=(out.takeWhile fun x=>decide (aa7 x.dir l.dir<0)).length:=rfl
  rw[←e0] at k1 k2
  generalize aeg out l=n at*
  unfold awo
  rw[bY,cX,gT,iL]
  refine as3 ha (fun x hx=>?_) (fun x hx=>?_)
  ·rw[←gT] at hx
   obtain⟨m,h1,rfl⟩:=bK.1 hx
   obtain⟨i,hi,e⟩:=aqB h1
   simpa[ahS] using k1 i m hi e
  ·rw[←iL] at hx
   obtain⟨m,h1,rfl⟩:=bK.1 hx
   obtain⟨i,hi,hi2,e⟩:=arj h1
   have hn:n<out.length:=by omega
   have h3: ¬Bef (out[n]).dir l.dir:=by simpa[ahS] using k2 _ (aQ hn)
   have h4:Bef l.dir (out[n]).dir:=by
    by_cases q:Bef l.dir (out[n]).dir
    ·exact q
    ·exact absurd (by rw[aQ hn,ht _ (bN hn) (auy h3 q)]) hne
   by_cases q:i=n
   ·subst q
    rw[aQ hn] at e
    cases e
    exact h4
   ·have:=mN.1 ha n i (by simp;omega) (by simp;omega) (by omega)
    simp only[pW] at this
    rw[aQ hi2] at e
    cases e
    exact afn h4 this
theorem ahs{c:List LnQ}(ht: ∀l∈c,∀m∈c,(acb l c IvQ.all).isSome=true→(acb m c IvQ.all).isSome=true→aa7 m.dir l.dir=0→m=l): ∀{t out:List LnQ},(∀l∈t,l∈c)→(∀m∈out,m∈c∧(acb m c IvQ.all).isSome=true)→awo out→awo (aed c t out)
 |[],out,_,_,ha=>ha
 |l::t,out,hc,ho,ha=>by
  have hl:=hc l aZ
  rw[aed]
  by_cases q:(acb l c IvQ.all).isSome=true
  ·rw[if_pos q]
   refine ahs ht (fun l h=>hc l (aK _ h)) (fun m hm=>?_) (anP ha fun m hm e=>ht l hl m (ho m hm).1 q (ho m hm).2 e)
   rcases afd.1 hm with rfl|h
   ·exact⟨hl,q⟩
   ·exact ho m h
  ·rw[if_neg q]
   exact ahs ht (fun l h=>hc l (aK _ h)) ho ha
theorem arT{c:List LnQ}(hok: ∀l∈c,l.ok)(hne: ∃p,InL c p):awo (aaJ c):=by
 obtain⟨e,_,hg,hi,hs⟩:=aeY hok hne
 refine ahs (fun l hl m hm el em h=>?_) (fun l h=>h) (fun m h=>by cases h) .nil
 obtain⟨w1,p1,k1⟩:=ajj (fun s h=>(hs s h).1) (hok l hl) el
 obtain⟨w2,p2,k2⟩:=ajj (fun s h=>(hs s h).1) (hok m hm) em
 obtain⟨a1,a2,_⟩:=k1 _ (abd p1)
 obtain⟨b1,b2,_⟩:=k2 _ (abd p2)
 exact aqo hg.ne (hok m hm) (hok l hl) (fun p hp=>(hi p).1 hp m hm) (fun p hp=>(hi p).1 hp l hl) ⟨_,b1,b2⟩ ⟨_,a1,a2⟩ h
theorem asX{v:IvQ}{t u:Rat}(h:v.ins t)(k:v.has u):v.ins ((t+u)*(1/2)):=by
 obtain⟨lo,hi,nl,nh⟩:=v
 unfold IvQ.ins at*
 unfold IvQ.has at k
 cases nl<;>cases nh<;>simp at* <;>grind
theorem aiv{c d:aag}(hc: ∃q,InD c q)(h: ∀p,InD c p↔InD d p){p:PtQ}(hp:InC c p):InC d p:=fun s hs=>aa1 hc (fun q hq=>(h q).1 hq s hs) hp
theorem asz{c:List LnQ}{d:aag}(hok: ∀l∈c,l.ok)(hd:aaV d)(h: ∀p,InD d p↔InL c p)(l:LnQ):l∈d.map (·.l)↔l∈aaJ c:=by
 have hne: ∃p,InL c p:=hd.ne.elim fun q hq=>⟨q,(h q).1 hq⟩
 obtain⟨e,_,hg,hi,hs⟩:=aeY hok hne
 have hde: ∀p,InD d p↔InD e p:=fun p=>by rw[h,hi]
 constructor
 ·intro hl
  obtain⟨s,k,rfl⟩:=bK.1 hl
  obtain⟨t1,t2⟩:=ahg hd k
  have t3:=aiv hd.ne hde t1
  have: ¬InD e (s.l.at s.v.sample):=fun q=>by
   have:=(hde _).2 q s k
   rw[t2] at this;exact absurd this (by decide)
  obtain⟨u,hu,hz⟩: ∃u∈e,u.l.value (s.l.at s.v.sample)=0:=by
   by_cases q: ∃u∈e,u.l.value (s.l.at s.v.sample)=0
   ·exact q
   ·exfalso
    refine this fun u hu=>?_
    have g1:=t3 u hu
    have g2:u.l.value (s.l.at s.v.sample)≠0:=fun e=>q ⟨u,hu,e⟩
    grind
  have:=amK hd k (hg.ok u hu) (fun p hp=>(hde p).1 hp u hu) hz
  rw[←this]
  exact aa4.2 (hs u hu)
 ·intro hl
  obtain⟨l1,l2⟩:=aa4.1 hl
  obtain⟨w,p1,k1⟩:=ajj (fun s h=>(hs s h).1) (hok l l1) l2
  have hed: ∀p,InD e p↔InD d p:=fun p=>(hde p).symm
  have hi1:=abd p1
  obtain⟨⟨u1,m1,n1⟩,⟨u2,m2,n2⟩⟩:=alV hi1
  have g1:=asX hi1 n1
  have g2:=asX hi1 n2
  obtain⟨c0,c1,_⟩:=k1 _ hi1
  have c2:=aiv hg.ne hed c0
  have: ¬InD d (l.at w.sample):=fun q=>by
   have:=(h _).1 q l l1
   rw[c1] at this;exact absurd this (by decide)
  obtain⟨s,hsd,hz⟩: ∃s∈d,s.l.value (l.at w.sample)=0:=by
   by_cases q: ∃u∈d,u.l.value (l.at w.sample)=0
   ·exact q
   ·exfalso
    refine this fun u hu=>?_
    have g1:=c2 u hu
    have g2:u.l.value (l.at w.sample)≠0:=fun e=>q ⟨u,hu,e⟩
    grind
  have e1:=aiv hg.ne hed (k1 _ g1).1 s hsd
  have e2:=aiv hg.ne hed (k1 _ g2).1 s hsd
  rw[acd] at hz e1 e2
  have hK:l.cutK s.l=0:=by
   rcases acX (l.cutK s.l) with h|h|h
   ·exact h
   ·exfalso
    have:=aap (a:=w.sample-u1) (b:=l.cutK s.l) (by grind) h
    grind
   ·exfalso
    have:=aap (a:=u2-w.sample) (b:= -l.cutK s.l) (by grind) (by grind)
    grind
  have hz2: ∀t,s.l.value (l.at t)=0:=fun t=>by rw[acd,hK];rw[hK] at hz;grind
  rcases afv (hd.ok s hsd) (hok l l1) hz2 with q|q
  ·rw[←q];exact dS hsd
  ·exfalso
   obtain⟨u,hu⟩:=hd.ne
   have a:=hu s hsd
   have b:=(h u).1 hu l l1
   rw[q,aaY] at a
   grind
theorem asl: ∀{l m:List LnQ},awo l→awo m→(∀x,x∈l↔x∈m)→l=m
 |[],[],_,_,_=>rfl
 |[],b::m,_,_,h=>absurd ((h b).2 aZ) (by simp)
 |a::l,[],_,_,h=>absurd ((h a).1 aZ) (by simp)
 |a::l,b::m,h1,h2,h=>by
  obtain⟨p1,p2⟩:=cK.1 h1
  obtain⟨q1,q2⟩:=cK.1 h2
  have p1': ∀x∈l,Bef a.dir x.dir:=fun x hx=>p1 _ (dS hx)
  have q1': ∀x∈m,Bef b.dir x.dir:=fun x hx=>q1 _ (dS hx)
  have e:a=b:=by
   rcases aR.1 ((h a).1 aZ) with e|e
   ·exact e
   ·rcases aR.1 ((h b).2 aZ) with f|f
    ·exact f.symm
    ·exact(agt (q1' a e) (p1' b f)).elim
  subst e
  congr 1
  refine asl p2 q2 fun x=>⟨fun hx=>?_,fun hx=>?_⟩
  ·rcases aR.1 ((h x).1 (aK _ hx)) with e|e
   ·subst e;exact(agc _ (p1' _ hx)).elim
   ·exact e
  ·rcases aR.1 ((h x).2 (aK _ hx)) with e|e
   ·subst e;exact(agc _ (q1' _ hx)).elim
   ·exact e
theorem axk{c:List LnQ}{d:aag}(hok: ∀l∈c,l.ok)(hd:aaV d)(ha:apC d)(h: ∀p,InD d p↔InL c p):aaJ c=d.map (·.l):=by
 refine asl (arT hok (hd.ne.elim fun q hq=>⟨q,(h q).1 hq⟩)) ?_ fun x=>(asz hok hd h x).symm
 unfold awo
 rw[pM]
 exact ha
theorem avt{c:List LnQ}(h:afY c≠true)(t:Tr):aa0 t c=[]:=by
 cases t<;>rw[aa0,if_neg h]
theorem ajp: ∀{t:Tr} {c:List LnQ} {d:aag},t.all LnQ.ok→(∀l∈c,l.ok)→aaV d→apC d→(∀p,InD d p↔InL c p)→aa0 t c=(t.parts d).map fun x=>(x.2.map (·.l),x.1)
 | .leaf b,c,d,_,hok,hd,ha,h=>by
  have hb:afY c=true:=(ajF hok).2 (hd.ne.elim fun q hq=>⟨q,(h q).1 hq⟩)
  rw[aa0,if_pos hb,Tr.parts,axk hok hd ha h];rfl
 | .node l x y,c,d,ht,hok,hd,ha,h=>by
  have hne: ∃p,InL c p:=hd.ne.elim fun q hq=>⟨q,(h q).1 hq⟩
  have hb:afY c=true:=(ajF hok).2 hne
  have hck: ∀m∈aaJ c,m.ok:=fun m hm=>hok m (aa4.1 hm).1
  have go: ∀(k:LnQ) (u:Tr),k.ok→u.all LnQ.ok→(∀{c:List LnQ} {d:aag},(∀l∈c,l.ok)→aaV d→apC d→(∀p,InD d p↔InL c p)→aa0 u c=(u.parts d).map fun x=>(x.2.map (·.l),x.1))→aa0 u (aaJ c++[k])=(if abl d k then u.parts (aaP d k) else []).map fun x=>(x.2.map (·.l),x.1):=fun k u hk hu ih=>by
   have hok2:=abW hck hk
   have hin: ∀p,InL (aaJ c++[k]) p↔InD d p∧0<k.value p:=fun p=>by rw[abE,afk hok hne,h]
   by_cases q:abl d k=true
   ·rw[if_pos q]
    obtain⟨g1,g2⟩:=aa8 hd hk q
    exact ih hok2 g1 (alS hd hk ha q) fun p=>by rw[g2,hin]
   ·rw[if_neg q]
    refine avt (fun e=>q ((ad8 hd hk).2 ?_)) u
    obtain⟨p,hp⟩:=(ajF hok2).1 e
    exact⟨p,(hin p).1 hp⟩
  rw[aa0,if_pos hb,Tr.parts,bY,go l x ht.1 ht.2.1 (fun a b c d=>ajp ht.2.1 a b c d),go l.rev y ht.1.rev ht.2.2 fun a b c d=>ajp ht.2.2 a b c d]
def ad1(c:aag):Bool:=!c.isEmpty&&c.all fun s=>!s.v.nl&&!s.v.nh
theorem auZ{c:aag}(hc:aaV c){s:FrQ}(hs:s∈c)(h:s.v.nh=true): ∀u∈c,0≤u.l.nor.dot s.l.dir:=fun u hu=>by
 obtain⟨p1,p2⟩:=hc.edge s hs
 have hi:=(abd p1).has
 have key: ∀n:Rat,0≤n→0≤u.l.value (s.l.at (s.v.sample+n)):=fun n hn=>((p2 _).1 ⟨hi.1.imp id fun q=>by grind, .inl h⟩) u hu
 have h0:=key 0 (by decide)
 rw[acd] at h0
 by_cases q:0≤u.l.nor.dot s.l.dir
 ·exact q
 ·exfalso
  have q':0< -(s.l.cutK u.l):=by unfold LnQ.cutK;grind
  have h1:=key ((s.l.cutC u.l+s.v.sample*s.l.cutK u.l+1)/ -(s.l.cutK u.l)) (by
   have:=(aat (s:=(s.l.cutC u.l+s.v.sample*s.l.cutK u.l+1)/ -(s.l.cutK u.l)) q').1 (by rw[show(s.l.cutC u.l+s.v.sample*s.l.cutK u.l+1)/ -(s.l.cutK u.l)* -(s.l.cutK u.l)=s.l.cutC u.l+s.v.sample*s.l.cutK u.l+1 by grind];grind)
   grind)
  rw[acd] at h1
  have:(s.l.cutC u.l+s.v.sample*s.l.cutK u.l+1)/ -(s.l.cutK u.l)*s.l.cutK u.l= -(s.l.cutC u.l+s.v.sample*s.l.cutK u.l+1):=by grind
  grind
theorem avH{c:aag}(hc:aaV c){s:FrQ}(hs:s∈c)(h:s.v.nl=true): ∀u∈c,u.l.nor.dot s.l.dir≤0:=fun u hu=>by
 obtain⟨p1,p2⟩:=hc.edge s hs
 have hi:=(abd p1).has
 have key: ∀n:Rat,0≤n→0≤u.l.value (s.l.at (s.v.sample-n)):=fun n hn=>((p2 _).1 ⟨.inl h,hi.2.imp id fun q=>by grind⟩) u hu
 have h0:=key 0 (by decide)
 rw[acd] at h0
 by_cases q:u.l.nor.dot s.l.dir≤0
 ·exact q
 ·exfalso
  have q':0<s.l.cutK u.l:=by unfold LnQ.cutK;grind
  have h1:=key ((s.l.cutC u.l+s.v.sample*s.l.cutK u.l+1)/s.l.cutK u.l) (by
   have:=(aat (s:=(s.l.cutC u.l+s.v.sample*s.l.cutK u.l+1)/s.l.cutK u.l) q').1 (by rw[show(s.l.cutC u.l+s.v.sample*s.l.cutK u.l+1)/s.l.cutK u.l*s.l.cutK u.l=s.l.cutC u.l+s.v.sample*s.l.cutK u.l+1 by grind];grind)
   grind)
  rw[acd] at h1
  have:(s.l.cutC u.l+s.v.sample*s.l.cutK u.l+1)/s.l.cutK u.l*s.l.cutK u.l=s.l.cutC u.l+s.v.sample*s.l.cutK u.l+1:=by grind
  grind
def ajL(c:List LnQ)(v:PtQ):Bool:=c.all fun l=>decide (0≤Int.sign (l.dir.cross v).num)
def aos(c:List LnQ):Bool:=!c.isEmpty&&(c.flatMap fun l=>[l.dir,ag4 l.dir]).all fun v=>!ajL c v
theorem aEx(k:Rat):0≤Int.sign k.num↔0≤k:=by
 have h1:=ahJ k
 constructor<;>intro h
 ·by_cases q:0≤k
  ·exact q
  ·exact absurd (h1.2 (by grind)) (by omega)
 ·by_cases q:0≤Int.sign k.num
  ·exact q
  ·exact absurd (h1.1 (by omega)) (by grind)
theorem amh{c:aag}{v:PtQ}:ajL (c.map (·.l)) v=true↔ ∀u∈c,0≤u.l.nor.dot v:=by
 unfold ajL
 rw[List.all_map,dZ]
 simp only[Function.comp,decide_eq_true_eq,aEx,aj2]
theorem aE1{c:aag}(hc:aaV c):aos (c.map (·.l))=ad1 c:=by
 unfold aos ad1
 congr 1
 ·cases c<;>rfl
 rw[Bool.eq_iff_iff,dZ,dZ]
 constructor
 ·intro h s hs
  have e1:=h s.l.dir (by rw[fX];exact⟨s.l,dS hs,by simp⟩)
  have e2:=h (ag4 s.l.dir) (by rw[fX];exact⟨s.l,dS hs,by simp⟩)
  cases nl:s.v.nl with
  |true=>
   rw[amh.2 fun u hu=>by
    have:=avH hc hs nl u hu
    unfold ag4 PtQ.dot at*
    grind] at e2
   cases e2
  |false=>
   cases nh:s.v.nh with
   |true=>rw[amh.2 (auZ hc hs nh)] at e1;cases e1
   |false=>rfl
 ·intro h v hv
  obtain⟨l,hl,hv⟩:=fX.1 hv
  obtain⟨s,hs,rfl⟩:=bK.1 hl
  have hb:=h s hs
  obtain⟨p1,p2⟩:=hc.edge s hs
  cases st:ajL (c.map (·.l)) v with
  |false=>rfl
  |true=>
   exfalso
   have k:=amh.1 st
   have hi:=(abd p1).has
   have q0:=(p2 _).1 hi
   simp only[bT,gJ] at hb
   simp only[aR,jL,or_false] at hv
   rcases hv with rfl|rfl
   ·have hbig:s.v.has (if s.v.sample≤s.v.hi then s.v.hi+1 else s.v.sample):=(p2 _).2 fun u hu=>by
     rw[acd]
     have a1:=q0 u hu
     rw[acd] at a1
     have a2:0≤s.l.cutK u.l:=k u hu
     split
     ·have:=aab (a:=s.v.hi+1-s.v.sample) (b:=s.l.cutK u.l) (by grind) a2
      grind
     ·exact a1
    have:=hbig.2
    rw[hb.2] at this
    rcases this with q|q
    ·cases q
    ·split at q<;>grind
   ·have hbig:s.v.has (if s.v.lo≤s.v.sample then s.v.lo-1 else s.v.sample):=(p2 _).2 fun u hu=>by
     rw[acd]
     have a1:=q0 u hu
     rw[acd] at a1
     have a2:0≤ -(s.l.cutK u.l):=by have:=k u hu;unfold ag4 PtQ.dot at this;unfold LnQ.cutK PtQ.dot;grind
     split
     ·have:=aab (a:=s.v.sample-(s.v.lo-1)) (b:= -(s.l.cutK u.l)) (by grind) a2
      grind
     ·exact a1
    have:=hbig.1
    rw[hb.1] at this
    rcases this with q|q
    ·cases q
    ·split at q<;>grind
def lnU:LnQ:=⟨1,0,0⟩
def asf(c:List LnQ)(i:Nat):List PtQ:=
 if 0<Int.sign ((c.getD i lnU).dir.cross (c.getD ((i+1)%c.length) lnU).dir).num then [abq (c.getD i lnU) (c.getD ((i+1)%c.length) lnU)] else []
def ach(c:List LnQ):List PtQ:=(List.range c.length).flatMap (asf c)
def aHV(v:List PtQ)(i:Nat):List PtQ:=[v.getD 0 ⟨0,0⟩,v.getD (i+1) ⟨0,0⟩,v.getD (i+2) ⟨0,0⟩]
def aDn(v:List PtQ):List (List PtQ):=(List.range (v.length-2)).map (aHV v)
def aIj(cs:List (List LnQ)):List (List PtQ):=cs.flatMap fun c=>aDn (ach c)
theorem aga{c:List LnQ}{i:Nat}{l m:LnQ}(h1:c[i]? =some l)(h2:c[(i+1)%c.length]? =some m):asf c i=if 0<Int.sign (l.dir.cross m.dir).num then [abq l m] else []:=by
 unfold asf
 rw[aX,aX,h1,h2];rfl
theorem aft(c:List LnQ)(k:Nat):(List.range (k+1)).flatMap (asf c)=(List.range k).flatMap (asf c)++asf c k:=by
 rw[List.range_succ,nS];simp
theorem agl(c:List LnQ): ∀k,((List.range k).flatMap (asf c)).length≤k
 |0=>aM _
 |k+1=>by
  have:=agl c k
  have h2:(asf c k).length≤1:=by unfold asf;split<;>simp
  rw[aft,aW]
  omega
theorem axZ{c:List LnQ}{p:PtQ}(h:p∈ach c): ∃l∈c,∃m∈c,p=abq l m:=by
 obtain⟨i,hi,hp⟩:=fX.1 h
 have hi':=nM.1 hi
 have e1:=aQ hi'
 have e2:=aQ (l:=c) (dJ (i+1) (show 0<c.length by omega))
 rw[aga e1 e2] at hp
 split at hp
 ·exact⟨_,bN _,_,bN _,aV.1 hp⟩
 ·cases hp
theorem akS{es:List Int}: ∀{d a:Nat},(aar es d a).1.Red []
 |0,a=>apd es a
 |d+1,a=>by
  rw[aar]
  try dsimp only
  split
  ·exact Tr.merge_red _ _ _ _
  ·split
   ·exact Tr.restrict_red _ _
   ·split
    ·exact Tr.restrict_red _ _
    ·split
     ·exact Tr.compl_red (afB _ _)
     ·exact afB _ _
theorem ar0{es:List Int}{a:Nat}(ha:a≤es.length):TrX 36 (aar es 1 a).1∧(aar es 1 a).2≤es.length∧(aar es 1 a).1.restrict []=(aar es 1 a).1:=by
 obtain⟨h1,h2⟩:=aeA (d:=1) ha
 exact⟨(ahY.mono h1 (by decide)).x akS (by decide),h2,Tr.red_restrict akS⟩
theorem aDW{t:Tr}(ht:t.all LnQ.ok):((aa0 t []).filter (·.2)).map (·.1)=(aai t).map fun c=>c.map (·.l):=by
 rw[ajp (d:=[]) ht (fun l h=>by cases h) aaV.nil .nil (fun p=>⟨fun _ _ h=>(by cases h),fun _ _ h=>(by cases h)⟩)]
 unfold aai
 rw[List.filter_map,pM,pM]
 rfl
theorem adM{t:Tr}(ht:t.all LnQ.ok): ∀c∈aai t,aaV c:=fun c hc=>(afJ ht aaV.nil (adB.1 hc)).1
theorem arx(l m:LnQ):l.dir.cross m.dir=(crossI l m:Rat):=by
 unfold PtQ.cross LnQ.dir crossI
 rw[kY,cV,cV]
 grind
theorem aBu{l m:LnQ}(h:0<Int.sign (l.dir.cross m.dir).num):crossI l m≠0:=fun e=>by
 rw[acH,arx,e] at h;exact absurd h (by decide)
theorem ano{l m:LnQ}(h:crossI l m≠0):l.nor.cross m.nor≠0:=fun e=>by
 have:l.nor.cross m.nor=(crossI l m:Rat):=by
  unfold PtQ.cross LnQ.nor crossI
  rw[kY,cV,cV]
  grind
 rw[this] at e
 exact h (cN.1 e)
theorem azr{l m:LnQ}(h:crossI l m≠0):abq l m=⟨((l.b:Rat)*(m.c:Rat)-(l.c:Rat)*(m.b:Rat))/l.nor.cross m.nor,((l.c:Rat)*(m.a:Rat)-(l.a:Rat)*(m.c:Rat))/l.nor.cross m.nor⟩:=by
 have e1:(meetX l m:Rat)=(l.b:Rat)*(m.c:Rat)-(l.c:Rat)*(m.b:Rat):=by unfold meetX;rw[kY,cV,cV];grind
 have e2:(meetY l m:Rat)=(l.c:Rat)*(m.a:Rat)-(l.a:Rat)*(m.c:Rat):=by unfold meetY;rw[kY,cV,cV];grind
 have e3:(crossI l m:Rat)=l.nor.cross m.nor:=by unfold PtQ.cross LnQ.nor crossI;rw[kY,cV,cV];grind
 unfold abq
 rw[if_neg h,e1,e2,e3]
theorem agD: ∀{t:Tr} {c:aag} {x:Bool×aag},t.all LB→t.all LnQ.ok→acp c→x∈t.parts c→acp x.2∧x.2.length≤c.length+t.depth
 | .leaf b,c,x,_,_,hc,h=>by
  rw[Tr.parts,aV] at h
  subst h
  exact⟨hc,mK _ _⟩
 | .node l u v,c,x,hb,ho,hc,h=>by
  have hl:=hb.1
  have hd:(Tr.node l u v).depth=1+max u.depth v.depth:=rfl
  rw[Tr.parts] at h
  rcases bR.1 h with h|h
  ·split at h
   ·obtain⟨k1,k2⟩:=agD hb.2.1 ho.2.1 (ai9 ho.1 hc) h
    have:=ahe c l
    exact⟨k1,by omega⟩
   ·cases h
  ·split at h
   ·obtain⟨k1,k2⟩:=agD hb.2.2 ho.2.2 (ai9 ho.1.rev hc) h
    have:=ahe c l.rev
    exact⟨k1,by omega⟩
   ·cases h
theorem aes(t:Tr):(aai t).length≤t.size+1:=by
 unfold aai
 rw[aJ]
 exact cJ (kJ ..) (aff t [])
theorem acY{t:Tr}(hb:t.all LB)(ho:t.all LnQ.ok): ∀c∈aai t,c.length≤t.depth:=fun c hc=>by
 have:=(agD hb ho acp.nil (adB.1 hc)).2
 simpa using this
theorem aiL{t:Tr}(hb:t.all LB)(ho:t.all LnQ.ok): ∀c∈aai t,∀s∈c,LB s.l:=fun c hc s hs=>((agD hb ho acp.nil (adB.1 hc)).1 s hs).lb
theorem aDu(l:List PtQ):adl 6 (l.map eZ):=fun d hd=>by
 obtain⟨x,_,rfl⟩:=bK.1 hd
 exact⟨rfl,rfl⟩
def eRz(v:List PtQ):DV:= .sl (v.map eZ)
def eRa(v:List PtQ):DV:= .sl (v.map ePt)
theorem acj{α:Type}{vs:List α}{f:α→Bool}{k:Nat}{v:α}(h:vs[k]? =some v):(vs.drop k).all f=(f v&&(vs.drop (k+1)).all f):=by
 obtain⟨h1,h2⟩:=aL.1 h
 rw[bJ h1,h2,rS]
theorem aBb{l m:LnQ}[hl:LB l][hm:LB m](hz:crossI l m≠0):PF GB prog 163 [eLn l,eLn m] (.tp [eZ (abq l m),vB true]):=by
 haveI:=BPt.nor l
 haveI:=BPt.nor m
 refine fn func163 J J ntmps163 J J (fun C=>?_)
 refine cl rfl (anq (l:=l)) rfl<|cl rfl (anq (l:=m)) rfl<|cl rfl (aiO (p:=l.nor) (q:=m.nor) (i:=97) (j:=97)) rfl<|cl (fu:=⟨0⟩) rfl (ajQ (q:=l.nor.cross m.nor)) rfl<|?_
 refine eqF 15 (.d (vB false)) rfl (by rw[decide_eq_false (ano hz)]) ?_
 refine kbF 15 rfl ?_
 refine gx rfl<|cl rfl (abG (p:=(l.b:Rat)) (q:=(m.c:Rat)) (i:=97) (j:=97)) rfl<|cl rfl (abG (p:=(l.c:Rat)) (q:=(m.b:Rat)) (i:=97) (j:=97)) rfl<|?_
 refine cl rfl (aic (p:=(l.b:Rat)*(m.c:Rat)) (q:=(l.c:Rat)*(m.b:Rat))) rfl<|cl rfl (akD (p:=(l.b:Rat)*(m.c:Rat)-(l.c:Rat)*(m.b:Rat)) (q:=l.nor.cross m.nor)) rfl<|?_
 refine cl rfl (abG (p:=(l.c:Rat)) (q:=(m.a:Rat)) (i:=97) (j:=97)) rfl<|cl rfl (abG (p:=(l.a:Rat)) (q:=(m.c:Rat)) (i:=97) (j:=97)) rfl<|?_
 refine cl rfl (aic (p:=(l.c:Rat)*(m.a:Rat)) (q:=(l.a:Rat)*(m.c:Rat))) rfl<|cl rfl (akD (p:=(l.c:Rat)*(m.a:Rat)-(l.a:Rat)*(m.c:Rat)) (q:=l.nor.cross m.nor)) rfl<|?_
 exact rz rfl (by rw[azr hz];rfl)
theorem au1{c:aag}(hb: ∀s∈c,LB s.l)(hn:c.length≤100000):PF GB prog 97 [eC c] (.sl ((ach (c.map (·.l))).map eZ)):=by
 have hml:(c.map eFr).length=c.length:=aJ ..
 obtain⟨L,hL⟩: ∃L,L=c.map (·.l):=⟨_,rfl⟩
 have hLl:L.length=c.length:=by rw[hL,aJ]
 refine fn (fu:=⟨15⟩) func97 J J ntmps97 J J (fun C=>?_)
 refine eqF 10 (.d (vI (c.length:Nat))) rfl (by rw[hml]<;>rfl) ?_
 refine gx rfl<|?_
 refine nr 3 3 145 6 J J J ?_
 refine lp (X:=List PtQ×Nat) (fun⟨acc,k⟩=>[(11, .d (vI (k:Nat))),(3, .rw 3)]) (fun⟨acc,k⟩=>[(3,some (.b 145 6 (acc.map eZ) true))]) (fun⟨acc,k⟩=>acc=(List.range k).flatMap (asf L)∧k≤c.length) (fun⟨acc,k⟩=>c.length-k) ⟨[],0⟩ rfl ⟨rfl,bQ _⟩ (fun _=>rfl) (fun⟨acc,k⟩ hk=>?_)
 try dsimp only at hk⊢
 obtain⟨h1,h2⟩:=hk
 have hal:=agl L k
 rw[←h1] at hal
 have ham:(acc.map eZ).length=acc.length:=aJ ..
 refine br J J J (fun hc12=>?_) (fun hc12=>?_)
 ·
  obtain⟨s,hx⟩: ∃u,c[k]? =some u:=⟨_,aQ (by omega)⟩
  obtain⟨u,hw⟩: ∃w,c[(k+1)%c.length]? =some w:=⟨_,aQ (dJ _ (by omega))⟩
  haveI:=hb s (aY hx)
  haveI:=hb u (aY hw)
  have hxl:L[k]? =some s.l:=by rw[hL,cW,hx];rfl
  have hwl:L[(k+1)%L.length]? =some u.l:=by rw[hLl,hL,cW,hw];rfl
  refine ix (fu:=⟨13⟩) _ rfl (aas hx) rfl<|?_
  refine eqF 20 (.d (vI (c.length:Nat))) rfl (by rw[hml]<;>rfl) ?_
  refine gx (fu:=⟨1⟩) rfl<|?_
  refine eqF 21 (.d (vI (((k+1)%c.length:Nat):Int))) J J ?_
  refine gx rfl<|ix _ rfl (aas hw) rfl<|cl rfl (akF (l:=s.l)) rfl<|cl rfl (akF (l:=u.l)) rfl<|cl rfl (aiO (p:=s.l.dir) (q:=u.l.dir) (i:=97) (j:=97)) rfl<|?_
  refine cl rfl (ado (q:=s.l.dir.cross u.l.dir)) rfl<|?_
  refine br J J J (fun hc32=>?_) (fun hc32=>?_)
  ·
   refine cl rfl (aBb (l:=s.l) (m:=u.l) (aBu hc32)) rfl<|rf J J<|ap ((acc++[abq s.l u.l]).map eZ) rfl (by rw[bY]<;>rfl) (aDu [abq s.l u.l]) rfl<|?_
   refine rnE 44 3 rfl ?_
   exact at_ ⟨acc++[abq s.l u.l],k+1⟩ (by dsimp only;exact⟨⟨by rw[aft,aga hxl hwl,if_pos hc32,←h1],by omega⟩,(by omega)⟩)
  ·
   exact at_ ⟨acc,k+1⟩ (by dsimp only;exact⟨⟨by rw[aft,aga hxl hwl,if_neg hc32,←h1,oR],by omega⟩,(by omega)⟩)
 ·
  have hS:ach L=acc:=by unfold ach;rw[hLl,h1,show k=c.length by omega]
  refine fzE 3 rfl ?_
  exact rz rfl (by rw[←hL,hS];rfl)
theorem aER{c:aag}(hn:c.length≤100000):PF GB prog 103 [eC c] (vB (ad1 c)):=by
 have hml:(c.map eFr).length=c.length:=aJ ..
 refine fn (fu:=⟨10⟩) func103 J J ntmps103 J J (fun C=>?_)
 refine eqF 6 (.d (vI (c.length:Nat))) rfl (by rw[hml]<;>rfl) ?_
 refine gx rfl<|?_
 refine lp (X:=Nat) (fun k=>[(7, .d (vI (k:Nat)))]) (fun k=>[]) (fun k=>(c.drop k).all (fun s:FrQ=>!s.v.nl&&!s.v.nh)=c.all (fun s:FrQ=>!s.v.nl&&!s.v.nh)∧k≤c.length) (fun k=>c.length-k) 0 rfl ⟨rfl,bQ _⟩ (fun _=>rfl) (fun k hk=>?_)
 obtain⟨h1,h2⟩:=hk
 refine br (fu2:=⟨9⟩) J J J (fun hc8=>?_) (fun hc8=>?_)
 ·
  obtain⟨s,hx⟩: ∃u,c[k]? =some u:=⟨_,aQ (by omega)⟩
  refine ix _ rfl (aas hx) rfl<|?_
  refine csb 14 J J J (fun hg14=>?_) (fun hg14=>?_)
  ·
   have hF:ad1 c=false:=by unfold ad1;rw[←h1,acj hx,hg14];simp
   exact rz rfl (by rw[hF];rfl)
  ·
   refine bb J J J (fun hc18=>?_) (fun hc18=>?_)
   ·
    have hF:ad1 c=false:=by unfold ad1;rw[←h1,acj hx,hc18];simp
    exact rz rfl (by rw[hF];rfl)
   ·
    exact at_ (k+1) ⟨⟨by rw[←h1,acj hx,hg14,hc18];rfl,by omega⟩,(by omega)⟩
 ·
  have hT:ad1 c=decide ((0:Int)<(c.length:Nat)):=by unfold ad1;rw[←h1,fZ (by omega)];cases c with|nil=>rfl|cons a b=>simp
  refine eqF 21 (.d (vI (c.length:Nat))) rfl (by rw[hml]<;>rfl) ?_
  refine gx rfl<|?_
  exact rz rfl (by rw[hT];rfl)
def aip(v:List PtQ):List (PtQ×PtQ):=(List.range v.length).map fun i=>(v.getD i ⟨0,0⟩,v.getD ((i+1)%v.length) ⟨0,0⟩)
def adY(cs:List (List LnQ)):List (PtQ×PtQ):=cs.flatMap fun c=>aip (ach c)
def ab8(cs:List aag):List (List LnQ):=cs.map fun c=>c.map (·.l)
def eZZ(p q:PtQ):DV:= .ag [vI (fn_ p.x),vI (fd_ p.x),fp_ p.x,vI (fn_ p.y),vI (fd_ p.y),fp_ p.y,vI (fn_ q.x),vI (fd_ q.x),fp_ q.x,vI (fn_ q.y),vI (fd_ q.y),fp_ q.y]
def edE(x:PtQ×PtQ):List DV:=[eZZ x.1 x.2,eF (x.1.cross x.2)]
theorem amd{α β:Type}(f:α→List β): ∀{l:List α} {k:Nat} {x:α} {i:Nat} {y:β},l[k]? =some x→(f x)[i]? =some y→(l.flatMap f)[((l.take k).flatMap f).length+i]? =some y
 |z::t,0,x,i,y,h,e=>by
  cases h
  simp only[rQ,List.flatMap_nil,fY,eY,kZ]
  rw[dT (aL.1 e).1];exact e
 |z::t,k+1,x,i,y,h,e=>by
  simp only[mQ,kZ,aW]
  rw[jQ (by omega)]
  rw[show(f z).length+((t.take k).flatMap f).length+i-(f z).length=((t.take k).flatMap f).length+i by omega]
  exact amd f (by simpa using h) e
theorem am9{α β:Type}(f:α→List β){l:List α}{k:Nat}{x:α}(h:l[k]? =some x):((l.take (k+1)).flatMap f).length=((l.take k).flatMap f).length+(f x).length:=by
 have:l.take (k+1)=l.take k++[x]:=by rw[iX,h];rfl
 rw[this,nS,aW];simp
theorem awF(v:List PtQ){i:Nat}{p q:PtQ}(h1:v[i]? =some p)(h2:v[(i+1)%v.length]? =some q):(aip v)[i]? =some (p,q):=by
 have hi:=(aL.1 h1).1
 unfold aip
 rw[cW,pN hi,kV,aX,aX,h1,h2]
 rfl
theorem aqn(v:List PtQ):(aip v).length=v.length:=by unfold aip;simp
theorem ptE{C:Ctx}{n:Nat}{Q0:Exit→Act→World→Prop}{fr:FrX}{own:OwX}{ops:Array Oper}{r:List Oper}{K:List Kt}(k:Nat){l:List DV}(hl:aao fr k=some (.d (.pt l)))(h:CfS prog GB C n Q0 ((k, .ep l)::fr) own (.ops ops r K)):CfS prog GB C n Q0 fr own (.ops ops r K):=
 abn hl (fun ρ G y hy=>by
  obtain⟨b,m,rfl,h1,h2⟩:=akl.1 hy
  have e:=h2.len
  exact⟨b,0,m,m,rfl,h1,by rw[abA m 0 l.length (by omega),gR,←e,dX],h2⟩) h
theorem amk{cs:List aag}{b:Nat}(hb: ∀c∈cs,∀s∈c,LB s.l)(hn: ∀c∈cs,c.length≤100000)(hl:cs.length≤1000000)(hpt: ∀x∈adY (ab8 cs),BPt x.1 b∧BPt x.2 b)(hb4:b≤40000000):It GB prog 154 [.pt [.sl (cs.map eC)]] ((adY (ab8 cs)).map edE):=by
 have hml:(cs.map eC).length=cs.length:=aJ ..
 refine aHZ func154 J J ntmps154 rfl (fun _=>rfl) (fun l Jv Jx GB' hg H C hp hJ=>?_)
 obtain⟨n0,hn0⟩: ∃n0:Nat→Nat,n0=fun k=>(((ab8 cs).take k).flatMap fun c=>aip (ach c)).length:=⟨_,rfl⟩
 refine ptE 1 rfl<|gx rfl<|?_
 refine eqF 10 (.d (vI (cs.length:Nat))) rfl (by rw[hml]<;>rfl) ?_
 refine lpC (X:=Nat) (fun k=>[(0, .d (.v (.func (.yield l) #[] #[]))),(9, .d (.sl (cs.map eC))),(10, .d (vI (cs.length:Nat))),(11, .d (vI (k:Nat)))]) (fun k C=>k≤cs.length∧Jv (n0 k) C.G0 C.w0) (fun k=>cs.length-k) 0 hp ⟨bQ _,by rw[hn0];exact hJ⟩ (fun _=>rfl) (fun k C1 hp1 hk=>?_)
 obtain⟨hk1,hJ1⟩:=hk
 refine br J J J (fun hc12=>?_) (fun hc12=>?_)
 ·obtain⟨c,hx⟩: ∃u,cs[k]? =some u:=⟨_,aQ (by omega)⟩
  have hcm:=aY hx
  have hxl:(ab8 cs)[k]? =some (c.map (·.l)):=by unfold ab8;rw[cW,hx];rfl
  refine ix _ rfl (aas hx) rfl<|cl rfl (au1 (c:=c) (hb c hcm) (hn c hcm)) rfl<|?_
  obtain⟨V,hV⟩: ∃V,V=ach (c.map (·.l)):=⟨_,rfl⟩
  rw[←hV]
  have hVl:(V.map eZ).length=V.length:=aJ ..
  have hVs:V.length≤100000:=by
   have:=agl (c.map (·.l)) (c.map (·.l)).length
   have h2:V.length≤(c.map (·.l)).length:=by rw[hV];exact this
   rw[aJ] at h2
   exact cJ h2 (hn c hcm)
  refine eqF 18 (.d (vI (V.length:Nat))) rfl (by rw[hVl]<;>rfl) ?_
  refine lpC (X:=Nat) (fun i=>[(0, .d (.v (.func (.yield l) #[] #[]))),(9, .d (.sl (cs.map eC))),(10, .d (vI (cs.length:Nat))),(11, .d (vI (k:Nat))),(5, .d (.sl (V.map eZ))),(17, .d (.sl (V.map eZ))),(18, .d (vI (V.length:Nat))),(19, .d (vI (i:Nat)))]) (fun i C=>i≤V.length∧Jv (n0 k+i) C.G0 C.w0) (fun i=>V.length-i) 0 hp1 ⟨bQ _,hJ1⟩ (fun _=>rfl) (fun i C2 hp2 hi=>?_)
  obtain⟨hi1,hJ2⟩:=hi
  refine br J J J (fun hc20=>?_) (fun hc20=>?_)
  ·obtain⟨p,hpx⟩: ∃u,V[i]? =some u:=⟨_,aQ (by omega)⟩
   obtain⟨q,hqx⟩: ∃u,V[(i+1)%V.length]? =some u:=⟨_,aQ (dJ _ (by omega))⟩
   have hpair:(adY (ab8 cs))[n0 k+i]? =some (p,q):=by
    rw[hn0]
    exact amd (fun c=>aip (ach c)) hxl (by rw[←hV];exact awF V hpx hqx)
   have hpq:=hpt _ (aY hpair)
   haveI:=hpq.1
   haveI:=hpq.2
   refine ix _ rfl (aas hpx) rfl<|?_
   refine eqF 29 (.d (vI (((i+1)%V.length:Nat):Int))) rfl (by rw[hVl]<;>rfl) ?_
   refine gx rfl<|ix _ rfl (aas hqx) rfl<|bar (len:=2) (s:=6) (e:=145) rfl (by kernel_rfl) (by kernel_rfl) rfl<|cl rfl (aiO (p:=p) (q:=q) (i:=b) (j:=b) hb4 hb4) rfl<|?_
   refine drT (by kernel_rfl) rfl ?_
   refine cy [(0, .d (.v (.func (.yield l) #[] #[]))),(9, .d (.sl (cs.map eC))),(10, .d (vI (cs.length:Nat))),(11, .d (vI (k:Nat))),(5, .d (.sl (V.map eZ))),(17, .d (.sl (V.map eZ))),(18, .d (vI (V.length:Nat))),(19, .d (vI (i:Nat)))] H hp2 hJ2 rfl (by rw[cW,hpair];rfl) rfl (by repeat (first|exact trivial|refine And.intro rfl ?_)) J J J (fun C3 hp3 hJ3=>?_) (fun C3 hp3 hJ3=>?_)
   ·exact atC (i+1) hp3 ⟨⟨by omega,hJ3⟩,by omega⟩
   ·exact aHJ H hp3 (.inr hJ3) rfl
  ·have hi2:i=V.length:=by omega
   refine atC (k+1) hp2 ⟨⟨by omega,?_⟩,by omega⟩
   have e:n0 (k+1)=n0 k+i:=by
    rw[hn0]
    show _=_+i
    rw[hi2]
    have:=am9 (fun c=>aip (ach c)) hxl
    rw[←hV,aqn] at this
    exact this
   rw[e];exact hJ2
 ·refine aHJ H hp1 (.inl ?_) rfl
  rw[aJ]
  have e:n0 k=(adY (ab8 cs)).length:=by
   rw[hn0]
   show((List.take k (ab8 cs)).flatMap _).length=_
   rw[aT (by unfold ab8;rw[aJ];omega)];rfl
  rw[←e];exact hJ1
theorem apz{cs:List aag}:PMk GB prog 86 [.sl (cs.map eC)] 154 (.pt [.sl (cs.map eC)]):=by
 refine aH2 func86 J J ntmps86 J J (fun C=>?_)
 refine fz 1 J J ?_
 refine aFQ 1 rfl (fun GB' pv hg hp=>?_)
 refine mkG J J ?_
 exact aIt J J hp
theorem zF{G:Gh}{m:List Value}(h:IsLs G [vI 0,vI 0, .v (.pointer none)] m):IsLs G [vI (fn_ 0),vI (fd_ 0),fp_ 0] m:=by
 obtain⟨l,e,k⟩:=ab3.1 (aCV G (.agg ⟨m⟩) (ab3.2 ⟨m,rfl,h⟩))
 cases e;exact k
def otQ(a b p:PtQ):Rat:=(b.x-a.x)*(p.y-a.y)-(b.y-a.y)*(p.x-a.x)
def wnQ(v w p:PtQ):Int:=(if v.y≤p.y∧ ¬w.y≤p.y∧0<otQ v w p then 1 else 0)-(if¬v.y≤p.y∧w.y≤p.y∧otQ v w p<0 then 1 else 0)
def aif(v w q p:PtQ):Prop:= ∀s t:Rat,0≤s→s≤1→0≤t→t≤1→abi v w s≠abi q p t
theorem ag8{a b:Rat}(h0:0≤a)(h1:a≤b)(hb:0<b):0≤a/b∧a/b≤1∧a/b*b=a:=by
 have e:a/b*b=a:=by grind
 generalize a/b=q at*
 refine⟨?_,?_,e⟩
 ·exact(aaj hb).1 (by rw[e];exact h0)
 ·have:=(aaj (s:=1-q) hb).1 (by grind)
  grind
theorem aEt{q p x:PtQ}(hy:q.y<p.y)(h:otQ q p x=0)(h1:q.y≤x.y)(h2:x.y≤p.y): ∃t,0≤t∧t≤1∧x=abi q p t:=by
 obtain⟨a1,a2,a3⟩:=ag8 (a:=x.y-q.y) (b:=p.y-q.y) (by grind) (by grind) (by grind)
 refine⟨_,a1,a2,?_⟩
 generalize (x.y-q.y)/(p.y-q.y)=t at*
 obtain⟨X,Y⟩:=x
 unfold otQ at h
 unfold abi
 simp only at*
 have e:X=q.x+t*(p.x-q.x):=by
  have h3:(p.y-q.y)*(X-q.x)=(p.y-q.y)*(t*(p.x-q.x)):=by grind
  have h4:p.y-q.y≠0:=by grind
  have:=iV.1 (show(p.y-q.y)*(X-q.x-t*(p.x-q.x))=0 by grind)
  rcases this with h5|h5
  ·exact absurd h5 h4
  ·grind
 rw[e]
 congr 1
 grind
theorem aE5(q p v w:PtQ)(e:Rat):otQ q p (abi v w e)=otQ q p v+e*(otQ q p w-otQ q p v):=by
 unfold otQ abi;grind
theorem avc(v w:PtQ)(a b e:Rat):abi (abi v w a) (abi v w b) e=abi v w (a+e*(b-a)):=by
 unfold abi;simp only[PtQ.mk.injEq];constructor<;>grind
theorem ax8(v w:PtQ)(e:Rat):(abi v w e).y=v.y+e*(w.y-v.y):=rfl
theorem aFU{a b e lo hi:Rat}(h0:0≤e)(h1:e≤1)(ha:lo≤a)(hb:lo≤b)(ha2:a≤hi)(hb2:b≤hi):lo≤a+e*(b-a)∧a+e*(b-a)≤hi:=by
 have k1:=aab h0 (show 0≤b-lo by grind)
 have k2:=aab (show 0≤1-e by grind) (show 0≤a-lo by grind)
 have k3:=aab h0 (show 0≤hi-b by grind)
 have k4:=aab (show 0≤1-e by grind) (show 0≤hi-a by grind)
 constructor<;>grind
theorem auq{v w q p:PtQ}(hn:aif v w q p)(hy:q.y<p.y){a b:Rat}(a0:0≤a)(a1:a≤1)(b0:0≤b)(b1:b≤1)(ha:q.y≤(abi v w a).y∧(abi v w a).y≤p.y)(hb:q.y≤(abi v w b).y∧(abi v w b).y≤p.y)(h:otQ q p (abi v w a)<0):otQ q p (abi v w b)<0:=by
 by_cases k:otQ q p (abi v w b)<0
 ·exact k
 ·exfalso
  obtain⟨e0,e1,e2⟩:=ag8 (a:= -(otQ q p (abi v w a))) (b:=otQ q p (abi v w b)-otQ q p (abi v w a)) (by grind) (by grind) (by grind)
  generalize-(otQ q p (abi v w a))/(otQ q p (abi v w b)-otQ q p (abi v w a))=e at*
  have hz:otQ q p (abi v w (a+e*(b-a)))=0:=by rw[←avc,aE5];grind
  have hh:=aFU e0 e1 ha.1 hb.1 ha.2 hb.2
  rw[←ax8,avc] at hh
  obtain⟨t,t0,t1,ht⟩:=aEt hy hz hh.1 hh.2
  have h01:=aFU e0 e1 a0 b0 a1 b1
  exact hn _ t h01.1 h01.2 t0 t1 ht
theorem aAB{v w q p:PtQ}(hn:aif v w q p)(hy:q.y<p.y): ∃r:Bool,∀s,0≤s→s≤1→q.y≤(abi v w s).y→(abi v w s).y≤p.y→(otQ q p (abi v w s)<0↔r=true):=by
 by_cases h: ∃s,0≤s∧s≤1∧(q.y≤(abi v w s).y∧(abi v w s).y≤p.y)∧otQ q p (abi v w s)<0
 ·obtain⟨s,s0,s1,s2,s3⟩:=h
  exact⟨true,fun t t0 t1 h1 h2=>⟨fun _=>rfl,fun _=>auq hn hy s0 s1 t0 t1 s2 ⟨h1,h2⟩ s3⟩⟩
 ·exact⟨false,fun t t0 t1 h1 h2=>⟨fun k=>absurd ⟨t,t0,t1,⟨h1,h2⟩,k⟩ h,fun k=>by cases k⟩⟩
theorem apY(v w:PtQ):abi v w 0=v:=by unfold abi;cases v;simp only[PtQ.mk.injEq];constructor<;>grind
theorem aso(v w:PtQ):abi v w 1=w:=by unfold abi;cases w;simp only[PtQ.mk.injEq];constructor<;>grind
theorem aj4{v w:PtQ}{y:Rat}(h:(v.y≤y∧ ¬w.y≤y)∨(¬v.y≤y∧w.y≤y)): ∃s,0≤s∧s≤1∧(abi v w s).y=y:=by
 rcases h with⟨h1,h2⟩|⟨h1,h2⟩
 ·obtain⟨a1,a2,a3⟩:=ag8 (a:=y-v.y) (b:=w.y-v.y) (by grind) (by grind) (by grind)
  refine⟨_,a1,a2,?_⟩
  rw[ax8];grind
 ·obtain⟨a1,a2,a3⟩:=ag8 (a:=v.y-y) (b:=v.y-w.y) (by grind) (by grind) (by grind)
  refine⟨_,a1,a2,?_⟩
  rw[ax8];grind
theorem amN{v w p:PtQ}{s:Rat}(h:(abi v w s).y=p.y):otQ v w p=(w.y-v.y)*((abi v w s).x-p.x):=by
 unfold otQ
 unfold abi at*
 simp only at*
 rw[←h];grind
theorem ahF{a b:Rat}(ha:0<a):0<a*b↔0<b:=by rw[Rat.mul_comm];exact aat ha
theorem alz{a b:Rat}(ha:a<0):a*b<0↔0<b:=by
 have:=ahF (a:= -a) (b:=b) (by grind)
 constructor
 ·intro h;exact this.1 (by grind)
 ·intro h;have:=this.2 h;grind
def bI(b:Prop)[Decidable b]:Int:=if b then 1 else 0
theorem atL{v w p:PtQ}{r:Prop}[Decidable r](h: ∀s,0≤s→s≤1→(abi v w s).y=p.y→(p.x<(abi v w s).x↔r)):wnQ v w p=if r then bI (v.y≤p.y)-bI (w.y≤p.y) else 0:=by
 unfold wnQ bI
 by_cases h1:v.y≤p.y<;>by_cases h2:w.y≤p.y
 ·simp[h1,h2]
 ·obtain⟨s,s0,s1,s2⟩:=aj4 (.inl ⟨h1,h2⟩)
  have e:=amN s2
  have k:=h s s0 s1 s2
  have m:=ahF (a:=w.y-v.y) (b:=(abi v w s).x-p.x) (by grind)
  rw[←e] at m
  have m2:0<otQ v w p↔r:=by rw[m,←k];grind
  simp only[h1,h2,m2]
  by_cases q:r<;>simp[q]
 ·obtain⟨s,s0,s1,s2⟩:=aj4 (.inr ⟨h1,h2⟩)
  have e:=amN s2
  have k:=h s s0 s1 s2
  have m:=alz (a:=w.y-v.y) (b:=(abi v w s).x-p.x) (by grind)
  rw[←e] at m
  have m2:otQ v w p<0↔r:=by rw[m,←k];grind
  simp only[h1,h2,m2]
  by_cases q:r<;>simp[q]
 ·simp[h1,h2]
def azB(q p u:PtQ):Int:=if q.y<u.y∧u.y≤p.y∧otQ q p u<0 then 1 else 0
theorem ant{v w q p:PtQ}(hn:aif v w q p)(hy:q.y<p.y):wnQ v w p-wnQ v w q=azB q p v-azB q p w:=by
 obtain⟨r,hr⟩:=aAB hn hy
 have ep:=atL (v:=v) (w:=w) (p:=p) (r:=r=true) fun s s0 s1 s2=>by
  rw[←hr s s0 s1 (by grind) (by grind)]
  have m:=ahF (a:=p.y-q.y) (b:=(abi v w s).x-p.x) (by grind)
  have:otQ q p (abi v w s)= -((p.y-q.y)*((abi v w s).x-p.x)):=by unfold otQ;rw[s2];grind
  rw[this]
  generalize (p.y-q.y)*((abi v w s).x-p.x)=z at*
  constructor
  ·intro k;have:=m.2 (by grind);grind
  ·intro k;have:=m.1 (by grind);grind
 have eq:=atL (v:=v) (w:=w) (p:=q) (r:=r=true) fun s s0 s1 s2=>by
  rw[←hr s s0 s1 (by grind) (by grind)]
  have m:=ahF (a:=p.y-q.y) (b:=(abi v w s).x-q.x) (by grind)
  have:otQ q p (abi v w s)= -((p.y-q.y)*((abi v w s).x-q.x)):=by unfold otQ;rw[s2];grind
  rw[this]
  generalize (p.y-q.y)*((abi v w s).x-q.x)=z at*
  constructor
  ·intro k;have:=m.2 (by grind);grind
  ·intro k;have:=m.1 (by grind);grind
 have fv:azB q p v=if r=true then bI (v.y≤p.y)-bI (v.y≤q.y) else 0:=by
  have h:=hr 0 (by decide) (by decide)
  rw[apY] at h
  unfold azB bI
  by_cases h1:v.y≤p.y<;>by_cases h2:v.y≤q.y
  ·have: ¬q.y<v.y:=by grind
   simp[h1,h2,this]
  ·have h3:q.y<v.y:=by grind
   have:=h (by grind) h1
   simp only[h1,h2,h3,this]
   by_cases q:r=true<;>simp[q]
  ·exfalso;grind
  ·simp[h1,h2]
 have fw:azB q p w=if r=true then bI (w.y≤p.y)-bI (w.y≤q.y) else 0:=by
  have h:=hr 1 (by decide) (by decide)
  rw[aso] at h
  unfold azB bI
  by_cases h1:w.y≤p.y<;>by_cases h2:w.y≤q.y
  ·have: ¬q.y<w.y:=by grind
   simp[h1,h2,this]
  ·have h3:q.y<w.y:=by grind
   have:=h (by grind) h1
   simp only[h1,h2,h3,this]
   by_cases q:r=true<;>simp[q]
  ·exfalso;grind
  ·simp[h1,h2]
 rw[ep,eq,fv,fw]
 by_cases q:r=true
 ·simp only[if_pos q];omega
 ·simp only[if_neg q]
theorem arL{v w q p:PtQ}(hn:aif v w q p)(hy:q.y=p.y):wnQ v w p=wnQ v w q:=by
 have key: ∀s,0≤s→s≤1→(abi v w s).y=p.y→(p.x<(abi v w s).x↔q.x<(abi v w s).x):=fun s s0 s1 s2=>by
  have no: ∀a b:Rat,a≤(abi v w s).x→(abi v w s).x<b→((a=q.x∧b=p.x)∨(a=p.x∧b=q.x))→False:=fun a b h1 h2 h3=>by
   obtain⟨a1,a2,a3⟩:=ag8 (a:=(abi v w s).x-a) (b:=b-a) (by grind) (by grind) (by grind)
   generalize ((abi v w s).x-a)/(b-a)=t at*
   rcases h3 with⟨e1,e2⟩|⟨e1,e2⟩
   ·refine hn s t s0 s1 a1 a2 ?_
    generalize hx:abi v w s=x at*
    obtain⟨X,Y⟩:=x
    unfold abi
    simp only[PtQ.mk.injEq] at*
    subst e1 e2
    constructor<;>grind
   ·refine hn s (1-t) s0 s1 (by grind) (by grind) ?_
    generalize hx:abi v w s=x at*
    obtain⟨X,Y⟩:=x
    unfold abi
    simp only[PtQ.mk.injEq] at*
    subst e1 e2
    constructor<;>grind
  constructor
  ·intro h
   by_cases k:q.x<(abi v w s).x
   ·exact k
   ·by_cases k2:(abi v w s).x=q.x
    ·exfalso
     refine hn s 0 s0 s1 (by decide) (by decide) ?_
     rw[apY]
     generalize abi v w s=x at*
     obtain⟨X,Y⟩:=x;obtain⟨A,B⟩:=q
     simp only[PtQ.mk.injEq] at*
     exact⟨k2,by grind⟩
    ·exact(no p.x q.x (by grind) (by grind) (.inr ⟨rfl,rfl⟩)).elim
  ·intro h
   by_cases k:p.x<(abi v w s).x
   ·exact k
   ·by_cases k2:(abi v w s).x=p.x
    ·exfalso
     refine hn s 1 s0 s1 (by decide) (by decide) ?_
     rw[aso]
     generalize abi v w s=x at*
     obtain⟨X,Y⟩:=x;obtain⟨A,B⟩:=p
     simp only[PtQ.mk.injEq] at*
     exact⟨k2,s2⟩
    ·exact(no q.x p.x (by grind) (by grind) (.inl ⟨rfl,rfl⟩)).elim
 by_cases hc:(v.y≤p.y∧ ¬w.y≤p.y)∨(¬v.y≤p.y∧w.y≤p.y)
 ·obtain⟨s,s0,s1,s2⟩:=aj4 hc
  have uq: ∀t,(abi v w t).y=p.y→t=s:=fun t ht=>by
   rw[ax8] at ht s2
   have h4:w.y-v.y≠0:=by grind
   have:=iV.1 (show(w.y-v.y)*(t-s)=0 by grind)
   rcases this with h5|h5
   ·exact absurd h5 h4
   ·grind
  rw[atL (p:=p) (r:=p.x<(abi v w s).x) fun t _ _ ht=>by rw[uq t ht],atL (p:=q) (r:=p.x<(abi v w s).x) fun t _ _ ht=>by rw[uq t (by rw[ht,hy])];exact(key s s0 s1 s2).symm,hy]
 ·unfold wnQ
  rw[hy]
  by_cases h1:v.y≤p.y<;>by_cases h2:w.y≤p.y<;>simp[h1,h2] at hc⊢
theorem aAA(q p:PtQ)(t:Rat):abi p q t=abi q p (1-t):=by unfold abi;simp only[PtQ.mk.injEq];constructor<;>grind
theorem aif.symm{v w q p:PtQ}(h:aif v w q p):aif v w p q:=fun s t s0 s1 t0 t1 e=>h s (1-t) s0 s1 (by grind) (by grind) (by rw[e,aAA])
def wnN(r:List ZP)(p:PtQ):Nat→Int
 |0=>0
 |k+1=>wnN r p k+wnQ (r.getD k (0,0)).q (acS r k).q p
def akM(r:List ZP)(q p:PtQ):Prop:= ∀k,k<r.length→aif (r.getD k (0,0)).q (acS r k).q q p
theorem arc{r:List ZP}{q p:PtQ}(h:akM r q p)(hy:q.y<p.y): ∀k,k<r.length→wnN r p k-wnN r q k=azB q p (r.getD 0 (0,0)).q-azB q p (r.getD k (0,0)).q
 |0,_=>by simp[wnN]
 |k+1,hk=>by
  have ih:=arc h hy k (by omega)
  have e:=ant (h k (by omega)) hy
  rw[agK (by omega)] at e
  rw[wnN,wnN,agK (by omega)]
  omega
theorem aza{r:List ZP}{q p:PtQ}(h:akM r q p)(hy:q.y<p.y):wnN r p r.length=wnN r q r.length:=by
 cases hr:r.length with
 |zero=>rfl
 |succ n=>
  have ih:=arc h hy n (by omega)
  have e:=ant (h n (by omega)) hy
  rw[aep (by omega)] at e
  rw[wnN,wnN,aep (by omega)]
  omega
theorem aoj{r:List ZP}{q p:PtQ}(h:akM r q p)(hy:q.y=p.y): ∀k,k≤r.length→wnN r p k=wnN r q k
 |0,_=>rfl
 |k+1,hk=>by rw[wnN,wnN,aoj h hy k (by omega),arL (h k (by omega)) hy]
theorem ayf{r:List ZP}{q p:PtQ}(h:akM r q p):wnN r p r.length=wnN r q r.length:=by
 by_cases h1:q.y<p.y
 ·exact aza h h1
 ·by_cases h2:p.y<q.y
  ·exact(aza (fun k hk=>(h k hk).symm) h2).symm
  ·exact aoj h (by grind) _ (aM _)
theorem ass(a b c:PtQ):ahX a b c=(otQ a b c).num.sign:=by
 unfold ahX otQ PtQ.cross adv
 congr 2
 grind
theorem aAN(a b:Rat):aa9 a b≤0↔a≤b:=by
 have:=aj3 a b
 constructor
 ·intro h
  by_cases q:b<a
  ·have:=this.2 q;omega
  ·grind
 ·intro h
  by_cases q:0<aa9 a b
  ·have:=this.1 q;grind
  ·omega
theorem aDl(v w p:PtQ):atB v w p=wnQ v w p:=by
 unfold atB wnQ
 simp only[ass,acH,ahJ,aAN]
theorem alN(r:List ZP)(p:PtQ): ∀k,aru r p k=wnN r p k
 |0=>rfl
 |k+1=>by rw[aru,wnN,alN r p k,aDl]
theorem atX{r:List ZP}{q p:PtQ}(h:akM r q p):anA r p=anA r q:=by
 unfold anA;rw[alN,alN,ayf h]
theorem azQ{v w p:PtQ}(h:v.y≤p.y)(k:w.y≤p.y):wnQ v w p=0:=by unfold wnQ;simp[h,k]
theorem aDJ{v w p:PtQ}(h:p.y<v.y)(k:p.y<w.y):wnQ v w p=0:=by
 have h': ¬v.y≤p.y:=by grind
 have k': ¬w.y≤p.y:=by grind
 unfold wnQ;simp[h',k']
theorem aox{v w p:PtQ}(r:Bool)(h1:p.x<v.x↔r=true)(h2:p.x<w.x↔r=true)(h3:v.x<p.x↔r=false)(h4:w.x<p.x↔r=false):wnQ v w p=if r=true then bI (v.y≤p.y)-bI (w.y≤p.y) else 0:=by
 refine atL (r:=r=true) fun s s0 s1 _=>?_
 have e:(abi v w s).x-p.x=(1-s)*(v.x-p.x)+s*(w.x-p.x):=by unfold abi;grind
 cases r with
 |true=>
  have a:=h1.2 rfl
  have b:=h2.2 rfl
  refine⟨fun _=>rfl,fun _=>?_⟩
  by_cases q:s=0
  ·subst q;grind
  ·have k1:=aap (show 0<s by grind) (show 0<w.x-p.x by grind)
   have k2:=aab (show 0≤1-s by grind) (show 0≤v.x-p.x by grind)
   grind
 |false=>
  have a:=h3.2 rfl
  have b:=h4.2 rfl
  refine⟨fun k=>?_,fun k=>(by cases k)⟩
  exfalso
  have k1:=aab (show 0≤s by grind) (show 0≤p.x-w.x by grind)
  have k2:=aab (show 0≤1-s by grind) (show 0≤p.x-v.x by grind)
  grind
def aFf(R:Rat)(p:PtQ):Prop:=p.x< -R∨R<p.x∨p.y< -R∨R<p.y
theorem axp{r:List ZP}{P:ZP→Prop}(h: ∀v∈r,P v){k:Nat}(hk:k<r.length):P (r.getD k (0,0)):=h _ (agn hk)
theorem az8{r:List ZP}{R:Rat}{p:PtQ}(hr: ∀v∈r, -R≤v.q.x∧v.q.x≤R∧ -R≤v.q.y∧v.q.y≤R)(hp:aFf R p):wnN r p r.length=0:=by
 have hv: ∀k,k<r.length→_:=fun k hk=>axp hr hk
 have hw: ∀k,k<r.length→_:=fun k hk=>hr _ (ag0 hk)
 have zero:(∀k,k<r.length→wnQ (r.getD k (0,0)).q (acS r k).q p=0)→ ∀k,k≤r.length→wnN r p k=0:=fun h=>by
  intro k
  induction k with
  |zero=>intro _;rfl
  |succ k ih=>intro hk;rw[wnN,ih (by omega),h k (by omega)];rfl
 rcases hp with h|h|h|h
 ·have tele: ∀k,k<r.length→wnN r p k=bI ((r.getD 0 (0,0)).q.y≤p.y)-bI ((r.getD k (0,0)).q.y≤p.y):=by
   intro k
   induction k with
   |zero=>intro _;rw[wnN];omega
   |succ k ih=>
    intro hk
    have e:=aox (v:=(r.getD k (0,0)).q) (w:=(acS r k).q) (p:=p) true (by have:=hv k (by omega);constructor<;>grind) (by have:=hw k (by omega);constructor<;>grind) (by have:=hv k (by omega);constructor<;>grind) (by have:=hw k (by omega);constructor<;>grind)
    rw[if_pos rfl,agK (by omega)] at e
    rw[wnN,ih (by omega),agK (by omega),e]
    omega
  cases hr':r.length with
  |zero=>rfl
  |succ n=>
   have e:=aox (v:=(r.getD n (0,0)).q) (w:=(acS r n).q) (p:=p) true (by have:=hv n (by omega);constructor<;>grind) (by have:=hw n (by omega);constructor<;>grind) (by have:=hv n (by omega);constructor<;>grind) (by have:=hw n (by omega);constructor<;>grind)
   rw[if_pos rfl,aep (by omega)] at e
   rw[wnN,tele n (by omega),aep (by omega),e]
   omega
 ·refine zero (fun k hk=>?_) _ (aM _)
  have e:=aox (v:=(r.getD k (0,0)).q) (w:=(acS r k).q) (p:=p) false (by have:=hv k (by omega);constructor<;>grind) (by have:=hw k (by omega);constructor<;>grind) (by have:=hv k (by omega);constructor<;>grind) (by have:=hw k (by omega);constructor<;>grind)
  rw[e,if_neg (by decide)]
 ·exact zero (fun k hk=>aDJ (by have:=hv k hk;grind) (by have:=hw k hk;grind)) _ (aM _)
 ·exact zero (fun k hk=>azQ (by have:=hv k hk;grind) (by have:=hw k hk;grind)) _ (aM _)
theorem ahT{l:LnQ}: ∀{c:List LnQ} {v:IvQ},(acf l c v).2=true→acb l c v=some (acf l c v).1
 |[],v,_=>rfl
 |m::t,v,h=>by
  rw[acf] at h⊢
  rw[acb]
  split
  ·rename_i e;rw[if_pos e] at h;exact ahT h
  ·rename_i e
   rw[if_neg e] at h
   split
   ·rename_i k;rw[if_pos k] at h;exact ahT h
   ·rename_i k;rw[if_neg k] at h;cases h
theorem apq{v:IvQ}(h:v.Pos):v.ins (abH v):=by
 obtain⟨lo,hi,nl,nh⟩:=v
 unfold IvQ.Pos at h
 unfold abH IvQ.ins
 cases nl<;>cases nh<;>simp at* <;>grind
theorem akt{p v:PtQ}: ∀{c:List LnQ} {s:Rat},0<s→0<af9 p v c s∧af9 p v c s≤s∧ ∀m∈c,0<m.value p→m.nor.dot v<0→af9 p v c s≤ -(m.value p/m.nor.dot v)/2
 |[],s,h=>⟨h,gQ,fun m hm=>by cases hm⟩
 |m::t,s,h=>by
  have hk:m.value (adv p v ((1:Int):Rat))-m.value p=m.nor.dot v:=by rw[abL];grind
  have key:0<ab7 p v m s∧ab7 p v m s≤s∧(0<m.value p→m.nor.dot v<0→ab7 p v m s≤ -(m.value p/m.nor.dot v)/2):=by
   unfold ab7 alT
   simp only[hk,abT,acH,afp]
   split
   ·rename_i e;exact⟨h,gQ,fun _ k=>by rw[e] at k;exact absurd k (by decide)⟩
   ·split
    ·rename_i e;exact⟨h,gQ,fun k=>by rw[e] at k;exact absurd k (by decide)⟩
    ·split
     ·rename_i e
      split
      ·exact⟨by grind,by grind,fun _ _=>gQ⟩
      ·exact⟨h,gQ,fun _ _=>by grind⟩
     ·rename_i e
      exact⟨h,gQ,fun k1 k2=>absurd (aqF k2 k1) e⟩
  obtain⟨a1,a2,a3⟩:=key
  obtain⟨b1,b2,b3⟩:=akt (p:=p) (v:=v) (c:=t) a1
  rw[af9]
  refine⟨b1,by grind,fun u hu k1 k2=>?_⟩
  rcases aR.1 hu with rfl|hu
  ·have:=a3 k1 k2;grind
  ·exact b3 u hu k1 k2
theorem azF{c:List LnQ}{p v:PtQ}(h: ∀m∈c,0<m.value p∨(m.value p=0∧0<m.nor.dot v)):InL c (arY c p v):=fun m hm=>by
 obtain⟨s0,_,s2⟩:=akt (p:=p) (v:=v) (c:=c) (s:=((1:Int):Rat)) (by decide)
 unfold arY
 generalize af9 p v c ((1:Int):Rat)=s at*
 rw[abL]
 rcases h m hm with k|⟨k,k2⟩
 ·by_cases q:m.nor.dot v<0
  ·have h3:=s2 m hm k q
   have h4:=aqF q k
   have e:m.value p/m.nor.dot v*m.nor.dot v=m.value p:=by grind
   generalize m.value p/m.nor.dot v=z at*
   have h5:=aab (a:= -z/2-s) (b:= -m.nor.dot v) (by grind) (by grind)
   grind
  ·have:=aab (dQ s0) (show 0≤m.nor.dot v by grind)
   grind
 ·have:=aap s0 k2
  grind
theorem axS{m:LnQ}(h:m.Ne):0<m.nor.dot (ahL m.dir):=by
 have:=afU h
 have e:m.nor.dot (ahL m.dir)=m.nor.dot m.nor:=by unfold ahL LnQ.dir LnQ.nor PtQ.dot;grind
 rw[e];exact this
theorem atc{c:List LnQ}(hok: ∀m∈c,m.ok)(hb:ab1 c=true):InL c (ab4 c c):=by
 have key: ∀t:List LnQ,(∀m∈t,m∈c)→(∃m∈t,(acb m c IvQ.all).isSome=true)→InL c (ab4 c t):=by
  intro t
  induction t with
  |nil=>rintro _ ⟨m,hm,_⟩;cases hm
  |cons m t ih=>
   intro hs hx
   rw[ab4]
   split
   ·rename_i e
    obtain⟨h1,h2⟩:=aeF m c _ _ agb (ahT e)
    have h3:=((h2 _).1 (apq h1)).2
    have hmo:=(hok m (hs m aZ)).ne
    refine azF fun u hu=>?_
    by_cases q:u=m
    ·subst q;exact .inr ⟨acw hmo _,axS hmo⟩
    ·exact .inl (h3 u hu q)
   ·rename_i e
    refine ih (fun u hu=>hs u (aK _ hu)) ?_
    obtain⟨u,hu,h⟩:=hx
    rcases aR.1 hu with rfl|hu
    ·rw[adO] at e;exact absurd h e
    ·exact⟨u,hu,h⟩
 unfold ab1 at hb
 rw[iQ,List.isEmpty_iff,jV] at hb
 rcases hb with rfl|⟨m,hm,h⟩
 ·exact fun m hm=>by cases hm
 ·exact key c (fun _ h=>h) ⟨m,hm,h⟩
theorem InL.seg{c:List LnQ}{q p:PtQ}{e:Rat}(hq:InL c q)(hp:InL c p)(h0:0≤e)(h1:e≤1):InL c (abi q p e):=fun m hm=>by
 rw[acG]
 have a:=hq m hm
 have b:=hp m hm
 by_cases z:e=0
 ·subst z;grind
 ·have k1:=aap (show 0<e by grind) b
  have k2:=aab (show 0≤1-e by grind) (dQ a)
  grind
theorem InL.open{c:List LnQ}{q:PtQ}(u:PtQ)(h:InL c q): ∃e:Rat,0<e∧ ∀d,0≤d→d≤e→InL c (adv q u d):=by
 have hd:InD (c.map fun m=>(⟨m,IvQ.all⟩:FrQ)) q:=fun s hs=>by
  obtain⟨m,hm,rfl⟩:=bK.1 hs
  exact h m hm
 obtain⟨e,he,ho⟩:=hd.open u
 exact⟨e,he,fun d d0 d1 m hm=>ho d d0 d1 ⟨m,IvQ.all⟩ (dS hm)⟩
theorem amc(l:LnQ)(t u:Rat):l.at (t+u)=adv (l.at t) l.dir u:=by
 rw[←agW,←agW];unfold adv;simp only[PtQ.mk.injEq];constructor<;>grind
theorem aDV(l:LnQ)(a b s:Rat):abi (l.at a) (l.at b) s=l.at (a+s*(b-a)):=by
 rw[←agW,←agW,←agW];unfold abi adv;simp only[PtQ.mk.injEq];constructor<;>grind
theorem aq4{l:LnQ}(h:l.Ne)(t:Rat):abw l (l.at t)=t:=by
 obtain⟨q,_,hq⟩:=anY h
 have h2:=afU h
 have e0:l.dir.dot l.dir=l.nor.dot l.nor:=by unfold LnQ.dir LnQ.nor PtQ.dot;grind
 have e1:(l.at t).dot l.dir=t*l.dir.dot l.dir:=by
  rw[←agW,hq];unfold adv LnQ.dir PtQ.dot;grind
 unfold abw
 rw[e1]
 rw[←e0] at h2
 generalize l.dir.dot l.dir=d at*
 have:d≠0:=by grind
 grind
theorem aqZ{l:LnQ}(h:l.Ne){p:PtQ}(hp:l.value p=0):l.at (abw l p)=p:=by
 obtain⟨t,rfl⟩:=aw0 h hp
 rw[aq4 h]
theorem aCd(a:Int){g:Nat}(h:g∣a.natAbs):(g:Int)*zv (decide (a<0)) (a.natAbs/g)=a:=by
 obtain⟨k,hk⟩:=h
 by_cases g0:g=0
 ·subst g0;simp at hk⊢;omega
 have e:a.natAbs/g=k:=by rw[hk];exact Nat.mul_div_cancel_left k (iR g0)
 rw[e]
 unfold zv
 have hc:((g*k:Nat):Int)=(g:Int)*(k:Int):=by push_cast;rfl
 by_cases n:a<0
 ·simp only[n,decide_true,if_true];rw[sZ];omega
 ·simp only[n,decide_false];show(g:Int)*(k:Int)=a;omega
theorem aBz{a b c:Int}(h: ¬(a=0∧b=0)): ∃g:Int,0<g∧g*(mkL a b c).a=a∧g*(mkL a b c).b=b∧g*(mkL a b c).c=c:=by
 have hg:0<Nat.gcd (Nat.gcd a.natAbs b.natAbs) c.natAbs:=oX _ (iR fun e=>h ⟨mS.1 (nU e),mS.1 (nV e)⟩)
 refine⟨(Nat.gcd (Nat.gcd a.natAbs b.natAbs) c.natAbs:Nat),by omega,?_,?_,?_⟩
 ·exact aCd a (rM (mV _ _) (mV _ _))
 ·exact aCd b (rM (mV _ _) (nJ _ _))
 ·exact aCd c (nJ _ _)
theorem axJ{v w:ZP}(h:v≠w): ∃g:Rat,0<g∧(amv v.1 v.2 w.1 w.2).value v.q=0∧(amv v.1 v.2 w.1 w.2).value w.q=0∧w.q=adv v.q (amv v.1 v.2 w.1 w.2).dir g:=by
 obtain⟨m,n⟩:=v
 obtain⟨p,q⟩:=w
 have hne: ¬(apv n q=0∧aoW m p=0):=fun e=>h (by unfold apv aoW at e;rw[Prod.mk.injEq];omega)
 obtain⟨g,g0,ga,gb,gc⟩:=aBz (c:=avS m n p q) hne
 dsimp only
 unfold amv
 generalize mkL (apv n q) (aoW m p) (avS m n p q)=l at*
 have g0':(0:Rat)<(g:Rat):=by exact_mod_cast g0
 have ra:(g:Rat)*(l.a:Rat)= -((q:Rat)-(n:Rat)):=by rw[←cV,ga];unfold apv;push_cast;grind
 have rb:(g:Rat)*(l.b:Rat)=(p:Rat)-(m:Rat):=by rw[←cV,gb];unfold aoW;push_cast;grind
 have rc:(g:Rat)*(l.c:Rat)= -(-((q:Rat)-(n:Rat))*(m:Rat)+((p:Rat)-(m:Rat))*(n:Rat)):=by rw[←cV,gc];unfold avS apv aoW;push_cast;grind
 have z: ∀x:Rat,(g:Rat)*x=0→x=0:=fun x hx=>by
  rcases iV.1 hx with e|e
  ·rw[e] at g0';exact absurd g0' (by decide)
  ·exact e
 refine⟨g,g0',z _ ?_,z _ ?_,?_⟩
 ·rw[abD];unfold ZP.q iP;dsimp only;grind
 ·rw[abD];unfold ZP.q iP;dsimp only;grind
 ·unfold ZP.q iP adv LnQ.dir;simp only[PtQ.mk.injEq];constructor<;>grind
theorem aB4{v w:ZP}(h:v≠w)(ho:(afb v w).l.ok):(afb v w).l.at (afb v w).v.lo=v.q∧(afb v w).l.at (afb v w).v.hi=w.q∧(afb v w).v.lo<(afb v w).v.hi:=by
 obtain⟨g,g0,h1,h2,h3⟩:=axJ h
 unfold afb at ho⊢
 dsimp only at ho⊢
 generalize amv v.1 v.2 w.1 w.2=l at*
 have e1:=aqZ ho.ne h1
 have e2:=aqZ ho.ne h2
 refine⟨e1,e2,?_⟩
 have:abw l w.q=abw l v.q+g:=by
  have e3:=amc l (abw l v.q) g
  rw[e1,←h3] at e3
  rw[←e3,aq4 ho.ne]
 rw[this];grind
theorem ak0{r:List ZP}{k:Nat}: ∀{n:Nat},k<n→afb (r.getD k (0,0)) (acS r k)∈afj r n
 |n+1,h=>by
  rw[afj]
  by_cases e:k=n
  ·subst e;exact cY _ (aV.2 rfl)
  ·exact cZ _ (ak0 (by omega))
theorem awv{r:List ZP}(hr:aaU r){c:List LnQ}(hc: ∀e∈acP r,∀t,e.v.ins t→ ¬InL c (e.l.at t)){q p:PtQ}(hq:InL c q)(hp:InL c p):akM r q p:=fun k hk s t s0 s1 t0 t1 he=>by
 have hm:afb (r.getD k (0,0)) (acS r k)∈acP r:=ak0 hk
 have ho:=((aiT hr).2 _ hm).ok
 obtain⟨e1,e2,e3⟩:=aB4 (hr.ne k hk) ho
 have hno:=hc _ hm
 have hx:=hq.seg hp t0 t1
 rw[←he,←e1,←e2,aDV] at hx
 have hv: ∀u,(afb (r.getD k (0,0)) (acS r k)).v.lo<u→u<(afb (r.getD k (0,0)) (acS r k)).v.hi→ ¬InL c ((afb (r.getD k (0,0)) (acS r k)).l.at u):=fun u h1 h2=>hno u ⟨.inr h1, .inr h2⟩
 generalize afb (r.getD k (0,0)) (acS r k)=e at*
 have hb:=aFU s0 s1 (gQ) (dQ e3) (dQ e3) (gQ)
 generalize e.v.lo+s*(e.v.hi-e.v.lo)=u at*
 obtain⟨d,d0,hd⟩:=hx.open e.l.dir
 obtain⟨d',d0',hd'⟩:=hx.open (ag4 e.l.dir)
 by_cases h1:e.v.lo<u
 ·by_cases h2:u<e.v.hi
  ·exact hv u h1 h2 hx
  ·have eu:u=e.v.hi:=by grind
   obtain⟨z,z0,z1,z2⟩: ∃z:Rat,0<z∧z≤d'∧z<e.v.hi-e.v.lo:=by
    by_cases k:d'<(e.v.hi-e.v.lo)/2
    ·exact⟨d',d0',gQ,by grind⟩
    ·exact⟨(e.v.hi-e.v.lo)/2,by grind,by grind,by grind⟩
   refine hv (u+ -z) (by grind) (by grind) ?_
   rw[amc]
   have:=hd' z (dQ z0) z1
   have e5:adv (e.l.at u) (ag4 e.l.dir) z=adv (e.l.at u) e.l.dir (-z):=by unfold adv ag4;simp only[PtQ.mk.injEq];constructor<;>grind
   rw[e5] at this;exact this
 ·have eu:u=e.v.lo:=by grind
  obtain⟨z,z0,z1,z2⟩: ∃z:Rat,0<z∧z≤d∧z<e.v.hi-e.v.lo:=by
   by_cases k:d<(e.v.hi-e.v.lo)/2
   ·exact⟨d,d0,gQ,by grind⟩
   ·exact⟨(e.v.hi-e.v.lo)/2,by grind,by grind,by grind⟩
  refine hv (u+z) (by grind) (by grind) ?_
  rw[amc]
  exact hd z (dQ z0) z1
theorem axw{rs:List (List ZP)}{fill:Int}(hr: ∀r∈rs,aaU r){c:List LnQ}(hc: ∀e∈abU rs,∀t,e.v.ins t→ ¬InL c (e.l.at t)){q p:PtQ}(hq:InL c q)(hp:InL c p):inR rs fill q=inR rs fill p:=by
 have key: ∀(rs:List (List ZP)),(∀r∈rs,aaU r)→(∀e∈abU rs,∀t,e.v.ins t→ ¬InL c (e.l.at t))→ ∀n:Int,rs.foldl (fun n r=>n+anA r q) n=rs.foldl (fun n r=>n+anA r p) n:=by
  intro rs
  induction rs with
  |nil=>intro _ _ n;rfl
  |cons r t ih=>
   intro hr hc n
   rw[jW,jW,←atX (awv (hr r aZ) (fun e he=>hc e (fX.2 ⟨r,aZ,he⟩)) hq hp)]
   exact ih (fun r h=>hr r (aK _ h)) (fun e he=>hc e (by obtain⟨r,h1,h2⟩:=fX.1 he;exact fX.2 ⟨r,aK _ h1,h2⟩)) _
 unfold inR
 rw[key rs hr hc]
theorem anb{cuts:List Rat}(h:cuts.Pairwise (· < ·)){i j:Nat}(hij:i<j)(hj:j<cuts.length):cuts.getD i 0<cuts.getD j 0:=by
 rw[aX,aX,aQ hj,aQ (by omega)]
 exact mN.1 h i j (by omega) hj hij
theorem alf{cuts:List Rat}{marks:List Bool}(h:cuts.Pairwise (· < ·)): ∀{k:Nat},∀v∈acl cuts marks (k+1),k<cuts.length→(v.nh=false∧v.hi≤cuts.getD k 0)∧(v.nl=true∨v.lo<cuts.getD k 0)
 |k,v,hv,hk=>by
  have hg:((adZ cuts k).nh=false∧(adZ cuts k).hi≤cuts.getD k 0)∧((adZ cuts k).nl=true∨(adZ cuts k).lo<cuts.getD k 0):=by
   unfold adZ
   dsimp only
   refine⟨⟨by simp;omega,by rw[if_pos hk];exact gQ⟩,?_⟩
   by_cases z:k=0
   ·left;simp[z]
   ·right;rw[if_neg z];exact anb h (by omega) hk
  have hold: ∀v∈acl cuts marks k,(v.nh=false∧v.hi≤cuts.getD k 0)∧(v.nl=true∨v.lo<cuts.getD k 0):=fun v hv=>by
   cases k with
   |zero=>cases hv
   |succ k=>
    have ih:=alf h v hv (by omega)
    have:=anb h (Nat.lt_succ_self k) hk
    exact⟨⟨ih.1.1,by have:=ih.1.2;grind⟩,ih.2.imp id fun z=>by grind⟩
  rw[acl] at hv
  split at hv
  ·split at hv
   ·split at hv
    ·rename_i w hw
     rcases bR.1 hv with q|q
     ·exact hold v ((rT _).subset q)
     ·rw[aV] at q;subst q
      exact⟨hg.1,(hold w (nK hw)).2⟩
    ·rcases bR.1 hv with q|q
     ·exact hold v q
     ·rw[aV] at q;subst q;exact hg
   ·rcases bR.1 hv with q|q
    ·exact hold v q
    ·rw[aV] at q;subst q;exact hg
  ·exact hold v hv
theorem amX{cuts:List Rat}{marks:List Bool}(h:cuts.Pairwise (· < ·)){x:Rat}{i:Nat}(hm:marks.getD i false=true)(hx:(adZ cuts i).ins x): ∀{k:Nat},k≤cuts.length+1→i<k→ ∃v∈acl cuts marks k,v.ins x
 |k+1,hk,hi=>by
  by_cases e:i=k
  ·subst e
   rw[acl,if_pos hm]
   split
   ·rename_i h0
    split
    ·rename_i w hw
     refine⟨_,cY _ (aV.2 rfl),?_,hx.2⟩
     obtain⟨j,rfl⟩: ∃j,i=j+1:=⟨i-1,by omega⟩
     have:=(alf h w (nK hw) (by omega)).2
     have hl:=hx.1
     unfold adZ at hl
     dsimp only at hl
     rw[if_neg (by omega),show j+1-1=j by omega] at hl
     have hl':cuts.getD j 0<x:=hl.resolve_left (by simp)
     exact this.imp id fun z=>by show w.lo<x;grind
    ·exact⟨_,cY _ (aV.2 rfl),hx⟩
   ·exact⟨_,cY _ (aV.2 rfl),hx⟩
  ·obtain⟨v,hv,hvx⟩:=amX h hm hx (k:=k) (by omega) (by omega)
   rw[acl]
   split
   ·split
    ·split
     ·rename_i w hw
      by_cases q:v=w
      ·subst q
       refine⟨_,cY _ (aV.2 rfl),hvx.1,?_⟩
       show(adZ cuts k).nh=true∨x<(adZ cuts k).hi
       obtain⟨j,rfl⟩: ∃j,k=j+1:=⟨k-1,by omega⟩
       obtain⟨⟨b1,b2⟩,_⟩:=alf h v hv (by omega)
       have hh:=hvx.2.resolve_left (by rw[b1];decide)
       unfold adZ
       dsimp only
       by_cases z:j+1<cuts.length
       ·right;rw[if_pos z];have:=anb h (Nat.lt_succ_self j) z;grind
       ·left;simp;omega
      ·refine⟨v,cZ _ ?_,hvx⟩
       obtain⟨l,hl⟩:=List.getLast?_eq_some_iff.1 hw
       rw[hl] at hv⊢
       rw[List.dropLast_concat]
       rcases bR.1 hv with z|z
       ·exact z
       ·rw[aV] at z;exact absurd z q
     ·exact⟨v,cZ _ hv,hvx⟩
    ·exact⟨v,cZ _ hv,hvx⟩
   ·exact⟨v,hv,hvx⟩
theorem arm: ∀{l:List Rat} {i:Nat},i+1<l.length→(adJ l).getD i 0=(l.getD i 0+l.getD (i+1) 0)/2
 |[],_,h=>by simp at h
 |[_],_,h=>by simp at h
 |a::b::t,0,_=>by simp[adJ]
 |a::b::t,i+1,h=>by
  have:=arm (l:=b::t) (i:=i) (by simp at h⊢;omega)
  rw[adJ,lQ,this]
  simp only[lQ]
theorem aiG: ∀(l:List Rat) (a:Rat),(adJ (a::l)).length=l.length
 |[],_=>rfl
 |b::t,a=>by rw[adJ,bW,aiG t b,bW]
theorem awq{cuts:List Rat}(h:cuts.Pairwise (· < ·)){i j:Nat}(hi:i≤cuts.length)(hj:j<cuts.length):(cuts.getD j 0<(abZ cuts).getD i 0↔j<i)∧cuts.getD j 0≠(abZ cuts).getD i 0:=by
 have mono: ∀{a b:Nat},a≤b→b<cuts.length→cuts.getD a 0≤cuts.getD b 0:=fun{a b} hab hb=>by
  by_cases e:a=b
  ·subst e;exact gQ
  ·exact dQ (anb h (by omega) hb)
 cases cuts with
 |nil=>simp at hj
 |cons a t=>
  have hl:(a::t).length=t.length+1:=rfl
  rw[abZ]
  cases i with
  |zero=>
   rw[sY]
   have:=mono (bQ j) hj
   rw[sY] at this
   constructor
   ·constructor
    ·intro q;exfalso;grind
    ·intro q;omega
   ·intro q;grind
  |succ i=>
   rw[lQ]
   by_cases e:i<t.length
   ·have e1:(adJ (a::t)++[(a::t).getLast (by simp)+1]).getD i 0=((a::t).getD i 0+(a::t).getD (i+1) 0)/2:=by
     rw[←arm (by omega),aX,aX,dT (by rw[aiG];exact e)]
    rw[e1]
    have h1:=anb h (Nat.lt_succ_self i) (by omega)
    by_cases q:j≤i
    ·have:=mono q (by omega)
     constructor
     ·exact⟨fun _=>by omega,fun _=>by grind⟩
     ·grind
    ·have:=mono (show i+1≤j by omega) hj
     constructor
     ·exact⟨fun _=>by exfalso;grind,fun _=>by omega⟩
     ·grind
   ·have ei:i=t.length:=by omega
    have e1:(adJ (a::t)++[(a::t).getLast (by simp)+1]).getD i 0=(a::t).getLast (by simp)+1:=by
     rw[aX,jQ (by rw[aiG];omega),aiG,ei];simp
    rw[e1]
    have:=auV h (by simp) ((a::t).getD j 0) (by rw[aX,aQ hj];exact bN _)
    constructor
    ·exact⟨fun _=>by omega,fun _=>by grind⟩
    ·grind
theorem anF(x:Rat): ∀{cuts:List Rat},cuts.Pairwise (· < ·)→ ∃i,i≤cuts.length∧ ∀j,j<cuts.length→(cuts.getD j 0<x↔j<i)
 |[],_=>⟨0,aM _,fun j hj=>by simp at hj⟩
 |a::t,h=>by
  rw[cK] at h
  by_cases q:a<x
  ·obtain⟨i,h1,h2⟩:=anF x h.2
   refine⟨i+1,by simp;exact h1,fun j hj=>?_⟩
   cases j with
   |zero=>simp[q]
   |succ j=>rw[lQ,h2 j (by simpa using hj)];omega
  ·refine⟨0,bQ _,fun j hj=>⟨fun k=>?_,fun k=>by omega⟩⟩
   exfalso
   cases j with
   |zero=>simp at k;grind
   |succ j=>
    rw[lQ] at k
    have hj':j<t.length:=by simpa using hj
    have:=h.1 (t.getD j 0) (by rw[aX,aQ hj'];exact bN _)
    grind
theorem aqS{out:List Rat}{s:IvQ}{y:Rat}:y∈aon out s↔y∈out∨(s.nl=false∧y=s.lo)∨(s.nh=false∧y=s.hi):=by
 unfold aon
 cases e1:s.nl<;>cases e2:s.nh<;>simp[acM]<;>grind
theorem atN{v:IvQ}{x:Rat}:act [v] x=true↔v.ins x:=by
 unfold act avN avN IvQ.ins
 have h1:=aj3 x v.lo
 have h2:=afp x v.hi
 rw[decide_eq_true_eq]
 cases e1:v.nl<;>cases e2:v.nh<;>simp only[if_true,jJ,if_false,false_or,true_or,h1,h2,and_true,true_and,show(0:Int)<1 from by decide,show(-1:Int)<0 from by decide]<;>grind
theorem atz{cuts:List Rat}{v:IvQ}(hl:v.nl=true∨v.lo∈cuts)(hh:v.nh=true∨v.hi∈cuts){x g:Rat}(ho: ∀u∈cuts,(u<x↔u<g)∧u≠x∧u≠g)(h:v.ins x):v.ins g:=by
 refine⟨?_,?_⟩
 ·rcases hl with e|e
  ·exact .inl e
  ·rcases h.1 with k|k
   ·exact .inl k
   ·exact .inr ((ho _ e).1.1 k)
 ·rcases hh with e|e
  ·exact .inl e
  ·rcases h.2 with k|k
   ·exact .inl k
   ·obtain⟨a,b,c⟩:=ho _ e
    right
    by_cases q:v.hi<g
    ·have:=a.2 q;grind
    ·grind
theorem ayd{v w:IvQ}{t:Rat}(hv:v.ins t)(hw:w.ins t): ∃z∈ahm 2 [v] [w],z.ins t:=by
 have hmem: ∀y,y∈adj ([v]++[w])↔((v.nl=false∧y=v.lo)∨(v.nh=false∧y=v.hi))∨(w.nl=false∧y=w.lo)∨(w.nh=false∧y=w.hi):=fun y=>by
  show y∈aon (aon [] v) w↔_
  rw[aqS,aqS]
  simp
 have hasc:=(ahC ([v]++[w])).1
 have h0: ∀u∈adj ([v]++[w]),u≠t:=fun u hu e=>by
  subst e
  rcases(hmem u).1 hu with(⟨a,b⟩|⟨a,b⟩)|⟨a,b⟩|⟨a,b⟩
  ·have:=hv.1.resolve_left (by rw[a];decide);grind
  ·have:=hv.2.resolve_left (by rw[a];decide);grind
  ·have:=hw.1.resolve_left (by rw[a];decide);grind
  ·have:=hw.2.resolve_left (by rw[a];decide);grind
 have l1:v.nl=true∨v.lo∈adj ([v]++[w]):=by
  cases e:v.nl with
  |true=>exact .inl rfl
  |false=>exact .inr ((hmem _).2 (.inl (.inl ⟨e,rfl⟩)))
 have l2:v.nh=true∨v.hi∈adj ([v]++[w]):=by
  cases e:v.nh with
  |true=>exact .inl rfl
  |false=>exact .inr ((hmem _).2 (.inl (.inr ⟨e,rfl⟩)))
 have l3:w.nl=true∨w.lo∈adj ([v]++[w]):=by
  cases e:w.nl with
  |true=>exact .inl rfl
  |false=>exact .inr ((hmem _).2 (.inr (.inl ⟨e,rfl⟩)))
 have l4:w.nh=true∨w.hi∈adj ([v]++[w]):=by
  cases e:w.nh with
  |true=>exact .inl rfl
  |false=>exact .inr ((hmem _).2 (.inr (.inr ⟨e,rfl⟩)))
 unfold ahm anp
 generalize adj ([v]++[w])=cuts at*
 obtain⟨i,hi,ho⟩:=anF t hasc
 have hord: ∀u∈cuts,(u<t↔u<(abZ cuts).getD i 0)∧u≠t∧u≠(abZ cuts).getD i 0:=fun u hu=>by
  obtain⟨j,hj,e⟩:=lS.1 hu
  have e':cuts.getD j 0=u:=by rw[aX,aQ hj];exact e
  obtain⟨g1,g2⟩:=awq hasc hi hj
  have:=ho j hj
  rw[e'] at g1 g2 this
  exact⟨this.trans g1.symm,h0 u hu,g2⟩
 have hlen:(abZ cuts).length=cuts.length+1:=afo
 refine amX hasc (i:=i) ?_ ?_ (by rw[aJ,hlen];exact aM _) (by rw[aJ,hlen];omega)
 ·rw[aX,cW,aQ (by omega)]
  show ag6 2 (act [v] _) (act [w] _)=true
  have e:(abZ cuts)[i]'(by omega)=(abZ cuts).getD i 0:=by rw[aX,aQ (by omega)];rfl
  rw[e,atN.2 (atz l1 l2 hord hv),atN.2 (atz l3 l4 hord hw)];rfl
 ·unfold adZ IvQ.ins
  dsimp only
  refine⟨?_,?_⟩
  ·by_cases z:i=0
   ·left;simp[z]
   ·right;rw[if_neg z];exact(ho (i-1) (by omega)).2 (by omega)
  ·by_cases z:i=cuts.length
   ·left;simp[z]
   ·right
    rw[if_pos (by omega)]
    have a:=ho i (by omega)
    have b:=h0 (cuts.getD i 0) (by rw[aX,aQ (by omega)];exact bN _)
    have c: ¬cuts.getD i 0<t:=fun k=>by have:=a.1 k;omega
    grind
theorem amZ{l m:LnQ}(h:crossI l m=0):l.cutK m=0:=by
 have e:l.cutK m= -(crossI l m:Rat):=by unfold LnQ.cutK LnQ.nor LnQ.dir PtQ.dot crossI;push_cast;grind
 rw[e,h];rfl
theorem axz{k:Rat}{side:Int}(hs:side=1∨side= -1)(h:0<(side:Rat)*k):k.num.sign=side:=by
 rcases hs with rfl|rfl
 ·exact(ahZ k).2 (by grind)
 ·have:k.num.sign<0:=(ahJ k).2 (by grind)
  have:=sU k.num
  omega
theorem atE{f:FrQ}{m:LnQ}{side:Int}(hs:side=1∨side= -1)(hl:f.l.Ne){t:Rat}(ht:f.v.ins t)(hm:0<(side:Rat)*m.value (f.l.at t)): ∃g∈aaW f m side,g.l=f.l∧g.v.ins t:=by
 have hv:=acd f.l m t
 have ho: ¬onB f.l m=true:=fun e=>by
  unfold onB at e
  rw[decide_eq_true_eq,abT] at e
  rw[amZ e.1,show f.l.cutC m=m.value f.l.base from rfl,e.2] at hv
  rw[hv] at hm
  grind
 unfold aaW
 rw[if_neg ho]
 have hh: ∃w,adH f.l m side=[w]∧w.ins t:=by
  unfold adH
  by_cases hc:crossI f.l m=0
  ·rw[if_pos hc]
   rw[amZ hc,show f.l.cutC m=m.value f.l.base from rfl] at hv
   rw[if_pos (axz hs (by rw[hv] at hm;grind))]
   exact⟨_,rfl,aBI t⟩
  ·rw[if_neg hc]
   have hp:=aer hl hc
   have hK:f.l.cutK m≠0:=fun e=>by
    have e2:f.l.cutK m= -(crossI f.l m:Rat):=by unfold LnQ.cutK LnQ.nor LnQ.dir PtQ.dot crossI;push_cast;grind
    rw[e2] at e
    have:(crossI f.l m:Rat)=0:=by grind
    exact hc (cN.1 this)
   generalize hx:abw f.l (abq f.l m)=x at*
   have hv2: ∀u,m.value (f.l.at u)=f.l.cutK m*(u-x):=fun u=>by rw[acd,hp];grind
   rw[hv2] at hm
   have e1:m.value (f.l.at (x+1))=f.l.cutK m:=by rw[hv2];grind
   rw[e1]
   generalize f.l.cutK m=K at*
   by_cases q:K.num.sign=side
   ·rw[if_pos q]
    refine⟨_,rfl, .inr ?_, .inl rfl⟩
    show x<t
    rcases hs with rfl|rfl
    ·have:=(ahZ K).1 q
     have:=(ahF this).1 (show 0<K*(t-x) by grind)
     grind
    ·have:=(ahJ K).1 (by omega)
     have:=(alz this).1 (show K*(t-x)<0 by grind)
     grind
   ·rw[if_neg q]
    refine⟨_,rfl, .inl rfl, .inr ?_⟩
    show t<x
    have h3:=acX K
    rcases hs with rfl|rfl
    ·have kn:K<0:=by
      rcases h3 with h|h|h
      ·exact absurd h hK
      ·exact absurd ((ahZ K).2 h) q
      ·exact h
     have:=(alz kn (b:=x-t)).1 (by grind)
     grind
    ·have kp:0<K:=by
      rcases h3 with h|h|h
      ·exact absurd h hK
      ·exact h
      ·exact absurd (by have:=(ahJ K).2 h;have:=sU K.num;omega) q
     have:=(ahF kp (b:=x-t)).1 (by grind)
     grind
 obtain⟨w,e,hw⟩:=hh
 rw[e]
 obtain⟨z,hz,hzt⟩:=ayd ht hw
 exact⟨⟨f.l,z⟩,dS hz,rfl,hzt⟩
def Cov(E:List FrQ)(c:List LnQ)(l:List FrQ):Prop:= ∀e∈E,∀t,e.v.ins t→InL c (e.l.at t)→ ∃f∈l,f.l=e.l∧f.v.ins t
theorem Cov.split{E l:List FrQ}{c:List LnQ}(h:Cov E c l)(hE: ∀e∈E,e.l.Ne){m:LnQ}{side:Int}(hs:side=1∨side= -1){m':LnQ}(hm': ∀p,m'.value p=(side:Rat)*m.value p):Cov E (c++[m']) (l.flatMap fun g=>aaW g m side):=fun e he t ht hin=>by
 obtain⟨h1,h2⟩:=abE.1 hin
 obtain⟨f,hf,ef,hft⟩:=h e he t ht h1
 rw[hm'] at h2
 obtain⟨g,hg,eg,hgt⟩:=atE (f:=f) hs (by rw[ef];exact hE e he) hft (by rw[ef];exact h2)
 exact⟨g,fX.2 ⟨f,hf,hg⟩,by rw[eg,ef],hgt⟩
theorem aoJ{acc:PtQ→Bool}{E:List FrQ}(hE: ∀e∈E,e.l.Ne)(ha: ∀(c:List LnQ) (q p:PtQ),(∀e∈E,∀t,e.v.ins t→ ¬InL c (e.l.at t))→InL c q→InL c p→acc q=acc p): ∀{n:Nat} {l:List FrQ} {c:List LnQ} {p:PtQ},(∀f∈l,FOk f)→Few n l→(∀m∈c,m.ok)→Cov E c l→InL c p→Off (akh acc n l c).lns p→(akh acc n l c).val p=acc p
 |n,[],c,p,_,_,hc,hcov,hp,_=>by
  have e:akh acc n [] c= .leaf (acc (ab4 c c)):=by cases n<;>rfl
  rw[e,Tr.val]
  exact ha c _ _ (fun e he t ht hin=>by obtain⟨f,hf,_⟩:=hcov e he t ht hin;cases hf) (atc hc ((aeG hc).2 ⟨p,hp⟩)) hp
 |0,f::t,_,_,_,hf,_,_,_,_=>by
  obtain⟨K,hK,hs⟩:=hf
  obtain⟨m,hm,_⟩:=hs f aZ
  have:K=[]:=bU (by omega)
  rw[this] at hm;cases hm
 |n+1,f::t,c,p,hok,hf,hc,hcov,hp,hoff=>by
  have fo:=hok f aZ
  have hok': ∀side,∀g∈(f::t).flatMap fun g=>aaW g f.l side,FOk g:=fun side g hg=>by
   obtain⟨q,hq,hg⟩:=fX.1 hg
   exact(aiI (hok q hq) fo.lb g hg).1
  rw[akh] at hoff⊢
  by_cases q:0<f.l.value p
  ·rw[Tr.val_pos q]
   exact aoJ hE ha (hok' 1) (hf.split hok) (abW hc fo.ok) (hcov.split hE (.inl rfl) fun p=>by grind) (abE.2 ⟨hp,q⟩) hoff.x
  ·rw[Tr.val_neg q]
   have:=hoff.l
   exact aoJ hE ha (hok' (-1)) (hf.split hok) (abW hc fo.ok.rev) (hcov.split hE (.inr rfl) fun p=>by rw[aaY];grind) (abE.2 ⟨hp,by rw[aaY];grind⟩) hoff.y
theorem avg{rs:List (List ZP)}{fill:Int}(hr: ∀r∈rs,aaU r){p:PtQ}(ho:Off (aAP rs fill).lns p):(ae4 rs fill).val p=inR rs fill p:=by
 obtain⟨h1,h2⟩:=acI hr
 have hok:(aAP rs fill).all LnQ.ok:=aeP fun f hf=>(h2 f hf).ok
 unfold ae4
 rw[Tr.val_restrict _ _ _ hok aaV.nil (fun s hs=>by cases hs) ho]
 unfold aAP at ho⊢
 refine aoJ (E:=abU rs) (fun e he=>(h2 e he).ok.ne) (fun c q p hno hq hp=>axw hr hno hq hp) h2 ?_ (fun m hm=>by cases hm) (fun e he t ht _=>⟨e,he,rfl,ht⟩) (fun m hm=>by cases hm) ho
 exact⟨(abU rs).map (·.l),by rw[aJ];exact aM _,fun f hf=>⟨f.l,dS hf, .inl rfl⟩⟩
end Go.Sx
end
