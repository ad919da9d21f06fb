/- Part 19 of a proof. -/
import Derived.Test.YtfccecinjmbfhaaGreatDoorMc18
set_option linter.unusedSimpArgs false
set_option maxHeartbeats 16000000
set_option maxRecDepth 100000
set_option linter.unusedVariables false
section
namespace Go.Sx
open Go Go.Proofs Tryz
variable {GB:Gh}
theorem aEG(l:List PtQ):adh 6 (l.map eP):=fun d hd=>by
 obtain⟨x,_,rfl⟩:=bK.1 hd
 exact⟨rfl,rfl⟩
def eRp(v:List PtQ):DV:= .sl (v.map eP)
theorem aAN{L:List LnQ}(hb: ∀l∈L,LB l)(hn:L.length≤100000):PF GB prog 70 [.sl (L.map eL)] (.sl ((acP L).map eP)):=by
 have hml:(L.map eL).length=L.length:=aK ..
 refine fn (fu:=⟨15⟩) func70 J J ntmps70 J J (fun C=>?_)
 refine eqF 10 (.d (vI (L.length:Nat))) rfl (by rw[hml]<;>rfl) ?_
 refine gx rfl<|?_
 refine nr 3 3 54 6 J J J ?_
 refine lp (X:=List PtQ×Nat) (fun⟨acc,k⟩=>[(11, .d (vI (k:Nat))),(3, .rw 3)]) (fun⟨acc,k⟩=>[(3,some (.b 54 6 (acc.map eP) true))]) (fun⟨acc,k⟩=>acc=(List.range k).flatMap (asj L)∧k≤L.length) (fun⟨acc,k⟩=>L.length-k) ⟨[],0⟩ rfl ⟨rfl,bX _⟩ (fun _=>rfl) (fun⟨acc,k⟩ hk=>?_)
 try dsimp only at hk⊢
 obtain⟨h1,h2⟩:=hk
 have hal:=agt L k
 rw[←h1] at hal
 have ham:(acc.map eP).length=acc.length:=aK ..
 refine br J J J (fun hc12=>?_) (fun hc12=>?_)
 ·
  obtain⟨l,hx⟩: ∃u,L[k]? =some u:=⟨_,aQ (by omega)⟩
  obtain⟨m,hw⟩: ∃w,L[(k+1)%L.length]? =some w:=⟨_,aQ (dZ _ (by omega))⟩
  haveI:=hb l (aR hx)
  haveI:=hb m (aR hw)
  refine ix (fu:=⟨13⟩) _ rfl (aav hx) rfl<|?_
  refine eqF 20 (.d (vI (L.length:Nat))) rfl (by rw[hml]<;>rfl) ?_
  refine gx (fu:=⟨1⟩) rfl<|?_
  refine eqF 21 (.d (vI (((k+1)%L.length:Nat):Int))) J J ?_
  refine gx rfl<|ix _ rfl (aav hw) rfl<|cl rfl (akp (l:=l)) rfl<|cl rfl (akp (l:=m)) rfl<|cl rfl (ahG (p:=l.dir) (q:=m.dir) (i:=97) (j:=97)) rfl<|?_
  refine cl rfl (q_S (q:=l.dir.cross m.dir)) rfl<|?_
  refine br J J J (fun hc30=>?_) (fun hc30=>?_)
  ·
   refine cl rfl (au0 (l:=l) (m:=m)) rfl<|rf J J<|ap ((acc++[abq l m]).map eP) rfl (by rw[bU]<;>rfl) (aEG [abq l m]) rfl<|?_
   refine rnE 40 3 rfl ?_
   exact at_ ⟨acc++[abq l m],k+1⟩ (by dsimp only;exact⟨⟨by rw[aft,af4 hx hw,if_pos hc30,←h1],by omega⟩,(by omega)⟩)
  ·
   exact at_ ⟨acc,k+1⟩ (by dsimp only;exact⟨⟨by rw[aft,af4 hx hw,if_neg hc30,←h1,oT],by omega⟩,(by omega)⟩)
 ·
  have hS:acP L=acc:=by unfold acP;rw[h1,show k=L.length by omega]
  refine fzE 3 rfl ?_
  exact rz rfl (by rw[hS];rfl)
structure EGU (GB:Gh) (ai al ae au:Addr):Prop extends EG GB ai al ae where
 ErrUnbounded:GB 0=some [.iface 427 (.pointer (some au))]
def aIw(c:aag):List (List PtQ):=aCM (acP (c.map (·.l)))
theorem amQ(c:List LnQ):(acP c).length≤c.length:=agt c _
theorem aqq{c:List LnQ}(hb: ∀l∈c,LB l): ∀p∈acP c,BPt p 1200:=fun p hp=>by
 obtain⟨l,hl,m,hm,rfl⟩:=ayf hp
 have:= @BPt.imeet l m (hb l hl) (hb m hm)
 exact⟨this.x.mono (by decide),this.y.mono (by decide)⟩
theorem aCf{p q:Rat}{i j:Nat}[hp:BQ p i][hq:BQ q j](hi:i≤100000000:=by decide):PF GB prog 78 [eR p,eR q] (vB (decide (p=q))):=by
 refine fn func78 J J ntmps78 J J (fun C=>?_)
 refine cl rfl (atZ (a:=p.num) (b:=q.num) (i:=i) (j:=j) (by omega)) rfl<|?_
 refine csd 10 J J J (fun hg10=>?_) (fun hg10=>?_)
 ·
  refine cl rfl (aoY (a:=p.den) (b:=q.den) (i:=i) (j:=j) (by omega)) rfl<|?_
  exact rz rfl (by rw[show decide (p=q)=decide (p.den=q.den) from decide_eq_decide.2 ⟨fun e=>by rw[e],fun e=>Rat.ext hg10 e⟩]<;>rfl)
 ·
  exact rz rfl (by rw[decide_eq_false (fun e:p=q=>hg10 (by rw[e]))]<;>rfl)
theorem aiT{t:Tr}(h:t.all LnQ.ok):aok (aa5 t [])=(aal t).map fun c=>c.map (·.l):=aDe h
theorem aEz{t:Tr}(hb:t.all LB)(ho:t.all LnQ.ok): ∀L∈aok (aa5 t []),(∀l∈L,LB l)∧L.length≤t.depth:=fun L hL=>by
 rw[aiT ho] at hL
 obtain⟨c,hc,rfl⟩:=bK.1 hL
 exact⟨fun l hl=>by obtain⟨s,hs,rfl⟩:=bK.1 hl;exact aix hb ho c hc s hs,by rw[aK];exact aeL hb ho c hc⟩
theorem aBh{t:Tr}(ho:t.all LnQ.ok):(aok (aa5 t [])).length≤t.size+1:=by
 rw[aiT ho,aK];exact agI t
theorem apS{α β:Type}{f:α→List β}{k:Nat}: ∀{l:List α},(∀x∈l,(f x).length≤k)→(l.flatMap f).length≤l.length*k
 |[],_=>by simp
 |a::t,h=>by
  have h1:=h a aZ
  have h2:=apS (f:=f) fun x hx=>h x (aJ a hx)
  rw[kQ,aY,bW,iY];omega
/-! bounded regions -/
def ayX(t:Tr):Prop:= ∃(L:List LnQ) (R:Rat),(∀l∈L,l.ok)∧ ∀p,Off L p→ayj R p→t.val p=false
theorem ayj.mono{R S:Rat}{p:PtQ}(h:ayj S p)(hr:R≤S):ayj R p:=by
 unfold ayj at*
 rcases h with h|h|h|h
 ·left;grind
 ·right;left;grind
 ·right;right;left;grind
 ·right;right;right;grind
theorem axz(fill:Int):awP fill 0=false:=by
 unfold awP
 simp
theorem aAb{rs:List (List ZP)}{fill:Int}(hr: ∀r∈rs,aaS r){p:PtQ}(hp:ayj 100 p):inR rs fill p=false:=by
 have key: ∀(rs:List (List ZP)),(∀r∈rs,aaS r)→rs.foldl (fun n r=>n+aoi r p) (0:Int)=0:=by
  intro rs
  induction rs with
  |nil=>intro _;rfl
  |cons r t ih=>
   intro hr
   have e:aoi r p=0:=by
    unfold aoi
    rw[al6]
    refine aAU (R:=100) (fun v hv=>?_) hp
    obtain⟨h1,h2⟩:=(hr r aZ).le v hv
    have c: ∀z:Int,z.natAbs≤100→ -(100:Rat)≤(z:Rat)∧(z:Rat)≤100:=fun z hz=>by
     have a:((-100:Int):Rat)≤(z:Rat):=Rat.intCast_le_intCast.2 (by omega)
     have b:(z:Rat)≤((100:Int):Rat):=Rat.intCast_le_intCast.2 (by omega)
     exact⟨a,b⟩
    exact⟨(c _ h1).1,(c _ h1).2,(c _ h2).1,(c _ h2).2⟩
   rw[jW,e]
   exact ih fun r h=>hr r (aJ _ h)
 unfold inR
 rw[key rs hr,axz]
theorem azB{rs:List (List ZP)}{fill:Int}(hr: ∀r∈rs,aaS r):(aCd rs fill).all LnQ.ok:=aeG fun f hf=>((acJ hr).2 f hf).ok
theorem ajV{rs:List (List ZP)}{fill:Int}(hr: ∀r∈rs,aaS r):ayX (aeX rs fill):=
 ⟨(aCd rs fill).lns,100,as3 (azB hr),fun p ho hp=>by rw[atM hr ho,aAb hr hp]⟩
theorem atm(op:Int):opB op false false=false:=by
 unfold opB
 split
 ·rfl
 ·split
  ·rfl
  ·split<;>rfl
theorem ayX.merge{a b:Tr}(ha:ayX a)(hb:ayX b)(oa:a.all LnQ.ok)(ob:b.all LnQ.ok)(op:Int):ayX (a.mergeQ op b []):=by
 obtain⟨L,R,h1,h2⟩:=ha
 obtain⟨M,S,k1,k2⟩:=hb
 refine⟨(L++M)++(a.lns++b.lns),if R≤S then S else R,fun l hl=>?_,fun p ho hp=>?_⟩
 ·rcases bY.1 hl with h|h
  ·exact(bY.1 h).elim (h1 l) (k1 l)
  ·exact(bY.1 h).elim (as3 oa l) (as3 ob l)
 ·obtain⟨o1,o2⟩:=Off.app.1 ho
  obtain⟨oL,oM⟩:=Off.app.1 o1
  obtain⟨oA,oB⟩:=Off.app.1 o2
  rw[Tr.val_merge op b ob a [] p oa aaP.nil (fun s hs=>by cases hs) oA oB,h2 p oL (hp.mono (by split<;>grind)),k2 p oM (hp.mono (by split<;>grind)),atm]
theorem aAn{A:Rat}(hA:A≠0)(B:Rat): ∃N:Rat,0≤N∧ ∀n,N≤n→A+n*B≠0:=by
 by_cases hB:B=0
 ·exact⟨0,by decide,fun n _=>by rw[hB];grind⟩
 ·have e:A/B*B=A:=by grind
  generalize A/B=q at*
  refine⟨if 0≤ -q then-q+1 else 0,by split<;>grind,fun n hn h=>?_⟩
  have h2:B*(q+n)=0:=by grind
  rcases iK.1 h2 with k|k
  ·exact hB k
  ·split at hn<;>grind
theorem aAW{L:List LnQ}{p d:PtQ}(h:Off L p): ∃N:Rat,0≤N∧ ∀n,N≤n→Off L (ab8 p d n):=by
 induction L with
 |nil=>exact⟨0,by decide,fun n _ l hl=>by cases hl⟩
 |cons l L ih=>
  obtain⟨N,n0,hN⟩:=ih (h.sub fun m hm=>aJ _ hm)
  obtain⟨M,m0,hM⟩:=aAn (h l aZ) (l.nor.dot d)
  refine⟨N+M,by grind,fun n hn m hm=>?_⟩
  rcases aU.1 hm with rfl|hm
  ·rw[abL];exact hM n (by grind)
  ·exact hN n (by grind) m hm
theorem alK{a:Rat}(ha:0<a)(x R:Rat): ∃N:Rat,0≤N∧ ∀n,N≤n→R<x+n*a:=by
 have e:(R-x)/a*a=R-x:=by grind
 generalize (R-x)/a=q at*
 refine⟨if 0≤q then q+1 else 0,by split<;>grind,fun n hn=>?_⟩
 have h2:=aao (show 0<n-q by split at hn<;>grind) ha
 grind
theorem aAM{p d:PtQ}(hd:d≠⟨0,0⟩)(R:Rat): ∃N:Rat,0≤N∧ ∀n,N≤n→ayj R (ab8 p d n):=by
 obtain⟨x,y⟩:=d
 rcases ac7 x with h|h|h
 ·rcases ac7 y with k|k|k
  ·exact absurd (by rw[h,k]) hd
  ·obtain⟨N,n0,hN⟩:=alK k p.y R
   exact⟨N,n0,fun n hn=> .inr (.inr (.inr (hN n hn)))⟩
  ·obtain⟨N,n0,hN⟩:=alK (a:= -y) (by grind) (-p.y) R
   exact⟨N,n0,fun n hn=> .inr (.inr (.inl (by have:=hN n hn;show p.y+n*y< -R;grind)))⟩
 ·obtain⟨N,n0,hN⟩:=alK h p.x R
  exact⟨N,n0,fun n hn=> .inr (.inl (hN n hn))⟩
 ·obtain⟨N,n0,hN⟩:=alK (a:= -x) (by grind) (-p.x) R
  exact⟨N,n0,fun n hn=> .inl (by have:=hN n hn;show p.x+n*x< -R;grind)⟩
theorem avZ{c:aag}(hc:aaP c)(h:afE c=false): ∃d:PtQ,d≠⟨0,0⟩∧ ∀u∈c,0≤u.l.nor.dot d:=by
 unfold afE at h
 cases c with
 |nil=>exact⟨⟨1,0⟩,by simp,fun u hu=>by cases hu⟩
 |cons s0 c0=>
  have h':((s0::c0).all fun s=>!s.v.nl&&!s.v.nh)=false:=by simpa using h
  rw[List.all_eq_false] at h'
  obtain⟨s,hs,hv⟩:=h'
  have hne:s.l.dir≠⟨0,0⟩:=fun e=>auX (hc.ok s hs) (by rw[e];decide)
  cases nh:s.v.nh with
  |true=>exact⟨s.l.dir,hne,aAH hc hs nh⟩
  |false=>
   have nl:s.v.nl=true:=by simpa[nh] using hv
   refine⟨amz s.l.dir,fun e=>hne ?_,fun u hu=>?_⟩
   ·unfold amz at e
    generalize s.l.dir=d at*
    obtain⟨x,y⟩:=d
    simp only[PtQ.mk.injEq] at*
    constructor<;>grind
   ·have:=az7 hc hs nl u hu
    unfold amz PtQ.dot at*
    grind
theorem anh{t:Tr}(ht:t.all LnQ.ok)(hb:ayX t):(aal t).all afE=true:=by
 rw[dT]
 intro c hc
 obtain⟨hg,hv⟩:=afA ht aaP.nil (adC.1 hc)
 cases hq:afE c with
 |true=>rfl
 |false=>
  exfalso
  obtain⟨L,R,h1,h2⟩:=hb
  obtain⟨d,d0,hd⟩:=avZ hg hq
  obtain⟨p,hp,ho⟩:=aC8 hg L h1
  obtain⟨N,n0,hN⟩:=aAW (d:=d) ho
  obtain⟨M,m0,hM⟩:=aAM (p:=p) d0 R
  have hin:InD c (ab8 p d (N+M)):=fun s hs=>by
   rw[abL]
   have a:=hp s hs
   have b:=aac (show 0≤N+M by grind) (hd s hs)
   grind
  have:=(hv _ hin).2
  rw[h2 _ (hN _ (by grind)) (hM _ (by grind))] at this
  cases this
theorem ajm{rs:List (List ZP)}{fill:Int}(h: ∀r∈rs,aaS r)(hn:rs.length≤2):akj 12 (aeX rs fill):=by
 obtain⟨h1,h2⟩:=acJ h
 exact((asR h2 rfl).restrict []).mono (by omega)
theorem afI{es:List Int}{a:Nat}(ha:a≤es.length):akj 12 (acO es a).1∧ayX (acO es a).1:=by
 obtain⟨r1,r2⟩:=afx ha
 have h3:=aaU (n:=3) r2
 unfold acO
 dsimp only
 split
 ·obtain⟨s1,s2⟩:=afx h3
  have hr: ∀r∈[(acr es a).1,(acr es (aae es 3 (acr es a).2).2).1],aaS r:=fun r hr=>by simp only[aU,jL,or_false] at hr;rcases hr with rfl|rfl;exact r1;exact s1
  exact⟨ajm hr (by simp),ajV hr⟩
 ·have hr: ∀r∈[(acr es a).1],aaS r:=fun r hr=>by simp only[aU,jL,or_false] at hr;subst hr;exact r1
  exact⟨ajm hr (by simp),ajV hr⟩
def ae3(es:List Int):Nat→Nat→Tr×Nat
 |0,a=>acO es a
 |d+1,a=>
  let k:=aae es 3 a
  if(k.1:Int)=0 then
   let x:=ae3 es d k.2
   let o:=aae es 4 x.2
   let y:=ae3 es d o.2
   (x.1.mergeQ (1+(o.1:Int)) y.1 [],y.2)
  else acO es k.2
theorem ai1{es:List Int}: ∀{d a:Nat},a≤es.length→akj (12*2^d) (ae3 es d a).1∧ayX (ae3 es d a).1∧(ae3 es d a).1.Red []∧(ae3 es d a).2≤es.length
 |0,a,ha=>⟨(afI ha).1,(afI ha).2,alf es a,(aor ha).2⟩
 |d+1,a,ha=>by
  have h0:=aaU (n:=3) ha
  rw[ae3]
  try dsimp only
  split
  ·obtain⟨x1,x2,x3,x4⟩:=ai1 (d:=d) h0
   have h1:=aaU (n:=4) x4
   obtain⟨y1,y2,y3,y4⟩:=ai1 (d:=d) h1
   refine⟨?_,x2.merge y2 x1.gd.ok y1.gd.ok _,Tr.merge_red _ _ _ _,y4⟩
   have:=x1.merge (op:=1+((aae es 4 (ae3 es d (aae es 3 a).2).2).1:Int)) y1
   exact this.mono (by rw[fX];omega)
  ·refine⟨(afI h0).1.mono ?_,(afI h0).2,alf _ _,(aor h0).2⟩
   have:1≤2^(d+1):=Nat.one_le_two_pow
   omega
theorem aDV{es:List Int}{d a:Nat}(ha:a≤es.length)(hd:d≤2):TrX 48 (ae3 es d a).1∧(aal (ae3 es d a).1).all afE=true∧(ae3 es d a).2≤es.length∧(ae3 es d a).1.restrict []=(ae3 es d a).1:=by
 obtain⟨h1,h2,h3,h4⟩:=ai1 (d:=d) ha
 have h5:2^d≤2^2:=bV (by decide) hd
 have hx:TrX 48 (ae3 es d a).1:=(h1.mono (by omega)).x h3 (by decide)
 exact⟨hx,anh hx.ok h2,h4,Tr.red_restrict h3⟩
def aI7:List ZP:=[(0,0),(1,0),(0,1)]
structure EGS (GB:Gh) (ai al ae au ar:Addr):Prop extends EGU GB ai al ae au where
 ErrEmpty:GB 2=some [.iface 427 (.pointer (some ae))]
 ErrRange:GB 1=some [.iface 427 (.pointer (some ar))]
def aHo(r:List PtQ)(j:Nat):Nat→PtQ
 |0=>(((r.getD 0 ⟨0,0⟩).add (r.getD 1 ⟨0,0⟩)).add (r.getD 2 ⟨0,0⟩)).scale (((1:Int):Rat)/((3:Int):Rat))
 |k+1=>((aHo r j k).add (r.getD j ⟨0,0⟩)).scale (((1:Int):Rat)/((2:Int):Rat))
def smp(ts:List (List PtQ))(i:Nat):PtQ:=aHo (ts.getD (i%ts.length) []) (i%3) (i/ts.length)
theorem BPt.mono{p:PtQ}{i j:Nat}(h:BPt p i)(hj:i≤j):BPt p j:=⟨h.x.mono hj,h.y.mono hj⟩
theorem avq{m n:Int}(hm:m.natAbs≤1000)(hn:n.natAbs≤1000):PF GB prog 71 [vI m,vI n] (eF ((m:Rat)/(n:Rat))):=by
 haveI:=biC (k:=11) hm (by decide)
 haveI:=biC (k:=11) hn (by decide)
 refine fn func71 J J ntmps71 J J (fun C=>?_)
 refine cl rfl (aj5 (m:=m) (by omega)) rfl<|cl rfl (aj5 (m:=n) (by omega)) rfl<|cl rfl (akI (p:=(m:Rat)) (q:=(n:Rat)) (i:=12) (j:=12)) rfl<|?_
 exact rz J J
theorem acs{α:Type}(f:α→Rat){l:List α}{k:Nat}{x:α}(h:l[k]? =some x):aa1 f (l.take (k+1))=aa1 f (l.take k)+f x:=by
 have:l.take (k+1)=l.take k++[x]:=by rw[jX,h];rfl
 rw[this,ait]
 show _+(f x+0)=_
 grind
structure azT (cs:List aag) (b:Nat):Prop where
 lb: ∀c∈cs,∀s∈c,LB s.l
 sh: ∀c∈cs,c.length≤100000
 ln:cs.length≤1000000
 pt: ∀x∈acl (acb cs),BPt x.1 b∧BPt x.2 b
theorem ao8{L:List (PtQ×PtQ)}: ∀e∈L.map edE,e.length=2:=fun e he=>by
 obtain⟨x,_,rfl⟩:=bK.1 he
 rfl
theorem aoE{L:List (PtQ×PtQ)}{k:Nat}{e:List DV}(h:(L.map edE)[k]? =some e): ∃x,L[k]? =some x∧e=edE x:=by
 rw[cK] at h
 cases hl:L[k]? with
 |none=>rw[hl] at h;cases h
 |some x=>rw[hl] at h;cases h;exact⟨x,rfl,rfl⟩
theorem auR{cs:List aag}{b m:Nat}(ho:azT cs b)(hb:b≤40000000)(hs: ∀k,BQ (aa1 (fun x=>x.1.cross x.2) ((acl (acb cs)).take k)) m)(hm:m≤100000000)(hc: ∀x∈acl (acb cs),BQ (x.1.cross x.2) m):
  PF GB prog 82 [.sl (cs.map eC)] (eF (aa1 (fun x=>x.1.cross x.2) (acl (acb cs))*mkRat 1 2)):=by
 obtain⟨L,hL⟩: ∃L,L=acl (acb cs):=⟨_,rfl⟩
 obtain⟨Sm,hSm⟩: ∃Sm:Nat→Rat,Sm=fun k=>aa1 (fun x=>x.1.cross x.2) (L.take k):=⟨_,rfl⟩
 have h00:Sm 0=0:=by rw[hSm];rfl
 have hSk: ∀k,BQ (Sm k) m:=by rw[hSm,hL];exact hs
 refine fnI func82 J J ntmps82 J J (fun C h0=>?_)
 refine cmk J J J ao5 (fun _=>rfl) (fun GB1 pv hg1 hpv=>?_)
 refine imB 3 [vI (fn_ 0),vI (fd_ 0),fp_ 0] rfl (fun G m=>zF) rfl ?_
 refine rnF 2 2000002 h0.fx rfl<|rnF 3 2000003 h0.fx rfl ?_
 refine aF5 (σ:=Empty) (fun k=>[(2000002,some (.o 142 [.d (vI 0), .d (vI 0), .d (.v (.pointer none))] true)),(2000003,some (.o 142 [.d (vI (fn_ (Sm k))), .d (vI (fd_ (Sm k))), .d (fp_ (Sm k))] true))]) (fun _=>True) (fun _=>[]) (fun _=>False) [(2, .ov 2000002 0),(3, .ov 2000003 0)]
  h0 rfl (alZ ho.lb ho.sh ho.ln ho.pt hb) (.cons hpv .nil) ⟨rfl,rfl,trivial⟩ rfl (by rw[h00];exact⟨rfl,rfl,trivial⟩) trivial ao8 J J (fun k e GB' hE hg hp=>?_) (fun D hD hx hp=>?_) (fun D s hD hx hq=>hq.elim)
 ·obtain⟨x,hx,rfl⟩:=aoE hE
  refine⟨?_,?_,fun C2=>?_,fun C2=>?_⟩
  rotate_left 2
  ·refine gx rfl ?_
   exact atR
  ·haveI:=hs k
   haveI:=hc x (aR hx)
   rw[←hL] at hx
   refine gx rfl<|cl rfl (acQ (p:=Sm k) (q:=x.1.cross x.2) (i:=m) (j:=m) hm hm) rfl ?_
   have e1:Sm (k+1)=Sm k+x.1.cross x.2:=by rw[hSm];exact acs _ hx
   exact rq trivial (by rw[e1];exact⟨rfl,rfl,trivial⟩)
 ·have eN:Sm (((acl (acb cs)).map edE).length)=aa1 (fun x=>x.1.cross x.2) (acl (acb cs)):=by
   rw[hSm,hL,aK]
   show aa1 _ (List.take _ _)=_
   rw[cW]
  haveI:BQ (aa1 (fun x=>x.1.cross x.2) (acl (acb cs))) m:=by rw[←eN];exact hSk _
  rw[eN]
  refine gx rfl<|cl rfl (aoR (q:=aa1 (fun x=>x.1.cross x.2) (acl (acb cs))) hm) rfl ?_
  exact rzD hD hx J J
def alq(x:PtQ×PtQ):PtQ:=(x.1.add x.2).scale (x.1.cross x.2)
def akC{α:Type}(f:α→PtQ)(l:List α):PtQ:=⟨aa1 (fun x=>(f x).x) l,aa1 (fun x=>(f x).y) l⟩
theorem am3{α:Type}(f:α→PtQ){l:List α}{k:Nat}{x:α}(h:l[k]? =some x):akC f (l.take (k+1))=(akC f (l.take k)).add (f x):=by
 unfold akC PtQ.add
 rw[acs _ h,acs _ h]
theorem zZ{G:Gh}{m:List Value}(h:IsLs G [vI 0,vI 0, .v (.pointer none),vI 0,vI 0, .v (.pointer none)] m):IsLs G [vI (fn_ 0),vI (fd_ 0),fp_ 0,vI (fn_ 0),vI (fd_ 0),fp_ 0] m:=by
 obtain⟨y1,m1,rfl,h1,h⟩:=aad.1 h
 obtain⟨y2,m2,rfl,h2,h⟩:=aad.1 h
 obtain⟨y3,m3,rfl,h3,h⟩:=aad.1 h
 have a:=zF (m:=[y1,y2,y3]) (.cons h1 (.cons h2 (.cons h3 .nil)))
 exact a.app (zF h)
theorem akJ{cs:List aag}{b m M:Nat}(ho:azT cs b)(hb:b≤10000000)(hs: ∀k,BPt (akC alq ((acl (acb cs)).take k)) M)(hm:m≤10000000)(hM:M≤10000000)(hc: ∀x∈acl (acb cs),BQ (x.1.cross x.2) m):
  PF GB prog 84 [.sl (cs.map eC)] (eZ ((akC alq (acl (acb cs))).scale (((1:Int):Rat)/((6:Int):Rat)))):=by
 obtain⟨L,hL⟩: ∃L,L=acl (acb cs):=⟨_,rfl⟩
 obtain⟨Sm,hSm⟩: ∃Sm:Nat→PtQ,Sm=fun k=>akC alq (L.take k):=⟨_,rfl⟩
 have h00:Sm 0=⟨0,0⟩:=by rw[hSm];rfl
 have hSk: ∀k,BPt (Sm k) M:=by rw[hSm,hL];exact hs
 refine fnI func84 J J ntmps84 J J (fun C h0=>?_)
 refine cmk J J J ao5 (fun _=>rfl) (fun GB1 pv hg1 hpv=>?_)
 refine imB 3 [vI (fn_ 0),vI (fd_ 0),fp_ 0,vI (fn_ 0),vI (fd_ 0),fp_ 0] rfl (fun G m=>zZ) rfl ?_
 refine rnF 2 2000002 h0.fx rfl<|rnF 3 2000003 h0.fx rfl ?_
 refine aF5 (σ:=Empty) (fun k=>[(2000002,some (.o 145 [.d (vI 0), .d (vI 0), .d (.v (.pointer none)), .d (vI 0), .d (vI 0), .d (.v (.pointer none))] true)),(2000003,some (.o 145 [.d (vI (fn_ (Sm k).x)), .d (vI (fd_ (Sm k).x)), .d (fp_ (Sm k).x), .d (vI (fn_ (Sm k).y)), .d (vI (fd_ (Sm k).y)), .d (fp_ (Sm k).y)] true))]) (fun _=>True) (fun _=>[]) (fun _=>False) [(2, .ov 2000002 0),(3, .ov 2000003 0)]
  h0 rfl (alZ ho.lb ho.sh ho.ln ho.pt (by omega)) (.cons hpv .nil) ⟨rfl,rfl,trivial⟩ rfl (by rw[h00];exact⟨rfl,rfl,trivial⟩) trivial ao8 J J (fun k e GB' hE hg hp=>?_) (fun D hD hx hp=>?_) (fun D s hD hx hq=>hq.elim)
 ·obtain⟨x,hx,rfl⟩:=aoE hE
  refine⟨?_,?_,fun C2=>?_,fun C2=>?_⟩
  rotate_left 2
  ·refine gx rfl<|sta J J J ⟨rfl,rfl,rfl⟩ rfl ?_
   exact atR
  ·haveI:=hSk k
   haveI:=hc x (aR hx)
   haveI:=(ho.pt x (aR hx)).1
   haveI:=(ho.pt x (aR hx)).2
   rw[←hL] at hx
   refine gx rfl<|ixa 0 (e:=145) (len:=2) (s:=6) rfl (by kernel_rfl) (by kernel_rfl) (by decide) rfl<|ixa 1 (e:=145) (len:=2) (s:=6) rfl (by kernel_rfl) (by kernel_rfl) (by decide) rfl<|?_
   refine cl rfl (aqW (p:=x.1) (q:=x.2) (i:=b) (j:=b) (by omega) (by omega)) rfl<|cl rfl (agp (p:=x.1.add x.2) (c:=x.1.cross x.2) (i:=b+b+1) (j:=m) (by omega) (by omega)) rfl<|?_
   refine cl rfl (aqW (p:=Sm k) (q:=alq x) (i:=M) (j:=b+b+1+m) (hq:=inferInstanceAs (BPt ((x.1.add x.2).scale (x.1.cross x.2)) _)) (by omega) (by omega)) rfl<|?_
   have e1:Sm (k+1)=(Sm k).add (alq x):=by rw[hSm];exact am3 _ hx
   exact rq trivial (by rw[e1];exact⟨rfl,rfl,trivial⟩)
 ·have eN:Sm (((acl (acb cs)).map edE).length)=akC alq (acl (acb cs)):=by
   rw[hSm,hL,aK]
   show akC _ (List.take _ _)=_
   rw[cW]
  haveI:BPt (akC alq (acl (acb cs))) M:=by rw[←eN];exact hSk _
  haveI:BQ (((1:Int):Rat)/((6:Int):Rat)) 3:=⟨by decide+kernel,by decide+kernel⟩
  rw[eN]
  refine gx rfl<|cl rfl (avq (m:=1) (n:=6) (by decide) (by decide)) rfl<|cl rfl (agp (p:=akC alq (acl (acb cs))) (c:=((1:Int):Rat)/((6:Int):Rat)) (i:=M) (j:=3) (by omega) (by decide)) rfl<|?_
  exact rzD hD hx J J
def qF(es:List Int)(a:Nat):Rat×Nat:=
 (if((aae es 6 (aae es 9 a).2).1:Int)=0 then mkRat (2*(((aae es 9 a).1:Int)-4)+1) 2 else if((aae es 6 (aae es 9 a).2).1:Int)=1 then mkRat (3*(((aae es 9 a).1:Int)-4)+1) 3 else(((aae es 9 a).1:Rat)-4:Rat),(aae es 6 (aae es 9 a).2).2)
def aGg(es:List Int)(a:Nat):PtQ×Nat:=(⟨(qF es a).1,(qF es (qF es a).2).1⟩,(qF es (qF es a).2).2)
def lnO:LnQ:=⟨1,0,0⟩
def aIs(es:List Int)(L:List LnQ)(a:Nat):PtQ×Nat:=
 if L.length=0 then aGg es a else
 if((aae es 3 (aae es L.length a).2).1:Int)=0 then
  (if crossI (L.getD (aae es L.length a).1 lnO) (L.getD (aae es L.length (aae es 3 (aae es L.length a).2).2).1 lnO)≠0 then(abq (L.getD (aae es L.length a).1 lnO) (L.getD (aae es L.length (aae es 3 (aae es L.length a).2).2).1 lnO),(aae es L.length (aae es 3 (aae es L.length a).2).2).2) else aGg es (aae es L.length (aae es 3 (aae es L.length a).2).2).2)
 else if((aae es 3 (aae es L.length a).2).1:Int)=1 then((L.getD (aae es L.length a).1 lnO).at (qF es (aae es 3 (aae es L.length a).2).2).1,(qF es (aae es 3 (aae es L.length a).2).2).2) else aGg es (aae es 3 (aae es L.length a).2).2

structure EGV (GB:Gh) (ai al ae au:Addr):Prop extends EGU GB ai al ae au where
 ErrEmpty:GB 2=some [.iface 427 (.pointer (some ae))]
def akg(x:PtQ×PtQ):Rat:=(x.1.x*x.1.x+x.2.x*x.2.x+(x.1.add x.2).x*(x.1.add x.2).x)*x.1.cross x.2
def akl(x:PtQ×PtQ):Rat:=(x.1.x*x.1.y+x.2.x*x.2.y+(x.1.add x.2).x*(x.1.add x.2).y)*x.1.cross x.2
def akf(x:PtQ×PtQ):Rat:=(x.1.y*x.1.y+x.2.y*x.2.y+(x.1.add x.2).y*(x.1.add x.2).y)*x.1.cross x.2
structure anO (cs:List aag):Prop where
 ed:azT cs 1200
 cr: ∀x∈acl (acb cs),BQ (x.1.cross x.2) 5000
 ar: ∀k,BQ (aa1 (fun x=>x.1.cross x.2) ((acl (acb cs)).take k)) 2000000
 mo: ∀k,BPt (akC alq ((acl (acb cs)).take k)) 3000000
 sa: ∀k,BQ (aa1 akg ((acl (acb cs)).take k)) 4000000
 sb: ∀k,BQ (aa1 akl ((acl (acb cs)).take k)) 4000000
 sc: ∀k,BQ (aa1 akf ((acl (acb cs)).take k)) 4000000
def aci(t:Tr):Rat:=aa1 (fun x=>x.1.cross x.2) (acl (acb (aal t)))*mkRat 1 2
def ail(t:Tr):PtQ:=(akC alq (acl (acb (aal t)))).scale (((1:Int):Rat)/((6:Int):Rat))
theorem anO.cr2{cs:List aag}(h:anO cs): ∀x∈acl (acb cs),BQ (x.1.cross x.2) 2000000:=fun x hx=>(h.cr x hx).mono (by decide)
theorem anO.ar1{cs:List aag}(h:anO cs):BQ (aa1 (fun x=>x.1.cross x.2) (acl (acb cs))) 2000000:=by
 have:=h.ar (acl (acb cs)).length
 rwa [cW] at this
theorem anO.mo1{cs:List aag}(h:anO cs):BPt (akC alq (acl (acb cs))) 3000000:=by
 have:=h.mo (acl (acb cs)).length
 rwa [cW] at this
theorem anO.area{t:Tr}(h:anO (aal t)):BQ (aci t) 2000003:=by
 haveI:=h.ar1
 exact BQ.mono (inferInstance:BQ (aa1 (fun x=>x.1.cross x.2) (acl (acb (aal t)))*mkRat 1 2) _) (by decide)
def zR0:DV:= .ag [vB false, .sl [], .sl []]
def zP0:DV:= .ag [vB false, .sl [], .sl [],vB false, .sl [], .sl []]
theorem alu:BQ (((1:Int):Rat)/((6:Int):Rat)) 3:=⟨by decide+kernel,by decide+kernel⟩
theorem anO.mom{t:Tr}(h:anO (aal t)):BPt (ail t) 3000005:=by
 haveI:=h.mo1
 haveI:=alu
 exact BPt.mono (inferInstance:BPt ((akC alq (acl (acb (aal t)))).scale (((1:Int):Rat)/((6:Int):Rat))) _) (by decide)
theorem aws{k0:Nat}{t:Tr}(h:TrX k0 t)(hk0:k0≤900):PF GB prog 95 [eA t] (.tp [.sl ((aal t).map eC), .v .nilIface]):=by
 have hts:=h.s
 have htd:=h.dp
 refine fn func95 J J ntmps95 J J (fun C=>?_)
 refine cl (fu:=⟨12⟩) rfl (aGE h) rfl<|?_
 refine kbT 12 rfl ?_
 refine gx rfl<|cl (fu:=⟨0⟩) rfl (aoO (t:=t) (by omega)) rfl<|knF rfl (by show some (decide _)=some false;rw[decide_eq_false (by omega)]) rfl<|cl rfl (aBc h.lb h.ok (by omega) (by omega)) rfl<|?_
 exact rz J J
theorem arK{cs:List aag}(hn: ∀c∈cs,c.length≤100000)(hl:cs.length≤1000000):PF GB prog 96 [.sl (cs.map eC)] (vB (cs.all afE)):=by
 have hml:(cs.map eC).length=cs.length:=aK ..
 refine fn (fu:=⟨10⟩) func96 J J ntmps96 J J (fun C=>?_)
 refine eqF 6 (.d (vI (cs.length:Nat))) rfl (by rw[hml]<;>rfl) ?_
 refine gx rfl<|?_
 refine lp (X:=Nat) (fun k=>[(7, .d (vI (k:Nat)))]) (fun k=>[]) (fun k=>k≤cs.length∧cs.all afE=(cs.drop k).all afE) (fun k=>cs.length-k) 0 rfl ⟨bX _,by rw[gJ]⟩ (fun _=>rfl) (fun k hk=>?_)
 refine br J J J (fun hc8=>?_) (fun hc8=>?_)
 ·
  obtain⟨c,hx⟩: ∃u,cs[k]? =some u:=⟨_,aQ (by omega)⟩
  refine ix _ rfl (aav hx) rfl<|cl rfl (aCq (c:=c) (hn c (aR hx))) rfl<|?_
  refine bb J J J (fun hc13=>?_) (fun hc13=>?_)
  ·
   have hS:cs.all afE=false:=by rw[hk.2,afq hx];rw[gV] at hc13;rw[hc13];rfl
   exact rz rfl (by rw[hS];rfl)
  ·
   rw[Bool.not_eq_false'] at hc13
   exact at_ (k+1) ⟨⟨by omega,by rw[hk.2,afq hx,hc13,Bool.true_and]⟩,(by omega)⟩
 ·
  have hS:cs.all afE=true:=by rw[hk.2,fS (by omega)];rfl
  exact rz rfl (by rw[hS];rfl)
theorem agD{k0:Nat}{t:Tr}(h:TrX k0 t)(hk0:k0≤900)(hbd:(aal t).all afE=true):PF GB prog 81 [eA t] (.tp [.sl ((aal t).map eC), .v .nilIface]):=by
 obtain⟨cs,hcs⟩: ∃cs,cs=aal t:=⟨_,rfl⟩
 have hts:=h.s
 have htd:=h.dp
 have hcl:=agI t
 have hcn:=aeL h.lb h.ok
 rw[←hcs] at hcl hcn
 rw[←hcs] at hbd
 refine fn func81 J J ntmps81 J J (fun C=>?_)
 refine cl (fu:=⟨0⟩) rfl (aws h hk0) rfl<|?_
 refine eqF 8 (.d (.tp [.sl (cs.map eC), .v .nilIface])) rfl (by rw[hcs]) ?_
 refine gx rfl<|cl (fu:=⟨0⟩) rfl (arK (cs:=cs) (fun c hc=>by have:=hcn c hc;omega) (by omega)) rfl<|?_
 refine eqF 15 (.d (vB true)) rfl (by rw[hbd]) ?_
 refine kbT 15 rfl ?_
 refine gx rfl<|?_
 exact rz rfl (by rw[←hcs];rfl)
theorem ave{k0:Nat}{t:Tr}(h:TrX k0 t)(hk0:k0≤900)(hbd:(aal t).all afE=true)(hm:anO (aal t)):PF GB prog 28 [eA t] (.tp [eR (aci t), .v .nilIface]):=by
 haveI:=hm.area
 refine fn func28 J J ntmps28 J J (fun C=>?_)
 refine cl rfl (agD h hk0 hbd) rfl<|cl rfl (auR hm.ed (by decide) hm.ar (by decide) hm.cr2) rfl<|cl rfl (ak2 (q:=aci t) (i:=2000003)) rfl<|?_
 exact rz J J
theorem aDa{k0:Nat}{t:Tr}(h:TrX k0 t)(hk0:k0≤900)(hbd:(aal t).all afE=true)(hm:anO (aal t)):PF GB prog 29 [eA t] (.tp [ePt (ail t), .v .nilIface]):=by
 haveI:=hm.mom
 refine fn func29 J J ntmps29 J J (fun C=>?_)
 refine cl rfl (agD h hk0 hbd) rfl<|cl rfl (akJ hm.ed (by decide) hm.mo (by decide) (by decide) hm.cr) rfl<|cl rfl (auF (p:=ail t) (i:=3000005)) rfl<|?_
 exact rz J J
theorem aCI{ai al ae au:Addr}(hE:EGV GB ai al ae au){k0:Nat}{t:Tr}(h:TrX k0 t)(hk0:k0≤900)(hbd:(aal t).all afE=true)(h0:(aal t).length=0):PF GB prog 30 [eA t] (.tp [zP0,ayu ae]):=by
 have hml:((aal t).map eC).length=(aal t).length:=aK ..
 refine fn func30 J J ntmps30 J J (fun C=>?_)
 refine cl (fu:=⟨21⟩) rfl (agD h hk0 hbd) rfl<|?_
 refine eqF 18 (.d (vI ((aal t).length:Nat))) rfl (by rw[hml]<;>rfl) ?_
 refine gx (fu:=⟨0⟩) rfl<|knT rfl (by show some (decide _)=some true;rw[decide_eq_true (by omega)]) rfl<|gl rfl hE.ErrEmpty rfl<|?_
 exact rz J J
theorem aDs{k0:Nat}{t:Tr}(h:TrX k0 t)(hk0:k0≤900)(hbd:(aal t).all afE=true)(hm:anO (aal t))(h0:(aal t).length≠0):PF GB prog 30 [eA t] (.tp [ePt ((ail t).scale (aci t)⁻¹), .v .nilIface]):=by
 have hml:((aal t).map eC).length=(aal t).length:=aK ..
 haveI:=hm.mom
 haveI:=hm.area
 refine fn func30 J J ntmps30 J J (fun C=>?_)
 refine cl (fu:=⟨21⟩) rfl (agD h hk0 hbd) rfl<|?_
 refine eqF 18 (.d (vI ((aal t).length:Nat))) rfl (by rw[hml]<;>rfl) ?_
 refine gx (fu:=⟨0⟩) rfl<|knF rfl (by show some (decide _)=some false;rw[decide_eq_false (by omega)]) rfl<|cl rfl (akJ hm.ed (by decide) hm.mo (by decide) (by decide) hm.cr) rfl<|?_
 refine cl rfl (auR hm.ed (by decide) hm.ar (by decide) hm.cr2) rfl<|cl rfl (azb (q:=aci t) (i:=2000003)) rfl<|cl rfl (agp (p:=ail t) (c:=(aci t)⁻¹) (i:=3000005) (j:=2000003)) rfl<|?_
 refine cl rfl (auF (p:=(ail t).scale (aci t)⁻¹) (i:=3000005+2000003)) rfl<|?_
 exact rz J J
def tw4:Rat:=((1:Int):Rat)/((24:Int):Rat)
def aij(f:PtQ×PtQ→Rat)(t:Tr):Rat:=aa1 f (acl (acb (aal t)))*tw4
theorem zF3{G:Gh}{m:List Value}(h:IsLs G [vI 0,vI 0, .v (.pointer none),vI 0,vI 0, .v (.pointer none),vI 0,vI 0, .v (.pointer none)] m):IsLs G [vI (fn_ 0),vI (fd_ 0),fp_ 0,vI (fn_ 0),vI (fd_ 0),fp_ 0,vI (fn_ 0),vI (fd_ 0),fp_ 0] m:=by
 obtain⟨y1,m1,rfl,h1,h⟩:=aad.1 h
 obtain⟨y2,m2,rfl,h2,h⟩:=aad.1 h
 obtain⟨y3,m3,rfl,h3,h⟩:=aad.1 h
 have a:=zF (m:=[y1,y2,y3]) (.cons h1 (.cons h2 (.cons h3 .nil)))
 exact a.app (zZ h)
theorem aoj:BQ tw4 6:=⟨by decide+kernel,by decide+kernel⟩
theorem asN{k0:Nat}{t:Tr}(h:TrX k0 t)(hk0:k0≤900)(hbd:(aal t).all afE=true)(hm:anO (aal t)):PF GB prog 31 [eA t] (.tp [eR (aij akg t),eR (aij akl t),eR (aij akf t), .v .nilIface]):=by
 obtain⟨cs,hcs⟩: ∃cs,cs=aal t:=⟨_,rfl⟩
 obtain⟨L,hL⟩: ∃L,L=acl (acb cs):=⟨_,rfl⟩
 rw[←hcs] at hm
 obtain⟨Sa,hSa⟩: ∃S:Nat→Rat,S=fun k=>aa1 akg (L.take k):=⟨_,rfl⟩
 obtain⟨Sb,hSb⟩: ∃S:Nat→Rat,S=fun k=>aa1 akl (L.take k):=⟨_,rfl⟩
 obtain⟨Sc,hSc⟩: ∃S:Nat→Rat,S=fun k=>aa1 akf (L.take k):=⟨_,rfl⟩
 have ha0:Sa 0=0:=by rw[hSa];rfl
 have hb0:Sb 0=0:=by rw[hSb];rfl
 have hc0:Sc 0=0:=by rw[hSc];rfl
 have hSak: ∀k,BQ (Sa k) 4000000:=by rw[hSa,hL];exact hm.sa
 have hSbk: ∀k,BQ (Sb k) 4000000:=by rw[hSb,hL];exact hm.sb
 have hSck: ∀k,BQ (Sc k) 4000000:=by rw[hSc,hL];exact hm.sc
 refine fnI func31 J J ntmps31 J J (fun C h0=>?_)
 refine cl rfl (agD h hk0 hbd) rfl ?_
 refine cmk J J J ao5 (fun _=>rfl) (fun GB1 pv hg1 hpv=>?_)
 refine imB 8 [vI (fn_ 0),vI (fd_ 0),fp_ 0,vI (fn_ 0),vI (fd_ 0),fp_ 0,vI (fn_ 0),vI (fd_ 0),fp_ 0] rfl (fun G m=>zF3) rfl ?_
 refine rnF 2 2000002 h0.fx rfl<|rnF 3 2000003 h0.fx rfl<|rnF 4 2000004 h0.fx rfl<|rnF 8 2000008 h0.fx rfl ?_
 refine aF5 (σ:=Empty) (fun k=>[(2000002,some (.o 63 [.ff, .nl, .nl] true)),(2000003,some (.o 63 [.ff, .nl, .nl] true)),(2000004,some (.o 63 [.ff, .nl, .nl] true)),(2000008,some (.o 164 [.d (vI (fn_ (Sa k))), .d (vI (fd_ (Sa k))), .d (fp_ (Sa k)), .d (vI (fn_ (Sb k))), .d (vI (fd_ (Sb k))), .d (fp_ (Sb k)), .d (vI (fn_ (Sc k))), .d (vI (fd_ (Sc k))), .d (fp_ (Sc k))] true))]) (fun _=>True) (fun _=>[]) (fun _=>False) [(2, .ov 2000002 0),(3, .ov 2000003 0),(4, .ov 2000004 0),(8, .ov 2000008 0)]
  h0 rfl (alZ (cs:=aal t) (by rw[←hcs];exact hm.ed.lb) (by rw[←hcs];exact hm.ed.sh) (by rw[←hcs];exact hm.ed.ln) (by rw[←hcs];exact hm.ed.pt) (by decide)) (.cons hpv .nil) ⟨rfl,rfl,rfl,rfl,trivial⟩ rfl (by rw[ha0,hb0,hc0];exact⟨rfl,rfl,rfl,rfl,trivial⟩) trivial ao8 J J (fun k e GB' hE hg hp=>?_) (fun D hD hx hp=>?_) (fun D s hD hx hq=>hq.elim)
 ·obtain⟨x,hx,rfl⟩:=aoE hE
  rw[←hcs] at hx
  refine⟨?_,?_,fun C2=>?_,fun C2=>?_⟩
  rotate_left 2
  ·refine gx rfl<|sta J J J ⟨rfl,rfl,rfl⟩ rfl ?_
   exact atR
  ·haveI:=hSak k
   haveI:=hSbk k
   haveI:=hSck k
   haveI:=hm.cr x (aR hx)
   haveI hp1:=(hm.ed.pt x (aR hx)).1
   haveI hp2:=(hm.ed.pt x (aR hx)).2
   haveI:=hp1.x
   haveI:=hp1.y
   haveI:=hp2.x
   haveI:=hp2.y
   haveI hp3:BPt (x.1.add x.2) 2401:=inferInstance
   haveI:=hp3.x
   haveI:=hp3.y
   rw[←hL] at hx
   refine gx rfl<|ixa 0 (e:=145) (len:=2) (s:=6) rfl (by kernel_rfl) (by kernel_rfl) (by decide) rfl<|ixa 1 (e:=145) (len:=2) (s:=6) rfl (by kernel_rfl) (by kernel_rfl) (by decide) rfl<|?_
   refine cl rfl (aqW (p:=x.1) (q:=x.2) (i:=1200) (j:=1200)) rfl<|?_
   refine cl rfl (abG (p:=x.1.x) (q:=x.1.x) (i:=1200) (j:=1200)) rfl<|cl rfl (abG (p:=x.2.x) (q:=x.2.x) (i:=1200) (j:=1200)) rfl<|cl rfl (acQ (p:=x.1.x*x.1.x) (q:=x.2.x*x.2.x)) rfl<|?_
   refine cl rfl (abG (p:=(x.1.add x.2).x) (q:=(x.1.add x.2).x) (i:=2401) (j:=2401)) rfl<|cl rfl (acQ (p:=x.1.x*x.1.x+x.2.x*x.2.x) (q:=(x.1.add x.2).x*(x.1.add x.2).x)) rfl<|?_
   refine cl rfl (abG (p:=x.1.x) (q:=x.1.y) (i:=1200) (j:=1200)) rfl<|cl rfl (abG (p:=x.2.x) (q:=x.2.y) (i:=1200) (j:=1200)) rfl<|cl rfl (acQ (p:=x.1.x*x.1.y) (q:=x.2.x*x.2.y)) rfl<|?_
   refine cl rfl (abG (p:=(x.1.add x.2).x) (q:=(x.1.add x.2).y) (i:=2401) (j:=2401)) rfl<|cl rfl (acQ (p:=x.1.x*x.1.y+x.2.x*x.2.y) (q:=(x.1.add x.2).x*(x.1.add x.2).y)) rfl<|?_
   refine cl rfl (abG (p:=x.1.y) (q:=x.1.y) (i:=1200) (j:=1200)) rfl<|cl rfl (abG (p:=x.2.y) (q:=x.2.y) (i:=1200) (j:=1200)) rfl<|cl rfl (acQ (p:=x.1.y*x.1.y) (q:=x.2.y*x.2.y)) rfl<|?_
   refine cl rfl (abG (p:=(x.1.add x.2).y) (q:=(x.1.add x.2).y) (i:=2401) (j:=2401)) rfl<|cl rfl (acQ (p:=x.1.y*x.1.y+x.2.y*x.2.y) (q:=(x.1.add x.2).y*(x.1.add x.2).y)) rfl<|?_
   refine bar (len:=3) (s:=3) (e:=142) rfl (by kernel_rfl) (by kernel_rfl) rfl<|sta J J J ⟨rfl,rfl,rfl⟩ rfl<|ldA 9 (len:=3) (e:=142) rfl (by kernel_rfl) (by kernel_rfl) rfl<|?_
   refine lp (X:=Nat) (fun i=>[(93, .d (vI (i:Nat)))]) (fun i=>[(2000008,some (.o 164 [.d (vI (fn_ (if 0<i then Sa k+akg x else Sa k))), .d (vI (fd_ (if 0<i then Sa k+akg x else Sa k))), .d (fp_ (if 0<i then Sa k+akg x else Sa k)), .d (vI (fn_ (if 1<i then Sb k+akl x else Sb k))), .d (vI (fd_ (if 1<i then Sb k+akl x else Sb k))), .d (fp_ (if 1<i then Sb k+akl x else Sb k)), .d (vI (fn_ (if 2<i then Sc k+akf x else Sc k))), .d (vI (fd_ (if 2<i then Sc k+akf x else Sc k))), .d (fp_ (if 2<i then Sc k+akf x else Sc k))] true))]) (fun i=>i≤3) (fun i=>3-i) 0 rfl (by omega) (fun _=>rfl) (fun i hi=>?_)
   refine br J J J (fun hc94=>?_) (fun hc94=>?_)
   ·obtain rfl|rfl|rfl:i=0∨i=1∨i=2:=by omega
    ·refine idA 0 (len:=3) (s:=3) (e:=142) rfl (by kernel_rfl) J J (by decide) rfl<|ixa 0 (e:=142) (len:=3) (s:=3) rfl (by kernel_rfl) (by kernel_rfl) (by decide) rfl<|?_
     refine cl rfl (abG (p:=(x.1.x*x.1.x+x.2.x*x.2.x+(x.1.add x.2).x*(x.1.add x.2).x)) (q:=x.1.cross x.2) (j:=5000)) rfl<|cl rfl (acQ (p:=Sa k) (q:=(x.1.x*x.1.x+x.2.x*x.2.x+(x.1.add x.2).x*(x.1.add x.2).x)*x.1.cross x.2) (i:=4000000)) rfl<|ixa (hv:=by simp only[aah];exact⟨by kernel_rfl,by omega⟩) 0 (e:=142) (len:=3) (s:=3) rfl (by kernel_rfl) (by kernel_rfl) (by decide) rfl<|?_
     exact at_ 1 ⟨by omega,by omega⟩
    ·refine idA 1 (len:=3) (s:=3) (e:=142) rfl (by kernel_rfl) J J (by decide) rfl<|ixa 1 (e:=142) (len:=3) (s:=3) rfl (by kernel_rfl) (by kernel_rfl) (by decide) rfl<|?_
     refine cl rfl (abG (p:=(x.1.x*x.1.y+x.2.x*x.2.y+(x.1.add x.2).x*(x.1.add x.2).y)) (q:=x.1.cross x.2) (j:=5000)) rfl<|cl rfl (acQ (p:=Sb k) (q:=(x.1.x*x.1.y+x.2.x*x.2.y+(x.1.add x.2).x*(x.1.add x.2).y)*x.1.cross x.2) (i:=4000000)) rfl<|ixa (hv:=by simp only[aah];exact⟨by kernel_rfl,by omega⟩) 1 (e:=142) (len:=3) (s:=3) rfl (by kernel_rfl) (by kernel_rfl) (by decide) rfl<|?_
     exact at_ 2 ⟨by omega,by omega⟩
    ·refine idA 2 (len:=3) (s:=3) (e:=142) rfl (by kernel_rfl) J J (by decide) rfl<|ixa 2 (e:=142) (len:=3) (s:=3) rfl (by kernel_rfl) (by kernel_rfl) (by decide) rfl<|?_
     refine cl rfl (abG (p:=(x.1.y*x.1.y+x.2.y*x.2.y+(x.1.add x.2).y*(x.1.add x.2).y)) (q:=x.1.cross x.2) (j:=5000)) rfl<|cl rfl (acQ (p:=Sc k) (q:=(x.1.y*x.1.y+x.2.y*x.2.y+(x.1.add x.2).y*(x.1.add x.2).y)*x.1.cross x.2) (i:=4000000)) rfl<|ixa (hv:=by simp only[aah];exact⟨by kernel_rfl,by omega⟩) 2 (e:=142) (len:=3) (s:=3) rfl (by kernel_rfl) (by kernel_rfl) (by decide) rfl<|?_
     exact at_ 3 ⟨by omega,by omega⟩
   ·obtain rfl:i=3:=by omega
    have e1:Sa (k+1)=Sa k+akg x:=by rw[hSa];exact acs _ hx
    have e2:Sb (k+1)=Sb k+akl x:=by rw[hSb];exact acs _ hx
    have e3:Sc (k+1)=Sc k+akf x:=by rw[hSc];exact acs _ hx
    exact rq trivial (by rw[e1,e2,e3];exact⟨rfl,rfl,rfl,rfl,trivial⟩)
 ·have eN:((acl (acb (aal t))).map edE).length=L.length:=by rw[aK,←hcs,←hL]
  rw[eN]
  have ea:Sa L.length=aa1 akg L:=by rw[hSa];show aa1 _ (List.take _ _)=_;rw[cW]
  have eb:Sb L.length=aa1 akl L:=by rw[hSb];show aa1 _ (List.take _ _)=_;rw[cW]
  have ec:Sc L.length=aa1 akf L:=by rw[hSc];show aa1 _ (List.take _ _)=_;rw[cW]
  haveI:BQ (aa1 akg L) 4000000:=by rw[←ea];exact hSak _
  haveI:BQ (aa1 akl L) 4000000:=by rw[←eb];exact hSbk _
  haveI:BQ (aa1 akf L) 4000000:=by rw[←ec];exact hSck _
  haveI:=aoj
  rw[ea,eb,ec]
  refine gx rfl<|cl rfl (avq (m:=1) (n:=24) (by decide) (by decide)) rfl<|?_
  refine ixa 0 (e:=142) (len:=3) (s:=3) rfl (by kernel_rfl) (by kernel_rfl) (by decide) rfl<|cl rfl (abG (p:=aa1 akg L) (q:=tw4) (i:=4000000) (j:=6)) rfl<|cl rfl (ak2 (q:=aa1 akg L*tw4) (i:=4000006)) rfl<|?_
  refine ixa 1 (e:=142) (len:=3) (s:=3) rfl (by kernel_rfl) (by kernel_rfl) (by decide) rfl<|cl rfl (abG (p:=aa1 akl L) (q:=tw4) (i:=4000000) (j:=6)) rfl<|cl rfl (ak2 (q:=aa1 akl L*tw4) (i:=4000006)) rfl<|?_
  refine ixa 2 (e:=142) (len:=3) (s:=3) rfl (by kernel_rfl) (by kernel_rfl) (by decide) rfl<|cl rfl (abG (p:=aa1 akf L) (q:=tw4) (i:=4000000) (j:=6)) rfl<|cl rfl (ak2 (q:=aa1 akf L*tw4) (i:=4000006)) rfl<|?_
  exact rzD hD hx rfl (by unfold aij;rw[←hcs,←hL];rfl)
/-! numbers over one denominator -/
structure DQ (D B:Nat) (x:Rat):Prop where
 ex: ∃n:Int,x*((D:Nat):Rat)=(n:Rat)∧n.natAbs≤B*D
theorem DQ.bq{D B k:Nat}{x:Rat}(h:DQ D B x)(h0:0<D)(h1:D<2^k)(h2:B*D<2^k):BQ x k:=by
 obtain⟨n,e,hn⟩:=h.ex
 exact BQ.of_frac h0 e (by omega) h1
theorem DQ.mono{D B C:Nat}{x:Rat}(h:DQ D B x)(hc:B≤C):DQ D C x:=by
 obtain⟨n,e,hn⟩:=h.ex
 exact⟨n,e,cY hn (bJ D hc)⟩
theorem DQ.add{D B C:Nat}{x y:Rat}(h:DQ D B x)(k:DQ D C y):DQ D (B+C) (x+y):=by
 obtain⟨n,e,hn⟩:=h.ex
 obtain⟨m,f,hm⟩:=k.ex
 refine⟨n+m,by rw[oR,←e,←f];grind,?_⟩
 have:=Int.natAbs_add_le n m
 rw[cM];omega
theorem DQ.neg{D B:Nat}{x:Rat}(h:DQ D B x):DQ D B (-x):=by
 obtain⟨n,e,hn⟩:=h.ex
 exact⟨-n,by rw[mQ,←e];grind,by rw[iU];exact hn⟩
theorem DQ.sub{D B C:Nat}{x y:Rat}(h:DQ D B x)(k:DQ D C y):DQ D (B+C) (x-y):=by
 have:=h.add k.neg
 rw[show x-y=x+ -y by grind];exact this
theorem DQ.mul{D E B C:Nat}{x y:Rat}(h:DQ D B x)(k:DQ E C y):DQ (D*E) (B*C) (x*y):=by
 obtain⟨n,e,hn⟩:=h.ex
 obtain⟨m,f,hm⟩:=k.ex
 refine⟨n*m,?_,?_⟩
 ·rw[cV,←e,←f,Rat.natCast_mul];grind
 ·rw[jZ]
  refine cY (iZ hn hm) (Nat.le_of_eq ?_)
  rw[Nat.mul_mul_mul_comm]
theorem DQ.zero(D B:Nat):DQ D B 0:=⟨0,by grind,by simp⟩
def crN(l m:LnQ):Nat:=if crossI l m=0 then 1 else(crossI l m).natAbs
theorem azR(l m:LnQ):0<crN l m:=by unfold crN;split<;>omega
theorem asb(l m:LnQ):crossI l.rev m= -crossI l m:=by
 unfold crossI LnQ.rev
 show-l.a*m.b-m.a* -l.b=_
 rw[Int.neg_mul,sZ];omega
theorem ao4(l m:LnQ):crossI l m.rev= -crossI l m:=by
 unfold crossI LnQ.rev
 show l.a* -m.b- -m.a*l.b=_
 rw[Int.neg_mul,sZ];omega
theorem axW{l m l' m':LnQ}(h:l.same l')(k:m.same m'):crN l' m'=crN l m:=by
 have e1:crN l' m'=crN l m':=by
  rcases h with rfl|rfl
  ·rfl
  ·unfold crN;rw[asb];simp only[Int.neg_eq_zero,iU]
 rw[e1]
 rcases k with rfl|rfl
 ·rfl
 ·unfold crN;rw[ao4];simp only[Int.neg_eq_zero,iU]
def aFd(K:List LnQ):List Nat:=K.flatMap fun l=>K.map (crN l)
def aFg(K:List LnQ):Nat:=(aFd K).foldr (· * ·) 1
theorem aqU{n:Nat}: ∀{l:List Nat},n∈l→n∣l.foldr (· * ·) 1
 |a::t,h=>by
  rw[List.foldr_cons]
  rcases aU.1 h with rfl|h
  ·exact Nat.dvd_mul_right _ _
  ·exact rM (aqU h) (Nat.dvd_mul_left _ _)
theorem ap2: ∀{l:List Nat},(∀n∈l,0<n)→0<l.foldr (· * ·) 1
 |[],_=>by decide
 |a::t,h=>by rw[List.foldr_cons];exact gS (h a aZ) (ap2 fun n hn=>h n (aJ _ hn))
theorem ass{b:Nat}: ∀{l:List Nat},(∀n∈l,n≤2^b)→l.foldr (· * ·) 1≤2^(b*l.length)
 |[],_=>by simp
 |a::t,h=>by
  rw[List.foldr_cons,bW,Nat.mul_succ,jV,dS]
  exact iZ (h a aZ) (ass fun n hn=>h n (aJ _ hn))
theorem aww(K:List LnQ):(aFd K).length=K.length*K.length:=by
 unfold aFd
 rw[List.length_flatMap]
 have: ∀Jv:List LnQ,(Jv.map fun l=>(K.map (crN l)).length).sum=Jv.length*K.length:=by
  intro Jv
  induction Jv with
  |nil=>simp
  |cons a t ih=>rw[cZ,List.sum_cons,ih,aK,bW,iY];omega
 exact this K
theorem axv(K:List LnQ):0<aFg K:=ap2 fun n hn=>by
 obtain⟨l,_,h⟩:=gU.1 hn
 obtain⟨m,_,rfl⟩:=bK.1 h
 exact azR l m
theorem aw7{K:List LnQ}{l m:LnQ}(hl:l∈K)(hm:m∈K):crN l m∣aFg K:=aqU (gU.2 ⟨l,hl,eY hm⟩)
theorem aEk{l m:LnQ}(hl:LB l)(hm:LB m):crN l m≤2^385:=by
 have h1:=(inferInstance:BI (crossI l m) 385).h
 generalize 385=kk at h1⊢
 unfold crN
 split
 ·exact Nat.one_le_two_pow
 ·exact lU h1
theorem aBA{K:List LnQ}(h: ∀l∈K,LB l):aFg K≤2^(385*(K.length*K.length)):=by
 have:=ass (b:=385) (l:=aFd K) fun n hn=>by
  obtain⟨l,hl,h2⟩:=gU.1 hn
  obtain⟨m,hm,rfl⟩:=bK.1 h2
  exact aEk (h l hl) (h m hm)
 rw[aww] at this
 exact this
theorem avc{x:Rat}{n c:Int}{D kk:Nat}(hc:c≠0)(hx:x=(n:Rat)/(c:Rat))(hn:n.natAbs≤2^kk)(hd:c.natAbs∣D):DQ D (2^kk) x:=by
 obtain⟨e,he⟩:=hd
 have hc':(c:Rat)≠0:=fun h=>hc (dQ.1 h)
 have hD:((D:Nat):Rat)=((c.natAbs:Int):Rat)*((e:Int):Rat):=by rw[←cV,←Rat.intCast_natCast,he];rfl
 have bd:(n*(e:Int)).natAbs≤2^kk*D:=by
  rw[jZ,iR]
  refine iZ hn ?_
  rw[he]
  exact Nat.le_mul_of_pos_left e (by omega)
 rcases Int.natAbs_eq c with h|h
 ·refine⟨n*(e:Int),?_,bd⟩
  rw[hD,←h,hx,cV];grind
 ·refine⟨-(n*(e:Int)),?_,by rw[iU];exact bd⟩
  have h2:(c.natAbs:Int)= -c:=by omega
  rw[hD,h2,hx,mQ,mQ,cV];grind
structure DP (D B:Nat) (p:PtQ):Prop where
 x:DQ D B p.x
 y:DQ D B p.y
theorem aAO{l m:LnQ}(hl:LB l)(hm:LB m)(h:crossI l m≠0){D:Nat}(hd:crN l m∣D):DP D (2^385) (abq l m):=by
 have h1:=(inferInstance:BI (meetX l m) 385).h
 have h2:=(inferInstance:BI (meetY l m) 385).h
 generalize 385=kk at h1 h2⊢
 unfold crN at hd
 rw[if_neg h] at hd
 have e:abq l m=⟨(meetX l m:Rat)/(crossI l m:Rat),(meetY l m:Rat)/(crossI l m:Rat)⟩:=by unfold abq;rw[if_neg h]
 rw[e]
 exact⟨avc h rfl (lU h1) hd,avc h rfl (lU h2) hd⟩
theorem DP.cross{D B C:Nat}{p q:PtQ}(h:DP D B p)(k:DP D C q):DQ (D*D) (2*(B*C)) (p.cross q):=by
 have:=(h.x.mul k.y).sub (h.y.mul k.x)
 refine DQ.mono this (by omega)
theorem DP.add{D B C:Nat}{p q:PtQ}(h:DP D B p)(k:DP D C q):DP D (B+C) (p.add q):=⟨h.x.add k.x,h.y.add k.y⟩
theorem DP.scale{D E B C:Nat}{p:PtQ}{c:Rat}(h:DP D B p)(k:DQ E C c):DP (D*E) (B*C) (p.scale c):=⟨h.x.mul k,h.y.mul k⟩
theorem az3{k:Nat}{t:Tr}(h:TrX k t): ∃K:List LnQ,K.length≤k∧(∀l∈K,LB l)∧t.all fun l=> ∃m∈K,m.same l:=by
 obtain⟨K,h1,h2,h3⟩:=h.o.am
 refine⟨K.filter fun m=>t.lns.any fun l=>decide (m.same l),cY (kX ..) h1,fun m hm=>?_,?_⟩
 ·obtain⟨hm1,hm2⟩:=qW.1 hm
  obtain⟨l,hl,e⟩:=jK.1 hm2
  have hb:=afi.1 h.lb l hl
  have e':m.same l:=by simpa using e
  rcases e' with rfl|rfl
  ·exact hb
  ·haveI:=hb
   have:LB m.rev.rev:=inferInstance
   rwa [show m.rev.rev=m from by unfold LnQ.rev;cases m;simp] at this
 ·have h3:=afi.1 h3
  refine afi.2 fun l hl=>?_
  obtain⟨m,hm,e⟩:=h3 l hl
  exact⟨m,qW.2 ⟨hm,jK.2 ⟨l,hl,decide_eq_true e⟩⟩,e⟩
theorem ahV{P:LnQ→Prop}(hr: ∀l,P l→P l.rev): ∀{t:Tr} {c:aag} {x:Bool×aag},t.all P→(∀s∈c,P s.l)→x∈t.parts c→ ∀s∈x.2,P s.l
 | .leaf b,c,x,_,hc,h=>by
  rw[Tr.parts,aV] at h
  subst h;exact hc
 | .node l u v,c,x,ht,hc,h=>by
  have cl: ∀k,P k→ ∀s∈aaO c k,P s.l:=fun k hk s hs=>by
   unfold aaO at hs
   split at hs
   ·rcases acL.1 hs with rfl|hs
    ·exact hk
    ·obtain⟨s0,g,_,rfl⟩:=acw.1 hs
     exact hc s0 g
   ·exact hc s hs
  rw[Tr.parts] at h
  rcases bY.1 h with h|h
  ·split at h
   ·exact ahV hr ht.2.1 (cl l ht.1) h
   ·cases h
  ·split at h
   ·exact ahV hr ht.2.2 (cl l.rev (hr l ht.1)) h
   ·cases h
theorem axS{k:Nat}{t:Tr}(h:TrX k t): ∃D:Nat,0<D∧D≤2^(385*(k*k))∧ ∀c∈aal t,∀p∈acP (c.map (·.l)),DP D (2^385) p:=by
 obtain⟨K,h1,h2,h3⟩:=az3 h
 refine⟨aFg K,axv K,cY (aBA h2) (bV (by decide) (dR 385 (iZ h1 h1))),fun c hc p hp=>?_⟩
 have hs:=ahV (P:=fun l=> ∃m∈K,m.same l) (fun l ⟨m,hm,e⟩=>⟨m,hm,by
  rcases e with rfl|rfl
  ·exact .inr rfl
  ·exact .inl (by unfold LnQ.rev;cases m;simp)⟩) h3 (fun s hs=>by cases hs) (adC.1 hc)
 have hb:=aix h.lb h.ok c hc
 obtain⟨i,hi,hp⟩:=gU.1 hp
 have hi':=lT.1 hi
 have e1:=aQ hi'
 have e2:=aQ (l:=c.map (·.l)) (dZ (i+1) (show 0<(c.map (·.l)).length by omega))
 rw[af4 e1 e2] at hp
 split at hp
 ·rename_i hx
  rw[aV.1 hp]
  obtain⟨s,s1,s2⟩:=bK.1 (bN hi')
  obtain⟨u,u1,u2⟩:=bK.1 (bN (dZ (i+1) (show 0<(c.map (·.l)).length by omega)))
  rw[←s2,←u2] at hx⊢
  obtain⟨m,hm,em⟩:=hs s s1
  obtain⟨n,hn,en⟩:=hs u u1
  exact aAO (hb s s1) (hb u u1) (az2 hx) (by rw[axW em en];exact aw7 hm hn)
 ·cases hp
theorem apY{D B a b k:Nat}{x:Rat}(h:DQ D B x)(h0:0<D)(hD:D≤2^a)(hB:B≤2^b)(hk:a+b<k):BQ x k:=by
 refine h.bq h0 (eK hD (sQ (by decide) (by omega))) ?_
 refine eK (iZ hB hD) ?_
 rw[←dS]
 exact sQ (by decide) (by omega)
theorem pw2{x y a b:Nat}(hx:x≤2^a)(hy:y≤2^b):x*y≤2^(a+b):=by
 rw[dS];exact iZ hx hy
theorem ayk{α:Type}{D B:Nat}{f:α→Rat}: ∀{l:List α},(∀x∈l,DQ D B (f x))→DQ D (l.length*B) (aa1 f l)
 |[],_=>by show DQ D _ 0;exact DQ.zero D _
 |x::t,h=>by
  have:=(h x aZ).add (ayk fun y hy=>h y (aJ _ hy))
  refine DQ.mono this (Nat.le_of_eq ?_)
  rw[bW,cM,nJ,jV]
theorem alS{α:Type}{D B N:Nat}{f:α→Rat}{l:List α}(h: ∀x∈l,DQ D B (f x))(hl:l.length≤N)(k:Nat):DQ D (N*B) (aa1 f (l.take k)):=by
 have:=ayk (l:=l.take k) fun x hx=>h x (fZ hx)
 exact this.mono (bJ B (cY (by rw[cS];omega) hl))
theorem awl{v:List PtQ}{x:PtQ×PtQ}(h:x∈agT v):x.1∈v∧x.2∈v:=by
 obtain⟨i,hi,rfl⟩:=bK.1 h
 have hi':=lT.1 hi
 have hj:(i+1)%v.length<v.length:=dZ _ (by omega)
 dsimp only
 rw[aX,aX,aQ hi',aQ hj]
 exact⟨bN _,bN _⟩
theorem auU{cs:List aag}{x:PtQ×PtQ}(h:x∈acl (acb cs)): ∃c∈cs,x.1∈acP (c.map (·.l))∧x.2∈acP (c.map (·.l)):=by
 obtain⟨L,hL,hx⟩:=gU.1 h
 obtain⟨c,hc,rfl⟩:=bK.1 hL
 exact⟨c,hc,awl hx⟩
theorem aCa{k0:Nat}{t:Tr}(h:TrX k0 t)(hk:k0≤48):(acl (acb (aal t))).length≤2^18:=by
 have h1: ∀L∈acb (aal t),(agT (acP L)).length≤48:=fun L hL=>by
  obtain⟨c,hc,rfl⟩:=bK.1 hL
  have h2:=aeL h.lb h.ok c hc
  have h3:=amQ (c.map (·.l))
  have h4:=h.dp
  rw[aK] at h3
  rw[amj];omega
 have h2:=apS h1
 have h3:=agI t
 have h4:=h.s
 have h5:(acb (aal t)).length=(aal t).length:=aK ..
 unfold acl
 rw[h5] at h2
 have:(aal t).length*48≤3001*48:=bJ 48 (by omega)
 omega
theorem aA6{k0:Nat}{t:Tr}(h:TrX k0 t)(hk:k0≤48):anO (aal t):=by
 obtain⟨D,hD0,hD1,hv⟩:=axS h
 have hDa:D≤2^887040:=by
  generalize hE:887040=kE
  exact cY hD1 (bV (by decide) (by
   have:k0*k0≤48*48:=iZ hk hk
   omega))
 obtain⟨B,hB⟩: ∃B,B=2^385:=⟨_,rfl⟩
 rw[←hB] at hv
 have sqp: ∀X a b:Nat,X=2^a→a+a=b→X*X=2^b:=fun X a b h k=>by rw[h,←k,dS]
 have hBB:B*B=2^770:=sqp B 385 770 hB rfl
 have hp: ∀x∈acl (acb (aal t)),DP D B x.1∧DP D B x.2:=fun x hx=>by
  obtain⟨c,hc,h1,h2⟩:=auU hx
  exact⟨hv c hc _ h1,hv c hc _ h2⟩
 have hpt: ∀x∈acl (acb (aal t)),BPt x.1 1200∧BPt x.2 1200:=fun x hx=>by
  obtain⟨c,hc,h1,h2⟩:=auU hx
  have hb: ∀l∈c.map (·.l),LB l:=fun l hl=>by
   obtain⟨s,hs,rfl⟩:=bK.1 hl
   exact aix h.lb h.ok c hc s hs
  exact⟨aqq hb _ h1,aqq hb _ h2⟩
 have hlen:=aCa h hk
 have hDD:=pw2 hDa hDa
 have hc: ∀x∈acl (acb (aal t)),DQ (D*D) (2*(B*B)) (x.1.cross x.2):=fun x hx=>(hp x hx).1.cross (hp x hx).2
 have hn:2^18*(2*(B*B))≤2^789:=by rw[hBB];decide+kernel
 have hs: ∀{u v u' v':Rat},DQ D B u→DQ D B v→DQ D B u'→DQ D B v'→ ∀{c:Rat},DQ (D*D) (2*(B*B)) c→DQ (D*D*(D*D)) (2^1544) ((u*v+u'*v'+(u+u')*(v+v'))*c):=fun hu hv hu' hv' c hc=>by
  refine DQ.mono ((((hu.mul hv).add (hu'.mul hv')).add ((hu.add hu').mul (hv.add hv'))).mul hc) ?_
  rw[show(B+B)*(B+B)=4*(B*B) by rw[cM,dK];omega,hBB]
  decide+kernel
 have hfin:2^18*2^1544≤2^1562:=by decide+kernel
 have fin: ∀f:PtQ×PtQ→Rat,(∀x∈acl (acb (aal t)),DQ (D*D*(D*D)) (2^1544) (f x))→ ∀k,BQ (aa1 f ((acl (acb (aal t))).take k)) 4000000:=fun f hf k=>
  apY (alS hf hlen k) (gS (gS hD0 hD0) (gS hD0 hD0)) (pw2 hDD hDD) hfin (by decide)
 refine⟨⟨aix h.lb h.ok,fun c hc=>?_,?_,hpt⟩,fun x hx=>?_,fun k=>?_,fun k=>?_,fin _ fun x hx=>?_,fin _ fun x hx=>?_,fin _ fun x hx=>?_⟩
 ·have:=aeL h.lb h.ok c hc;have:=h.dp;omega
 ·have:=agI t;have:=h.s;omega
 ·haveI:=(hpt x hx).1
  haveI:=(hpt x hx).2
  exact BQ.mono (inferInstance:BQ (x.1.cross x.2) _) (by decide)
 ·exact apY (alS hc hlen k) (gS hD0 hD0) hDD hn (by decide)
 ·have hm: ∀x∈acl (acb (aal t)),DP (D*(D*D)) ((B+B)*(2*(B*B))) (alq x):=fun x hx=>((hp x hx).1.add (hp x hx).2).scale (hc x hx)
  have hb:2^18*((B+B)*(2*(B*B)))≤2^1175:=by
   rw[hBB,hB];decide+kernel
  have h3:=pw2 hDa hDD
  have h0:=gS hD0 (gS hD0 hD0)
  exact⟨apY (alS (fun x hx=>(hm x hx).x) hlen k) h0 h3 hb (by decide),apY (alS (fun x hx=>(hm x hx).y) hlen k) h0 h3 hb (by decide)⟩
 ·exact hs (hp x hx).1.x (hp x hx).1.x (hp x hx).2.x (hp x hx).2.x (hc x hx)
 ·exact hs (hp x hx).1.x (hp x hx).1.y (hp x hx).2.x (hp x hx).2.y (hc x hx)
 ·exact hs (hp x hx).1.y (hp x hx).1.y (hp x hx).2.y (hp x hx).2.y (hc x hx)
theorem imD{C:Ctx}{n:Nat}{Q0:Exit→Act→World→Prop}{fr:FrX}{own:OwX}{K:List Kt}{P:Program}(nm:Nat){ty:TypeId}{cs:List FX}{ds:List DV}{lo:Bool}{own1:OwX}{c:Code}(ds':List DV)(hl:aaq own nm=some (.o ty cs lo))(hc:adW cs=some ds)(hi: ∀G m,IsLs G ds m→IsLs G ds' m)(ho:axk own nm (some (.o ty (ds'.map .d) lo)) id=own1)(h:CfS P GB C n Q0 fr own1 (.code c K)):CfS P GB C n Q0 fr own (.code c K):=by
 rw[ae7] at ho
 subst ho
 refine⟨fun ρ G ov a w r=>?_⟩
 have old: ∀m B,aaq (amm own nm (some (.o ty (ds'.map .d) lo))) m=some B→ ∃B0,aaq own m=some B0:=fun m B e=>by
  rw[acM] at e
  split at e
  ·rename_i hm;subst hm;exact⟨_,hl⟩
  ·exact⟨_,e⟩
 refine SX.run h ρ G ov a w ⟨r.gb,r.h,r.sz,r.df,r.fx,fun m B e=>?_,fun m m' B B' e e'=>?_,r.fxd⟩
 ·rw[show id (amm own nm (some (.o ty (ds'.map .d) lo)))=amm own nm (some (.o ty (ds'.map .d) lo)) from rfl,acM] at e
  split at e
  ·rename_i hm;subst hm;cases e
   obtain⟨os,⟨b,q,h1,rfl,h2⟩,h3⟩:=r.bx _ _ hl
   exact⟨_,⟨b,q,h1,rfl,afV (hi G q (acy h2 hc))⟩,h3⟩
  ·exact r.bx _ _ e
 ·obtain⟨B0,h0⟩:=old _ _ e
  obtain⟨B1,h1⟩:=old _ _ e'
  exact r.dj m m' B0 B1 h0 h1
theorem aiU{t:Tr}(h:t.all LnQ.ok):aok (aa5 t [])=acb (aal t):=aiT h
def eM(a b c d e f:Rat):DV:= .ag [(.v (.bool (decide ((a).num<0)))),(dN (a).num.natAbs),(dD (a).den),(.v (.bool (decide ((b).num<0)))),(dN (b).num.natAbs),(dD (b).den),(.v (.bool (decide ((c).num<0)))),(dN (c).num.natAbs),(dD (c).den),(.v (.bool (decide ((d).num<0)))),(dN (d).num.natAbs),(dD (d).den),(.v (.bool (decide ((e).num<0)))),(dN (e).num.natAbs),(dD (e).den),(.v (.bool (decide ((f).num<0)))),(dN (f).num.natAbs),(dD (f).den)]
theorem aHY{C:Ctx}{n:Nat}{fr:FrX}{own:OwX}{fb:Func}{e:Exit}{a t nm ty len el:Nat}{cs:List FX}{lo:Bool}{ds:List DV}{rv:DV}(hr:fb.results.toList=[.cell a t])(hl:aap fr a=some (.ov nm 0))(hb:aaq own nm=some (.o ty cs lo))(hc:adW cs=some ds)(hd: .ag ds=rv)(hu:prog.underlying t=some (.array len el))(hs:(prog.info? t).map (·.size)=some cs.length)(he:avl e=true:=by rfl):CfS prog GB C n (aca C prog fb (afk C (fun v G'=>Is G' rv v))) fr own (.ex e []):=by
 refine⟨fun ρ G ov a' w r=>?_⟩
 cases hj:prog.info? t with
 |none=>rw[hj] at hs;cases hs
 |some j=>
 rw[hj] at hs
 have hs':j.size=cs.length:=Option.some.inj hs
 have tA:TyA prog t cs.length:=⟨fun w=>ahD hu w,fun w=>by rw[adx hj w,hs']⟩
 obtain⟨y,h3,h4⟩:=r.fx a _ hl
 obtain⟨b,m,rfl,h5,h6,h7⟩:=r.own h4 hb
 have oat:OAt ov b m _ _:=⟨h7⟩
 have hlen:=h6.len
 have ht:aa0 m 0 cs.length=some m:=by rw[abt m 0 cs.length (by omega),gJ,←hlen,cW]
 have hres:RVs prog (frA a') ov fb.results.toList [.agg ⟨m⟩]:=by rw[hr];exact .agg (agC h3) oat tA ht .nil
 have hk:Is G rv (abJ [.agg ⟨m⟩]):=hd▸abZ.2 ⟨m,rfl,acy h6 hc⟩
 cases e with
 |ret=>exact zD (C:=C) (n:=n) (fr:=frA a') (own:=ov) (G:=G) (K:=fun v G'=>Is G' rv v) hres hk a' w ⟨r.h,r.sz,aaC a',r.df⟩
 |normal=>exact alx (C:=C) (n:=n) (fr:=frA a') (own:=ov) (G:=G) (K:=fun v G'=>Is G' rv v) hres hk a' w ⟨r.h,r.sz,aaC a',r.df⟩
 |_=>cases he
def zq3:List DV:=[.v (.bool (decide ((0:Rat).num<0))),dN (0:Rat).num.natAbs,dD (0:Rat).den]
theorem aEx:zq3=[vB false, .sl [], .sl []]:=by unfold zq3;rw[show dN (0:Rat).num.natAbs= .sl [] from acD];rfl
theorem aum{k0:Nat}{t:Tr}(h:TrX k0 t)(hk0:k0≤48):PF GB prog 27 [eT t] (eM (aci t) (ail t).x (ail t).y (aij akg t) (aij akl t) (aij akf t)):=by
 have hm:=aA6 h hk0
 have hlb:=aEz h.lb h.ok
 have hcl:=aBh h.ok
 rw[aiU h.ok] at hlb hcl
 obtain⟨cs,hcs⟩: ∃cs,cs=acb (aal t):=⟨_,rfl⟩
 obtain⟨L,hL⟩: ∃L,L=acl cs:=⟨_,rfl⟩
 have hts:=h.s
 have htd:=h.dp
 rw[←hcs] at hlb hcl
 have hml:(cs.map eSd).length=cs.length:=aK ..
 obtain⟨M0,hM0⟩: ∃M:Nat→Rat,M=fun n=>aa1 (fun x=>x.1.cross x.2) (L.take n)*mkRat 1 2:=⟨_,rfl⟩
 obtain⟨M1,hM1⟩: ∃M:Nat→Rat,M=fun n=>(akC alq (L.take n)).x*(((1:Int):Rat)/((6:Int):Rat)):=⟨_,rfl⟩
 obtain⟨M2,hM2⟩: ∃M:Nat→Rat,M=fun n=>(akC alq (L.take n)).y*(((1:Int):Rat)/((6:Int):Rat)):=⟨_,rfl⟩
 obtain⟨M3,hM3⟩: ∃M:Nat→Rat,M=fun n=>aa1 akg (L.take n)*tw4:=⟨_,rfl⟩
 obtain⟨M4,hM4⟩: ∃M:Nat→Rat,M=fun n=>aa1 akl (L.take n)*tw4:=⟨_,rfl⟩
 obtain⟨M5,hM5⟩: ∃M:Nat→Rat,M=fun n=>aa1 akf (L.take n)*tw4:=⟨_,rfl⟩
 have hLe:L=acl (acb (aal t)):=by rw[hL,hcs]
 have b0: ∀n,BQ (M0 n) 5000000:=fun n=>by
  rw[hM0,hLe];haveI:=hm.ar n
  exact BQ.mono (inferInstance:BQ (aa1 (fun x=>x.1.cross x.2) ((acl (acb (aal t))).take n)*mkRat 1 2) _) (by decide)
 have b1: ∀n,BQ (M1 n) 5000000:=fun n=>by
  rw[hM1,hLe];haveI:=(hm.mo n).x;haveI:=alu
  exact BQ.mono (inferInstance:BQ ((akC alq ((acl (acb (aal t))).take n)).x*(((1:Int):Rat)/((6:Int):Rat))) _) (by decide)
 have b2: ∀n,BQ (M2 n) 5000000:=fun n=>by
  rw[hM2,hLe];haveI:=(hm.mo n).y;haveI:=alu
  exact BQ.mono (inferInstance:BQ ((akC alq ((acl (acb (aal t))).take n)).y*(((1:Int):Rat)/((6:Int):Rat))) _) (by decide)
 have b3: ∀n,BQ (M3 n) 5000000:=fun n=>by
  rw[hM3,hLe];haveI:=hm.sa n;haveI:=aoj
  exact BQ.mono (inferInstance:BQ (aa1 akg ((acl (acb (aal t))).take n)*tw4) _) (by decide)
 have b4: ∀n,BQ (M4 n) 5000000:=fun n=>by
  rw[hM4,hLe];haveI:=hm.sb n;haveI:=aoj
  exact BQ.mono (inferInstance:BQ (aa1 akl ((acl (acb (aal t))).take n)*tw4) _) (by decide)
 have b5: ∀n,BQ (M5 n) 5000000:=fun n=>by
  rw[hM5,hLe];haveI:=hm.sc n;haveI:=aoj
  exact BQ.mono (inferInstance:BQ (aa1 akf ((acl (acb (aal t))).take n)*tw4) _) (by decide)
 have z0:M0 0=0:=by rw[hM0];exact pS _
 have z1:M1 0=0:=by rw[hM1];exact pS _
 have z2:M2 0=0:=by rw[hM2];exact pS _
 have z3:M3 0=0:=by rw[hM3];exact pS _
 have z4:M4 0=0:=by rw[hM4];exact pS _
 have z5:M5 0=0:=by rw[hM5];exact pS _
 have e6:mkRat (1:Nat) 6=((1:Int):Rat)/((6:Int):Rat):=by decide+kernel
 have e12:mkRat (1:Nat) 12=2*tw4:=by decide+kernel
 have e24:mkRat (1:Nat) 24=tw4:=by decide+kernel
 have step: ∀(n:Nat) (p q:PtQ),L[n]? =some (p,q)→M0 (n+1)=M0 n+p.cross q*(mkRat (1:Nat) 2)∧M1 (n+1)=M1 n+p.cross q*(mkRat (1:Nat) 6*(ab8 p q ((1:Int):Rat)).x)∧M2 (n+1)=M2 n+p.cross q*(mkRat (1:Nat) 6*(ab8 p q ((1:Int):Rat)).y)∧M3 (n+1)=M3 n+p.cross q*(mkRat (1:Nat) 12*(p.x*p.x+p.x*q.x+q.x*q.x))∧M4 (n+1)=M4 n+p.cross q*(mkRat (1:Nat) 24*(((2:Int):Rat)*(p.x*p.y+q.x*q.y)+(p.x*q.y+q.x*p.y)))∧M5 (n+1)=M5 n+p.cross q*(mkRat (1:Nat) 12*(p.y*p.y+p.y*q.y+q.y*q.y)):=by
  intro n p q hx
  have h0:=acs (fun x:PtQ×PtQ=>x.1.cross x.2) hx
  have h1:=am3 alq hx
  have h3:=acs akg hx
  have h4:=acs akl hx
  have h5:=acs akf hx
  rw[hM0,hM1,hM2,hM3,hM4,hM5,e6,e12,e24]
  dsimp only
  rw[h0,h1,h3,h4,h5]
  unfold akg akl akf alq PtQ.add PtQ.scale ab8
  dsimp only
  have i1:((1:Int):Rat)=1:=rfl
  have i2:((2:Int):Rat)=2:=rfl
  rw[i1,i2]
  have eh:mkRat (1:Nat) 2=mkRat 1 2:=rfl
  refine⟨by rw[eh];grind,by grind,by grind,by grind,by grind,by grind⟩
 obtain⟨n0,hn0⟩: ∃n0:Nat→Nat,n0=fun k=>((cs.take k).flatMap fun c=>agT (acP c)).length:=⟨_,rfl⟩
 refine fn func27 J J ntmps27 J J (fun C=>?_)
 refine cl (fu:=⟨0⟩) rfl (aGh (t:=t) h.lb h.ok (by omega) (by omega)) rfl<|?_
 refine eqF 18 (.d (.sl (cs.map eSd))) rfl (by rw[aiU h.ok,hcs]) ?_
 refine gx (fu:=⟨1⟩) rfl<|?_
 refine eqF 19 (.d (vI (cs.length:Nat))) rfl (by rw[hml]<;>rfl) ?_
 refine gx rfl<|?_
 refine imD 3 (zq3++zq3++zq3++zq3++zq3++zq3) J J (fun G m h=>by rw[aEx];exact h) rfl ?_
 refine lp (X:=Nat) (fun k=>[(20, .d (vI (k:Nat))),(3, .ov 3 0)]) (fun k=>[(3,some (.o 69 [.d (.v (.bool (decide ((M0 (n0 k)).num<0)))), .d (dN (M0 (n0 k)).num.natAbs), .d (dD (M0 (n0 k)).den), .d (.v (.bool (decide ((M1 (n0 k)).num<0)))), .d (dN (M1 (n0 k)).num.natAbs), .d (dD (M1 (n0 k)).den), .d (.v (.bool (decide ((M2 (n0 k)).num<0)))), .d (dN (M2 (n0 k)).num.natAbs), .d (dD (M2 (n0 k)).den), .d (.v (.bool (decide ((M3 (n0 k)).num<0)))), .d (dN (M3 (n0 k)).num.natAbs), .d (dD (M3 (n0 k)).den), .d (.v (.bool (decide ((M4 (n0 k)).num<0)))), .d (dN (M4 (n0 k)).num.natAbs), .d (dD (M4 (n0 k)).den), .d (.v (.bool (decide ((M5 (n0 k)).num<0)))), .d (dN (M5 (n0 k)).num.natAbs), .d (dD (M5 (n0 k)).den)] true))]) (fun k=>k≤cs.length) (fun k=>cs.length-k) 0 rfl (bX _) (fun _=>rfl) (fun k hk=>?_) (hO:=by
  rw[show n0 0=0 by rw[hn0];rfl,z0,z1,z2,z3,z4,z5]
  repeat (first|exact trivial|refine And.intro rfl ?_))
 refine br J J J (fun hc21=>?_) (fun hc21=>?_)
 ·obtain⟨c,hx⟩: ∃u,cs[k]? =some u:=⟨_,aQ (by omega)⟩
  have hcb:=hlb c (aR hx)
  refine ix _ rfl (aav hx) rfl<|cl rfl (aAN (L:=c) hcb.1 (by omega)) rfl<|?_
  obtain⟨v,hv⟩: ∃v,v=acP c:=⟨_,rfl⟩
  rw[←hv]
  have hvm:(v.map eP).length=v.length:=aK ..
  have hvl:v.length≤1000:=by have:=amQ c;rw[←hv] at this;omega
  refine eqF 27 (.d (vI (v.length:Nat))) rfl (by rw[hvm]<;>rfl) ?_
  refine lp (X:=Nat) (fun i=>[(28, .d (vI (i:Nat))),(3, .ov 3 0)]) (fun i=>[(3,some (.o 69 [.d (.v (.bool (decide ((M0 (n0 k+i)).num<0)))), .d (dN (M0 (n0 k+i)).num.natAbs), .d (dD (M0 (n0 k+i)).den), .d (.v (.bool (decide ((M1 (n0 k+i)).num<0)))), .d (dN (M1 (n0 k+i)).num.natAbs), .d (dD (M1 (n0 k+i)).den), .d (.v (.bool (decide ((M2 (n0 k+i)).num<0)))), .d (dN (M2 (n0 k+i)).num.natAbs), .d (dD (M2 (n0 k+i)).den), .d (.v (.bool (decide ((M3 (n0 k+i)).num<0)))), .d (dN (M3 (n0 k+i)).num.natAbs), .d (dD (M3 (n0 k+i)).den), .d (.v (.bool (decide ((M4 (n0 k+i)).num<0)))), .d (dN (M4 (n0 k+i)).num.natAbs), .d (dD (M4 (n0 k+i)).den), .d (.v (.bool (decide ((M5 (n0 k+i)).num<0)))), .d (dN (M5 (n0 k+i)).num.natAbs), .d (dD (M5 (n0 k+i)).den)] true))]) (fun i=>i≤v.length) (fun i=>v.length-i) 0 rfl (bX _) (fun _=>rfl) (fun i hi=>?_)
  refine br J J J (fun hc29=>?_) (fun hc29=>?_)
  ·obtain⟨p,hpx⟩: ∃u,v[i]? =some u:=⟨_,aQ (by omega)⟩
   obtain⟨q,hqx⟩: ∃u,v[(i+1)%v.length]? =some u:=⟨_,aQ (dZ _ (by omega))⟩
   have hpair:L[n0 k+i]? =some (p,q):=by
    rw[hn0,hL]
    exact amd (fun c=>agT (acP c)) hx (by rw[←hv];exact aq4 v hpx hqx)
   have hpm:(p,q)∈acl (acb (aal t)):=by rw[←hLe];exact aR hpair
   haveI hp1:BPt p 1200:=(hm.ed.pt _ hpm).1
   haveI hq1:BPt q 1200:=(hm.ed.pt _ hpm).2
   haveI:=hp1.x
   haveI:=hp1.y
   haveI:=hq1.x
   haveI:=hq1.y
   haveI hcr:BQ (p.cross q) 5000:=hm.cr _ hpm
   obtain⟨s0,s1,s2,s3,s4,s5⟩:=step _ p q hpair
   refine ix _ rfl (aav hpx) rfl<|?_
   refine eqF 38 (.d (vI (((i+1)%v.length:Nat):Int))) rfl (by rw[hvm]<;>rfl) ?_
   refine gx rfl<|ix _ rfl (aav hqx) rfl<|cl rfl (ahG (p:=p) (q:=q) (i:=1200) (j:=1200)) rfl<|?_
   haveI bq1:BQ ((1:Int):Rat) 2:=⟨by decide,by decide⟩
   haveI bq2:BQ ((2:Int):Rat) 3:=⟨by decide,by decide⟩
   haveI bh:BQ (mkRat (1:Nat) 2) 6:=⟨by decide+kernel,by decide+kernel⟩
   haveI b6:BQ (mkRat (1:Nat) 6) 6:=⟨by decide+kernel,by decide+kernel⟩
   haveI b12:BQ (mkRat (1:Nat) 12) 6:=⟨by decide+kernel,by decide+kernel⟩
   haveI b24:BQ (mkRat (1:Nat) 24) 6:=⟨by decide+kernel,by decide+kernel⟩
   haveI sx:BQ (ab8 p q ((1:Int):Rat)).x 3000:=(BQ.mono (inferInstance:BQ (p.x+((1:Int):Rat)*q.x) _) (by decide):BQ (p.x+((1:Int):Rat)*q.x) 3000)
   haveI sy:BQ (ab8 p q ((1:Int):Rat)).y 3000:=(BQ.mono (inferInstance:BQ (p.y+((1:Int):Rat)*q.y) _) (by decide):BQ (p.y+((1:Int):Rat)*q.y) 3000)
   refine cl rfl (aml (n:=1) (by decide) (by decide)) rfl<|cl rfl (akt (p:=p) (q:=q) (c:=((1:Int):Rat)) (i:=1200) (j:=1200) (k:=2)) rfl<|?_
   refine cl rfl (aaz (a:=p.x) (b:=p.x) (i:=1200) (j:=1200)) rfl<|cl rfl (aaz (a:=p.x) (b:=q.x) (i:=1200) (j:=1200)) rfl<|cl rfl (abM (a:=p.x*p.x) (b:=p.x*q.x)) rfl<|cl rfl (aaz (a:=q.x) (b:=q.x) (i:=1200) (j:=1200)) rfl<|cl rfl (abM (a:=p.x*p.x+p.x*q.x) (b:=q.x*q.x)) rfl<|?_
   refine cl rfl (aaz (a:=p.y) (b:=p.y) (i:=1200) (j:=1200)) rfl<|cl rfl (aaz (a:=p.y) (b:=q.y) (i:=1200) (j:=1200)) rfl<|cl rfl (abM (a:=p.y*p.y) (b:=p.y*q.y)) rfl<|cl rfl (aaz (a:=q.y) (b:=q.y) (i:=1200) (j:=1200)) rfl<|cl rfl (abM (a:=p.y*p.y+p.y*q.y) (b:=q.y*q.y)) rfl<|?_
   refine cl rfl (aml (n:=2) (by decide) (by decide)) rfl<|cl rfl (aaz (a:=p.x) (b:=p.y) (i:=1200) (j:=1200)) rfl<|cl rfl (aaz (a:=q.x) (b:=q.y) (i:=1200) (j:=1200)) rfl<|cl rfl (abM (a:=p.x*p.y) (b:=q.x*q.y)) rfl<|cl rfl (aaz (a:=((2:Int):Rat)) (b:=p.x*p.y+q.x*q.y) (i:=3)) rfl<|cl rfl (aaz (a:=p.x) (b:=q.y) (i:=1200) (j:=1200)) rfl<|cl rfl (aaz (a:=q.x) (b:=p.y) (i:=1200) (j:=1200)) rfl<|cl rfl (abM (a:=p.x*q.y) (b:=q.x*p.y)) rfl<|cl rfl (abM (a:=((2:Int):Rat)*(p.x*p.y+q.x*q.y)) (b:=p.x*q.y+q.x*p.y)) rfl<|?_
   refine cl rfl (af6 (n:=1) (d:=2) (by decide) (by decide) (by decide)) rfl<|cl rfl (af6 (n:=1) (d:=6) (by decide) (by decide) (by decide)) rfl<|cl rfl (aaz (a:=mkRat (1:Nat) 6) (b:=(ab8 p q ((1:Int):Rat)).x) (i:=6) (j:=3000)) rfl<|cl rfl (af6 (n:=1) (d:=6) (by decide) (by decide) (by decide)) rfl<|cl rfl (aaz (a:=mkRat (1:Nat) 6) (b:=(ab8 p q ((1:Int):Rat)).y) (i:=6) (j:=3000)) rfl<|cl rfl (af6 (n:=1) (d:=12) (by decide) (by decide) (by decide)) rfl<|cl rfl (aaz (a:=mkRat (1:Nat) 12) (b:=p.x*p.x+p.x*q.x+q.x*q.x) (i:=6)) rfl<|cl rfl (af6 (n:=1) (d:=24) (by decide) (by decide) (by decide)) rfl<|cl rfl (aaz (a:=mkRat (1:Nat) 24) (b:=((2:Int):Rat)*(p.x*p.y+q.x*q.y)+(p.x*q.y+q.x*p.y)) (i:=6)) rfl<|cl rfl (af6 (n:=1) (d:=12) (by decide) (by decide) (by decide)) rfl<|cl rfl (aaz (a:=mkRat (1:Nat) 12) (b:=p.y*p.y+p.y*q.y+q.y*q.y) (i:=6)) rfl<|?_
   refine rf J J<|?_
   refine eqF 126 (.d (vI 6)) J J ?_
   refine lp (X:=Nat) (fun j=>[(127, .d (vI (j:Nat))),(3, .ov 3 0)]) (fun j=>[(3,some (.o 69 [.d (.v (.bool (decide ((if 0<j then M0 (n0 k+i)+p.cross q*(mkRat (1:Nat) 2) else M0 (n0 k+i)).num<0)))), .d (dN (if 0<j then M0 (n0 k+i)+p.cross q*(mkRat (1:Nat) 2) else M0 (n0 k+i)).num.natAbs), .d (dD (if 0<j then M0 (n0 k+i)+p.cross q*(mkRat (1:Nat) 2) else M0 (n0 k+i)).den), .d (.v (.bool (decide ((if 1<j then M1 (n0 k+i)+p.cross q*(mkRat (1:Nat) 6*(ab8 p q ((1:Int):Rat)).x) else M1 (n0 k+i)).num<0)))), .d (dN (if 1<j then M1 (n0 k+i)+p.cross q*(mkRat (1:Nat) 6*(ab8 p q ((1:Int):Rat)).x) else M1 (n0 k+i)).num.natAbs), .d (dD (if 1<j then M1 (n0 k+i)+p.cross q*(mkRat (1:Nat) 6*(ab8 p q ((1:Int):Rat)).x) else M1 (n0 k+i)).den), .d (.v (.bool (decide ((if 2<j then M2 (n0 k+i)+p.cross q*(mkRat (1:Nat) 6*(ab8 p q ((1:Int):Rat)).y) else M2 (n0 k+i)).num<0)))), .d (dN (if 2<j then M2 (n0 k+i)+p.cross q*(mkRat (1:Nat) 6*(ab8 p q ((1:Int):Rat)).y) else M2 (n0 k+i)).num.natAbs), .d (dD (if 2<j then M2 (n0 k+i)+p.cross q*(mkRat (1:Nat) 6*(ab8 p q ((1:Int):Rat)).y) else M2 (n0 k+i)).den), .d (.v (.bool (decide ((if 3<j then M3 (n0 k+i)+p.cross q*(mkRat (1:Nat) 12*(p.x*p.x+p.x*q.x+q.x*q.x)) else M3 (n0 k+i)).num<0)))), .d (dN (if 3<j then M3 (n0 k+i)+p.cross q*(mkRat (1:Nat) 12*(p.x*p.x+p.x*q.x+q.x*q.x)) else M3 (n0 k+i)).num.natAbs), .d (dD (if 3<j then M3 (n0 k+i)+p.cross q*(mkRat (1:Nat) 12*(p.x*p.x+p.x*q.x+q.x*q.x)) else M3 (n0 k+i)).den), .d (.v (.bool (decide ((if 4<j then M4 (n0 k+i)+p.cross q*(mkRat (1:Nat) 24*(((2:Int):Rat)*(p.x*p.y+q.x*q.y)+(p.x*q.y+q.x*p.y))) else M4 (n0 k+i)).num<0)))), .d (dN (if 4<j then M4 (n0 k+i)+p.cross q*(mkRat (1:Nat) 24*(((2:Int):Rat)*(p.x*p.y+q.x*q.y)+(p.x*q.y+q.x*p.y))) else M4 (n0 k+i)).num.natAbs), .d (dD (if 4<j then M4 (n0 k+i)+p.cross q*(mkRat (1:Nat) 24*(((2:Int):Rat)*(p.x*p.y+q.x*q.y)+(p.x*q.y+q.x*p.y))) else M4 (n0 k+i)).den), .d (.v (.bool (decide ((if 5<j then M5 (n0 k+i)+p.cross q*(mkRat (1:Nat) 12*(p.y*p.y+p.y*q.y+q.y*q.y)) else M5 (n0 k+i)).num<0)))), .d (dN (if 5<j then M5 (n0 k+i)+p.cross q*(mkRat (1:Nat) 12*(p.y*p.y+p.y*q.y+q.y*q.y)) else M5 (n0 k+i)).num.natAbs), .d (dD (if 5<j then M5 (n0 k+i)+p.cross q*(mkRat (1:Nat) 12*(p.y*p.y+p.y*q.y+q.y*q.y)) else M5 (n0 k+i)).den)] true))]) (fun j=>j≤6) (fun j=>6-j) 0 rfl (by omega) (fun _=>rfl) (fun j hj=>?_)
   refine br J J J (fun hc128=>?_) (fun hc128=>?_)
   ·obtain rfl|rfl|rfl|rfl|rfl|rfl:j=0∨j=1∨j=2∨j=3∨j=4∨j=5:=by omega
    ·haveI:=b0 (n0 k+i)
     refine ix _ J J J<|ixa 0 (e:=52) (len:=6) (s:=3) rfl (by kernel_rfl) (by kernel_rfl) (by decide) rfl<|?_
     refine cl rfl (aaz (a:=p.cross q) (b:=mkRat (1:Nat) 2) (i:=5000)) rfl<|cl rfl (abM (a:=M0 (n0 k+i)) (b:=p.cross q*(mkRat (1:Nat) 2)) (i:=5000000)) rfl<|?_
     refine ixa (hv:=by simp only[aah];exact⟨by kernel_rfl,by omega⟩) 0 (e:=52) (len:=6) (s:=3) rfl (by kernel_rfl) (by kernel_rfl) (by decide) rfl<|?_
     exact at_ 1 ⟨by omega,by omega⟩
    ·haveI:=b1 (n0 k+i)
     refine ix _ J J J<|ixa 1 (e:=52) (len:=6) (s:=3) rfl (by kernel_rfl) (by kernel_rfl) (by decide) rfl<|?_
     refine cl rfl (aaz (a:=p.cross q) (b:=mkRat (1:Nat) 6*(ab8 p q ((1:Int):Rat)).x) (i:=5000)) rfl<|cl rfl (abM (a:=M1 (n0 k+i)) (b:=p.cross q*(mkRat (1:Nat) 6*(ab8 p q ((1:Int):Rat)).x)) (i:=5000000)) rfl<|?_
     refine ixa (hv:=by simp only[aah];exact⟨by kernel_rfl,by omega⟩) 1 (e:=52) (len:=6) (s:=3) rfl (by kernel_rfl) (by kernel_rfl) (by decide) rfl<|?_
     exact at_ 2 ⟨by omega,by omega⟩
    ·haveI:=b2 (n0 k+i)
     refine ix _ J J J<|ixa 2 (e:=52) (len:=6) (s:=3) rfl (by kernel_rfl) (by kernel_rfl) (by decide) rfl<|?_
     refine cl rfl (aaz (a:=p.cross q) (b:=mkRat (1:Nat) 6*(ab8 p q ((1:Int):Rat)).y) (i:=5000)) rfl<|cl rfl (abM (a:=M2 (n0 k+i)) (b:=p.cross q*(mkRat (1:Nat) 6*(ab8 p q ((1:Int):Rat)).y)) (i:=5000000)) rfl<|?_
     refine ixa (hv:=by simp only[aah];exact⟨by kernel_rfl,by omega⟩) 2 (e:=52) (len:=6) (s:=3) rfl (by kernel_rfl) (by kernel_rfl) (by decide) rfl<|?_
     exact at_ 3 ⟨by omega,by omega⟩
    ·haveI:=b3 (n0 k+i)
     refine ix _ J J J<|ixa 3 (e:=52) (len:=6) (s:=3) rfl (by kernel_rfl) (by kernel_rfl) (by decide) rfl<|?_
     refine cl rfl (aaz (a:=p.cross q) (b:=mkRat (1:Nat) 12*(p.x*p.x+p.x*q.x+q.x*q.x)) (i:=5000)) rfl<|cl rfl (abM (a:=M3 (n0 k+i)) (b:=p.cross q*(mkRat (1:Nat) 12*(p.x*p.x+p.x*q.x+q.x*q.x))) (i:=5000000)) rfl<|?_
     refine ixa (hv:=by simp only[aah];exact⟨by kernel_rfl,by omega⟩) 3 (e:=52) (len:=6) (s:=3) rfl (by kernel_rfl) (by kernel_rfl) (by decide) rfl<|?_
     exact at_ 4 ⟨by omega,by omega⟩
    ·haveI:=b4 (n0 k+i)
     refine ix _ J J J<|ixa 4 (e:=52) (len:=6) (s:=3) rfl (by kernel_rfl) (by kernel_rfl) (by decide) rfl<|?_
     refine cl rfl (aaz (a:=p.cross q) (b:=mkRat (1:Nat) 24*(((2:Int):Rat)*(p.x*p.y+q.x*q.y)+(p.x*q.y+q.x*p.y))) (i:=5000)) rfl<|cl rfl (abM (a:=M4 (n0 k+i)) (b:=p.cross q*(mkRat (1:Nat) 24*(((2:Int):Rat)*(p.x*p.y+q.x*q.y)+(p.x*q.y+q.x*p.y)))) (i:=5000000)) rfl<|?_
     refine ixa (hv:=by simp only[aah];exact⟨by kernel_rfl,by omega⟩) 4 (e:=52) (len:=6) (s:=3) rfl (by kernel_rfl) (by kernel_rfl) (by decide) rfl<|?_
     exact at_ 5 ⟨by omega,by omega⟩
    ·haveI:=b5 (n0 k+i)
     refine ix _ J J J<|ixa 5 (e:=52) (len:=6) (s:=3) rfl (by kernel_rfl) (by kernel_rfl) (by decide) rfl<|?_
     refine cl rfl (aaz (a:=p.cross q) (b:=mkRat (1:Nat) 12*(p.y*p.y+p.y*q.y+q.y*q.y)) (i:=5000)) rfl<|cl rfl (abM (a:=M5 (n0 k+i)) (b:=p.cross q*(mkRat (1:Nat) 12*(p.y*p.y+p.y*q.y+q.y*q.y))) (i:=5000000)) rfl<|?_
     refine ixa (hv:=by simp only[aah];exact⟨by kernel_rfl,by omega⟩) 5 (e:=52) (len:=6) (s:=3) rfl (by kernel_rfl) (by kernel_rfl) (by decide) rfl<|?_
     exact at_ 6 ⟨by omega,by omega⟩
   ·obtain rfl:j=6:=by omega
    refine at_ (i+1) ⟨by omega,by omega⟩ (hO:=by
     rw[show n0 k+(i+1)=n0 k+i+1 by omega,s0,s1,s2,s3,s4,s5]
     repeat (first|exact trivial|refine And.intro rfl ?_))
  ·have hi2:i=v.length:=by omega
   have e:n0 (k+1)=n0 k+i:=by
    rw[hn0]
    show _=_+i
    rw[hi2]
    have:=aoe (fun c=>agT (acP c)) hx
    rw[←hv,amj] at this
    exact this
   exact at_ (k+1) ⟨by omega,by omega⟩ (hO:=by
    rw[e]
    repeat (first|exact trivial|refine And.intro rfl ?_))
 ·have eN:n0 k=L.length:=by
   rw[hn0,hL]
   show((List.take k cs).flatMap _).length=_
   rw[aT (by omega)];rfl
  have t0:M0 (n0 k)=aci t:=by rw[eN,hM0,hLe];show aa1 _ (List.take _ _)*_=_;rw[cW];rfl
  have t1:M1 (n0 k)=(ail t).x:=by rw[eN,hM1,hLe];show(akC _ (List.take _ _)).x*_=_;rw[cW];rfl
  have t2:M2 (n0 k)=(ail t).y:=by rw[eN,hM2,hLe];show(akC _ (List.take _ _)).y*_=_;rw[cW];rfl
  have t3:M3 (n0 k)=aij akg t:=by rw[eN,hM3,hLe];show aa1 _ (List.take _ _)*_=_;rw[cW];rfl
  have t4:M4 (n0 k)=aij akl t:=by rw[eN,hM4,hLe];show aa1 _ (List.take _ _)*_=_;rw[cW];rfl
  have t5:M5 (n0 k)=aij akf t:=by rw[eN,hM5,hLe];show aa1 _ (List.take _ _)*_=_;rw[cW];rfl
  rw[t0,t1,t2,t3,t4,t5]
  refine ldA 18 (len:=6) (e:=52) rfl (by kernel_rfl) (by kernel_rfl) rfl<|?_
  refine sta J J J ⟨rfl,rfl,rfl⟩ rfl<|?_
  exact aHY (len:=6) (el:=52) J J J J J (by kernel_rfl) (by kernel_rfl)
theorem aGp{j:Nat}(h:j<4):([vI 1,vI 2,vI 3,vI 4]:List DV)[((j:Nat):Int).toNat]? =some (vI (1+(j:Int))):=by
 have:j=0∨j=1∨j=2∨j=3:=by omega
 rcases this with rfl|rfl|rfl|rfl<;>rfl
theorem aoX{b:Nat}{es:List Int}(hes:es.length≤400){a:Nat}(ha:a≤es.length){n:Int}(hn:n=0):PM GB prog 26 (mkP [none,some (.v (.int .i64 n))] b) b 104 [.sl (es.map vI), .v (.int .i64 (a:Nat))] (eT (ae3 es 0 a).1) [.sl (es.map vI), .v (.int .i64 ((ae3 es 0 a).2:Nat))]:=by
 refine fnM (fu:=⟨9⟩) func26 J J ntmps26 J J (fun C b m lo hmb=>?_)
 refine knF rfl (by show some (decide _)=some false;rw[decide_eq_false (by omega)]) rfl<|cm rfl (fun b=>(aop hes ha)) rfl<|?_
 exact rzM hmb J J J J
theorem ape{b:Nat}{es:List Int}(hes:es.length≤400){a:Nat}(ha:a≤es.length){d:Nat}{n:Int}(hn:n=((d+1:Nat):Int))(hd:d≤1)(ih: ∀{GB:Gh} {b a:Nat} {n:Int},a≤es.length→n=(d:Int)→PM GB prog 26 (mkP [none,some (.v (.int .i64 n))] b) b 104 [.sl (es.map vI), .v (.int .i64 (a:Nat))] (eT (ae3 es d a).1) [.sl (es.map vI), .v (.int .i64 ((ae3 es d a).2:Nat))]):PM GB prog 26 (mkP [none,some (.v (.int .i64 n))] b) b 104 [.sl (es.map vI), .v (.int .i64 (a:Nat))] (eT (ae3 es (d+1) a).1) [.sl (es.map vI), .v (.int .i64 ((ae3 es (d+1) a).2:Nat))]:=by
 have hk0:=aaU (n:=3) ha
 obtain⟨g1,_,_,g2⟩:=ai1 (d:=d) hk0
 have hj:=aaU (n:=4) g2
 have hjl:=abz (es:=es) (n:=4) (a:=(ae3 es d (aae es 3 a).2).2) (by decide)
 obtain⟨g3,_,_,g4⟩:=ai1 (d:=d) hj
 have hpw:12*2^d≤12*2^1:=dR _ (bV (by decide) hd)
 refine fnM (fu:=⟨9⟩) func26 J J ntmps26 J J (fun C b m lo hmb=>?_)
 refine knT rfl (by show some (decide _)=some true;rw[decide_eq_true (by omega)]) rfl<|cm rfl (fun b=>(adq (n:=3) hes ha (by decide) (by decide))) rfl<|?_
 refine br J J J (fun hc12=>?_) (fun hc12=>?_)
 ·
  refine cm rfl (fun b=>(ih hk0 (by omega))) rfl<|rf J J<|cm rfl (fun b=>(adq (n:=4) hes g2 (by decide) (by decide))) rfl<|ix (vI (1+((aae es 4 (ae3 es d (aae es 3 a).2).2).1:Int))) rfl (aGp (by omega)) rfl<|?_
  refine cm rfl (fun b=>(ih hj (by omega))) rfl<|cl rfl (alE (op:=1+((aae es 4 (ae3 es d (aae es 3 a).2).2).1:Int)) (t:=(ae3 es d (aae es 3 a).2).1) (u:=(ae3 es d (aae es 4 (ae3 es d (aae es 3 a).2).2).2).1) (c:=[]) g3.gd.lb g3.gd.ok g1.gd.lb g1.gd.ok (fun m h=>by cases h) (fun m h=>by cases h) (by have:=g1.dp;have:=g3.dp;rw[fN];omega)) rfl<|?_
  exact rzM hmb J J (by rw[show ae3 es (d+1) a=_ from if_pos hc12];show eT (Tr.mergeL _ _ _ _)=eT (Tr.mergeQ _ _ _ _);rw[Tr.mergeL_nil (by omega) g1.gd.ok g3.gd.ok]) (by rw[show ae3 es (d+1) a=_ from if_pos hc12])
 ·
  refine cm rfl (fun b=>(aop hes hk0)) rfl<|?_
  exact rzM hmb J J (by rw[show ae3 es (d+1) a=_ from if_neg hc12];rfl) (by rw[show ae3 es (d+1) a=_ from if_neg hc12])
theorem avA{es:List Int}(hes:es.length≤400): ∀{d:Nat} {GB:Gh} {b a:Nat} {n:Int},d≤2→a≤es.length→n=(d:Int)→PM GB prog 26 (mkP [none,some (.v (.int .i64 n))] b) b 104 [.sl (es.map vI), .v (.int .i64 (a:Nat))] (eT (ae3 es d a).1) [.sl (es.map vI), .v (.int .i64 ((ae3 es d a).2:Nat))]
 |0,_,_,_,_,_,ha,hn=>aoX hes ha hn
 |d+1,_,_,_,_,hd,ha,hn=>ape hes ha hn (by omega) (fun h1 h2=>avA hes (by omega) h1 h2)
theorem aBD{es:List Int}(hes:es.length≤400){a d b:Nat}(ha:a≤es.length)(hd:d≤2):PM GB prog 26 (mkP [none,some (.v (.int .i64 (d:Nat)))] b) b 104 [.sl (es.map vI), .v (.int .i64 (a:Nat))] (eT (ae3 es d a).1) [.sl (es.map vI), .v (.int .i64 ((ae3 es d a).2:Nat))]:=avA (GB:=GB) hes hd ha rfl
theorem clT{C:Ctx}{n:Nat}{Q0:Exit→Act→World→Prop}{fr fr':FrX}{own own':OwX}{cf cf':Cf}{vc:List Prop}[fu:Fu]{f:FuncId}{ds:List DV}(ha:aCk fr cf=some (f,ds))(hF:PF GB prog f ds (.v (.bool true)))(hgo:goA tt n fu.n fr own cf .tt [] []=⟨vc,fr',own',cf'⟩)(k:CfS prog GB C n Q0 fr' own' cf')
  (hv:aah vc:=by first|exact trivial|(simp only[aah];kernel_rfl)|(simp only[aah];omega)):CfS prog GB C n Q0 fr own cf:=by
 unfold aCk at ha
 split at ha<;>try (cases ha;done)
 rename_i hh
 exact us hh (OpR.to (g:= .tt) (aoW ha hF) fun ρ G y hy=>(aaY (G:=G)).1 hy) hgo hv k
theorem alU{p:Rat}{i:Nat}[hp:BQ p i](hi:i≤100000000:=by decide):PF GB prog 78 [eR p,eR p] (.v (.bool true)):=by
 have:=aCf (GB:=GB) (p:=p) (q:=p) (i:=i) (j:=i) hi
 rwa [decide_eq_true rfl] at this
def sqA:List ZP:=[(0,0),(2,0),(2,2),(0,2)]
theorem aDZ:aaS sqA:=⟨by decide,by decide,fun p hp=>by
 unfold sqA at hp
 simp only[aU,jL,or_false] at hp
 rcases hp with rfl|rfl|rfl|rfl<;>exact⟨by decide,by decide⟩,by decide⟩
theorem amv: ∀r∈[sqA],aaS r:=fun r hr=>by rw[aV] at hr;subst hr;exact aDZ
def sqT:Tr:=aeX [sqA] 2
theorem ayE:TrX 12 sqT:=(ajm amv (by decide)).x (anl _ _) (by decide)
theorem ayY:(aal sqT).all afE=true:=anh ayE.ok (ajV amv)
theorem auH:aa1 (fun x=>x.1.cross x.2) (acl (aok (aa5 sqT [])))=8∧aa1 akg (acl (aok (aa5 sqT [])))=128∧aa1 akf (acl (aok (aa5 sqT [])))=128:=by decide+kernel
theorem azu:aci sqT=((4:Int):Rat):=by
 unfold aci
 rw[←aiU ayE.ok,auH.1];decide+kernel
theorem azw:aij akg sqT=mkRat (16:Nat) 3:=by
 unfold aij
 rw[←aiU ayE.ok,auH.2.1];decide+kernel
theorem aAP:aij akf sqT=mkRat (16:Nat) 3:=by
 unfold aij
 rw[←aiU ayE.ok,auH.2.2];decide+kernel
theorem anO.sec{t:Tr}(h:anO (aal t)):BQ (aij akg t) 4000007∧BQ (aij akl t) 4000007∧BQ (aij akf t) 4000007:=by
 have k: ∀f,(∀k,BQ (aa1 f ((acl (acb (aal t))).take k)) 4000000)→BQ (aij f t) 4000007:=fun f hf=>by
  have h1:=hf (acl (acb (aal t))).length
  rw[cW] at h1
  haveI:=h1
  haveI:=aoj
  exact BQ.mono (inferInstance:BQ (aa1 f (acl (acb (aal t)))*tw4) _) (by decide)
 exact⟨k _ h.sa,k _ h.sb,k _ h.sc⟩
theorem abX{q:Rat}{i:Nat}[h:BQ q i](hi:i≤20000000:=by decide):PF GB prog 32 [eR q,eQ q] (.v (.bool true)):=by
 refine fn func32 J J ntmps32 J J (fun C=>?_)
 refine cl rfl (ap0 (q:=q) (i:=i) (by omega)) rfl<|cl rfl (alU (p:=q) (i:=i) (by omega)) rfl<|?_
 exact rz J J
theorem ano:PF GB prog 34 [] (.v (.bool true)):=by
 have hm:=aA6 ayE (by decide)
 haveI bA:BQ (aci sqT) 2000003:=hm.area
 haveI b4:BQ ((4:Int):Rat) 4:=⟨by decide,by decide⟩
 haveI b16:BQ (mkRat (16:Nat) 3) 6:=⟨by decide+kernel,by decide+kernel⟩
 refine fn func34 J J ntmps34 J J (fun C=>?_)
 refine cl rfl (aoA (by omega) (by omega)) rfl<|cl rfl (aoA (by omega) (by omega)) rfl<|cl rfl (aoA (by omega) (by omega)) rfl<|cl rfl (aoA (by omega) (by omega)) rfl<|?_
 refine rf J J<|cl rfl (ayr (ps:=[iP 0 0,iP 2 0,iP 2 2,iP 0 2]) (fun p hp=>by
  simp only[aU,jL,or_false] at hp
  rcases hp with rfl|rfl|rfl|rfl<;>exact⟨BQ.int1200 (by decide),BQ.int1200 (by decide)⟩) (by decide)) rfl<|?_
 refine rf J J<|cl rfl (avB (rs:=[sqA]) (fill:=2) amv (by decide)) rfl<|cl rfl (at9 (rs:=[sqA]) (fill:=2) amv (by decide)) rfl<|?_
 refine cl rfl (aqf (t:=sqT) ayE) rfl<|cl (fu:=⟨0⟩) rfl (ave ayE (by decide) ayY hm) rfl<|?_
 refine eqF 20 (.d (.tp [eR ((4:Int):Rat), .v .nilIface])) rfl (by rw[azu]) ?_
 refine gx rfl<|cl (fu:=⟨0⟩) rfl (asN ayE (by decide) ayY hm) rfl<|?_
 refine eqF 25 (.d (.tp [eR (mkRat (16:Nat) 3),eR (aij akl sqT),eR (mkRat (16:Nat) 3), .v .nilIface])) rfl (by rw[azw,aAP]) ?_
 refine gx rfl<|cl rfl (aF2 (q:=((4:Int):Rat)) (i:=4)) rfl<|cl rfl (aml (n:=4) (by decide) (by decide)) rfl<|cl (fu:=⟨0⟩) rfl (q_C (a:=((4:Int):Rat)) (b:=((4:Int):Rat)) (i:=4) (j:=4)) rfl<|?_
 refine knT rfl (by show some (decide _)=some true;rw[decide_eq_true];decide+kernel) rfl<|cl rfl (af6 (n:=16) (d:=3) (by decide) (by decide) (by decide)) rfl<|?_
 refine cl rfl (ap0 (q:=mkRat (16:Nat) 3) (i:=6)) rfl<|clT rfl (alU (p:=mkRat (16:Nat) 3) (i:=6)) rfl<|clT rfl (alU (p:=mkRat (16:Nat) 3) (i:=6)) rfl<|?_
 exact rz J J
end Go.Sx
end
