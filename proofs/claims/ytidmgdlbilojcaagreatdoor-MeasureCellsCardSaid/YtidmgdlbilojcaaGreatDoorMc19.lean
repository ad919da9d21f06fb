import Derived.Test.YtidmgdlbilojcaaGreatDoorMc18
import Derived.Test.YtidmgdlbilojcaaGreatDoorCards
import Derived.Test.YtidmgdlbilojcaaGreatDoorTie
import Derived.WalkKit
import Derived.ProofKit
import Derived.OpenShut
import Derived.Deep.DeepHandedRow
import Derived.Deep.DeepWitnessRowRef
import Derived.LaidMore
import Derived.Lib.LaidTab
import Derived.SizedLaws
import Derived.Stop.LaidErr
import Derived.MakeChecks
set_option linter.unusedSimpArgs false
set_option maxHeartbeats 8000000
set_option maxRecDepth 100000
set_option linter.unusedVariables false
section
namespace Go.Sx
open Go Go.Proofs Tryz
variable {GB:Gh}
def ayC(t:Tr):Prop:= ∃(L:List LnQ) (R:Rat),(∀l∈L,l.ok)∧ ∀p,Off L p→ayv R p→t.val p=false
theorem ayv.mono{R S:Rat}{p:PtQ}(h:ayv S p)(hr:R≤S):ayv R p:=by
 unfold ayv at*
 rcases h with h|h|h|h
 ·left;grind
 ·right;left;grind
 ·right;right;left;grind
 ·right;right;right;grind
theorem axT(fill:Int):avZ fill 0=false:=by
 unfold avZ
 simp
theorem aCc{rs:List (List ZP)}{fill:Int}(hr: ∀r∈rs,aaQ r){p:PtQ}(hp:ayv 100 p):inR rs fill p=false:=by
 have key: ∀(rs:List (List ZP)),(∀r∈rs,aaQ r)→rs.foldl (fun n r=>n+anr r p) (0:Int)=0:=by
  intro rs
  induction rs with
  |nil=>intro _;rfl
  |cons r t ih=>
   intro hr
   have e:anr r p=0:=by
    unfold anr
    rw[amd]
    refine aCl (R:=100) (fun v hv=>?_) hp
    obtain⟨h1,h2⟩:=(hr r aZ).le v hv
    have c: ∀z:Int,z.natAbs≤100→ -(100:Rat)≤(z:Rat)∧(z:Rat)≤100:=fun z hz=>by
     have a:((-100:Int):Rat)≤(z:Rat):=Rat.intCast_le_intCast.2 (by omega)
     have b:(z:Rat)≤((100:Int):Rat):=Rat.intCast_le_intCast.2 (by omega)
     exact⟨a,b⟩
    exact⟨(c _ h1).1,(c _ h1).2,(c _ h2).1,(c _ h2).2⟩
   rw[jT,e]
   exact ih fun r h=>hr r (aJ _ h)
 unfold inR
 rw[key rs hr,axT]
theorem aAK{rs:List (List ZP)}{fill:Int}(hr: ∀r∈rs,aaQ r):(aBQ rs fill).all LnQ.ok:=aeB fun f hf=>((acM hr).2 f hf).ok
theorem aj6{rs:List (List ZP)}{fill:Int}(hr: ∀r∈rs,aaQ r):ayC (ae0 rs fill):=
 ⟨(aBQ rs fill).lns,100,aul (aAK hr),fun p ho hp=>by rw[atS hr ho,aCc hr hp]⟩
theorem au5(op:Int):opB op false false=false:=by
 unfold opB
 split
 ·rfl
 ·split
  ·rfl
  ·split<;>rfl
theorem ayC.merge{a b:Tr}(ha:ayC a)(hb:ayC b)(oa:a.all LnQ.ok)(ob:b.all LnQ.ok)(op:Int):ayC (a.mergeQ op b []):=by
 obtain⟨L,R,h1,h2⟩:=ha
 obtain⟨M,S,k1,k2⟩:=hb
 refine⟨(L++M)++(a.lns++b.lns),if R≤S then S else R,fun l hl=>?_,fun p ho hp=>?_⟩
 ·rcases bY.1 hl with h|h
  ·exact(bY.1 h).elim (h1 l) (k1 l)
  ·exact(bY.1 h).elim (aul oa l) (aul ob l)
 ·obtain⟨o1,o2⟩:=Off.app.1 ho
  obtain⟨oL,oM⟩:=Off.app.1 o1
  obtain⟨oA,oB⟩:=Off.app.1 o2
  rw[Tr.val_merge op b ob a [] p oa aaJ.nil (fun s hs=>by cases hs) oA oB,h2 p oL (hp.mono (by split<;>grind)),k2 p oM (hp.mono (by split<;>grind)),au5]
theorem azK{A:Rat}(hA:A≠0)(B:Rat): ∃N:Rat,0≤N∧ ∀n,N≤n→A+n*B≠0:=by
 by_cases hB:B=0
 ·exact⟨0,by decide,fun n _=>by rw[hB];grind⟩
 ·have e:A/B*B=A:=by grind
  generalize A/B=q at*
  refine⟨if 0≤ -q then-q+1 else 0,by split<;>grind,fun n hn h=>?_⟩
  have h2:B*(q+n)=0:=by grind
  rcases iW.1 h2 with k|k
  ·exact hB k
  ·split at hn<;>grind
theorem aBu{L:List LnQ}{p d:PtQ}(h:Off L p): ∃N:Rat,0≤N∧ ∀n,N≤n→Off L (adk p d n):=by
 induction L with
 |nil=>exact⟨0,by decide,fun n _ l hl=>by cases hl⟩
 |cons l L ih=>
  obtain⟨N,n0,hN⟩:=ih (h.sub fun m hm=>aJ _ hm)
  obtain⟨M,m0,hM⟩:=azK (h l aZ) (l.nor.dot d)
  refine⟨N+M,by grind,fun n hn m hm=>?_⟩
  rcases aT.1 hm with rfl|hm
  ·rw[abK];exact hM n (by grind)
  ·exact hN n (by grind) m hm
theorem alo{a:Rat}(ha:0<a)(x R:Rat): ∃N:Rat,0≤N∧ ∀n,N≤n→R<x+n*a:=by
 have e:(R-x)/a*a=R-x:=by grind
 generalize (R-x)/a=q at*
 refine⟨if 0≤q then q+1 else 0,by split<;>grind,fun n hn=>?_⟩
 have h2:=aan (show 0<n-q by split at hn<;>grind) ha
 grind
theorem aBW{p d:PtQ}(hd:d≠⟨0,0⟩)(R:Rat): ∃N:Rat,0≤N∧ ∀n,N≤n→ayv R (adk p d n):=by
 obtain⟨x,y⟩:=d
 rcases acX x with h|h|h
 ·rcases acX y with k|k|k
  ·exact absurd (by rw[h,k]) hd
  ·obtain⟨N,n0,hN⟩:=alo k p.y R
   exact⟨N,n0,fun n hn=> .inr (.inr (.inr (hN n hn)))⟩
  ·obtain⟨N,n0,hN⟩:=alo (a:= -y) (by grind) (-p.y) R
   exact⟨N,n0,fun n hn=> .inr (.inr (.inl (by have:=hN n hn;show p.y+n*y< -R;grind)))⟩
 ·obtain⟨N,n0,hN⟩:=alo h p.x R
  exact⟨N,n0,fun n hn=> .inr (.inl (hN n hn))⟩
 ·obtain⟨N,n0,hN⟩:=alo (a:= -x) (by grind) (-p.x) R
  exact⟨N,n0,fun n hn=> .inl (by have:=hN n hn;show p.x+n*x< -R;grind)⟩
theorem av8{c:aae}(hc:aaJ c)(h:ae7 c=false): ∃d:PtQ,d≠⟨0,0⟩∧ ∀u∈c,0≤u.l.nor.dot d:=by
 unfold ae7 at h
 cases c with
 |nil=>exact⟨⟨1,0⟩,by simp,fun u hu=>by cases hu⟩
 |cons s0 c0=>
  have h':((s0::c0).all fun s=>!s.v.nl&&!s.v.nh)=false:=by simpa using h
  rw[List.all_eq_false] at h'
  obtain⟨s,hs,hv⟩:=h'
  have hne:s.l.dir≠⟨0,0⟩:=fun e=>avN (hc.ok s hs) (by rw[e];decide)
  cases nh:s.v.nh with
  |true=>exact⟨s.l.dir,hne,avi hc hs nh⟩
  |false=>
   have nl:s.v.nl=true:=by simpa[nh] using hv
   refine⟨aj9 s.l.dir,fun e=>hne ?_,fun u hu=>?_⟩
   ·unfold aj9 at e
    generalize s.l.dir=d at*
    obtain⟨x,y⟩:=d
    simp only[PtQ.mk.injEq] at*
    constructor<;>grind
   ·have:=atF hc hs nl u hu
    unfold aj9 PtQ.dot at*
    grind
theorem anC{t:Tr}(ht:t.all LnQ.ok)(hb:ayC t):(aas t).all ae7=true:=by
 rw[dZ]
 intro c hc
 obtain⟨hg,hv⟩:=afF ht aaJ.nil (ac1.1 hc)
 cases hq:ae7 c with
 |true=>rfl
 |false=>
  exfalso
  obtain⟨L,R,h1,h2⟩:=hb
  obtain⟨d,d0,hd⟩:=av8 hg hq
  obtain⟨p,hp,ho⟩:=aDq hg L h1
  obtain⟨N,n0,hN⟩:=aBu (d:=d) ho
  obtain⟨M,m0,hM⟩:=aBW (p:=p) d0 R
  have hin:InD c (adk p d (N+M)):=fun s hs=>by
   rw[abK]
   have a:=hp s hs
   have b:=aab (show 0≤N+M by grind) (hd s hs)
   grind
  have:=(hv _ hin).2
  rw[h2 _ (hN _ (by grind)) (hM _ (by grind))] at this
  cases this
theorem ai4{rs:List (List ZP)}{fill:Int}(h: ∀r∈rs,aaQ r)(hn:rs.length≤2):akd 12 (ae0 rs fill):=by
 obtain⟨h1,h2⟩:=acM h
 exact((auC h2 rfl).restrict []).mono (by omega)
theorem afG{es:List Int}{a:Nat}(ha:a≤es.length):akd 12 (acJ es a).1∧ayC (acJ es a).1:=by
 obtain⟨r1,r2⟩:=afL ha
 have h3:=aaS (n:=3) r2
 unfold acJ
 dsimp only
 split
 ·obtain⟨s1,s2⟩:=afL h3
  have hr: ∀r∈[(acj es a).1,(acj es (aaf es 3 (acj es a).2).2).1],aaQ r:=fun r hr=>by simp only[aT,jY,or_false] at hr;rcases hr with rfl|rfl;exact r1;exact s1
  exact⟨ai4 hr (by simp),aj6 hr⟩
 ·have hr: ∀r∈[(acj es a).1],aaQ r:=fun r hr=>by simp only[aT,jY,or_false] at hr;subst hr;exact r1
  exact⟨ai4 hr (by simp),aj6 hr⟩
def ae9(es:List Int):Nat→Nat→Tr×Nat
 |0,a=>acJ es a
 |d+1,a=>
  let k:=aaf es 3 a
  if(k.1:Int)=0 then
   let x:=ae9 es d k.2
   let o:=aaf es 4 x.2
   let y:=ae9 es d o.2
   (x.1.mergeQ (1+(o.1:Int)) y.1 [],y.2)
  else acJ es k.2
theorem ajm{es:List Int}: ∀{d a:Nat},a≤es.length→akd (12*2^d) (ae9 es d a).1∧ayC (ae9 es d a).1∧(ae9 es d a).1.Red []∧(ae9 es d a).2≤es.length
 |0,a,ha=>⟨(afG ha).1,(afG ha).2,akR es a,(amJ ha).2⟩
 |d+1,a,ha=>by
  have h0:=aaS (n:=3) ha
  rw[ae9]
  try dsimp only
  split
  ·obtain⟨x1,x2,x3,x4⟩:=ajm (d:=d) h0
   have h1:=aaS (n:=4) x4
   obtain⟨y1,y2,y3,y4⟩:=ajm (d:=d) h1
   refine⟨?_,x2.merge y2 x1.gd.ok y1.gd.ok _,Tr.merge_red _ _ _ _,y4⟩
   have:=x1.merge (op:=1+((aaf es 4 (ae9 es d (aaf es 3 a).2).2).1:Int)) y1
   exact this.mono (by rw[fX];omega)
  ·refine⟨(afG h0).1.mono ?_,(afG h0).2,akR _ _,(amJ h0).2⟩
   have:1≤2^(d+1):=Nat.one_le_two_pow
   omega
theorem aFb{es:List Int}{d a:Nat}(ha:a≤es.length)(hd:d≤2):TrX 48 (ae9 es d a).1∧(aas (ae9 es d a).1).all ae7=true∧(ae9 es d a).2≤es.length∧(ae9 es d a).1.restrict []=(ae9 es d a).1:=by
 obtain⟨h1,h2,h3,h4⟩:=ajm (d:=d) ha
 have h5:2^d≤2^2:=bV (by decide) hd
 have hx:TrX 48 (ae9 es d a).1:=(h1.mono (by omega)).x h3 (by decide)
 exact⟨hx,anC hx.ok h2,h4,Tr.red_restrict h3⟩
def aIQ:List ZP:=[(0,0),(1,0),(0,1)]
structure EGS (GB:Gh) (ai al ae au ar:Addr):Prop extends EGU GB ai al ae au where
 ErrEmpty:GB 0=some [.iface 405 (.pointer (some ae))]
 ErrRange:GB 3=some [.iface 405 (.pointer (some ar))]
def aHC(r:List PtQ)(j:Nat):Nat→PtQ
 |0=>(((r.getD 0 ⟨0,0⟩).add (r.getD 1 ⟨0,0⟩)).add (r.getD 2 ⟨0,0⟩)).scale (((1:Int):Rat)/((3:Int):Rat))
 |k+1=>((aHC r j k).add (r.getD j ⟨0,0⟩)).scale (((1:Int):Rat)/((2:Int):Rat))
def smp(ts:List (List PtQ))(i:Nat):PtQ:=aHC (ts.getD (i%ts.length) []) (i%3) (i/ts.length)
theorem aBG{m n:Int}(hm:m.natAbs≤1000)(hn:n.natAbs≤1000):PF GB prog 72 [vI m,vI n] (eF ((m:Rat)/(n:Rat))):=by
 haveI:=biC (k:=11) hm (by decide)
 haveI:=biC (k:=11) hn (by decide)
 refine fn func72 J J ntmps72 J J (fun C=>?_)
 refine cl rfl (ajh (m:=m) (by omega)) rfl<|cl rfl (ajh (m:=n) (by omega)) rfl<|cl rfl (aks (p:=(m:Rat)) (q:=(n:Rat)) (i:=12) (j:=12)) rfl<|?_
 exact rz J J
theorem aeo{α:Type}(f:α→Rat){l:List α}{k:Nat}{x:α}(h:l[k]? =some x):aaW f (l.take (k+1))=aaW f (l.take k)+f x:=by
 have:l.take (k+1)=l.take k++[x]:=by rw[iX,h];rfl
 rw[this,agW]
 show _+(f x+0)=_
 grind
structure aCZ (cs:List aae) (b:Nat):Prop where
 lb: ∀c∈cs,∀s∈c,LB s.l
 sh: ∀c∈cs,c.length≤100000
 ln:cs.length≤1000000
 pt: ∀x∈acP (abN cs),BPt x.1 b∧BPt x.2 b
theorem auJ{L:List (PtQ×PtQ)}: ∀e∈L.map edE,e.length=2:=fun e he=>by
 obtain⟨x,_,rfl⟩:=bJ.1 he
 rfl
theorem atj{L:List (PtQ×PtQ)}{k:Nat}{e:List DV}(h:(L.map edE)[k]? =some e): ∃x,L[k]? =some x∧e=edE x:=by
 rw[cJ] at h
 cases hl:L[k]? with
 |none=>rw[hl] at h;cases h
 |some x=>rw[hl] at h;cases h;exact⟨x,rfl,rfl⟩
theorem aCg{cs:List aae}{b m:Nat}(ho:aCZ cs b)(hb:b≤40000000)(hs: ∀k,BQ (aaW (fun x=>x.1.cross x.2) ((acP (abN cs)).take k)) m)(hm:m≤100000000)(hc: ∀x∈acP (abN cs),BQ (x.1.cross x.2) m):
  PF GB prog 39 [.sl (cs.map eC)] (eF (aaW (fun x=>x.1.cross x.2) (acP (abN cs))*mkRat 1 2)):=by
 obtain⟨L,hL⟩: ∃L,L=acP (abN cs):=⟨_,rfl⟩
 obtain⟨Sm,hSm⟩: ∃Sm:Nat→Rat,Sm=fun k=>aaW (fun x=>x.1.cross x.2) (L.take k):=⟨_,rfl⟩
 have h00:Sm 0=0:=by rw[hSm];rfl
 have hSk: ∀k,BQ (Sm k) m:=by rw[hSm,hL];exact hs
 refine fnI func39 J J ntmps39 J J (fun C h0=>?_)
 refine cmk J J J avr (fun _=>rfl) (fun GB1 pv hg1 hpv=>?_)
 refine imB 3 [vI (fn_ 0),vI (fd_ 0),fp_ 0] rfl (fun G m=>zF) rfl ?_
 refine rnF 2 2000002 h0.fx rfl<|rnF 3 2000003 h0.fx rfl ?_
 refine aHF (σ:=Empty) (fun k=>[(2000002,some (.o 96 [.d (vI 0), .d (vI 0), .d (.v (.pointer none))] true)),(2000003,some (.o 96 [.d (vI (fn_ (Sm k))), .d (vI (fd_ (Sm k))), .d (fp_ (Sm k))] true))]) (fun _=>True) (fun _=>[]) (fun _=>False) [(2, .ov 2000002 0),(3, .ov 2000003 0)]
  h0 rfl (aqn ho.lb ho.sh ho.ln ho.pt hb) (.cons hpv .nil) ⟨rfl,rfl,trivial⟩ rfl (by rw[h00];exact⟨rfl,rfl,trivial⟩) trivial auJ J J (fun k e GB' hE hg hp=>?_) (fun D hD hx hp=>?_) (fun D s hD hx hq=>hq.elim)
 ·obtain⟨x,hx,rfl⟩:=atj hE
  refine⟨?_,?_,fun C2=>?_,fun C2=>?_⟩
  rotate_left 2
  ·refine gx rfl ?_
   exact atR
  ·haveI:=hs k
   haveI:=hc x (aU hx)
   rw[←hL] at hx
   refine gx rfl<|cl rfl (acx (p:=Sm k) (q:=x.1.cross x.2) (i:=m) (j:=m) hm hm) rfl ?_
   have e1:Sm (k+1)=Sm k+x.1.cross x.2:=by rw[hSm];exact aeo _ hx
   exact rq trivial (by rw[e1];exact⟨rfl,rfl,trivial⟩)
 ·have eN:Sm (((acP (abN cs)).map edE).length)=aaW (fun x=>x.1.cross x.2) (acP (abN cs)):=by
   rw[hSm,hL,aK]
   show aaW _ (List.take _ _)=_
   rw[cM]
  haveI:BQ (aaW (fun x=>x.1.cross x.2) (acP (abN cs))) m:=by rw[←eN];exact hSk _
  rw[eN]
  refine gx rfl<|cl rfl (alr (q:=aaW (fun x=>x.1.cross x.2) (acP (abN cs))) hm) rfl ?_
  exact rzD hD hx J J
def aGB(x:PtQ×PtQ):PtQ:=(x.1.add x.2).scale (x.1.cross x.2)
def aHz{α:Type}(f:α→PtQ)(l:List α):PtQ:=⟨aaW (fun x=>(f x).x) l,aaW (fun x=>(f x).y) l⟩
theorem zZ{G:Gh}{m:List Value}(h:IsLs G [vI 0,vI 0, .v (.pointer none),vI 0,vI 0, .v (.pointer none)] m):IsLs G [vI (fn_ 0),vI (fd_ 0),fp_ 0,vI (fn_ 0),vI (fd_ 0),fp_ 0] m:=by
 obtain⟨y1,m1,rfl,h1,h⟩:=aad.1 h
 obtain⟨y2,m2,rfl,h2,h⟩:=aad.1 h
 obtain⟨y3,m3,rfl,h3,h⟩:=aad.1 h
 have a:=zF (m:=[y1,y2,y3]) (.cons h1 (.cons h2 (.cons h3 .nil)))
 exact a.app (zF h)
def qF(es:List Int)(a:Nat):Rat×Nat:=
 (if((aaf es 6 (aaf es 9 a).2).1:Int)=0 then mkRat (2*(((aaf es 9 a).1:Int)-4)+1) 2 else if((aaf es 6 (aaf es 9 a).2).1:Int)=1 then mkRat (3*(((aaf es 9 a).1:Int)-4)+1) 3 else(((aaf es 9 a).1:Rat)-4:Rat),(aaf es 6 (aaf es 9 a).2).2)
def aGA(es:List Int)(a:Nat):PtQ×Nat:=(⟨(qF es a).1,(qF es (qF es a).2).1⟩,(qF es (qF es a).2).2)
def lnO:LnQ:=⟨1,0,0⟩
def aJm(es:List Int)(L:List LnQ)(a:Nat):PtQ×Nat:=
 if L.length=0 then aGA es a else
 if((aaf es 3 (aaf es L.length a).2).1:Int)=0 then
  (if crossI (L.getD (aaf es L.length a).1 lnO) (L.getD (aaf es L.length (aaf es 3 (aaf es L.length a).2).2).1 lnO)≠0 then(abE (L.getD (aaf es L.length a).1 lnO) (L.getD (aaf es L.length (aaf es 3 (aaf es L.length a).2).2).1 lnO),(aaf es L.length (aaf es 3 (aaf es L.length a).2).2).2) else aGA es (aaf es L.length (aaf es 3 (aaf es L.length a).2).2).2)
 else if((aaf es 3 (aaf es L.length a).2).1:Int)=1 then((L.getD (aaf es L.length a).1 lnO).at (qF es (aaf es 3 (aaf es L.length a).2).2).1,(qF es (aaf es 3 (aaf es L.length a).2).2).2) else aGA es (aaf es 3 (aaf es L.length a).2).2

structure EGV (GB:Gh) (ai al ae au:Addr):Prop extends EGU GB ai al ae au where
 ErrEmpty:GB 0=some [.iface 405 (.pointer (some ae))]
def ar6(x:PtQ×PtQ):Rat:=(x.1.x*x.1.x+x.2.x*x.2.x+(x.1.add x.2).x*(x.1.add x.2).x)*x.1.cross x.2
def ar9(x:PtQ×PtQ):Rat:=(x.1.x*x.1.y+x.2.x*x.2.y+(x.1.add x.2).x*(x.1.add x.2).y)*x.1.cross x.2
def arK(x:PtQ×PtQ):Rat:=(x.1.y*x.1.y+x.2.y*x.2.y+(x.1.add x.2).y*(x.1.add x.2).y)*x.1.cross x.2
structure asc (cs:List aae):Prop where
 ed:aCZ cs 1200
 cr: ∀x∈acP (abN cs),BQ (x.1.cross x.2) 5000
 ar: ∀k,BQ (aaW (fun x=>x.1.cross x.2) ((acP (abN cs)).take k)) 2000000
 mo: ∀k,BPt (aHz aGB ((acP (abN cs)).take k)) 3000000
 sa: ∀k,BQ (aaW ar6 ((acP (abN cs)).take k)) 4000000
 sb: ∀k,BQ (aaW ar9 ((acP (abN cs)).take k)) 4000000
 sc: ∀k,BQ (aaW arK ((acP (abN cs)).take k)) 4000000
def adW(t:Tr):Rat:=aaW (fun x=>x.1.cross x.2) (acP (abN (aas t)))*mkRat 1 2
def aIM(t:Tr):PtQ:=(aHz aGB (acP (abN (aas t)))).scale (((1:Int):Rat)/((6:Int):Rat))
theorem asc.cr2{cs:List aae}(h:asc cs): ∀x∈acP (abN cs),BQ (x.1.cross x.2) 2000000:=fun x hx=>(h.cr x hx).mono (by decide)
theorem asc.ar1{cs:List aae}(h:asc cs):BQ (aaW (fun x=>x.1.cross x.2) (acP (abN cs))) 2000000:=by
 have:=h.ar (acP (abN cs)).length
 rwa [cM] at this
theorem asc.area{t:Tr}(h:asc (aas t)):BQ (adW t) 2000003:=by
 haveI:=h.ar1
 exact BQ.mono (inferInstance:BQ (aaW (fun x=>x.1.cross x.2) (acP (abN (aas t)))*mkRat 1 2) _) (by decide)
def zR0:DV:= .ag [vB false, .sl [], .sl []]
def zP0:DV:= .ag [vB false, .sl [], .sl [],vB false, .sl [], .sl []]
theorem av9{k0:Nat}{t:Tr}(h:TrX k0 t)(hk0:k0≤900):PF GB prog 96 [eA t] (.tp [.sl ((aas t).map eC), .v .nilIface]):=by
 have hts:=h.s
 have htd:=h.dp
 refine fn func96 J J ntmps96 J J (fun C=>?_)
 refine cl (fu:=⟨12⟩) rfl (aCP h) rfl<|?_
 refine kbT 12 rfl ?_
 refine gx rfl<|cl (fu:=⟨0⟩) rfl (al5 (t:=t) (by omega)) rfl<|knF rfl (by show some (decide _)=some false;rw[decide_eq_false (by omega)]) rfl<|cl rfl (aBd h.lb h.ok (by omega) (by omega)) rfl<|?_
 exact rz J J
theorem arA{cs:List aae}(hn: ∀c∈cs,c.length≤100000)(hl:cs.length≤1000000):PF GB prog 97 [.sl (cs.map eC)] (vB (cs.all ae7)):=by
 have hml:(cs.map eC).length=cs.length:=aK ..
 refine fn (fu:=⟨10⟩) func97 J J ntmps97 J J (fun C=>?_)
 refine eqF 6 (.d (vI (cs.length:Nat))) rfl (by rw[hml]<;>rfl) ?_
 refine gx rfl<|?_
 refine lp (X:=Nat) (fun k=>[(7, .d (vI (k:Nat)))]) (fun k=>[]) (fun k=>k≤cs.length∧cs.all ae7=(cs.drop k).all ae7) (fun k=>cs.length-k) 0 rfl ⟨bX _,by rw[gT]⟩ (fun _=>rfl) (fun k hk=>?_)
 refine br J J J (fun hc8=>?_) (fun hc8=>?_)
 ·
  obtain⟨c,hx⟩: ∃u,cs[k]? =some u:=⟨_,aQ (by omega)⟩
  refine ix _ rfl (aav hx) rfl<|cl rfl (azi (c:=c) (hn c (aU hx))) rfl<|?_
  refine bb J J J (fun hc13=>?_) (fun hc13=>?_)
  ·
   have hS:cs.all ae7=false:=by rw[hk.2,aff hx];rw[gQ] at hc13;rw[hc13];rfl
   exact rz rfl (by rw[hS];rfl)
  ·
   rw[Bool.not_eq_false'] at hc13
   exact at_ (k+1) ⟨⟨by omega,by rw[hk.2,aff hx,hc13,Bool.true_and]⟩,(by omega)⟩
 ·
  have hS:cs.all ae7=true:=by rw[hk.2,fS (by omega)];rfl
  exact rz rfl (by rw[hS];rfl)
theorem aqB{k0:Nat}{t:Tr}(h:TrX k0 t)(hk0:k0≤900)(hbd:(aas t).all ae7=true):PF GB prog 38 [eA t] (.tp [.sl ((aas t).map eC), .v .nilIface]):=by
 obtain⟨cs,hcs⟩: ∃cs,cs=aas t:=⟨_,rfl⟩
 have hts:=h.s
 have htd:=h.dp
 have hcl:=ahd t
 have hcn:=adG h.lb h.ok
 rw[←hcs] at hcl hcn
 rw[←hcs] at hbd
 refine fn func38 J J ntmps38 J J (fun C=>?_)
 refine cl (fu:=⟨0⟩) rfl (av9 h hk0) rfl<|?_
 refine eqF 8 (.d (.tp [.sl (cs.map eC), .v .nilIface])) rfl (by rw[hcs]) ?_
 refine gx rfl<|cl (fu:=⟨0⟩) rfl (arA (cs:=cs) (fun c hc=>by have:=hcn c hc;omega) (by omega)) rfl<|?_
 refine eqF 15 (.d (vB true)) rfl (by rw[hbd]) ?_
 refine kbT 15 rfl ?_
 refine gx rfl<|?_
 exact rz rfl (by rw[←hcs];rfl)
theorem auc{k0:Nat}{t:Tr}(h:TrX k0 t)(hk0:k0≤900)(hbd:(aas t).all ae7=true)(hm:asc (aas t)):PF GB prog 10 [eA t] (.tp [eR (adW t), .v .nilIface]):=by
 haveI:=hm.area
 refine fn func10 J J ntmps10 J J (fun C=>?_)
 refine cl rfl (aqB h hk0 hbd) rfl<|cl rfl (aCg hm.ed (by decide) hm.ar (by decide) hm.cr2) rfl<|cl rfl (amY (q:=adW t) (i:=2000003)) rfl<|?_
 exact rz J J
def tw4:Rat:=((1:Int):Rat)/((24:Int):Rat)
def axy(f:PtQ×PtQ→Rat)(t:Tr):Rat:=aaW f (acP (abN (aas t)))*tw4
theorem zF3{G:Gh}{m:List Value}(h:IsLs G [vI 0,vI 0, .v (.pointer none),vI 0,vI 0, .v (.pointer none),vI 0,vI 0, .v (.pointer none)] m):IsLs G [vI (fn_ 0),vI (fd_ 0),fp_ 0,vI (fn_ 0),vI (fd_ 0),fp_ 0,vI (fn_ 0),vI (fd_ 0),fp_ 0] m:=by
 obtain⟨y1,m1,rfl,h1,h⟩:=aad.1 h
 obtain⟨y2,m2,rfl,h2,h⟩:=aad.1 h
 obtain⟨y3,m3,rfl,h3,h⟩:=aad.1 h
 have a:=zF (m:=[y1,y2,y3]) (.cons h1 (.cons h2 (.cons h3 .nil)))
 exact a.app (zZ h)
theorem aEs:BQ tw4 6:=⟨by decide+kernel,by decide+kernel⟩
theorem aD9{k0:Nat}{t:Tr}(h:TrX k0 t)(hk0:k0≤900)(hbd:(aas t).all ae7=true)(hm:asc (aas t)):PF GB prog 58 [eA t] (.tp [eR (axy ar6 t),eR (axy ar9 t),eR (axy arK t), .v .nilIface]):=by
 obtain⟨cs,hcs⟩: ∃cs,cs=aas t:=⟨_,rfl⟩
 obtain⟨L,hL⟩: ∃L,L=acP (abN cs):=⟨_,rfl⟩
 rw[←hcs] at hm
 obtain⟨Sa,hSa⟩: ∃S:Nat→Rat,S=fun k=>aaW ar6 (L.take k):=⟨_,rfl⟩
 obtain⟨Sb,hSb⟩: ∃S:Nat→Rat,S=fun k=>aaW ar9 (L.take k):=⟨_,rfl⟩
 obtain⟨Sc,hSc⟩: ∃S:Nat→Rat,S=fun k=>aaW arK (L.take k):=⟨_,rfl⟩
 have ha0:Sa 0=0:=by rw[hSa];rfl
 have hb0:Sb 0=0:=by rw[hSb];rfl
 have hc0:Sc 0=0:=by rw[hSc];rfl
 have hSak: ∀k,BQ (Sa k) 4000000:=by rw[hSa,hL];exact hm.sa
 have hSbk: ∀k,BQ (Sb k) 4000000:=by rw[hSb,hL];exact hm.sb
 have hSck: ∀k,BQ (Sc k) 4000000:=by rw[hSc,hL];exact hm.sc
 refine fnI func58 J J ntmps58 J J (fun C h0=>?_)
 refine cl rfl (aqB h hk0 hbd) rfl ?_
 refine cmk J J J avr (fun _=>rfl) (fun GB1 pv hg1 hpv=>?_)
 refine imB 8 [vI (fn_ 0),vI (fd_ 0),fp_ 0,vI (fn_ 0),vI (fd_ 0),fp_ 0,vI (fn_ 0),vI (fd_ 0),fp_ 0] rfl (fun G m=>zF3) rfl ?_
 refine rnF 2 2000002 h0.fx rfl<|rnF 3 2000003 h0.fx rfl<|rnF 4 2000004 h0.fx rfl<|rnF 8 2000008 h0.fx rfl ?_
 refine aHF (σ:=Empty) (fun k=>[(2000002,some (.o 36 [.ff, .nl, .nl] true)),(2000003,some (.o 36 [.ff, .nl, .nl] true)),(2000004,some (.o 36 [.ff, .nl, .nl] true)),(2000008,some (.o 227 [.d (vI (fn_ (Sa k))), .d (vI (fd_ (Sa k))), .d (fp_ (Sa k)), .d (vI (fn_ (Sb k))), .d (vI (fd_ (Sb k))), .d (fp_ (Sb k)), .d (vI (fn_ (Sc k))), .d (vI (fd_ (Sc k))), .d (fp_ (Sc k))] true))]) (fun _=>True) (fun _=>[]) (fun _=>False) [(2, .ov 2000002 0),(3, .ov 2000003 0),(4, .ov 2000004 0),(8, .ov 2000008 0)]
  h0 rfl (aqn (cs:=aas t) (by rw[←hcs];exact hm.ed.lb) (by rw[←hcs];exact hm.ed.sh) (by rw[←hcs];exact hm.ed.ln) (by rw[←hcs];exact hm.ed.pt) (by decide)) (.cons hpv .nil) ⟨rfl,rfl,rfl,rfl,trivial⟩ rfl (by rw[ha0,hb0,hc0];exact⟨rfl,rfl,rfl,rfl,trivial⟩) trivial auJ J J (fun k e GB' hE hg hp=>?_) (fun D hD hx hp=>?_) (fun D s hD hx hq=>hq.elim)
 ·obtain⟨x,hx,rfl⟩:=atj hE
  rw[←hcs] at hx
  refine⟨?_,?_,fun C2=>?_,fun C2=>?_⟩
  rotate_left 2
  ·refine gx rfl<|sta J J J ⟨rfl,rfl,rfl⟩ rfl ?_
   exact atR
  ·haveI:=hSak k
   haveI:=hSbk k
   haveI:=hSck k
   haveI:=hm.cr x (aU hx)
   haveI hp1:=(hm.ed.pt x (aU hx)).1
   haveI hp2:=(hm.ed.pt x (aU hx)).2
   haveI:=hp1.x
   haveI:=hp1.y
   haveI:=hp2.x
   haveI:=hp2.y
   haveI hp3:BPt (x.1.add x.2) 2401:=inferInstance
   haveI:=hp3.x
   haveI:=hp3.y
   rw[←hL] at hx
   refine gx rfl<|ixa 0 (e:=146) (len:=2) (s:=6) rfl (by kernel_rfl) (by kernel_rfl) (by decide) rfl<|ixa 1 (e:=146) (len:=2) (s:=6) rfl (by kernel_rfl) (by kernel_rfl) (by decide) rfl<|?_
   refine cl rfl (ayx (p:=x.1) (q:=x.2) (i:=1200) (j:=1200)) rfl<|?_
   refine cl rfl (abG (p:=x.1.x) (q:=x.1.x) (i:=1200) (j:=1200)) rfl<|cl rfl (abG (p:=x.2.x) (q:=x.2.x) (i:=1200) (j:=1200)) rfl<|cl rfl (acx (p:=x.1.x*x.1.x) (q:=x.2.x*x.2.x)) rfl<|?_
   refine cl rfl (abG (p:=(x.1.add x.2).x) (q:=(x.1.add x.2).x) (i:=2401) (j:=2401)) rfl<|cl rfl (acx (p:=x.1.x*x.1.x+x.2.x*x.2.x) (q:=(x.1.add x.2).x*(x.1.add x.2).x)) rfl<|?_
   refine cl rfl (abG (p:=x.1.x) (q:=x.1.y) (i:=1200) (j:=1200)) rfl<|cl rfl (abG (p:=x.2.x) (q:=x.2.y) (i:=1200) (j:=1200)) rfl<|cl rfl (acx (p:=x.1.x*x.1.y) (q:=x.2.x*x.2.y)) rfl<|?_
   refine cl rfl (abG (p:=(x.1.add x.2).x) (q:=(x.1.add x.2).y) (i:=2401) (j:=2401)) rfl<|cl rfl (acx (p:=x.1.x*x.1.y+x.2.x*x.2.y) (q:=(x.1.add x.2).x*(x.1.add x.2).y)) rfl<|?_
   refine cl rfl (abG (p:=x.1.y) (q:=x.1.y) (i:=1200) (j:=1200)) rfl<|cl rfl (abG (p:=x.2.y) (q:=x.2.y) (i:=1200) (j:=1200)) rfl<|cl rfl (acx (p:=x.1.y*x.1.y) (q:=x.2.y*x.2.y)) rfl<|?_
   refine cl rfl (abG (p:=(x.1.add x.2).y) (q:=(x.1.add x.2).y) (i:=2401) (j:=2401)) rfl<|cl rfl (acx (p:=x.1.y*x.1.y+x.2.y*x.2.y) (q:=(x.1.add x.2).y*(x.1.add x.2).y)) rfl<|?_
   refine bar (len:=3) (s:=3) (e:=96) rfl (by kernel_rfl) (by kernel_rfl) rfl<|sta J J J ⟨rfl,rfl,rfl⟩ rfl<|ldA 9 (len:=3) (e:=96) rfl (by kernel_rfl) (by kernel_rfl) rfl<|?_
   refine lp (X:=Nat) (fun i=>[(93, .d (vI (i:Nat)))]) (fun i=>[(2000008,some (.o 227 [.d (vI (fn_ (if 0<i then Sa k+ar6 x else Sa k))), .d (vI (fd_ (if 0<i then Sa k+ar6 x else Sa k))), .d (fp_ (if 0<i then Sa k+ar6 x else Sa k)), .d (vI (fn_ (if 1<i then Sb k+ar9 x else Sb k))), .d (vI (fd_ (if 1<i then Sb k+ar9 x else Sb k))), .d (fp_ (if 1<i then Sb k+ar9 x else Sb k)), .d (vI (fn_ (if 2<i then Sc k+arK x else Sc k))), .d (vI (fd_ (if 2<i then Sc k+arK x else Sc k))), .d (fp_ (if 2<i then Sc k+arK x else Sc k))] true))]) (fun i=>i≤3) (fun i=>3-i) 0 rfl (by omega) (fun _=>rfl) (fun i hi=>?_)
   refine br J J J (fun hc94=>?_) (fun hc94=>?_)
   ·obtain rfl|rfl|rfl:i=0∨i=1∨i=2:=by omega
    ·refine idA 0 (len:=3) (s:=3) (e:=96) rfl (by kernel_rfl) J J (by decide) rfl<|ixa 0 (e:=96) (len:=3) (s:=3) rfl (by kernel_rfl) (by kernel_rfl) (by decide) rfl<|?_
     refine cl rfl (abG (p:=(x.1.x*x.1.x+x.2.x*x.2.x+(x.1.add x.2).x*(x.1.add x.2).x)) (q:=x.1.cross x.2) (j:=5000)) rfl<|cl rfl (acx (p:=Sa k) (q:=(x.1.x*x.1.x+x.2.x*x.2.x+(x.1.add x.2).x*(x.1.add x.2).x)*x.1.cross x.2) (i:=4000000)) rfl<|ixa (hv:=by simp only[aah];exact⟨by kernel_rfl,by omega⟩) 0 (e:=96) (len:=3) (s:=3) rfl (by kernel_rfl) (by kernel_rfl) (by decide) rfl<|?_
     exact at_ 1 ⟨by omega,by omega⟩
    ·refine idA 1 (len:=3) (s:=3) (e:=96) rfl (by kernel_rfl) J J (by decide) rfl<|ixa 1 (e:=96) (len:=3) (s:=3) rfl (by kernel_rfl) (by kernel_rfl) (by decide) rfl<|?_
     refine cl rfl (abG (p:=(x.1.x*x.1.y+x.2.x*x.2.y+(x.1.add x.2).x*(x.1.add x.2).y)) (q:=x.1.cross x.2) (j:=5000)) rfl<|cl rfl (acx (p:=Sb k) (q:=(x.1.x*x.1.y+x.2.x*x.2.y+(x.1.add x.2).x*(x.1.add x.2).y)*x.1.cross x.2) (i:=4000000)) rfl<|ixa (hv:=by simp only[aah];exact⟨by kernel_rfl,by omega⟩) 1 (e:=96) (len:=3) (s:=3) rfl (by kernel_rfl) (by kernel_rfl) (by decide) rfl<|?_
     exact at_ 2 ⟨by omega,by omega⟩
    ·refine idA 2 (len:=3) (s:=3) (e:=96) rfl (by kernel_rfl) J J (by decide) rfl<|ixa 2 (e:=96) (len:=3) (s:=3) rfl (by kernel_rfl) (by kernel_rfl) (by decide) rfl<|?_
     refine cl rfl (abG (p:=(x.1.y*x.1.y+x.2.y*x.2.y+(x.1.add x.2).y*(x.1.add x.2).y)) (q:=x.1.cross x.2) (j:=5000)) rfl<|cl rfl (acx (p:=Sc k) (q:=(x.1.y*x.1.y+x.2.y*x.2.y+(x.1.add x.2).y*(x.1.add x.2).y)*x.1.cross x.2) (i:=4000000)) rfl<|ixa (hv:=by simp only[aah];exact⟨by kernel_rfl,by omega⟩) 2 (e:=96) (len:=3) (s:=3) rfl (by kernel_rfl) (by kernel_rfl) (by decide) rfl<|?_
     exact at_ 3 ⟨by omega,by omega⟩
   ·obtain rfl:i=3:=by omega
    have e1:Sa (k+1)=Sa k+ar6 x:=by rw[hSa];exact aeo _ hx
    have e2:Sb (k+1)=Sb k+ar9 x:=by rw[hSb];exact aeo _ hx
    have e3:Sc (k+1)=Sc k+arK x:=by rw[hSc];exact aeo _ hx
    exact rq trivial (by rw[e1,e2,e3];exact⟨rfl,rfl,rfl,rfl,trivial⟩)
 ·have eN:((acP (abN (aas t))).map edE).length=L.length:=by rw[aK,←hcs,←hL]
  rw[eN]
  have ea:Sa L.length=aaW ar6 L:=by rw[hSa];show aaW _ (List.take _ _)=_;rw[cM]
  have eb:Sb L.length=aaW ar9 L:=by rw[hSb];show aaW _ (List.take _ _)=_;rw[cM]
  have ec:Sc L.length=aaW arK L:=by rw[hSc];show aaW _ (List.take _ _)=_;rw[cM]
  haveI:BQ (aaW ar6 L) 4000000:=by rw[←ea];exact hSak _
  haveI:BQ (aaW ar9 L) 4000000:=by rw[←eb];exact hSbk _
  haveI:BQ (aaW arK L) 4000000:=by rw[←ec];exact hSck _
  haveI:=aEs
  rw[ea,eb,ec]
  refine gx rfl<|cl rfl (aBG (m:=1) (n:=24) (by decide) (by decide)) rfl<|?_
  refine ixa 0 (e:=96) (len:=3) (s:=3) rfl (by kernel_rfl) (by kernel_rfl) (by decide) rfl<|cl rfl (abG (p:=aaW ar6 L) (q:=tw4) (i:=4000000) (j:=6)) rfl<|cl rfl (amY (q:=aaW ar6 L*tw4) (i:=4000006)) rfl<|?_
  refine ixa 1 (e:=96) (len:=3) (s:=3) rfl (by kernel_rfl) (by kernel_rfl) (by decide) rfl<|cl rfl (abG (p:=aaW ar9 L) (q:=tw4) (i:=4000000) (j:=6)) rfl<|cl rfl (amY (q:=aaW ar9 L*tw4) (i:=4000006)) rfl<|?_
  refine ixa 2 (e:=96) (len:=3) (s:=3) rfl (by kernel_rfl) (by kernel_rfl) (by decide) rfl<|cl rfl (abG (p:=aaW arK L) (q:=tw4) (i:=4000000) (j:=6)) rfl<|cl rfl (amY (q:=aaW arK L*tw4) (i:=4000006)) rfl<|?_
  exact rzD hD hx rfl (by unfold axy;rw[←hcs,←hL];rfl)
structure DQ (D B:Nat) (x:Rat):Prop where
 ex: ∃n:Int,x*((D:Nat):Rat)=(n:Rat)∧n.natAbs≤B*D
theorem DQ.bq{D B k:Nat}{x:Rat}(h:DQ D B x)(h0:0<D)(h1:D<2^k)(h2:B*D<2^k):BQ x k:=by
 obtain⟨n,e,hn⟩:=h.ex
 exact BQ.of_frac h0 e (by omega) h1
theorem DQ.mono{D B C:Nat}{x:Rat}(h:DQ D B x)(hc:B≤C):DQ D C x:=by
 obtain⟨n,e,hn⟩:=h.ex
 exact⟨n,e,cW hn (bK D hc)⟩
theorem DQ.add{D B C:Nat}{x y:Rat}(h:DQ D B x)(k:DQ D C y):DQ D (B+C) (x+y):=by
 obtain⟨n,e,hn⟩:=h.ex
 obtain⟨m,f,hm⟩:=k.ex
 refine⟨n+m,by rw[oR,←e,←f];grind,?_⟩
 have:=Int.natAbs_add_le n m
 rw[cS];omega
theorem DQ.neg{D B:Nat}{x:Rat}(h:DQ D B x):DQ D B (-x):=by
 obtain⟨n,e,hn⟩:=h.ex
 exact⟨-n,by rw[mQ,←e];grind,by rw[iT];exact hn⟩
theorem DQ.sub{D B C:Nat}{x y:Rat}(h:DQ D B x)(k:DQ D C y):DQ D (B+C) (x-y):=by
 have:=h.add k.neg
 rw[show x-y=x+ -y by grind];exact this
theorem DQ.mul{D E B C:Nat}{x y:Rat}(h:DQ D B x)(k:DQ E C y):DQ (D*E) (B*C) (x*y):=by
 obtain⟨n,e,hn⟩:=h.ex
 obtain⟨m,f,hm⟩:=k.ex
 refine⟨n*m,?_,?_⟩
 ·rw[cV,←e,←f,Rat.natCast_mul];grind
 ·rw[jJ]
  refine cW (iJ hn hm) (Nat.le_of_eq ?_)
  rw[Nat.mul_mul_mul_comm]
theorem DQ.zero(D B:Nat):DQ D B 0:=⟨0,by grind,by simp⟩
def crN(l m:LnQ):Nat:=if crossI l m=0 then 1 else(crossI l m).natAbs
theorem aCq(l m:LnQ):0<crN l m:=by unfold crN;split<;>omega
theorem arq(l m:LnQ):crossI l.rev m= -crossI l m:=by
 unfold crossI LnQ.rev
 show-l.a*m.b-m.a* -l.b=_
 rw[Int.neg_mul,sQ];omega
theorem aor(l m:LnQ):crossI l m.rev= -crossI l m:=by
 unfold crossI LnQ.rev
 show l.a* -m.b- -m.a*l.b=_
 rw[Int.neg_mul,sQ];omega
theorem ax9{l m l' m':LnQ}(h:l.same l')(k:m.same m'):crN l' m'=crN l m:=by
 have e1:crN l' m'=crN l m':=by
  rcases h with rfl|rfl
  ·rfl
  ·unfold crN;rw[arq];simp only[Int.neg_eq_zero,iT]
 rw[e1]
 rcases k with rfl|rfl
 ·rfl
 ·unfold crN;rw[aor];simp only[Int.neg_eq_zero,iT]
def aFF(K:List LnQ):List Nat:=K.flatMap fun l=>K.map (crN l)
def aFE(K:List LnQ):Nat:=(aFF K).foldr (· * ·) 1
theorem apT{n:Nat}: ∀{l:List Nat},n∈l→n∣l.foldr (· * ·) 1
 |a::t,h=>by
  rw[List.foldr_cons]
  rcases aT.1 h with rfl|h
  ·exact Nat.dvd_mul_right _ _
  ·exact rL (apT h) (Nat.dvd_mul_left _ _)
theorem apl: ∀{l:List Nat},(∀n∈l,0<n)→0<l.foldr (· * ·) 1
 |[],_=>by decide
 |a::t,h=>by rw[List.foldr_cons];exact gS (h a aZ) (apl fun n hn=>h n (aJ _ hn))
theorem avk{b:Nat}: ∀{l:List Nat},(∀n∈l,n≤2^b)→l.foldr (· * ·) 1≤2^(b*l.length)
 |[],_=>by simp
 |a::t,h=>by
  rw[List.foldr_cons,bW,Nat.mul_succ,jU,eX]
  exact iJ (h a aZ) (avk fun n hn=>h n (aJ _ hn))
theorem ayl(K:List LnQ):(aFF K).length=K.length*K.length:=by
 unfold aFF
 rw[List.length_flatMap]
 have: ∀Jv:List LnQ,(Jv.map fun l=>(K.map (crN l)).length).sum=Jv.length*K.length:=by
  intro Jv
  induction Jv with
  |nil=>simp
  |cons a t ih=>rw[cZ,List.sum_cons,ih,aK,bW,iU];omega
 exact this K
theorem av3(K:List LnQ):0<aFE K:=apl fun n hn=>by
 obtain⟨l,_,h⟩:=fW.1 hn
 obtain⟨m,_,rfl⟩:=bJ.1 h
 exact aCq l m
theorem ayh{K:List LnQ}{l m:LnQ}(hl:l∈K)(hm:m∈K):crN l m∣aFE K:=apT (fW.2 ⟨l,hl,dV hm⟩)
theorem aCE{l m:LnQ}(hl:LB l)(hm:LB m):crN l m≤2^385:=by
 have h1:=(inferInstance:BI (crossI l m) 385).h
 generalize 385=kk at h1⊢
 unfold crN
 split
 ·exact Nat.one_le_two_pow
 ·exact lU h1
theorem aCs{K:List LnQ}(h: ∀l∈K,LB l):aFE K≤2^(385*(K.length*K.length)):=by
 have:=avk (b:=385) (l:=aFF K) fun n hn=>by
  obtain⟨l,hl,h2⟩:=fW.1 hn
  obtain⟨m,hm,rfl⟩:=bJ.1 h2
  exact aCE (h l hl) (h m hm)
 rw[ayl] at this
 exact this
theorem asg{x:Rat}{n c:Int}{D kk:Nat}(hc:c≠0)(hx:x=(n:Rat)/(c:Rat))(hn:n.natAbs≤2^kk)(hd:c.natAbs∣D):DQ D (2^kk) x:=by
 obtain⟨e,he⟩:=hd
 have hc':(c:Rat)≠0:=fun h=>hc (dQ.1 h)
 have hD:((D:Nat):Rat)=((c.natAbs:Int):Rat)*((e:Int):Rat):=by rw[←cV,←Rat.intCast_natCast,he];rfl
 have bd:(n*(e:Int)).natAbs≤2^kk*D:=by
  rw[jJ,iS]
  refine iJ hn ?_
  rw[he]
  exact Nat.le_mul_of_pos_left e (by omega)
 rcases Int.natAbs_eq c with h|h
 ·refine⟨n*(e:Int),?_,bd⟩
  rw[hD,←h,hx,cV];grind
 ·refine⟨-(n*(e:Int)),?_,by rw[iT];exact bd⟩
  have h2:(c.natAbs:Int)= -c:=by omega
  rw[hD,h2,hx,mQ,mQ,cV];grind
structure DP (D B:Nat) (p:PtQ):Prop where
 x:DQ D B p.x
 y:DQ D B p.y
theorem aBU{l m:LnQ}(hl:LB l)(hm:LB m)(h:crossI l m≠0){D:Nat}(hd:crN l m∣D):DP D (2^385) (abE l m):=by
 have h1:=(inferInstance:BI (meetX l m) 385).h
 have h2:=(inferInstance:BI (meetY l m) 385).h
 generalize 385=kk at h1 h2⊢
 unfold crN at hd
 rw[if_neg h] at hd
 have e:abE l m=⟨(meetX l m:Rat)/(crossI l m:Rat),(meetY l m:Rat)/(crossI l m:Rat)⟩:=by unfold abE;rw[if_neg h]
 rw[e]
 exact⟨asg h rfl (lU h1) hd,asg h rfl (lU h2) hd⟩
theorem DP.cross{D B C:Nat}{p q:PtQ}(h:DP D B p)(k:DP D C q):DQ (D*D) (2*(B*C)) (p.cross q):=by
 have:=(h.x.mul k.y).sub (h.y.mul k.x)
 refine DQ.mono this (by omega)
theorem DP.add{D B C:Nat}{p q:PtQ}(h:DP D B p)(k:DP D C q):DP D (B+C) (p.add q):=⟨h.x.add k.x,h.y.add k.y⟩
theorem DP.scale{D E B C:Nat}{p:PtQ}{c:Rat}(h:DP D B p)(k:DQ E C c):DP (D*E) (B*C) (p.scale c):=⟨h.x.mul k,h.y.mul k⟩
theorem aBr{k:Nat}{t:Tr}(h:TrX k t): ∃K:List LnQ,K.length≤k∧(∀l∈K,LB l)∧t.all fun l=> ∃m∈K,m.same l:=by
 obtain⟨K,h1,h2,h3⟩:=h.o.am
 refine⟨K.filter fun m=>t.lns.any fun l=>decide (m.same l),cW (kZ ..) h1,fun m hm=>?_,?_⟩
 ·obtain⟨hm1,hm2⟩:=qV.1 hm
  obtain⟨l,hl,e⟩:=jW.1 hm2
  have hb:=afl.1 h.lb l hl
  have e':m.same l:=by simpa using e
  rcases e' with rfl|rfl
  ·exact hb
  ·haveI:=hb
   have:LB m.rev.rev:=inferInstance
   rwa [show m.rev.rev=m from by unfold LnQ.rev;cases m;simp] at this
 ·have h3:=afl.1 h3
  refine afl.2 fun l hl=>?_
  obtain⟨m,hm,e⟩:=h3 l hl
  exact⟨m,qV.2 ⟨hm,jW.2 ⟨l,hl,decide_eq_true e⟩⟩,e⟩
theorem ahl{P:LnQ→Prop}(hr: ∀l,P l→P l.rev): ∀{t:Tr} {c:aae} {x:Bool×aae},t.all P→(∀s∈c,P s.l)→x∈t.parts c→ ∀s∈x.2,P s.l
 | .leaf b,c,x,_,hc,h=>by
  rw[Tr.parts,aV] at h
  subst h;exact hc
 | .node l u v,c,x,ht,hc,h=>by
  have cl: ∀k,P k→ ∀s∈aaL c k,P s.l:=fun k hk s hs=>by
   unfold aaL at hs
   split at hs
   ·rcases acH.1 hs with rfl|hs
    ·exact hk
    ·obtain⟨s0,g,_,rfl⟩:=aco.1 hs
     exact hc s0 g
   ·exact hc s hs
  rw[Tr.parts] at h
  rcases bY.1 h with h|h
  ·split at h
   ·exact ahl hr ht.2.1 (cl l ht.1) h
   ·cases h
  ·split at h
   ·exact ahl hr ht.2.2 (cl l.rev (hr l ht.1)) h
   ·cases h
theorem axR{k:Nat}{t:Tr}(h:TrX k t): ∃D:Nat,0<D∧D≤2^(385*(k*k))∧ ∀c∈aas t,∀p∈abr (c.map (·.l)),DP D (2^385) p:=by
 obtain⟨K,h1,h2,h3⟩:=aBr h
 refine⟨aFE K,av3 K,cW (aCs h2) (bV (by decide) (dS 385 (iJ h1 h1))),fun c hc p hp=>?_⟩
 have hs:=ahl (P:=fun l=> ∃m∈K,m.same l) (fun l ⟨m,hm,e⟩=>⟨m,hm,by
  rcases e with rfl|rfl
  ·exact .inr rfl
  ·exact .inl (by unfold LnQ.rev;cases m;simp)⟩) h3 (fun s hs=>by cases hs) (ac1.1 hc)
 have hb:=ahf h.lb h.ok c hc
 obtain⟨i,hi,hp⟩:=fW.1 hp
 have hi':=lT.1 hi
 have e1:=aQ hi'
 have e2:=aQ (l:=c.map (·.l)) (dX (i+1) (show 0<(c.map (·.l)).length by omega))
 rw[ajO e1 e2] at hp
 split at hp
 ·rename_i hx
  rw[aV.1 hp]
  obtain⟨s,s1,s2⟩:=bJ.1 (bN hi')
  obtain⟨u,u1,u2⟩:=bJ.1 (bN (dX (i+1) (show 0<(c.map (·.l)).length by omega)))
  rw[←s2,←u2] at hx⊢
  obtain⟨m,hm,em⟩:=hs s s1
  obtain⟨n,hn,en⟩:=hs u u1
  exact aBU (hb s s1) (hb u u1) (aA8 hx) (by rw[ax9 em en];exact ayh hm hn)
 ·cases hp
theorem ap6{D B a b k:Nat}{x:Rat}(h:DQ D B x)(h0:0<D)(hD:D≤2^a)(hB:B≤2^b)(hk:a+b<k):BQ x k:=by
 refine h.bq h0 (eY hD (rN (by decide) (by omega))) ?_
 refine eY (iJ hB hD) ?_
 rw[←eX]
 exact rN (by decide) (by omega)
theorem pw2{x y a b:Nat}(hx:x≤2^a)(hy:y≤2^b):x*y≤2^(a+b):=by
 rw[eX];exact iJ hx hy
theorem azf{α:Type}{D B:Nat}{f:α→Rat}: ∀{l:List α},(∀x∈l,DQ D B (f x))→DQ D (l.length*B) (aaW f l)
 |[],_=>by show DQ D _ 0;exact DQ.zero D _
 |x::t,h=>by
  have:=(h x aZ).add (azf fun y hy=>h y (aJ _ hy))
  refine DQ.mono this (Nat.le_of_eq ?_)
  rw[bW,cS,nJ,jU]
theorem alb{α:Type}{D B N:Nat}{f:α→Rat}{l:List α}(h: ∀x∈l,DQ D B (f x))(hl:l.length≤N)(k:Nat):DQ D (N*B) (aaW f (l.take k)):=by
 have:=azf (l:=l.take k) fun x hx=>h x (fZ hx)
 exact this.mono (bK B (cW (by rw[cR];omega) hl))
theorem axW{v:List PtQ}{x:PtQ×PtQ}(h:x∈adt v):x.1∈v∧x.2∈v:=by
 obtain⟨i,hi,rfl⟩:=bJ.1 h
 have hi':=lT.1 hi
 have hj:(i+1)%v.length<v.length:=dX _ (by omega)
 dsimp only
 rw[aX,aX,aQ hi',aQ hj]
 exact⟨bN _,bN _⟩
theorem atu{cs:List aae}{x:PtQ×PtQ}(h:x∈acP (abN cs)): ∃c∈cs,x.1∈abr (c.map (·.l))∧x.2∈abr (c.map (·.l)):=by
 obtain⟨L,hL,hx⟩:=fW.1 h
 obtain⟨c,hc,rfl⟩:=bJ.1 hL
 exact⟨c,hc,axW hx⟩
theorem aBn{k0:Nat}{t:Tr}(h:TrX k0 t)(hk:k0≤48):(acP (abN (aas t))).length≤2^18:=by
 have h1: ∀L∈abN (aas t),(adt (abr L)).length≤48:=fun L hL=>by
  obtain⟨c,hc,rfl⟩:=bJ.1 hL
  have h2:=adG h.lb h.ok c hc
  have h3:=am7 (c.map (·.l))
  have h4:=h.dp
  rw[aK] at h3
  rw[amg];omega
 have h2:=aq3 h1
 have h3:=ahd t
 have h4:=h.s
 have h5:(abN (aas t)).length=(aas t).length:=aK ..
 unfold acP
 rw[h5] at h2
 have:(aas t).length*48≤3001*48:=bK 48 (by omega)
 omega
theorem aD2{k0:Nat}{t:Tr}(h:TrX k0 t)(hk:k0≤48):asc (aas t):=by
 obtain⟨D,hD0,hD1,hv⟩:=axR h
 have hDa:D≤2^887040:=by
  generalize hE:887040=kE
  exact cW hD1 (bV (by decide) (by
   have:k0*k0≤48*48:=iJ hk hk
   omega))
 obtain⟨B,hB⟩: ∃B,B=2^385:=⟨_,rfl⟩
 rw[←hB] at hv
 have sqp: ∀X a b:Nat,X=2^a→a+a=b→X*X=2^b:=fun X a b h k=>by rw[h,←k,eX]
 have hBB:B*B=2^770:=sqp B 385 770 hB rfl
 have hp: ∀x∈acP (abN (aas t)),DP D B x.1∧DP D B x.2:=fun x hx=>by
  obtain⟨c,hc,h1,h2⟩:=atu hx
  exact⟨hv c hc _ h1,hv c hc _ h2⟩
 have hpt: ∀x∈acP (abN (aas t)),BPt x.1 1200∧BPt x.2 1200:=fun x hx=>by
  obtain⟨c,hc,h1,h2⟩:=atu hx
  have hb: ∀l∈c.map (·.l),LB l:=fun l hl=>by
   obtain⟨s,hs,rfl⟩:=bJ.1 hl
   exact ahf h.lb h.ok c hc s hs
  exact⟨ak8 hb _ h1,ak8 hb _ h2⟩
 have hlen:=aBn h hk
 have hDD:=pw2 hDa hDa
 have hc: ∀x∈acP (abN (aas t)),DQ (D*D) (2*(B*B)) (x.1.cross x.2):=fun x hx=>(hp x hx).1.cross (hp x hx).2
 have hn:2^18*(2*(B*B))≤2^789:=by rw[hBB];decide+kernel
 have hs: ∀{u v u' v':Rat},DQ D B u→DQ D B v→DQ D B u'→DQ D B v'→ ∀{c:Rat},DQ (D*D) (2*(B*B)) c→DQ (D*D*(D*D)) (2^1544) ((u*v+u'*v'+(u+u')*(v+v'))*c):=fun hu hv hu' hv' c hc=>by
  refine DQ.mono ((((hu.mul hv).add (hu'.mul hv')).add ((hu.add hu').mul (hv.add hv'))).mul hc) ?_
  rw[show(B+B)*(B+B)=4*(B*B) by rw[cS,dY];omega,hBB]
  decide+kernel
 have hfin:2^18*2^1544≤2^1562:=by decide+kernel
 have fin: ∀f:PtQ×PtQ→Rat,(∀x∈acP (abN (aas t)),DQ (D*D*(D*D)) (2^1544) (f x))→ ∀k,BQ (aaW f ((acP (abN (aas t))).take k)) 4000000:=fun f hf k=>
  ap6 (alb hf hlen k) (gS (gS hD0 hD0) (gS hD0 hD0)) (pw2 hDD hDD) hfin (by decide)
 refine⟨⟨ahf h.lb h.ok,fun c hc=>?_,?_,hpt⟩,fun x hx=>?_,fun k=>?_,fun k=>?_,fin _ fun x hx=>?_,fin _ fun x hx=>?_,fin _ fun x hx=>?_⟩
 ·have:=adG h.lb h.ok c hc;have:=h.dp;omega
 ·have:=ahd t;have:=h.s;omega
 ·haveI:=(hpt x hx).1
  haveI:=(hpt x hx).2
  exact BQ.mono (inferInstance:BQ (x.1.cross x.2) _) (by decide)
 ·exact ap6 (alb hc hlen k) (gS hD0 hD0) hDD hn (by decide)
 ·have hm: ∀x∈acP (abN (aas t)),DP (D*(D*D)) ((B+B)*(2*(B*B))) (aGB x):=fun x hx=>((hp x hx).1.add (hp x hx).2).scale (hc x hx)
  have hb:2^18*((B+B)*(2*(B*B)))≤2^1175:=by
   rw[hBB,hB];decide+kernel
  have h3:=pw2 hDa hDD
  have h0:=gS hD0 (gS hD0 hD0)
  exact⟨ap6 (alb (fun x hx=>(hm x hx).x) hlen k) h0 h3 hb (by decide),ap6 (alb (fun x hx=>(hm x hx).y) hlen k) h0 h3 hb (by decide)⟩
 ·exact hs (hp x hx).1.x (hp x hx).1.x (hp x hx).2.x (hp x hx).2.x (hc x hx)
 ·exact hs (hp x hx).1.x (hp x hx).1.y (hp x hx).2.x (hp x hx).2.y (hc x hx)
 ·exact hs (hp x hx).1.y (hp x hx).1.y (hp x hx).2.y (hp x hx).2.y (hc x hx)
theorem imD{C:Ctx}{n:Nat}{Q0:Exit→Act→World→Prop}{fr:FrX}{own:OwX}{K:List Kt}{P:Program}(nm:Nat){ty:TypeId}{cs:List FX}{ds:List DV}{lo:Bool}{own1:OwX}{c:Code}(ds':List DV)(hl:aap own nm=some (.o ty cs lo))(hc:adV cs=some ds)(hi: ∀G m,IsLs G ds m→IsLs G ds' m)(ho:axv own nm (some (.o ty (ds'.map .d) lo)) id=own1)(h:CfS P GB C n Q0 fr own1 (.code c K)):CfS P GB C n Q0 fr own (.code c K):=by
 rw[afs] at ho
 subst ho
 refine⟨fun ρ G ov a w r=>?_⟩
 have old: ∀m B,aap (al8 own nm (some (.o ty (ds'.map .d) lo))) m=some B→ ∃B0,aap own m=some B0:=fun m B e=>by
  rw[acB] at e
  split at e
  ·rename_i hm;subst hm;exact⟨_,hl⟩
  ·exact⟨_,e⟩
 refine SX.run h ρ G ov a w ⟨r.gb,r.h,r.sz,r.df,r.fx,fun m B e=>?_,fun m m' B B' e e'=>?_,r.fxd⟩
 ·rw[show id (al8 own nm (some (.o ty (ds'.map .d) lo)))=al8 own nm (some (.o ty (ds'.map .d) lo)) from rfl,acB] at e
  split at e
  ·rename_i hm;subst hm;cases e
   obtain⟨os,⟨b,q,h1,rfl,h2⟩,h3⟩:=r.bx _ _ hl
   exact⟨_,⟨b,q,h1,rfl,afV (hi G q (acN h2 hc))⟩,h3⟩
  ·exact r.bx _ _ e
 ·obtain⟨B0,h0⟩:=old _ _ e
  obtain⟨B1,h1⟩:=old _ _ e'
  exact r.dj m m' B0 B1 h0 h1
theorem aoK{t:Tr}(h:t.all LnQ.ok):aET (adO t [])=abN (aas t):=avK h
def eM(a b c d e f:Rat):DV:= .ag [(.v (.bool (decide ((a).num<0)))),(dN (a).num.natAbs),(dD (a).den),(.v (.bool (decide ((b).num<0)))),(dN (b).num.natAbs),(dD (b).den),(.v (.bool (decide ((c).num<0)))),(dN (c).num.natAbs),(dD (c).den),(.v (.bool (decide ((d).num<0)))),(dN (d).num.natAbs),(dD (d).den),(.v (.bool (decide ((e).num<0)))),(dN (e).num.natAbs),(dD (e).den),(.v (.bool (decide ((f).num<0)))),(dN (f).num.natAbs),(dD (f).den)]
def zq3:List DV:=[.v (.bool (decide ((0:Rat).num<0))),dN (0:Rat).num.natAbs,dD (0:Rat).den]
theorem aEz:zq3=[vB false, .sl [], .sl []]:=by unfold zq3;rw[show dN (0:Rat).num.natAbs= .sl [] from acW];rfl
theorem aFH{j:Nat}(h:j<4):([vI 1,vI 2,vI 3,vI 4]:List DV)[((j:Nat):Int).toNat]? =some (vI (1+(j:Int))):=by
 have:j=0∨j=1∨j=2∨j=3:=by omega
 rcases this with rfl|rfl|rfl|rfl<;>rfl
theorem aoy{b:Nat}{es:List Int}(hes:es.length≤400){a:Nat}(ha:a≤es.length){n:Int}(hn:n=0):PM GB prog 9 (mkP [none,some (.v (.int .i64 n))] b) b 87 [.sl (es.map vI), .v (.int .i64 (a:Nat))] (eT (ae9 es 0 a).1) [.sl (es.map vI), .v (.int .i64 ((ae9 es 0 a).2:Nat))]:=by
 refine fnM (fu:=⟨9⟩) func9 J J ntmps9 J J (fun C b m lo hmb=>?_)
 refine knF rfl (by show some (decide _)=some false;rw[decide_eq_false (by omega)]) rfl<|cm rfl (fun b=>(amQ hes ha)) rfl<|?_
 exact rzM hmb J J J J
theorem aoV{b:Nat}{es:List Int}(hes:es.length≤400){a:Nat}(ha:a≤es.length){d:Nat}{n:Int}(hn:n=((d+1:Nat):Int))(hd:d≤1)(ih: ∀{GB:Gh} {b a:Nat} {n:Int},a≤es.length→n=(d:Int)→PM GB prog 9 (mkP [none,some (.v (.int .i64 n))] b) b 87 [.sl (es.map vI), .v (.int .i64 (a:Nat))] (eT (ae9 es d a).1) [.sl (es.map vI), .v (.int .i64 ((ae9 es d a).2:Nat))]):PM GB prog 9 (mkP [none,some (.v (.int .i64 n))] b) b 87 [.sl (es.map vI), .v (.int .i64 (a:Nat))] (eT (ae9 es (d+1) a).1) [.sl (es.map vI), .v (.int .i64 ((ae9 es (d+1) a).2:Nat))]:=by
 have hk0:=aaS (n:=3) ha
 obtain⟨g1,_,_,g2⟩:=ajm (d:=d) hk0
 have hj:=aaS (n:=4) g2
 have hjl:=abB (es:=es) (n:=4) (a:=(ae9 es d (aaf es 3 a).2).2) (by decide)
 obtain⟨g3,_,_,g4⟩:=ajm (d:=d) hj
 have hpw:12*2^d≤12*2^1:=dS _ (bV (by decide) hd)
 refine fnM (fu:=⟨9⟩) func9 J J ntmps9 J J (fun C b m lo hmb=>?_)
 refine knT rfl (by show some (decide _)=some true;rw[decide_eq_true (by omega)]) rfl<|cm rfl (fun b=>(adq (n:=3) hes ha (by decide) (by decide))) rfl<|?_
 refine br J J J (fun hc12=>?_) (fun hc12=>?_)
 ·
  refine cm rfl (fun b=>(ih hk0 (by omega))) rfl<|rf J J<|cm rfl (fun b=>(adq (n:=4) hes g2 (by decide) (by decide))) rfl<|ix (vI (1+((aaf es 4 (ae9 es d (aaf es 3 a).2).2).1:Int))) rfl (aFH (by omega)) rfl<|?_
  refine cm rfl (fun b=>(ih hj (by omega))) rfl<|cl rfl (amf (op:=1+((aaf es 4 (ae9 es d (aaf es 3 a).2).2).1:Int)) (t:=(ae9 es d (aaf es 3 a).2).1) (u:=(ae9 es d (aaf es 4 (ae9 es d (aaf es 3 a).2).2).2).1) (c:=[]) g3.gd.lb g3.gd.ok g1.gd.lb g1.gd.ok (fun m h=>by cases h) (fun m h=>by cases h) (by have:=g1.dp;have:=g3.dp;rw[gX];omega)) rfl<|?_
  exact rzM hmb J J (by rw[show ae9 es (d+1) a=_ from if_pos hc12];show eT (Tr.mergeL _ _ _ _)=eT (Tr.mergeQ _ _ _ _);rw[Tr.mergeL_nil (by omega) g1.gd.ok g3.gd.ok]) (by rw[show ae9 es (d+1) a=_ from if_pos hc12])
 ·
  refine cm rfl (fun b=>(amQ hes hk0)) rfl<|?_
  exact rzM hmb J J (by rw[show ae9 es (d+1) a=_ from if_neg hc12];rfl) (by rw[show ae9 es (d+1) a=_ from if_neg hc12])
theorem asJ{es:List Int}(hes:es.length≤400): ∀{d:Nat} {GB:Gh} {b a:Nat} {n:Int},d≤2→a≤es.length→n=(d:Int)→PM GB prog 9 (mkP [none,some (.v (.int .i64 n))] b) b 87 [.sl (es.map vI), .v (.int .i64 (a:Nat))] (eT (ae9 es d a).1) [.sl (es.map vI), .v (.int .i64 ((ae9 es d a).2:Nat))]
 |0,_,_,_,_,_,ha,hn=>aoy hes ha hn
 |d+1,_,_,_,_,hd,ha,hn=>aoV hes ha hn (by omega) (fun h1 h2=>asJ hes (by omega) h1 h2)
theorem aCt{es:List Int}(hes:es.length≤400){a d b:Nat}(ha:a≤es.length)(hd:d≤2):PM GB prog 9 (mkP [none,some (.v (.int .i64 (d:Nat)))] b) b 87 [.sl (es.map vI), .v (.int .i64 (a:Nat))] (eT (ae9 es d a).1) [.sl (es.map vI), .v (.int .i64 ((ae9 es d a).2:Nat))]:=asJ (GB:=GB) hes hd ha rfl
theorem clT{C:Ctx}{n:Nat}{Q0:Exit→Act→World→Prop}{fr fr':FrX}{own own':OwX}{cf cf':Cf}{vc:List Prop}[fu:Fu]{f:FuncId}{ds:List DV}(ha:aCB fr cf=some (f,ds))(hF:PF GB prog f ds (.v (.bool true)))(hgo:goA tt n fu.n fr own cf .tt [] []=⟨vc,fr',own',cf'⟩)(k:CfS prog GB C n Q0 fr' own' cf')
  (hv:aah vc:=by first|exact trivial|(simp only[aah];kernel_rfl)|(simp only[aah];omega)):CfS prog GB C n Q0 fr own cf:=by
 unfold aCB at ha
 split at ha<;>try (cases ha;done)
 rename_i hh
 exact us hh (OpR.to (g:= .tt) (aoR ha hF) fun ρ G y hy=>(aaY (G:=G)).1 hy) hgo hv k
theorem alK{p:Rat}{i:Nat}[hp:BQ p i](hi:i≤100000000:=by decide):PF GB prog 60 [eR p,eR p] (.v (.bool true)):=by
 have:=aA6 (GB:=GB) (p:=p) (q:=p) (i:=i) (j:=i) hi
 rwa [decide_eq_true rfl] at this
def sqA:List ZP:=[(0,0),(2,0),(2,2),(0,2)]
theorem aC3:aaQ sqA:=⟨by decide,by decide,fun p hp=>by
 unfold sqA at hp
 simp only[aT,jY,or_false] at hp
 rcases hp with rfl|rfl|rfl|rfl<;>exact⟨by decide,by decide⟩,by decide⟩
theorem amk: ∀r∈[sqA],aaQ r:=fun r hr=>by rw[aV] at hr;subst hr;exact aC3
def sqT:Tr:=ae0 [sqA] 2
theorem azC:TrX 12 sqT:=(ai4 amk (by decide)).x (anc _ _) (by decide)
theorem ay7:(aas sqT).all ae7=true:=anC azC.ok (aj6 amk)
theorem avF:aaW (fun x=>x.1.cross x.2) (acP (aET (adO sqT [])))=8∧aaW ar6 (acP (aET (adO sqT [])))=128∧aaW arK (acP (aET (adO sqT [])))=128:=by decide+kernel
theorem aCd:adW sqT=((4:Int):Rat):=by
 unfold adW
 rw[←aoK azC.ok,avF.1];decide+kernel
theorem aAx:axy ar6 sqT=mkRat (16:Nat) 3:=by
 unfold axy
 rw[←aoK azC.ok,avF.2.1];decide+kernel
theorem az4:axy arK sqT=mkRat (16:Nat) 3:=by
 unfold axy
 rw[←aoK azC.ok,avF.2.2];decide+kernel
theorem awN{q:Rat}{i:Nat}[h:BQ q i](hi:i≤20000000:=by decide):PF GB prog 16 [eR q,eQ q] (.v (.bool true)):=by
 refine fn func16 J J ntmps16 J J (fun C=>?_)
 refine cl rfl (aqo (q:=q) (i:=i) (by omega)) rfl<|cl rfl (alK (p:=q) (i:=i) (by omega)) rfl<|?_
 exact rz J J
theorem at4:PF GB prog 15 [] (.v (.bool true)):=by
 have hm:=aD2 azC (by decide)
 haveI bA:BQ (adW sqT) 2000003:=hm.area
 haveI b4:BQ ((4:Int):Rat) 4:=⟨by decide,by decide⟩
 haveI b16:BQ (mkRat (16:Nat) 3) 6:=⟨by decide+kernel,by decide+kernel⟩
 refine fn func15 J J ntmps15 J J (fun C=>?_)
 refine cl rfl (aoj (by omega) (by omega)) rfl<|cl rfl (aoj (by omega) (by omega)) rfl<|cl rfl (aoj (by omega) (by omega)) rfl<|cl rfl (aoj (by omega) (by omega)) rfl<|?_
 refine rf J J<|cl rfl (ayE (ps:=[iP 0 0,iP 2 0,iP 2 2,iP 0 2]) (fun p hp=>by
  simp only[aT,jY,or_false] at hp
  rcases hp with rfl|rfl|rfl|rfl<;>exact⟨BQ.int1200 (by decide),BQ.int1200 (by decide)⟩) (by decide)) rfl<|?_
 refine rf J J<|cl rfl (as0 (rs:=[sqA]) (fill:=2) amk (by decide)) rfl<|cl rfl (atx (rs:=[sqA]) (fill:=2) amk (by decide)) rfl<|?_
 refine cl rfl (ap5 (t:=sqT) azC) rfl<|cl (fu:=⟨0⟩) rfl (auc azC (by decide) ay7 hm) rfl<|?_
 refine eqF 20 (.d (.tp [eR ((4:Int):Rat), .v .nilIface])) rfl (by rw[aCd]) ?_
 refine gx rfl<|cl (fu:=⟨0⟩) rfl (aD9 azC (by decide) ay7 hm) rfl<|?_
 refine eqF 25 (.d (.tp [eR (mkRat (16:Nat) 3),eR (axy ar9 sqT),eR (mkRat (16:Nat) 3), .v .nilIface])) rfl (by rw[aAx,az4]) ?_
 refine gx rfl<|cl rfl (aFn (q:=((4:Int):Rat)) (i:=4)) rfl<|cl rfl (anH (n:=4) (by decide) (by decide)) rfl<|cl (fu:=⟨0⟩) rfl (q_C (a:=((4:Int):Rat)) (b:=((4:Int):Rat)) (i:=4) (j:=4)) rfl<|?_
 refine knT rfl (by show some (decide _)=some true;rw[decide_eq_true];decide+kernel) rfl<|cl rfl (aAw (n:=16) (d:=3) (by decide) (by decide) (by decide)) rfl<|?_
 refine cl rfl (aqo (q:=mkRat (16:Nat) 3) (i:=6)) rfl<|clT rfl (alK (p:=mkRat (16:Nat) 3) (i:=6)) rfl<|clT rfl (alK (p:=mkRat (16:Nat) 3) (i:=6)) rfl<|?_
 exact rz J J
theorem agO{t:Tr}(ht:t.all LnQ.ok): ∀c∈aas t,aj8 c:=fun c hc=>ajd ht aaJ.nil (show aj8 [] from .nil) _ (ac1.1 hc)
theorem akp{t:Tr}(ht:t.all LnQ.ok)(hb:(aas t).all ae7=true):adW t=aaW anE (aas t)*mkRat 1 2:=by
 have e:aaW (fun x:PtQ×PtQ=>x.1.cross x.2) (acP (abN (aas t)))=aaW anE (aas t):=by
  unfold acP abN
  rw[aj1,afD]
  refine afd fun c hc=>?_
  rw[←arQ (aeV ht c hc) (agO ht c hc) (dZ.1 hb c hc)]
  unfold adt aDW
  rw[afD]
 unfold adW
 rw[e]
theorem auN{t:Tr}(ht:t.all LnQ.ok)(hb:(aas t).all ae7=true):(aas t).length=0∧adW t=0∨(aas t).length≠0∧adW t≠0:=by
 rw[akp ht hb]
 cases hc:aas t with
 |nil=>exact .inl ⟨rfl,Rat.zero_mul _⟩
 |cons c l=>
  refine .inr ⟨by simp,fun e=>?_⟩
  rw[←hc] at e
  have hp:=ap7 (f:=anE) (l:=aas t) (fun c hc=>aqQ (aeV ht c hc) (agO ht c hc) (dZ.1 hb c hc)) (by rw[hc];simp)
  have h2:mkRat 1 2=1/2:=by decide+kernel
  rw[h2] at e
  grind
theorem aCT{q:Rat}(h:q≠0): ¬Int.sign q.num=0:=fun e=>h (nZ.1 (iV.1 e))
theorem aB1{b:Nat}{es:List Int}(hes:es.length≤400){A:Tr}(hA:A=(ae9 es 2 0).1):PM GB prog 9 (mkP [none,some (vI 2)] b) b 87 [.sl (es.map vI), .v (.int .i64 (0:Nat))] (eT A) [.sl (es.map vI), .v (.int .i64 ((ae9 es 2 0).2:Nat))]:=by
 subst hA;exact aCt hes (bX _) (d:=2) (by decide)
def eCA(L:List LnQ):DV:= .ag [.sl (L.map eL)]
theorem aDd(l:List (List LnQ)):adh 1 (l.map eCA):=fun d hd=>by
 obtain⟨x,_,rfl⟩:=bJ.1 hd
 exact⟨rfl,rfl⟩
theorem aEx(l:List LnQ):adh 6 (l.map eL):=fun d hd=>by
 obtain⟨x,_,rfl⟩:=bJ.1 hd
 exact⟨rfl,rfl⟩
theorem anm: ∀{ls:List LnQ} {c e:aae},aaJ c→aj8 c→(∀l∈ls,l.ok)→abR ls c=some e→aj8 e
 |[],c,e,_,ha,_,h=>by
  obtain rfl:c=e:=by simpa[abR] using h
  exact ha
 |l::t,c,e,hc,ha,hl,h=>by
  have hl':=dK.1 hl
  rw[abR] at h
  split at h
  ·rename_i hb
   exact anm (aaU hc hl'.1 hb).1 (aij hc hl'.1 ha hb) hl'.2 h
  ·exact absurd h (by simp)
theorem ao6{c:aae}(hc:aaJ c)(ha:aj8 c): ∃e,abR (c.map (·.l)) []=some e∧e.map (·.l)=c.map (·.l)∧ae7 e=ae7 c:=by
 have ok: ∀l∈c.map (·.l),l.ok:=fun l hl=>by obtain⟨s,hs,rfl⟩:=bJ.1 hl;exact hc.ok s hs
 have e1: ∀p,InD c p↔InL (c.map (·.l)) p:=fun p=>⟨fun h m hm=>by obtain⟨s,hs,rfl⟩:=bJ.1 hm;exact h s hs,fun h s hs=>h _ (dV hs)⟩
 obtain⟨p,hp⟩:=hc.ne
 obtain⟨e,he⟩:=ahG (c:=[]) aaJ.nil ok ⟨p,(fun s hs=>by cases hs),(e1 p).1 hp⟩
 obtain⟨g,i⟩:=ahP aaJ.nil ok he
 have ka:aj8 e:=anm aaJ.nil (show aj8 [] from .nil) ok he
 have i2: ∀p,InD e p↔InL (c.map (·.l)) p:=fun p=>(i p).trans ⟨fun h=>h.2,fun h=>⟨fun s hs=>(by cases hs),h⟩⟩
 have hl:e.map (·.l)=c.map (·.l):=by rw[←alR ok hc ha e1,←alR ok g ka i2]
 exact⟨e,he,hl,by rw[←azb g,←azb hc,hl]⟩
theorem aDQ{c:aae}(hb: ∀s∈c,LB s.l)(hn:c.length≤100000):PF GB prog 42 [eC c] (eCA (c.map (·.l))):=by
 have hml:(c.map eFr).length=c.length:=aK ..
 refine fn (fu:=⟨15⟩) func42 J J ntmps42 J J (fun C=>?_)
 refine eqF 7 (.d (vI (c.length:Nat))) rfl (by rw[hml]<;>rfl) ?_
 refine gx rfl<|?_
 refine nro 3 0 33 179 6 J J J J J ?_
 refine lp (X:=Nat) (fun k=>[(8, .d (vI (k:Nat))),(3, .ov 3 0)]) (fun k=>[(3,some (.o 51 [.rw 33] true)),(33,some (.b 179 6 (((c.take k).map (·.l)).map eL) true))]) (fun k=>k≤c.length) (fun k=>c.length-k) 0 rfl (bX _) (fun _=>rfl) (fun k hk=>?_)
 have hkl:(((c.take k).map (·.l)).map eL).length≤k:=by rw[aK,aK,cR];omega
 refine br (fu2:=⟨0⟩) J J J (fun hc9=>?_) (fun hc9=>?_)
 ·
  obtain⟨s,hx⟩: ∃u,c[k]? =some u:=⟨_,aQ (by omega)⟩
  haveI:=hb s (aU hx)
  refine ix _ rfl (aav hx) rfl<|cl rfl (aDl (l:=s.l)) rfl<|rf J J<|ap (hv:=by simp only[aah];exact⟨by kernel_rfl,by omega⟩) (((c.take (k+1)).map (·.l)).map eL) rfl (by rw[iX,hx];simp only[bU];rfl) (aEx [s.l]) rfl<|?_
  refine rnE 18 33 rfl ?_
  exact at_ (k+1) ⟨(by omega),(by omega)⟩
 ·
  obtain rfl:k=c.length:=by omega
  rw[cM]
  refine fzC 33 rfl ?_
  refine gx rfl<|?_
  exact rz J J
theorem aox{L:List LnQ}{k:Nat}{l:LnQ}(h:L[k]? =some l):((L.take k).map eLn)++[eLn l]=(L.take (k+1)).map eLn:=by
 rw[iX,h,bU];rfl
theorem arS{L:List LnQ}(hb: ∀l∈L,LB l)(ho: ∀l∈L,l.ok)(hn:L.length≤1000):PF GB prog 105 [eCA L] (.tp [.sl (L.map eLn),vB true]):=by
 have hm:=aei eL L
 refine fn (fu:=⟨13⟩) func105 J J ntmps105 J J (fun C=>?_)
 refine eqF 11 (.d (vI (L.length:Nat))) rfl (by rw[hm]<;>rfl) ?_
 refine gx rfl<|?_
 refine br (fu2:=⟨13⟩) J J J (fun hc12=>?_) (fun hc12=>?_)
 ·
  exact rz rfl (absurd hc12 (by omega))
 ·
  refine eqF 15 (.d (vI (L.length:Nat))) rfl (by rw[hm]<;>rfl) ?_
  refine gx rfl<|?_
  refine nr 4 4 108 9 J J J ?_
  refine lp (X:=Nat) (fun k=>[(16, .d (vI (k:Nat))),(4, .rw 4)]) (fun k=>[(4,some (.b 108 9 ((L.take k).map eLn) true))]) (fun k=>k≤L.length) (fun k=>L.length-k) 0 rfl (bX _) (fun _=>rfl) (fun k hk=>?_)
  have hml:=aei eLn (L.take k)
  rw[cR] at hml
  refine br J J J (fun hc17=>?_) (fun hc17=>?_)
  ·
   obtain⟨l,hx⟩: ∃s,L[k]? =some s:=⟨_,aQ (by omega)⟩
   haveI:=hb l (aU hx)
   refine ix _ rfl (aav hx) rfl<|cl (fu:=⟨3⟩) rfl (azv (l:=l) (ho l (aU hx))) rfl<|?_
   refine kbT 24 rfl ?_
   refine gx rfl<|rf J J<|ap ((L.take (k+1)).map eLn) rfl (aox hx) (aDm [l]) rfl<|?_
   refine rnE 30 4 rfl ?_
   exact at_ (k+1) ⟨(by omega),(by omega)⟩
  ·
   obtain rfl:k=L.length:=by omega
   rw[cM]
   refine fzE 4 rfl ?_
   exact rz J J
theorem awh{L:List LnQ}{e:aae}(hb: ∀l∈L,LB l)(ho: ∀l∈L,l.ok)(hn:L.length≤1000)(h:abR L []=some e):PF GB prog 43 [eCA L] (.tp [eC e, .v .nilIface]):=by
 refine fn func43 J J ntmps43 J J (fun C=>?_)
 refine cl (fu:=⟨11⟩) rfl (arS hb ho hn) rfl<|?_
 refine kbT 12 rfl ?_
 refine gx rfl<|cl (fu:=⟨11⟩) rfl (axB hb ho (by omega) h) rfl<|?_
 refine kbT 20 rfl ?_
 refine gx rfl<|?_
 exact rz J J
def agz(v:List PtQ):Rat:=aaW (fun x=>x.1.cross x.2) (adt v)
theorem asn{v:List PtQ}{k:Nat}{p q:PtQ}(h1:v[k]? =some p)(h2:v[(k+1)%v.length]? =some q):aaW (fun x=>x.1.cross x.2) ((adt v).take (k+1))=aaW (fun x=>x.1.cross x.2) ((adt v).take k)+p.cross q:=aeo _ (apr v h1 h2)
theorem azH{v:List PtQ}{b m:Nat}(hv: ∀p∈v,BPt p b)(hn:v.length≤100000)(hs: ∀k,BQ (aaW (fun x=>x.1.cross x.2) ((adt v).take k)) m)(hb4:b≤10000000)(hm0:m≤100000000):PF GB prog 107 [.sl (v.map eZ)] (eF (agz v*mkRat 1 2)):=by
 have hml:(v.map eZ).length=v.length:=aK ..
 obtain⟨S,hS⟩: ∃S:Nat→Rat,S=fun k=>aaW (fun x=>x.1.cross x.2) ((adt v).take k):=⟨_,rfl⟩
 have hSk: ∀k,BQ (S k) m:=by rw[hS];exact hs
 have h00:S 0=0:=by rw[hS];rfl
 refine fn (fu:=⟨15⟩) func107 J J ntmps107 J J (fun C=>?_)
 refine eqF 7 (.d (vI (v.length:Nat))) rfl (by rw[hml]<;>rfl) ?_
 refine gx rfl<|?_
 refine imB 3 [vI (fn_ (S 0)),vI (fd_ (S 0)),fp_ (S 0)] rfl (fun G m=>by rw[h00];exact zF) rfl ?_
 refine lp (X:=Nat) (fun k=>[(8, .d (vI (k:Nat))),(3, .ov 3 0)]) (fun k=>[(3,some (.o 96 [.d (vI (fn_ (S k))), .d (vI (fd_ (S k))), .d (fp_ (S k))] true))]) (fun k=>k≤v.length) (fun k=>v.length-k) 0 rfl (bX _) (fun _=>rfl) (fun k hk=>?_)
 haveI:=hSk k
 refine br J J J (fun hc9=>?_) (fun hc9=>?_)
 ·
  obtain⟨p,hx⟩: ∃u,v[k]? =some u:=⟨_,aQ (by omega)⟩
  obtain⟨q,hw⟩: ∃w,v[(k+1)%v.length]? =some w:=⟨_,aQ (dX _ (by omega))⟩
  haveI:=hv p (aU hx)
  haveI:=hv q (aU hw)
  have eS:S (k+1)=S k+p.cross q:=by rw[hS];exact asn hx hw
  haveI:BQ (p.cross q) (2*b+2*b+1):=BQ.mono (inferInstance:BQ (p.cross q) _) (by omega)
  refine ix (fu:=⟨14⟩) _ rfl (aav hx) rfl<|?_
  refine eqF 19 (.d (vI (v.length:Nat))) rfl (by rw[hml]<;>rfl) ?_
  refine gx (fu:=⟨1⟩) rfl<|?_
  refine eqF 20 (.d (vI (((k+1)%v.length:Nat):Int))) J J ?_
  refine gx rfl<|ix _ rfl (aav hw) rfl<|cl rfl (ag3 (p:=p) (q:=q) (i:=b) (j:=b) (by omega) (by omega)) rfl<|cl (fu:=⟨0⟩) rfl (acx (p:=S k) (q:=p.cross q) (i:=m) (j:=2*b+2*b+1) (by omega) (by omega)) rfl<|?_
  refine eqF 24 (.d (eF (S (k+1)))) rfl (by rw[eS]) ?_
  refine gx (hv:=by simp only[aah];exact⟨by kernel_rfl,by omega⟩) rfl<|?_
  exact at_ (k+1) ⟨(by omega),(by omega)⟩
 ·
  obtain rfl:k=v.length:=by omega
  have eN:S v.length=agz v:=by rw[hS];show aaW _ (List.take _ _)=_;rw[aW (by rw[amg];exact aM _)];rfl
  refine cl rfl (alr (q:=S v.length) (i:=m) (by omega)) rfl<|?_
  exact rz rfl (by rw[eN];rfl)
theorem ar0{c:aae}{b m:Nat}(hl: ∀s∈c,LB s.l)(hn:c.length≤1000)(hv: ∀p∈abr (c.map (·.l)),BPt p b)(hs: ∀k,BQ (aaW (fun x=>x.1.cross x.2) ((adt (abr (c.map (·.l)))).take k)) m)(hb4:b≤10000000)(hm0:m≤50000000):PF GB prog 45 [eC c] (eF (agz (abr (c.map (·.l)))*mkRat 1 2)):=by
 have hvl:=am7 (c.map (·.l))
 rw[aK] at hvl
 obtain⟨w,hw⟩: ∃w,w=abr (c.map (·.l)):=⟨_,rfl⟩
 rw[←hw] at hv hs hvl⊢
 refine fn func45 J J ntmps45 J J (fun C=>?_)
 refine cl (fu:=⟨0⟩) rfl (as8 (c:=c) hl (by omega)) rfl<|?_
 refine eqF 4 (.d (.sl (w.map eZ))) rfl (by rw[hw]) ?_
 refine gx rfl<|cl rfl (azH (v:=w) (b:=b) (m:=m) hv (by omega) hs hb4 (by omega)) rfl<|?_
 exact rz J J
theorem aya{L:List LnQ}{e:aae}{b m:Nat}{ar:Rat}(har:ar=agz (abr L)*mkRat 1 2)(hb: ∀l∈L,LB l)(ho: ∀l∈L,l.ok)(hn:L.length≤1000)(h:abR L []=some e)(he:e.map (·.l)=L)(hbd:ae7 e=true)(hv: ∀p∈abr L,BPt p b)(hs: ∀k,BQ (aaW (fun x=>x.1.cross x.2) ((adt (abr L)).take k)) m)(hb4:b≤10000000)(hm0:m≤50000000):PF GB prog 12 [eCA L] (.tp [eR ar, .v .nilIface]):=by
 have hel:e.length=L.length:=by rw[←he,aK]
 have hbe: ∀s∈e,LB s.l:=fun s hs=>hb _ (by rw[←he];exact dV hs)
 haveI:BQ ar (m+3):=by
  have h1:=hs (adt (abr L)).length
  rw[cM] at h1
  haveI:BQ (agz (abr L)) m:=h1
  rw[har]
  exact BQ.mono (inferInstance:BQ (agz (abr L)*mkRat 1 2) _) (by omega)
 refine fn func12 J J ntmps12 J J (fun C=>?_)
 refine cl rfl (awh hb ho hn h) rfl<|cl (fu:=⟨0⟩) rfl (azi (c:=e) (by omega)) rfl<|?_
 refine eqF 18 (.d (vB true)) rfl (by rw[hbd]) ?_
 refine kbT 18 rfl ?_
 refine gx rfl<|cl (fu:=⟨0⟩) rfl (ar0 (c:=e) (b:=b) (m:=m) hbe (by omega) (by rw[he];exact hv) (by rw[he];exact hs) hb4 hm0) rfl<|?_
 refine eqF 23 (.d (eF ar)) rfl (by rw[he,har]) ?_
 refine gx rfl<|cl rfl (amY (q:=ar) (i:=m+3) (by omega)) rfl<|?_
 exact rz J J
theorem atw{k0:Nat}{t:Tr}(h:TrX k0 t)(hk0:k0≤900):PF GB prog 41 [eA t] (.tp [.sl ((t.parts []).map ePa), .v .nilIface]):=by
 have hts:=h.s
 have htd:=h.dp
 refine fn func41 J J ntmps41 J J (fun C=>?_)
 refine cl (fu:=⟨12⟩) rfl (aCP h) rfl<|?_
 refine kbT 12 rfl ?_
 refine gx rfl<|cl (fu:=⟨0⟩) rfl (al5 (t:=t) (by omega)) rfl<|knF rfl (by show some (decide _)=some false;rw[decide_eq_false (by omega)]) rfl<|cl rfl (asi h.lb h.ok (by omega) (by omega)) rfl<|?_
 exact rz J J
theorem aEK{k0:Nat}{t:Tr}(h:TrX k0 t)(hk0:k0≤900):PF GB prog 11 [eA t] (.tp [.sl ((abN (aas t)).map eCA), .v .nilIface]):=by
 have hts:=h.s
 have htd:=h.dp
 obtain⟨ps,hps⟩: ∃ps,ps=t.parts []:=⟨_,rfl⟩
 have hpl:=aet t []
 rw[←hps] at hpl
 have hml:(ps.map ePa).length=ps.length:=aK ..
 refine fn func11 J J ntmps11 J J (fun C=>?_)
 refine cl (fu:=⟨0⟩) rfl (atw h hk0) rfl<|?_
 refine eqF 11 (.d (.tp [.sl (ps.map ePa), .v .nilIface])) rfl (by rw[hps]) ?_
 refine gx (fu:=⟨27⟩) rfl<|?_
 refine eqF 18 (.d (vI (ps.length:Nat))) rfl (by rw[hml]<;>rfl) ?_
 refine gx rfl<|?_
 refine nr 6 6 51 1 J J J ?_
 refine lp (X:=List (List LnQ)×Nat) (fun⟨acc,k⟩=>[(19, .d (vI (k:Nat))),(6, .rw 6)]) (fun⟨acc,k⟩=>[(6,some (.b 51 1 (acc.map eCA) true))]) (fun⟨acc,k⟩=>acc++abN (aj5 (ps.drop k))=abN (aas t)∧k≤ps.length) (fun⟨acc,k⟩=>ps.length-k) ⟨[],0⟩ rfl ⟨by rw[hps];rfl,bX _⟩ (fun _=>rfl) (fun⟨acc,k⟩ hk=>?_)
 try dsimp only at hk⊢
 obtain⟨h1,h2⟩:=hk
 have hal:acc.length≤ps.length:=by
  have q1:=congrArg List.length h1
  have q2:(abN (aas t)).length≤ps.length:=by unfold abN aas;rw[aK,aK,hps];exact kZ ..
  rw[aR] at q1;omega
 have ham:(acc.map eCA).length=acc.length:=aK ..
 refine br J J J (fun hc20=>?_) (fun hc20=>?_)
 ·
  obtain⟨⟨b,e⟩,hx⟩: ∃x,ps[k]? =some x:=⟨_,aQ (by omega)⟩
  refine ix _ rfl (aav hx) rfl<|?_
  refine bb J J J (fun hc27=>?_) (fun hc27=>?_)
  ·
   have hec:e∈aas t:=ac1.2 (by rw[←hps,←hc27];exact aU hx)
   have hel:=adG h.lb h.ok e hec
   refine cl rfl (aDQ (c:=e) (ahf h.lb h.ok e hec) (by omega)) rfl<|rf J J<|ap ((acc++[e.map fun s:FrQ=>s.l]).map eCA) rfl (by rw[bU]<;>rfl) (aDd [e.map fun s:FrQ=>s.l]) rfl<|?_
   refine rnE 33 6 rfl ?_
   exact at_ ⟨acc++[e.map (·.l)],k+1⟩ (by dsimp only;exact⟨⟨by rw[←h1,aeO hx,if_pos hc27];simp[abN],by omega⟩,(by omega)⟩)
  ·
   exact at_ ⟨acc,k+1⟩ (by dsimp only;exact⟨⟨by rw[←h1,aeO hx,if_neg (by simp at hc27;rw[hc27];decide)];rfl,by omega⟩,(by omega)⟩)
 ·
  obtain rfl:k=ps.length:=by omega
  obtain rfl:acc=abN (aas t):=by rw[fV] at h1;simpa[aj5,abN] using h1
  refine fzE 6 rfl ?_
  exact rz J J
theorem au4{cs:List aae}{k:Nat}{c:aae}(hx:cs[k]? =some c): ∃R,acP (abN cs)=acP (abN (cs.take k))++(adt (abr (c.map (·.l)))++R):=by
 obtain⟨hk,e⟩:=aS.1 hx
 refine⟨acP (abN (cs.drop (k+1))),?_⟩
 conv=>lhs;rw[←iM k cs,bQ hk,e]
 unfold acP abN
 simp
theorem aqi{α:Type}(P Q R:List α)(j:Nat): ∃n,P++Q.take j=(P++(Q++R)).take n:=by
 by_cases h:j≤Q.length
 ·exact⟨P.length+j,by rw[rU,rU,aW (l:=P) (by omega),show P.length+j-P.length=j by omega,show j-Q.length=0 by omega,nM,nQ]⟩
 ·exact⟨P.length+Q.length,by rw[aW (by omega),←iQ,←aR,List.take_left]⟩
theorem atc{cs:List aae}(h:asc cs){k:Nat}{c:aae}(hx:cs[k]? =some c)(j:Nat):BQ (aaW (fun x=>x.1.cross x.2) ((adt (abr (c.map (·.l)))).take j)) 4000001:=by
 obtain⟨R,e⟩:=au4 hx
 obtain⟨n,e1⟩:=aqi (acP (abN (cs.take k))) (adt (abr (c.map (·.l)))) R j
 obtain⟨n0,e0⟩:=aqi (acP (abN (cs.take k))) (adt (abr (c.map (·.l)))) R 0
 rw[←e] at e1 e0
 rw[nM,nQ] at e0
 have h1:=h.ar n
 have h0:=h.ar n0
 rw[←e1,agW] at h1
 rw[←e0] at h0
 haveI:=h1
 haveI:=h0
 have key: ∀a b:Rat,BQ a 2000000→BQ (a+b) 2000000→BQ b 4000001:=fun a b ha hab=>by
  haveI:=ha
  haveI:=hab
  have:BQ ((a+b)-a) _:=inferInstance
  rw[show(a+b)-a=b by grind] at this
  exact this.mono (by decide)
 exact key _ _ h0 h1
theorem awk{cs:List aae}(h:asc cs){k:Nat}{c:aae}(hx:cs[k]? =some c):BQ (agz (abr (c.map (·.l)))*mkRat 1 2) 4000004:=by
 have h1:=atc h hx (adt (abr (c.map (·.l)))).length
 rw[cM] at h1
 haveI:BQ (agz (abr (c.map (·.l)))) 4000001:=h1
 exact BQ.mono (inferInstance:BQ (agz (abr (c.map (·.l)))*mkRat 1 2) _) (by decide)
def aoH(cs:List aae)(k:Nat):Rat:=aaW (fun c=>agz (abr (c.map (·.l)))*mkRat 1 2) (cs.take k)
theorem apz(cs:List aae):aaW (fun c=>agz (abr (c.map (·.l)))*mkRat 1 2) cs=aaW (fun x=>x.1.cross x.2) (acP (abN cs))*mkRat 1 2:=by
 unfold acP abN
 rw[aj1,afD,Rat.mul_comm,←apP]
 exact afd fun c _=>by unfold agz;rw[Rat.mul_comm]
theorem axQ{cs:List aae}(h:asc cs)(k:Nat):BQ (aoH cs k) 2000003:=by
 have hx: ∃n,acP (abN (cs.take k))=(acP (abN cs)).take n:=by
  refine⟨(acP (abN (cs.take k))).length,?_⟩
  have e:acP (abN cs)=acP (abN (cs.take k))++acP (abN (cs.drop k)):=by
   conv=>lhs;rw[←iM k cs]
   unfold acP abN
   rw[bU,nL]
  rw[e,List.take_left]
 obtain⟨n,hn⟩:=hx
 unfold aoH
 rw[apz,hn]
 haveI:=h.ar n
 exact BQ.mono (inferInstance:BQ (aaW (fun x=>x.1.cross x.2) ((acP (abN cs)).take n)*mkRat 1 2) _) (by decide)
theorem arN{cs:List aae}{k:Nat}{c:aae}(hx:cs[k]? =some c):aoH cs (k+1)=aoH cs k+agz (abr (c.map (·.l)))*mkRat 1 2:=aeo _ hx
theorem auW(t:Tr):aoH (aas t) (aas t).length=adW t:=by
 unfold aoH adW
 rw[cM,apz]
def q3(q:Rat):List DV:=[.v (.bool (decide (q.num<0))),dN q.num.natAbs,dD q.den]
theorem aAC{G:Gh}{m:List Value}(h:IsLs G [vB false, .sl [], .sl []] m):IsLs G [.v (.bool (decide ((0:Rat).num<0))),dN (0:Rat).num.natAbs,dD (0:Rat).den] m:=by
 have:=aEz;unfold zq3 at this;rw[this];exact h
theorem azT{t:Tr}(ht:t.all LnQ.ok)(hb:(aas t).all ae7=true):0≤Int.sign (adW t).num:=by
 rw[ays,akp ht hb]
 have h1:=agi (f:=anE) (l:=aas t) fun c hc=>cN (aqQ (aeV ht c hc) (agO ht c hc) (dZ.1 hb c hc))
 exact aab h1 (by decide+kernel)
theorem akc{ai al ae au:Addr}(hE:EGV GB ai al ae au){es0:List Int}(hb:es0.length≤1125899906842624):PF GB prog 3 [.sl (es0.map vI)] (.v (.bool true)):=by
 obtain⟨es,hee⟩: ∃es,es=es0.take 400:=⟨_,rfl⟩
 have hes:es.length≤400:=by rw[hee];simp;omega
 obtain⟨A,hAe⟩: ∃A,A=(ae9 es 2 0).1:=⟨_,rfl⟩
 obtain⟨hA,hbd,_,hr⟩:=aFb (es:=es) (a:=0) (d:=2) (bX _) (by decide)
 rw[←hAe] at hA hbd hr
 have hm:=aD2 hA (by decide)
 have hz:=auN hA.ok hbd
 haveI:=hm.area
 have hge:=azT hA.ok hbd
 obtain⟨cs,hcs⟩: ∃cs,cs=aas A:=⟨_,rfl⟩
 have hml:((abN cs).map eCA).length=cs.length:=by unfold abN;rw[aK,aK]
 obtain⟨S,hS⟩: ∃S,S=aoH cs:=⟨_,rfl⟩
 have hSk: ∀k,BQ (S k) 2000003:=by rw[hS,hcs];exact axQ hm
 have h00:S 0=0:=by rw[hS];rfl
 have hSn:S cs.length=adW A:=by rw[hS,hcs];exact auW A
 have hcl:=ahd A
 rw[←hcs] at hcl
 have hAs:=hA.s
 refine fn func3 J J ntmps3 J J (fun C=>?_)
 refine cn rfl ((aCS hb hee)) (fun _=>rfl) (fun _=>?_)
 refine cm rfl (fun b=>(aB1 hes hAe)) rfl<|cl rfl (ap5 hA) rfl<|cl rfl (auc hA (by decide) hbd hm) rfl<|cl (fu:=⟨0⟩) rfl (aEK hA (by decide)) rfl<|?_
 refine eqF 24 (.d (.tp [.sl ((abN cs).map eCA), .v .nilIface])) rfl (by rw[hcs]) ?_
 refine gx (fu:=⟨31⟩) rfl<|?_
 refine eqF 34 (.d (vI (cs.length:Nat))) rfl (by rw[hml]<;>rfl) ?_
 refine gx rfl<|?_
 refine imD 8 [.v (.bool (decide ((S 0).num<0))),dN (S 0).num.natAbs,dD (S 0).den] J J (fun G m=>by rw[h00];exact aAC) rfl ?_
 refine lp (X:=Nat) (fun k=>[(35, .d (vI (k:Nat))),(8, .ov 8 0)]) (fun k=>[(8,some (.o 48 [.d (.v (.bool (decide ((S k).num<0)))), .d (dN (S k).num.natAbs), .d (dD (S k).den)] true))]) (fun k=>k≤cs.length) (fun k=>cs.length-k) 0 rfl (bX _) (fun _=>rfl) (fun k hk=>?_)
 haveI:=hSk k
 refine br J J J (fun hc36=>?_) (fun hc36=>?_)
 ·
  obtain⟨c,hx⟩: ∃u,cs[k]? =some u:=⟨_,aQ (by omega)⟩
  have hxc:c∈aas A:=by rw[←hcs];exact aU hx
  have hLx:(abN cs)[k]? =some (c.map (·.l)):=by unfold abN;rw[cJ,hx];rfl
  have hcb:=ahf hA.lb hA.ok c hxc
  have hcg:=aeV hA.ok c hxc
  obtain⟨e,he1,he2,he3⟩:=ao6 hcg (agO hA.ok c hxc)
  have hlb: ∀l∈c.map (·.l),LB l:=fun l hl=>by obtain⟨s,hs,rfl⟩:=bJ.1 hl;exact hcb s hs
  have hlo: ∀l∈c.map (·.l),l.ok:=fun l hl=>by obtain⟨s,hs,rfl⟩:=bJ.1 hl;exact hcg.ok s hs
  have hlen:=adG hA.lb hA.ok c hxc
  have hdp:=hA.dp
  have hos:=atc hm (by rw[←hcs];exact hx)
  obtain⟨ar,har⟩: ∃ar,ar=agz (abr (c.map (·.l)))*mkRat 1 2:=⟨_,rfl⟩
  have eS:S (k+1)=S k+ar:=by rw[hS,har];exact arN hx
  have hab:=awk hm (by rw[←hcs];exact hx)
  rw[←har] at hab
  haveI:=hab
  refine ix _ rfl (aav hLx) rfl<|cl rfl (aya (L:=c.map fun s:FrQ=>s.l) (e:=e) (b:=1200) (m:=4000001) har hlb hlo (by rw[aK];omega) he1 he2 (by rw[he3];exact dZ.1 hbd c hxc) (ak8 hlb) hos (by decide) (by decide)) rfl<|?_
  refine cl rfl (aFn (q:=ar) (i:=4000004)) rfl<|cl (fu:=⟨0⟩) rfl (aez (a:=S k) (b:=ar) (i:=2000003) (j:=4000004)) rfl<|?_
  refine eqF 49 (.d (eQ (S (k+1)))) rfl (by rw[eS]) ?_
  refine gx (hv:=by simp only[aah];exact⟨by kernel_rfl,by omega⟩) rfl<|?_
  exact at_ (k+1) ⟨(by omega),(by omega)⟩
 ·
  obtain rfl:k=cs.length:=by omega
  rw[hSn]
  refine clT rfl at4 rfl<|clT rfl (awN (q:=adW A) (i:=2000003)) rfl<|cl (fu:=⟨0⟩) rfl (q_S (q:=adW A)) rfl<|?_
  rcases hz with⟨h0,h1⟩|⟨h0,h1⟩
  ·
   rw[←hcs] at h0
   refine gx (fu:=⟨0⟩) rfl<|knT (fu:=⟨2⟩) rfl (by show some (decide (Int.sign (adW A).num=0))=some true;rw[h1];rfl) rfl<|?_
   refine eqF 62 (.d (vI (cs.length:Nat))) rfl (by rw[hml]<;>rfl) ?_
   refine gx (fu:=⟨0⟩) rfl<|knT (fu:=⟨0⟩) rfl (by show some (decide _)=some true;rw[decide_eq_true (by omega)]) rfl<|knT J J J<|cl (fu:=⟨0⟩) rfl (q_S (q:=adW A)) rfl<|?_
   refine knT rfl (by show some (decide (0≤Int.sign (adW A).num))=some true;rw[decide_eq_true hge]) rfl<|?_
   exact rz J J
  ·
   rw[←hcs] at h0
   refine gx (fu:=⟨0⟩) rfl<|knF (fu:=⟨2⟩) rfl (by show some (decide (Int.sign (adW A).num=0))=some false;rw[decide_eq_false (aCT h1)]) rfl<|?_
   refine eqF 62 (.d (vI (cs.length:Nat))) rfl (by rw[hml]<;>rfl) ?_
   refine gx (fu:=⟨0⟩) rfl<|knF (fu:=⟨0⟩) rfl (by show some (decide _)=some false;rw[decide_eq_false (by omega)]) rfl<|knT J J J<|cl (fu:=⟨0⟩) rfl (q_S (q:=adW A)) rfl<|?_
   refine knT rfl (by show some (decide (0≤Int.sign (adW A).num))=some true;rw[decide_eq_true hge]) rfl<|?_
   exact rz J J
end Go.Sx
end
section
namespace Go.Sx
open Go Go.Proofs Go.ChangeShapes Go.WideShapes Go.ChangeAt Go.RowKit
def GW(w:World):Gh:=fun b=>match w.heap[b]? with|some (.cells cs _ _)=>some cs.toList|_=>none
theorem GW.sub{w:World}{b:Nat}{cs:List Value}(h:GW w b=some cs): ∃ty fz,w.heap[b]? =some (.cells ⟨cs⟩ ty fz):=by
 unfold GW at h
 split at h
 ·rename_i c t f e
  cases h
  exact⟨t,f,by rw[e]⟩
 ·cases h
theorem GW.of_cell{w:World}{b off:Nat}{v:Value}(h:w.cell? ⟨b,off,none⟩=some v): ∃cs,GW w b=some cs∧cs[off]? =some v:=by
 unfold World.cell? at h
 unfold GW
 split at h
 ·rename_i c t f e
  simp only at e
  refine⟨c.toList,by rw[e],?_⟩
  simpa using h
 all_goals first|(rename_i e;cases h)|cases h
theorem abk.below{w w':World}{G G':Gh}{own:List Own}(h:abk ⟨w,G,[],[],[],none,fun _=>none⟩ own G' w'):Below w.heap.size w w':=
 ⟨h.os,h.tape,h.output,h.size,fun k hk=>h.keep k hk (by simp)⟩
theorem asF{G:Gh}: ∀es:List Int,IsLs G (es.map vI) (es.map fun n=>Value.int .i64 n)
 |[]=> .nil
 |n::t=> .cons (aaY.2 rfl) (asF t)
theorem aA1{base:Nat}{H:Type}{enc:TypeId×Value→H}{P:Program}{w:World}{t e:TypeId}{v:Value}{d:DataW H}{ps:List MemPlace}(ht:P.underlying t=some (.slice e))(he:P.underlying e=some (.int .i64))(hc:P.cellsOf e=1)
  (hv:Value.okWide P w .any base t v)(h:DataW.Trod enc P w 0 (fun _=>true) true t v d ps):
  ∃es:List Int,Is (GW w) (.sl (es.map vI)) v∧(d= .nil∧es=[]∨ ∃sp,d= .slice (lits .i64 es) sp)∧(∀n∈es,(Lit.int .i64 n).wf=true):=by
 obtain⟨a0,len,cap,rfl⟩:=okWide_slice ht hv
 obtain⟨fuel,hf⟩:=h
 rcases open_ints ht he hc hf with⟨hcs,hx⟩|⟨a,len',cap',zs,hcs,_,hl,hm,hz,hx,hcell,hwz⟩
 ·simp[Value.cells] at hcs
  obtain⟨rfl,rfl,rfl⟩:=hcs
  simp only[Prod.mk.injEq] at hx
  exact⟨[],adZ.2 ⟨0,⟨none,0,0⟩,[],rfl,afe.nil _ 0, .nil⟩, .inl ⟨hx.1,rfl⟩,by simp⟩
 ·simp[Value.cells] at hcs
  obtain⟨rfl,rfl,rfl⟩:=hcs
  simp only[Prod.mk.injEq] at hx
  simp only[if_true] at hz
  refine⟨zs.take len,adZ.2 ⟨1,⟨some a,len,cap⟩,(zs.take len).map fun n=>Value.int .i64 n,rfl,⟨by simp;omega,hl,?_⟩,asF _⟩, .inr ⟨_,hx.1⟩,fun n hn=>hwz n (fZ hn)⟩
  by_cases h0:len=0
  ·exact .inl (by simp[h0])
  ·right
   obtain⟨b,off,spot⟩:=a
   have hspot:spot=none:=by simpa[Addr.add] using World.cell?_spot (hcell 0 (by omega))
   subst hspot
   have c0: ∀i,i<zs.length→w.cell? ⟨b,off+i,none⟩=some (.int .i64 (zs.getD i 0)):=fun i hi=>by
    have:=hcell i hi
    rwa [Go.WideShapes.add_plain] at this
   obtain⟨cs,hcs,_⟩:=GW.of_cell (by have h9:=c0 0 (by omega);rw[fQ] at h9;exact h9)
   refine⟨b,off,cs,rfl,hcs,fun i hi=>?_⟩
   simp only[aK,cR] at hi
   obtain⟨cs',hcs',hi'⟩:=GW.of_cell (c0 i (by omega))
   rw[hcs] at hcs'
   cases hcs'
   rw[iK,avh.2 hi']
   simp[aag,List.getD,aQ (show i<zs.length by omega)]
inductive CSh where
 |b
 |i (k:IntKind)
 |sl (ag:Bool) (l:List CSh)
mutual
def Fit:CSh→DV→Prop
 | .b,d=> ∃b,d= .v (.bool b)
 | .i k,d=> ∃n,d= .v (.int k n)∧(Lit.int k n).wf=true
 | .sl ag l,d=> ∃m:List DV,d= .sl m∧m.length≤maxLen∧ ∀x∈m,∃ys,FitL l ys∧((ag=true∧x= .ag ys)∨(ag=false∧ys=[x]))
def FitL:List CSh→List DV→Prop
 |[],ds=>ds=[]
 |s::l,ds=> ∃d t,ds=d::t∧Fit s d∧FitL l t
end
def aCQ(r:TypeId→Option (Bool×List CSh))(P:Program):List Field→Nat→Option (List CSh)
 |[],_=>some []
 |f::fs,o=>match r f.type with
  |some (_,l)=>if f.offset=o∧P.cellsOf f.type=l.length then(aCQ r P fs (o+l.length)).map (l++ ·) else none
  |none=>none
def aDC(P:Program):Nat→TypeId→Option (Bool×List CSh)
 |0,_=>none
 |n+1,t=>match P.underlying t with
  |some .bool=>some (false,[.b])
  |some (.int k)=>some (false,[.i k])
  |some (.slice e)=>match aDC P n e with
   |some (a,l)=>if P.cellsOf e=l.length∧0<l.length then some (false,[.sl a l]) else none
   |none=>none
  |some (.struct fs)=>match aCQ (aDC P n) P fs.toList 0 with
   |some l=>if P.cellsOf t=l.length then some (true,l) else none
   |none=>none
  |_=>none
section
variable {H:Type} {enc:TypeId×Value→H} {P:Program} {w:World}
end
def shI:List CSh:=[.b, .sl false [.i .u32]]
def shL:List CSh:=shI++(shI++shI)
theorem ass: "*" ++ "errors.errorString" = "*errors.errorString" :=by decide
theorem aE6(u:TypeId)(h:Tryz.prog.typeName? 3 u=some "*errors.errorString"):u=405:=
 typeName_ptr_named (nm:= "errors.errorString") (by rw[ass];kernel_rfl) (by kernel_rfl) (by decide) u (by rw[ass];exact h)
theorem alh{W:World}{n:String}{g:Nat}{text:List UInt8}{r:List (String×DataW Unit)}(h:laidMet Tryz.prog ((n, .iface "*errors.errorString" (.ptr (.agg [.lit (.string text)])))::r) W)(hg:Tryz.prog.globalNamed n=some g)(ht:(Tryz.prog.globals[g]?).map (·.type)=some 38):
  ∃a,GW W g=some [.iface 405 (.pointer (some a))]:=by
 obtain⟨a,s,hv,_⟩:=laid_sentinel h hg ht Tryz.underlying38 aE6 Tryz.underlying405 Tryz.underlying430 rfl rfl Tryz.underlying9 (by kernel_rfl) (by kernel_rfl)
 refine⟨a,?_⟩
 unfold World.var? at hv
 rw[hg,Option.bind_some] at hv
 unfold GW
 split at hv
 ·rename_i c t f e
  rw[e];cases hv;rfl
 ·cases hv
theorem ary{W:World}{l:List (String×DataW Unit)}(h:laidMetH Tryz.prog l W)(hp:(l.all fun x=>x.2.handleName?.isNone)=true):laidMet Tryz.prog l W:=by rwa [Go.MakeChecks.laidMetH_plain _ _ _ hp] at h
end Go.Sx
end
