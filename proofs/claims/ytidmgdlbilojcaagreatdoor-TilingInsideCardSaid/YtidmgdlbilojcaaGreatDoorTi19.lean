import Derived.Test.YtidmgdlbilojcaaGreatDoorTi18
set_option linter.unusedSimpArgs false
set_option maxHeartbeats 2000000
set_option maxRecDepth 100000
set_option linter.unusedVariables false
section
namespace Go.Sx
open Go Go.Proofs Tryz
variable {GB:Gh}
theorem ajl{l m:LnQ}(h:crossI l m≠0){p:PtQ}(h1:l.value p=0)(h2:m.value p=0):p=abS l m:=by
 rw[azn h]
 have hd:=anP h
 rw[abH] at h1 h2
 obtain⟨x,y⟩:=p
 have e1:x*l.nor.cross m.nor=(l.b:Rat)*(m.c:Rat)-(l.c:Rat)*(m.b:Rat):=by unfold PtQ.cross LnQ.nor;grind
 have e2:y*l.nor.cross m.nor=(l.c:Rat)*(m.a:Rat)-(l.a:Rat)*(m.c:Rat):=by unfold PtQ.cross LnQ.nor;grind
 generalize l.nor.cross m.nor=d at*
 simp only[PtQ.mk.injEq]
 constructor<;>grind
theorem aha{c:aah}(hb:af1 c=true):c≠[]∧ ∀s∈c,s.v.nl=false∧s.v.nh=false:=by
 unfold af1 at hb
 rw[cX,fK] at hb
 refine⟨fun e=>by rw[e] at hb;simp at hb,fun s hs=>?_⟩
 have:=hb.2 s hs
 simpa using this
theorem azc{c:aah}(hc:aaT c)(ha:aps c)(hb:af1 c=true){i:Nat}{s w:FrQ}(hs:c[i]? =some s)(hw:c[(i+1)%c.length]? =some w):0<s.l.dir.cross w.l.dir∧abS s.l w.l=s.l.at s.v.hi∧w.l.at w.v.lo=s.l.at s.v.hi:=by
 have he:=(aha hb).2
 have ms:=aS hs
 have mw:=aS hw
 have hn:Nxt (c.map fun s=>s.l.dir) s.l.dir w.l.dir:=atJ ha (by rw[cV,hs];rfl) (by rw[aK,cV,hw];rfl)
 obtain⟨h1,h2⟩:=aBI hc ms mw hn (he s ms).2
 have h3:=aA5 hc ms mw hn h1 (he w mw).1
 have hx:crossI s.l w.l≠0:=aDN ((abW _).2 h1)
 refine⟨h1,(ajl hx (acF (hc.ok s ms).ne _) h2).symm,?_⟩
 rw[ajl hx h3 (acF (hc.ok w mw).ne _),ajl hx (acF (hc.ok s ms).ne _) h2]
theorem apD{α β:Type}(f:α→β): ∀l:List α,l.flatMap (fun x=>[f x])=l.map f
 |[]=>rfl
 |a::t=>by rw[nL,apD f t];rfl
theorem akB{α β:Type}{f g:α→List β}: ∀{l:List α},(∀x∈l,f x=g x)→l.flatMap f=l.flatMap g
 |[],_=>rfl
 |a::t,h=>by rw[nL,nL,h a aZ,akB fun x hx=>h x (aJ _ hx)]
theorem akk{c:aah}(hc:aaT c)(ha:aps c)(hb:af1 c=true):agj (c.map (·.l))=c.map fun s=>s.l.at s.v.hi:=by
 unfold agj
 rw[aK]
 have h0: ∀i∈List.range c.length,au3 (c.map (·.l)) i=[(c.map fun s=>s.l.at s.v.hi).getD i ⟨0,0⟩]:=fun i hi=>by
  have hi':=kL.1 hi
  obtain⟨s,hs⟩: ∃s,c[i]? =some s:=⟨_,aQ hi'⟩
  obtain⟨w,hw⟩: ∃w,c[(i+1)%c.length]? =some w:=⟨_,aQ (cY _ (by omega))⟩
  obtain⟨h1,h2,h3⟩:=azc hc ha hb hs hw
  rw[alW (l:=s.l) (m:=w.l) (by rw[cV,hs];rfl) (by rw[aK,cV,hw];rfl),if_pos ((abW _).2 h1),h2,aX,cV,hs];rfl
 rw[akB h0,apD]
 refine List.ext_getElem (by simp) fun i h1 h2=>?_
 rw[kY,List.getElem_range,aX,aQ (by simpa using h2)];rfl
def auK{α:Type}(f:α→Rat):List α→Rat
 |[]=>0
 |a::t=>f a+auK f t
def aIM(f:PtQ→PtQ→Rat)(v:List PtQ):Rat:=auK (fun i=>f (v.getD i ⟨0,0⟩) (v.getD ((i+1)%v.length) ⟨0,0⟩)) (List.range v.length)
def aIt(c:aah):Rat:=auK (fun s=>(s.v.hi-s.v.lo)*(s.l.c:Rat)) c

def eCl(x:List LnQ×Bool):DV:= .ag [.sl (x.1.map eL),vB x.2]
def eSd(c:List LnQ):DV:= .sl (c.map eL)
def aFx(ps:List (List LnQ×Bool)):List (List LnQ):=(ps.filter (·.2)).map (·.1)
def eRp(v:List PtQ):DV:= .sl (v.map eP)
structure EGU (GB:Gh) (ai al ae au:Addr):Prop extends EG GB ai al ae where
 ErrUnbounded:GB 1=some [.iface 405 (.pointer (some au))]
theorem aG2{α:Type}{f:α→DV}{l:List α}{s:α}(h:l[0]? =some s):(l.map f)[(0:Int).toNat]? =some (f s):=by simp[h]
def alf(c:aah):List (List PtQ):=am4 (agj (c.map (·.l)))
theorem anB(c:List LnQ):(agj c).length≤c.length:=amj c _
theorem aph{v:List PtQ}{i:Nat}{a b d:PtQ}(h0:v[0]? =some a)(h1:v[i+1]? =some b)(h2:v[i+2]? =some d):awV v i=[a,b,d]:=by
 unfold awV
 rw[aX,aX,aX,h0,h1,h2];rfl
theorem awW{c:List LnQ}(hb: ∀l∈c,LB l): ∀p∈agj c,BPt p 1200:=fun p hp=>by
 obtain⟨l,hl,m,hm,rfl⟩:=awX hp
 have:= @BPt.imeet l m (hb l hl) (hb m hm)
 exact⟨this.x.mono (by decide),this.y.mono (by decide)⟩
theorem aBN{v r:List PtQ}(h:r∈am4 v): ∀p∈r,p∈v:=fun p hp=>by
 obtain⟨i,hi,rfl⟩:=bJ.1 h
 have hi':=kL.1 hi
 have e:awV v i=_:=aph (aQ (show 0<v.length by omega)) (aQ (show i+1<v.length by omega)) (aQ (show i+2<v.length by omega))
 rw[e] at hp
 simp only[aU,iR,or_false] at hp
 rcases hp with rfl|rfl|rfl<;>exact cZ _
theorem aqU{ai al ae au:Addr}(hE:EGU GB ai al ae au){k0:Nat}{t:Tr}(h:TrX k0 t)(hk0:k0≤900)(hr:t.restrict []=t)(hbd:(aaL t).all af1=true):PF GB prog 71 [eA t] (.tp [.sl (((aaL t).flatMap alf).map eRz), .v .nilIface]):=by
 have hts:=h.s
 have htd:=h.dp
 obtain⟨cs,hcs⟩: ∃cs,cs=aaL t:=⟨_,rfl⟩
 have hcl:=ai2 t
 have hcn:=agf h.lb h.ok
 have hlb:=aqa h.lb h.ok
 rw[←hcs] at hcl hcn hlb hbd
 have hml:(cs.map eC).length=cs.length:=aK ..
 refine fn func71 J J ntmps71 J J (fun C=>?_)
 refine cl (fu:=⟨12⟩) rfl (aC2 h) rfl<|?_
 refine kbT 17 rfl ?_
 refine gx rfl<|cl (fu:=⟨0⟩) rfl (aoC (t:=t) (by omega)) rfl<|knF rfl (by show some (decide _)=some false;rw[decide_eq_false (by omega)]) rfl<|cl (fu:=⟨0⟩) rfl (awF (t:=t) h.lb h.ok (by omega)) rfl<|?_
 refine eqF 26 (.d (eU t)) rfl (by rw[hr]) ?_
 refine gx rfl<|cl (fu:=⟨0⟩) rfl (aDx (t:=t) hcs h.lb h.ok (by omega) (by omega)) rfl<|knF rfl (by show some _=some false;rw[hbd];rfl) rfl<|cl (fu:=⟨0⟩) rfl (atM h.lb h.ok (by omega) (by omega)) rfl<|?_
 refine eqF 32 (.d (.sl (cs.map eC))) rfl (by rw[hcs]) ?_
 refine gx (fu:=⟨1⟩) rfl<|?_
 refine eqF 33 (.d (vI (cs.length:Nat))) rfl (by rw[hml]<;>rfl) ?_
 refine gx rfl<|?_
 refine nr 6 6 155 1 J J J ?_
 refine lp (X:=List (List PtQ)×Nat) (fun⟨acc,k⟩=>[(34, .d (vI (k:Nat))),(6, .rw 6)]) (fun⟨acc,k⟩=>[(6,some (.b 155 1 (acc.map eRz) true))]) (fun⟨acc,k⟩=>acc=(cs.take k).flatMap alf∧k≤cs.length∧acc.length≤1000*k) (fun⟨acc,k⟩=>cs.length-k) ⟨[],0⟩ rfl ⟨rfl,bX _,bX _⟩ (fun _=>rfl) (fun⟨acc,k⟩ hk=>?_)
 try dsimp only at hk⊢
 obtain⟨h1,h2,h3⟩:=hk
 refine br J J J (fun hc35=>?_) (fun hc35=>?_)
 ·
  obtain⟨c,hx⟩: ∃u,cs[k]? =some u:=⟨_,aQ (by omega)⟩
  have hcm:=aS hx
  have hcn1:=hcn c hcm
  obtain⟨v,hv⟩: ∃v,v=agj (c.map (·.l)):=⟨_,rfl⟩
  have hvl:=anB (c.map (·.l))
  rw[←hv,aK] at hvl
  have hvm:(v.map eZ).length=v.length:=aK ..
  refine ix _ rfl (aaq hx) rfl<|cl (fu:=⟨0⟩) rfl (azX (c:=c) (hlb c hcm) (by omega)) rfl<|?_
  refine eqF 39 (.d (.sl (v.map eZ))) rfl (by rw[hv]) ?_
  refine gx (fu:=⟨7⟩) rfl<|?_
  refine eqF 41 (.d (vI (v.length:Nat))) rfl (by rw[hvm]<;>rfl) ?_
  refine gx rfl<|?_
  refine lp (X:=List (List PtQ)×Nat) (fun⟨acc2,i⟩=>[(43, .d (vI (i:Nat))),(6, .rw 6)]) (fun⟨acc2,i⟩=>[(6,some (.b 155 1 (acc2.map eRz) true))]) (fun⟨acc2,i⟩=>acc2=acc++(List.range i).map (awV v)∧i≤v.length-2∧acc2.length≤1000*k+i) (fun⟨acc2,i⟩=>v.length-i) ⟨acc,0⟩ rfl ⟨by simp,bX _,h3⟩ (fun _=>rfl) (fun⟨acc2,i⟩ hk=>?_)
  try dsimp only at hk⊢
  obtain⟨g1,g2,g3⟩:=hk
  have ham:(acc2.map eRz).length=acc2.length:=aK ..
  refine br J J J (fun hc44=>?_) (fun hc44=>?_)
  ·
   obtain⟨p0,h0⟩: ∃u,v[0]? =some u:=⟨_,aQ (by omega)⟩
   obtain⟨p1,e1⟩: ∃u,v[i+1]? =some u:=⟨_,aQ (by omega)⟩
   obtain⟨p2,e2⟩: ∃u,v[i+2]? =some u:=⟨_,aQ (by omega)⟩
   refine ix (fu:=⟨4⟩) _ rfl (aG2 h0) rfl<|?_
   refine eqF 52 (.d (vI ((i+1:Nat):Int))) J J ?_
   refine gx rfl<|ix (fu:=⟨4⟩) _ rfl (aaq e1) rfl<|?_
   refine eqF 57 (.d (vI ((i+2:Nat):Int))) J J ?_
   refine gx rfl<|ix _ rfl (aaq e2) rfl<|rf J J<|rf J J<|ap (hv:=by simp only[aaj];exact⟨by kernel_rfl,by omega⟩) ((acc2++[[p0,p1,p2]]).map eRz) rfl (by rw[bV]<;>rfl) (aDX [[p0,p1,p2]]) rfl<|?_
   refine rnE 62 6 rfl ?_
   exact at_ ⟨acc2++[[p0,p1,p2]],i+1⟩ (by dsimp only;exact⟨⟨by rw[atc,←fT,←g1,aph h0 e1 e2],by omega,by rw[aV,gQ];omega⟩,(by omega)⟩)
  ·
   have hA:acc2=acc++am4 v:=by rw[g1];unfold am4;rw[show i=v.length-2 by omega]
   exact at_ ⟨acc2,k+1⟩ (by dsimp only;exact⟨⟨by rw[hA,gR,hx,mZ,←h1];simp[alf,←hv],by omega,by omega⟩,(by omega)⟩)
 ·
  have hS:(aaL t).flatMap alf=acc:=by rw[h1,aR (by omega),hcs]
  refine fzE 6 rfl ?_
  exact rz rfl (by rw[hS];rfl)
theorem aAF{v:List PtQ}(hb: ∀p∈v,BPt p 1200)(hn:v.length≤1000000):PF GB prog 136 [eRz v] (eRa v):=by
 have hml:(v.map eZ).length=v.length:=aK ..
 refine fn (fu:=⟨15⟩) func136 J J ntmps136 J J (fun C=>?_)
 refine eqF 7 (.d (vI (v.length:Nat))) rfl (by rw[hml]<;>rfl) ?_
 refine gx rfl<|?_
 refine nr 3 3 65 6 J J J ?_
 refine lp (X:=Nat) (fun k=>[(8, .d (vI (k:Nat))),(3, .rw 3)]) (fun k=>[(3,some (.b 65 6 ((v.take k).map ePt) true))]) (fun k=>k≤v.length) (fun k=>v.length-k) 0 rfl (bX _) (fun _=>rfl) (fun k hk=>?_)
 have ham:((v.take k).map ePt).length=k:=by rw[aK,cJ];omega
 refine br J J J (fun hc9=>?_) (fun hc9=>?_)
 ·
  obtain⟨p,hx⟩: ∃u,v[k]? =some u:=⟨_,aQ (by omega)⟩
  haveI:=hb p (aS hx)
  refine ix _ rfl (aaq hx) rfl<|cl rfl (at7 (p:=p) (i:=1200)) rfl<|rf J J<|ap ((v.take (k+1)).map ePt) rfl (by rw[gR,hx,bV]<;>rfl) (atz [p]) rfl<|?_
  refine rnE 16 3 rfl ?_
  exact at_ (k+1) ⟨(by omega),(by omega)⟩
 ·
  have hS:v.take k=v:=aR (by omega)
  refine fzE 3 rfl ?_
  exact rz rfl (by rw[hS];rfl)
theorem aAu{ai al ae au:Addr}(hE:EGU GB ai al ae au){k0:Nat}{t:Tr}(h:TrX k0 t)(hk0:k0≤900)(hr:t.restrict []=t)(hbd:(aaL t).all af1=true){ts:List (List PtQ)}(hts:ts=(aaL t).flatMap alf)(hb: ∀r∈ts,(∀p∈r,BPt p 1200)∧r.length≤1000)(hn:ts.length≤100000000):PF GB prog 75 [eA t] (.tp [.sl (ts.map eRa), .v .nilIface]):=by
 have hml:(ts.map eRz).length=ts.length:=aK ..
 refine fn func75 J J ntmps75 J J (fun C=>?_)
 refine cl (fu:=⟨0⟩) rfl (aqU hE h hk0 hr hbd) rfl<|?_
 refine eqF 11 (.d (.tp [.sl (ts.map eRz), .v .nilIface])) rfl (by rw[hts]) ?_
 refine gx (fu:=⟨27⟩) rfl<|?_
 refine eqF 18 (.d (vI (ts.length:Nat))) rfl (by rw[hml]<;>rfl) ?_
 refine gx rfl<|?_
 refine nr 6 6 160 1 J J J ?_
 refine lp (X:=Nat) (fun k=>[(19, .d (vI (k:Nat))),(6, .rw 6)]) (fun k=>[(6,some (.b 160 1 ((ts.take k).map eRa) true))]) (fun k=>k≤ts.length) (fun k=>ts.length-k) 0 rfl (bX _) (fun _=>rfl) (fun k hk=>?_)
 have ham:((ts.take k).map eRa).length=k:=by rw[aK,cJ];omega
 refine br J J J (fun hc20=>?_) (fun hc20=>?_)
 ·
  obtain⟨r,hx⟩: ∃u,ts[k]? =some u:=⟨_,aQ (by omega)⟩
  have hrb:=hb r (aS hx)
  refine ix _ rfl (aaq hx) rfl<|cl rfl (aAF (v:=r) hrb.1 (by omega)) rfl<|rf J J<|ap ((ts.take (k+1)).map eRa) rfl (by rw[gR,hx,bV]<;>rfl) (aCQ [r]) rfl<|?_
  refine rnE 27 6 rfl ?_
  exact at_ (k+1) ⟨(by omega),(by omega)⟩
 ·
  have hS:ts.take k=ts:=aR (by omega)
  refine fzE 6 rfl ?_
  exact rz rfl (by rw[hS];rfl)

theorem auB{t:Tr}(h:t.all LnQ.ok):aFx (ad4 t [])=(aaL t).map fun c=>c.map (·.l):=aEO h
theorem arJ{t:Tr}(h:t.all LnQ.ok):awf (aFx (ad4 t []))=(aaL t).flatMap alf:=by
 rw[auB h]
 unfold awf
 rw[List.flatMap_map]
 rfl
theorem axe(c:aah):(alf c).length≤c.length:=by
 unfold alf am4
 rw[aK,pJ]
 have:=anB (c.map (·.l))
 rw[aK] at this;omega
theorem apH{α β:Type}{f:α→List β}{k:Nat}: ∀{l:List α},(∀x∈l,(f x).length≤k)→(l.flatMap f).length≤l.length*k
 |[],_=>by simp
 |a::t,h=>by
  have h1:=h a aZ
  have h2:=apH (f:=f) fun x hx=>h x (aJ a hx)
  rw[nL,aV,bY,iW];omega
theorem avn{k0:Nat}{t:Tr}(h:TrX k0 t)(hk0:k0≤900):((aaL t).flatMap alf).length≤2700900∧ ∀r∈(aaL t).flatMap alf,(∀p∈r,BPt p 1200)∧r.length=3:=by
 refine⟨?_,fun r hr=>?_⟩
 ·have h1:=apH (f:=alf) (k:=900) (l:=aaL t) fun c hc=>cR (axe c) (cR (agf h.lb h.ok c hc) (cR h.dp hk0))
  have h2:=ai2 t
  have h3:=h.s
  have h4:(aaL t).length*900≤3001*900:=bW 900 (by omega)
  omega
 ·obtain⟨c,hc,hr⟩:=iQ.1 hr
  unfold alf at hr
  have hlb: ∀l∈c.map (·.l),LB l:=fun l hl=>by
   obtain⟨s,hs,rfl⟩:=bJ.1 hl;exact aqa h.lb h.ok c hc s hs
  have hv:=awW hlb
  generalize agj (c.map (·.l))=v at*
  refine⟨fun p hp=>hv p (aBN hr p hp),?_⟩
  unfold am4 at hr
  obtain⟨i,_,rfl⟩:=bJ.1 hr;rfl
def ayA(t:Tr):Prop:= ∃(L:List LnQ) (R:Rat),(∀l∈L,l.ok)∧ ∀p,Off L p→ayI R p→t.val p=false
theorem ayI.mono{R S:Rat}{p:PtQ}(h:ayI S p)(hr:R≤S):ayI R p:=by
 unfold ayI at*
 rcases h with h|h|h|h
 ·left;grind
 ·right;left;grind
 ·right;right;left;grind
 ·right;right;right;grind
theorem ayh(fill:Int):axU fill 0=false:=by
 unfold axU
 simp
theorem aB3{rs:List (List ZP)}{fill:Int}(hr: ∀r∈rs,aaU r){p:PtQ}(hp:ayI 100 p):inR rs fill p=false:=by
 have key: ∀(rs:List (List ZP)),(∀r∈rs,aaU r)→rs.foldl (fun n r=>n+anW r p) (0:Int)=0:=by
  intro rs
  induction rs with
  |nil=>intro _;rfl
  |cons r t ih=>
   intro hr
   have e:anW r p=0:=by
    unfold anW
    rw[alI]
    refine aBF (R:=100) (fun v hv=>?_) hp
    obtain⟨h1,h2⟩:=(hr r aZ).le v hv
    have c: ∀z:Int,z.natAbs≤100→ -(100:Rat)≤(z:Rat)∧(z:Rat)≤100:=fun z hz=>by
     have a:((-100:Int):Rat)≤(z:Rat):=Rat.intCast_le_intCast.2 (by omega)
     have b:(z:Rat)≤((100:Int):Rat):=Rat.intCast_le_intCast.2 (by omega)
     exact⟨a,b⟩
    exact⟨(c _ h1).1,(c _ h1).2,(c _ h2).1,(c _ h2).2⟩
   rw[lX,e]
   exact ih fun r h=>hr r (aJ _ h)
 unfold inR
 rw[key rs hr,ayh]
theorem aCo{rs:List (List ZP)}{fill:Int}(hr: ∀r∈rs,aaU r):(aAb rs fill).all LnQ.ok:=aeK fun f hf=>((acO hr).2 f hf).ok
theorem ajR{rs:List (List ZP)}{fill:Int}(hr: ∀r∈rs,aaU r):ayA (ado rs fill):=
 ⟨(aAb rs fill).lns,100,aeE (aCo hr),fun p ho hp=>by rw[avk hr ho,aB3 hr hp]⟩
theorem atG(op:Int):opB op false false=false:=by
 unfold opB
 split
 ·rfl
 ·split
  ·rfl
  ·split<;>rfl
theorem ayA.merge{a b:Tr}(ha:ayA a)(hb:ayA b)(oa:a.all LnQ.ok)(ob:b.all LnQ.ok)(op:Int):ayA (a.mergeQ op b []):=by
 obtain⟨L,R,h1,h2⟩:=ha
 obtain⟨M,S,k1,k2⟩:=hb
 refine⟨(L++M)++(a.lns++b.lns),if R≤S then S else R,fun l hl=>?_,fun p ho hp=>?_⟩
 ·rcases bZ.1 hl with h|h
  ·exact(bZ.1 h).elim (h1 l) (k1 l)
  ·exact(bZ.1 h).elim (aeE oa l) (aeE ob l)
 ·obtain⟨o1,o2⟩:=Off.app.1 ho
  obtain⟨oL,oM⟩:=Off.app.1 o1
  obtain⟨oA,oB⟩:=Off.app.1 o2
  rw[Tr.val_merge op b ob a [] p oa aaT.nil (fun s hs=>by cases hs) oA oB,h2 p oL (hp.mono (by split<;>grind)),k2 p oM (hp.mono (by split<;>grind)),atG]
theorem aAp{A:Rat}(hA:A≠0)(B:Rat): ∃N:Rat,0≤N∧ ∀n,N≤n→A+n*B≠0:=by
 by_cases hB:B=0
 ·exact⟨0,by decide,fun n _=>by rw[hB];grind⟩
 ·have e:A/B*B=A:=by grind
  generalize A/B=q at*
  refine⟨if 0≤ -q then-q+1 else 0,by split<;>grind,fun n hn h=>?_⟩
  have h2:B*(q+n)=0:=by grind
  rcases fN.1 h2 with k|k
  ·exact hB k
  ·split at hn<;>grind
theorem aBR{L:List LnQ}{p d:PtQ}(h:Off L p): ∃N:Rat,0≤N∧ ∀n,N≤n→Off L (act p d n):=by
 induction L with
 |nil=>exact⟨0,by decide,fun n _ l hl=>by cases hl⟩
 |cons l L ih=>
  obtain⟨N,n0,hN⟩:=ih (h.sub fun m hm=>aJ _ hm)
  obtain⟨M,m0,hM⟩:=aAp (h l aZ) (l.nor.dot d)
  refine⟨N+M,by grind,fun n hn m hm=>?_⟩
  rcases aU.1 hm with rfl|hm
  ·rw[abc];exact hM n (by grind)
  ·exact hN n (by grind) m hm
theorem als{a:Rat}(ha:0<a)(x R:Rat): ∃N:Rat,0≤N∧ ∀n,N≤n→R<x+n*a:=by
 have e:(R-x)/a*a=R-x:=by grind
 generalize (R-x)/a=q at*
 refine⟨if 0≤q then q+1 else 0,by split<;>grind,fun n hn=>?_⟩
 have h2:=aab (show 0<n-q by split at hn<;>grind) ha
 grind
theorem aB6{p d:PtQ}(hd:d≠⟨0,0⟩)(R:Rat): ∃N:Rat,0≤N∧ ∀n,N≤n→ayI R (act p d n):=by
 obtain⟨x,y⟩:=d
 rcases aaR x with h|h|h
 ·rcases aaR y with k|k|k
  ·exact absurd (by rw[h,k]) hd
  ·obtain⟨N,n0,hN⟩:=als k p.y R
   exact⟨N,n0,fun n hn=> .inr (.inr (.inr (hN n hn)))⟩
  ·obtain⟨N,n0,hN⟩:=als (a:= -y) (by grind) (-p.y) R
   exact⟨N,n0,fun n hn=> .inr (.inr (.inl (by have:=hN n hn;show p.y+n*y< -R;grind)))⟩
 ·obtain⟨N,n0,hN⟩:=als h p.x R
  exact⟨N,n0,fun n hn=> .inr (.inl (hN n hn))⟩
 ·obtain⟨N,n0,hN⟩:=als (a:= -x) (by grind) (-p.x) R
  exact⟨N,n0,fun n hn=> .inl (by have:=hN n hn;show p.x+n*x< -R;grind)⟩
theorem awo{c:aah}(hc:aaT c)(h:af1 c=false): ∃d:PtQ,d≠⟨0,0⟩∧ ∀u∈c,0≤u.l.nor.dot d:=by
 unfold af1 at h
 cases c with
 |nil=>exact⟨⟨1,0⟩,by simp,fun u hu=>by cases hu⟩
 |cons s0 c0=>
  have h':((s0::c0).all fun s=>!s.v.nl&&!s.v.nh)=false:=by simpa using h
  rw[List.all_eq_false] at h'
  obtain⟨s,hs,hv⟩:=h'
  have hne:s.l.dir≠⟨0,0⟩:=fun e=>ah2 (hc.ok s hs) (by rw[e];decide)
  cases nh:s.v.nh with
  |true=>exact⟨s.l.dir,hne,aAr hc hs nh⟩
  |false=>
   have nl:s.v.nl=true:=by simpa[nh] using hv
   refine⟨abR s.l.dir,fun e=>hne ?_,fun u hu=>?_⟩
   ·unfold abR at e
    generalize s.l.dir=d at*
    obtain⟨x,y⟩:=d
    simp only[PtQ.mk.injEq] at*
    constructor<;>grind
   ·have:=aBP hc hs nl u hu
    unfold abR PtQ.dot at*
    grind
theorem an5{t:Tr}(ht:t.all LnQ.ok)(hb:ayA t):(aaL t).all af1=true:=by
 rw[fK]
 intro c hc
 obtain⟨hg,hv⟩:=aeD ht aaT.nil (adE.1 hc)
 cases hq:af1 c with
 |true=>rfl
 |false=>
  exfalso
  obtain⟨L,R,h1,h2⟩:=hb
  obtain⟨d,d0,hd⟩:=awo hg hq
  obtain⟨p,hp,ho⟩:=aEA hg L h1
  obtain⟨N,n0,hN⟩:=aBR (d:=d) ho
  obtain⟨M,m0,hM⟩:=aB6 (p:=p) d0 R
  have hin:InD c (act p d (N+M)):=fun s hs=>by
   rw[abc]
   have a:=hp s hs
   have b:=aac (show 0≤N+M by grind) (hd s hs)
   grind
  have:=(hv _ hin).2
  rw[h2 _ (hN _ (by grind)) (hM _ (by grind))] at this
  cases this
theorem ahp{rs:List (List ZP)}{fill:Int}(h: ∀r∈rs,aaU r)(hn:rs.length≤2):aka 12 (ado rs fill):=by
 obtain⟨h1,h2⟩:=acO h
 exact((asK h2 rfl).restrict []).mono (by omega)
theorem afF{es:List Int}{a:Nat}(ha:a≤es.length):aka 12 (acL es a).1∧ayA (acL es a).1:=by
 obtain⟨r1,r2⟩:=afL ha
 have h3:=aaV (n:=3) r2
 unfold acL
 dsimp only
 split
 ·obtain⟨s1,s2⟩:=afL h3
  have hr: ∀r∈[(acs es a).1,(acs es (aaf es 3 (acs es a).2).2).1],aaU r:=fun r hr=>by simp only[aU,iR,or_false] at hr;rcases hr with rfl|rfl;exact r1;exact s1
  exact⟨ahp hr (by simp),ajR hr⟩
 ·have hr: ∀r∈[(acs es a).1],aaU r:=fun r hr=>by simp only[aU,iR,or_false] at hr;subst hr;exact r1
  exact⟨ahp hr (by simp),ajR hr⟩
def afe(es:List Int):Nat→Nat→Tr×Nat
 |0,a=>acL es a
 |d+1,a=>
  let k:=aaf es 3 a
  if(k.1:Int)=0 then
   let x:=afe es d k.2
   let o:=aaf es 4 x.2
   let y:=afe es d o.2
   (x.1.mergeQ (1+(o.1:Int)) y.1 [],y.2)
  else acL es k.2
theorem ajn{es:List Int}: ∀{d a:Nat},a≤es.length→aka (12*2^d) (afe es d a).1∧ayA (afe es d a).1∧(afe es d a).1.Red []∧(afe es d a).2≤es.length
 |0,a,ha=>⟨(afF ha).1,(afF ha).2,akK es a,(ana ha).2⟩
 |d+1,a,ha=>by
  have h0:=aaV (n:=3) ha
  rw[afe]
  try dsimp only
  split
  ·obtain⟨x1,x2,x3,x4⟩:=ajn (d:=d) h0
   have h1:=aaV (n:=4) x4
   obtain⟨y1,y2,y3,y4⟩:=ajn (d:=d) h1
   refine⟨?_,x2.merge y2 x1.gd.ok y1.gd.ok _,Tr.merge_red _ _ _ _,y4⟩
   have:=x1.merge (op:=1+((aaf es 4 (afe es d (aaf es 3 a).2).2).1:Int)) y1
   exact this.mono (by rw[fZ];omega)
  ·refine⟨(afF h0).1.mono ?_,(afF h0).2,akK _ _,(ana h0).2⟩
   have:1≤2^(d+1):=Nat.one_le_two_pow
   omega
theorem aFb{es:List Int}{d a:Nat}(ha:a≤es.length)(hd:d≤2):TrX 48 (afe es d a).1∧(aaL (afe es d a).1).all af1=true∧(afe es d a).2≤es.length∧(afe es d a).1.restrict []=(afe es d a).1:=by
 obtain⟨h1,h2,h3,h4⟩:=ajn (d:=d) ha
 have h5:2^d≤2^2:=bT (by decide) hd
 have hx:TrX 48 (afe es d a).1:=(h1.mono (by omega)).x h3 (by decide)
 exact⟨hx,an5 hx.ok h2,h4,Tr.red_restrict h3⟩
def avP:List ZP:=[(0,0),(1,0),(0,1)]
theorem aCd:aaU avP:=⟨by decide,by decide,fun p hp=>by
 unfold avP at hp
 simp only[aU,iR,or_false] at hp
 rcases hp with rfl|rfl|rfl<;>exact⟨by decide,by decide⟩,by decide⟩
theorem agM: ∀r∈[avP],aaU r:=fun r hr=>by rw[aY] at hr;subst hr;exact aCd
theorem axS:(awf (aFx (ad4 (ado [avP] 2) []))).map List.length=[3]:=by decide+kernel
theorem axG: ∃a b c:PtQ,[[a,b,c]]=(aaL (ado [avP] 2)).flatMap alf:=by
 have h:=ahp (fill:=2) agM (by decide)
 rw[←arJ h.gd.ok]
 have e:=axS
 generalize awf (aFx (ad4 (ado [avP] 2) []))=l at*
 match l,e with
 |[[a,b,c]],_=>exact⟨a,b,c,rfl⟩
theorem ax1:TrX 12 (ado [avP] 2):=(ahp agM (by decide)).x (ajh _ _) (by decide)
theorem aBf:(aaL (ado [avP] 2)).all af1=true:=an5 ax1.ok (ajR agM)
theorem ajC{ai al ae au:Addr}(hE:EGU GB ai al ae au):PF GB prog 26 [] (.v (.bool true)):=by
 obtain⟨a,b,c,hts⟩:=axG
 have htb:=avn ax1 (by decide)
 rw[←hts] at htb
 refine fn func26 J J ntmps26 J J (fun C=>?_)
 refine cl rfl (aoQ (by omega) (by omega)) rfl<|cl rfl (aoQ (by omega) (by omega)) rfl<|cl rfl (aoQ (by omega) (by omega)) rfl<|rf J J<|?_
 refine cl rfl (ay1 (ps:=[iP 0 0,iP 1 0,iP 0 1]) (fun p hp=>by
  simp only[aU,iR,or_false] at hp
  rcases hp with rfl|rfl|rfl<;>exact⟨BQ.int1200 (by decide),BQ.int1200 (by decide)⟩) (by decide)) rfl<|?_
 refine rf J J<|cl rfl (au1 (rs:=[avP]) (fill:=2) agM (by decide)) rfl<|cl rfl (asN (rs:=[avP]) (fill:=2) agM (by decide)) rfl<|?_
 refine cl rfl (apZ ax1) rfl<|cl (fu:=⟨14⟩) rfl (aAu hE ax1 (by decide) (Tr.red_restrict (ajh _ _)) aBf (ts:=[[a,b,c]]) hts (fun r hr=>⟨(htb.2 r hr).1,by rw[(htb.2 r hr).2];decide⟩) (by simp)) rfl<|?_
 refine eqF 22 (.d (vI 1)) J J ?_
 refine gx (fu:=⟨0⟩) rfl<|knT J J J<|ix (fu:=⟨2⟩) _ rfl (aG2 (show [[a,b,c]][0]? =some [a,b,c] from rfl)) rfl<|?_
 refine eqF 29 (.d (vI 3)) J J ?_
 refine gx (fu:=⟨0⟩) rfl<|knT J J J<|?_
 exact rz J J
structure EGS (GB:Gh) (ai al ae au ar:Addr):Prop extends EGU GB ai al ae au where
 ErrEmpty:GB 0=some [.iface 405 (.pointer (some ae))]
 ErrRange:GB 3=some [.iface 405 (.pointer (some ar))]
def ajQ(r:List PtQ)(j:Nat):Nat→PtQ
 |0=>(((r.getD 0 ⟨0,0⟩).add (r.getD 1 ⟨0,0⟩)).add (r.getD 2 ⟨0,0⟩)).scale (((1:Int):Rat)/((3:Int):Rat))
 |k+1=>((ajQ r j k).add (r.getD j ⟨0,0⟩)).scale (((1:Int):Rat)/((2:Int):Rat))
def smp(ts:List (List PtQ))(i:Nat):PtQ:=ajQ (ts.getD (i%ts.length) []) (i%3) (i/ts.length)
theorem auh{ts:List (List PtQ)}{i:Nat}{r:List PtQ}(h:ts[i%ts.length]? =some r):smp ts i=ajQ r (i%3) (i/ts.length):=by
 unfold smp;rw[aX,h];rfl
theorem BPt.mono{p:PtQ}{i j:Nat}(h:BPt p i)(hj:i≤j):BPt p j:=⟨h.x.mono hj,h.y.mono hj⟩
theorem amg{m n:Int}(hm:m.natAbs≤1000)(hn:n.natAbs≤1000):BQ ((m:Rat)/(n:Rat)) 24:=by
 haveI:=biC (k:=11) hm (by decide)
 haveI:=biC (k:=11) hn (by decide)
 exact(inferInstance:BQ ((m:Rat)/(n:Rat)) _)
theorem ayW{a b c:PtQ}(ha:BPt a 1200)(hb:BPt b 1200)(hc:BPt c 1200)(j:Nat): ∀k,BPt (ajQ [a,b,c] j k) (4000+1300*k)
 |0=>by
  haveI:=amg (m:=1) (n:=3) (by decide) (by decide)
  have h:BPt (((a.add b).add c).scale (((1:Int):Rat)/((3:Int):Rat))) _:=inferInstance
  exact h.mono (by decide)
 |k+1=>by
  haveI:=amg (m:=1) (n:=2) (by decide) (by decide)
  haveI ih:=ayW ha hb hc j k
  have hr:BPt ([a,b,c].getD j ⟨0,0⟩) 1200:=by
   match j with
   |0=>exact ha
   |1=>exact hb
   |2=>exact hc
   |j+3=>exact⟨BQ.zero1200,BQ.zero1200⟩
  haveI:=hr
  have h:BPt (((ajQ [a,b,c] j k).add ([a,b,c].getD j ⟨0,0⟩)).scale (((1:Int):Rat)/((2:Int):Rat))) _:=inferInstance
  exact h.mono (by omega)
theorem ay5{a b c:PtQ}(ha:BPt a 1200)(hb:BPt b 1200)(hc:BPt c 1200)(j:Nat){k:Nat}(hk:k≤60):BPt (ajQ [a,b,c] j k) 90000:=(ayW ha hb hc j k).mono (by omega)
theorem aqJ{ts:List (List PtQ)}(h: ∀r∈ts,(∀p∈r,BPt p 1200)∧r.length=3){i:Nat}(hi:i<ts.length): ∃a b c:PtQ,ts[i]? =some [a,b,c]∧BPt a 1200∧BPt b 1200∧BPt c 1200:=by
 obtain⟨h1,h2⟩:=h _ (cZ hi)
 have e:=aQ hi
 generalize ts[i]=r at*
 match r,h2 with
 |[a,b,c],_=>exact⟨a,b,c,e,h1 a (by simp),h1 b (by simp),h1 c (by simp)⟩
theorem awP(r:List PtQ)(j k:Nat){q:PtQ}(h:r[j]? =some q):((ajQ r j k).add q).scale (((1:Int):Rat)/((2:Int):Rat))=ajQ r j (k+1):=by
 rw[ajQ,aX,h];rfl
theorem aH4{k d:Nat}(h:k≤1000):IntKind.i64.wrap ((k:Int).tdiv (d:Int))=((k/d:Nat):Int):=by
 have e:(k:Int).tdiv (d:Int)=((k/d:Nat):Int):=rfl
 rw[e]
 have:=iT k d
 exact anx (by rw[jZ];omega)
theorem atD{a b c q:PtQ}(ha:BPt a 1200)(hb:BPt b 1200)(hc:BPt c 1200){j:Nat}(h:[a,b,c][j]? =some q):BPt q 1200:=by
 have hm:=aS h
 simp only[aU,iR,or_false] at hm
 rcases hm with rfl|rfl|rfl<;>assumption
theorem asj{α:Type}(f:Nat→α){N k:Nat}(h:k<N):((List.range N).map f)[k]? =some (f k):=by
 rw[cV,pN h];rfl
theorem apb{m n:Int}(hm:m.natAbs≤1000)(hn:n.natAbs≤1000):PF GB prog 72 [vI m,vI n] (eF ((m:Rat)/(n:Rat))):=by
 haveI:=biC (k:=11) hm (by decide)
 haveI:=biC (k:=11) hn (by decide)
 refine fn func72 J J ntmps72 J J (fun C=>?_)
 refine cl rfl (aik (m:=m) (by omega)) rfl<|cl rfl (aik (m:=n) (by omega)) rfl<|cl rfl (ak7 (p:=(m:Rat)) (q:=(n:Rat)) (i:=12) (j:=12)) rfl<|?_
 exact rz J J
theorem aDg{ai al ae au ar:Addr}(hE:EGS GB ai al ae au ar){k0:Nat}{t:Tr}(h:TrX k0 t)(hk0:k0≤900)(hr:t.restrict []=t)(hbd:(aaL t).all af1=true){ts:List (List PtQ)}(hts:ts=(aaL t).flatMap alf){n:Int}(hn:0<n∧n≤1000)(h0:ts.length=0):PF GB prog 25 [eA t,vI n] (.tp [.sl [],ay2 ae]):=by
 have hml:(ts.map eRz).length=ts.length:=aK ..
 refine fn func25 J J ntmps25 J J (fun C=>?_)
 refine cl (fu:=⟨0⟩) rfl (aqU hE.toEGU h hk0 hr hbd) rfl<|?_
 refine eqF 15 (.d (.tp [.sl (ts.map eRz), .v .nilIface])) rfl (by rw[hts]) ?_
 refine gx (fu:=⟨20⟩) rfl<|knF (fu:=⟨2⟩) rfl (by show some (decide _)=some false;rw[decide_eq_false (by omega)]) rfl<|knF (fu:=⟨8⟩) rfl (by show some (decide _)=some false;rw[decide_eq_false (by omega)]) rfl<|?_
 refine knT (fu:=⟨3⟩) rfl (by show some (decide _)=some true;rw[decide_eq_true (by omega)]) rfl<|?_
 refine eqF 35 (.d (vI (ts.length:Nat))) rfl (by rw[hml]<;>rfl) ?_
 refine gx (fu:=⟨0⟩) rfl<|knT rfl (by show some (decide _)=some true;rw[decide_eq_true (by omega)]) rfl<|gl rfl hE.ErrEmpty rfl<|?_
 exact rz J J
theorem aEL{ai al ae au ar:Addr}(hE:EGS GB ai al ae au ar){k0:Nat}{t:Tr}(h:TrX k0 t)(hk0:k0≤900)(hr:t.restrict []=t)(hbd:(aaL t).all af1=true){ts:List (List PtQ)}(hts:ts=(aaL t).flatMap alf):PF GB prog 25 [eA t,vI 0] (.tp [.sl [], .v .nilIface]):=by
 refine fn func25 J J ntmps25 J J (fun C=>?_)
 refine cl (fu:=⟨0⟩) rfl (aqU hE.toEGU h hk0 hr hbd) rfl<|?_
 refine eqF 15 (.d (.tp [.sl (ts.map eRz), .v .nilIface])) rfl (by rw[hts]) ?_
 refine gx (fu:=⟨20⟩) rfl<|knF (fu:=⟨2⟩) J J J<|knF (fu:=⟨8⟩) J J J<|knF J J J<|cl rfl (apb (m:=1) (n:=2) (by decide) (by decide)) rfl<|?_
 refine lp (X:=Nat) (fun k=>[(41, .d (vI 0)),(8, .nl)]) (fun k=>[]) (fun k=>True) (fun k=>k) 0 rfl trivial (fun _=>rfl) (fun k hk=>?_)
 refine br J J J (fun hc42=>?_) (fun hc42=>?_)
 ·
  exact absurd hc42 (by decide)
 ·
  exact rz J J
theorem aEW{ai al ae au ar:Addr}(hE:EGS GB ai al ae au ar){k0:Nat}{t:Tr}(h:TrX k0 t)(hk0:k0≤900)(hr:t.restrict []=t)(hbd:(aaL t).all af1=true){ts:List (List PtQ)}(hts:ts=(aaL t).flatMap alf)(hb3: ∀r∈ts,(∀p∈r,BPt p 1200)∧r.length=3)(htn:ts.length≤100000000){N:Nat}(hN:0<N∧N≤40)(h0:0<ts.length):PF GB prog 25 [eA t,vI (N:Nat)] (.tp [.sl (((List.range N).map (smp ts)).map ePt), .v .nilIface]):=by
 have hml:(ts.map eRz).length=ts.length:=aK ..
 haveI:=amg (m:=1) (n:=2) (by decide) (by decide)
 haveI:=amg (m:=1) (n:=3) (by decide) (by decide)
 refine fn func25 J J ntmps25 J J (fun C=>?_)
 refine cl (fu:=⟨0⟩) rfl (aqU hE.toEGU h hk0 hr hbd) rfl<|?_
 refine eqF 15 (.d (.tp [.sl (ts.map eRz), .v .nilIface])) rfl (by rw[hts]) ?_
 refine gx (fu:=⟨20⟩) rfl<|knF (fu:=⟨2⟩) rfl (by show some (decide _)=some false;rw[decide_eq_false (by omega)]) rfl<|knF (fu:=⟨8⟩) rfl (by show some (decide _)=some false;rw[decide_eq_false (by omega)]) rfl<|?_
 refine knT (fu:=⟨3⟩) rfl (by show some (decide _)=some true;rw[decide_eq_true (by omega)]) rfl<|?_
 refine eqF 35 (.d (vI (ts.length:Nat))) rfl (by rw[hml]<;>rfl) ?_
 refine gx (fu:=⟨0⟩) rfl<|knF rfl (by show some (decide _)=some false;rw[decide_eq_false (by omega)]) rfl<|cl rfl (apb (m:=1) (n:=2) (by decide) (by decide)) rfl<|?_
 refine nr 8 8 65 6 J J J ?_
 refine lp (X:=Nat) (fun k=>[(41, .d (vI (k:Nat))),(8, .rw 8)]) (fun k=>[(8,some (.b 65 6 (((List.range k).map (smp ts)).map ePt) true))]) (fun k=>k≤N) (fun k=>N-k) 0 rfl (bX _) (fun _=>rfl) (fun k hk=>?_)
 have hal:(((List.range k).map (smp ts)).map ePt).length=k:=by simp
 refine br (fu1:=⟨16⟩) J J J (fun hc42=>?_) (fun hc42=>?_)
 ·
  have hkN:k<N:=by omega
  have hki:=cY k h0
  obtain⟨a,b,c,hx,ha,hb,hc⟩:=aqJ hb3 hki
  have hdk:k/ts.length≤k:=iT _ _
  have hk3:=cY k (show 0<3 by decide)
  refine eqF 47 (.d (vI (ts.length:Nat))) rfl (by rw[hml]<;>rfl) ?_
  refine gx (fu:=⟨1⟩) rfl<|?_
  refine eqF 48 (.d (vI ((k%ts.length:Nat):Int))) J J ?_
  refine gx rfl<|ix (fu:=⟨1⟩) _ rfl (aaq hx) rfl<|?_
  refine eqF 50 (.d (.sl ([a,b,c].map eZ))) J J ?_
  refine gx rfl<|ix _ rfl (show([a,b,c].map eZ)[(0:Int).toNat]? =some (eZ a) from rfl) rfl<|ix _ rfl (show([a,b,c].map eZ)[(1:Int).toNat]? =some (eZ b) from rfl) rfl<|?_
  refine cl rfl (anp (p:=a) (q:=b) (i:=1200) (j:=1200)) rfl<|ix _ rfl (show([a,b,c].map eZ)[(2:Int).toNat]? =some (eZ c) from rfl) rfl<|?_
  refine cl rfl (anp (p:=a.add b) (q:=c) (i:=2401) (j:=1200)) rfl<|cl rfl (apb (m:=1) (n:=3) (by decide) (by decide)) rfl<|cl (fu:=⟨0⟩) rfl (ag8 (p:=(a.add b).add c) (c:=((1:Int):Rat)/((3:Int):Rat)) (i:=3602) (j:=24)) rfl<|?_
  refine eqF 63 (.d (eZ (ajQ [a,b,c] (k%3) 0))) J J ?_
  refine gx (fu:=⟨10⟩) rfl<|?_
  refine eqF 66 (.d (vI (ts.length:Nat))) rfl (by rw[hml]<;>rfl) ?_
  refine gx (fu:=⟨1⟩) rfl<|?_
  refine eqF 67 (.d (vI ((k/ts.length:Nat):Int))) rfl (by rw[aH4 (show k≤1000 by omega)]<;>rfl) ?_
  refine gx rfl<|?_
  refine lp (X:=Nat) (fun m=>[(68, .d (vI (m:Nat))),(12, .ov 12 0)]) (fun m=>[(12,some (.o 146 [.d (vI (fn_ (ajQ [a,b,c] (k%3) m).x)), .d (vI (fd_ (ajQ [a,b,c] (k%3) m).x)), .d (fp_ (ajQ [a,b,c] (k%3) m).x), .d (vI (fn_ (ajQ [a,b,c] (k%3) m).y)), .d (vI (fd_ (ajQ [a,b,c] (k%3) m).y)), .d (fp_ (ajQ [a,b,c] (k%3) m).y)] true))]) (fun m=>m≤k/ts.length) (fun m=>k/ts.length-m) 0 rfl (bX _) (fun _=>rfl) (fun m hk=>?_)
  haveI:=ay5 ha hb hc (k%3) (k:=m) (by omega)
  refine br (fu1:=⟨9⟩) J J J (fun hc69=>?_) (fun hc69=>?_)
  ·
   obtain⟨q,hq⟩: ∃q,[a,b,c][k%3]? =some q:=⟨_,aQ hk3⟩
   haveI hqb:=atD ha hb hc hq
   refine eqF 73 (.d (vI ((k%3:Nat):Int))) J J ?_
   refine gx rfl<|ix _ rfl (aaq hq) rfl<|cl rfl (anp (p:=ajQ [a,b,c] (k%3) m) (q:=q) (i:=90000) (j:=1200)) rfl<|cl (fu:=⟨0⟩) rfl (ag8 (p:=(ajQ [a,b,c] (k%3) m).add q) (c:=((1:Int):Rat)/((2:Int):Rat)) (i:=91201) (j:=24)) rfl<|?_
   refine eqF 78 (.d (eZ (ajQ [a,b,c] (k%3) (m+1)))) rfl (by rw[awP _ _ _ hq]) ?_
   refine gx (hv:=by simp only[aaj];exact⟨by kernel_rfl,by omega⟩) rfl<|?_
   exact at_ (m+1) ⟨(by omega),(by omega)⟩
  ·
   obtain rfl:m=k/ts.length:=by omega
   have hsk:=auh hx
   refine cl rfl (at7 (p:=ajQ [a,b,c] (k%3) (k/ts.length)) (i:=90000)) rfl<|rf J J<|ap (((List.range (k+1)).map (smp ts)).map ePt) rfl (by rw[sK,bV,bV,List.map_singleton,hsk]<;>rfl) (atz [ajQ [a,b,c] (k%3) (k/ts.length)]) rfl<|?_
   refine rnE 84 8 rfl ?_
   exact at_ (k+1) ⟨(by omega),(by omega)⟩
 ·
  obtain rfl:k=N:=by omega
  refine fzE 8 rfl ?_
  exact rz J J
structure aGg (cs:List aah) (b:Nat):Prop where
 lb: ∀c∈cs,∀s∈c,LB s.l
 sh: ∀c∈cs,c.length≤100000
 ln:cs.length≤1000000
 pt: ∀x∈avL (avM cs),BPt x.1 b∧BPt x.2 b
def aHE(x:PtQ×PtQ):PtQ:=(x.1.add x.2).scale (x.1.cross x.2)
def aG5{α:Type}(f:α→PtQ)(l:List α):PtQ:=⟨auK (fun x=>(f x).x) l,auK (fun x=>(f x).y) l⟩
def qF(es:List Int)(a:Nat):Rat×Nat:=
 (if((aaf es 6 (aaf es 9 a).2).1:Int)=0 then mkRat (2*(((aaf es 9 a).1:Int)-4)+1) 2 else if((aaf es 6 (aaf es 9 a).2).1:Int)=1 then mkRat (3*(((aaf es 9 a).1:Int)-4)+1) 3 else(((aaf es 9 a).1:Rat)-4:Rat),(aaf es 6 (aaf es 9 a).2).2)
def aGu(es:List Int)(a:Nat):PtQ×Nat:=(⟨(qF es a).1,(qF es (qF es a).2).1⟩,(qF es (qF es a).2).2)
def lnO:LnQ:=⟨1,0,0⟩
def aIW(es:List Int)(L:List LnQ)(a:Nat):PtQ×Nat:=
 if L.length=0 then aGu es a else
 if((aaf es 3 (aaf es L.length a).2).1:Int)=0 then
  (if crossI (L.getD (aaf es L.length a).1 lnO) (L.getD (aaf es L.length (aaf es 3 (aaf es L.length a).2).2).1 lnO)≠0 then(abS (L.getD (aaf es L.length a).1 lnO) (L.getD (aaf es L.length (aaf es 3 (aaf es L.length a).2).2).1 lnO),(aaf es L.length (aaf es 3 (aaf es L.length a).2).2).2) else aGu es (aaf es L.length (aaf es 3 (aaf es L.length a).2).2).2)
 else if((aaf es 3 (aaf es L.length a).2).1:Int)=1 then((L.getD (aaf es L.length a).1 lnO).at (qF es (aaf es 3 (aaf es L.length a).2).2).1,(qF es (aaf es 3 (aaf es L.length a).2).2).2) else aGu es (aaf es 3 (aaf es L.length a).2).2

structure EGV (GB:Gh) (ai al ae au:Addr):Prop extends EGU GB ai al ae au where
 ErrEmpty:GB 0=some [.iface 405 (.pointer (some ae))]
def aIg(x:PtQ×PtQ):Rat:=(x.1.x*x.1.x+x.2.x*x.2.x+(x.1.add x.2).x*(x.1.add x.2).x)*x.1.cross x.2
def aId(x:PtQ×PtQ):Rat:=(x.1.x*x.1.y+x.2.x*x.2.y+(x.1.add x.2).x*(x.1.add x.2).y)*x.1.cross x.2
def aIc(x:PtQ×PtQ):Rat:=(x.1.y*x.1.y+x.2.y*x.2.y+(x.1.add x.2).y*(x.1.add x.2).y)*x.1.cross x.2
structure aIV (cs:List aah):Prop where
 ed:aGg cs 1200
 cr: ∀x∈avL (avM cs),BQ (x.1.cross x.2) 5000
 ar: ∀k,BQ (auK (fun x=>x.1.cross x.2) ((avL (avM cs)).take k)) 2000000
 mo: ∀k,BPt (aG5 aHE ((avL (avM cs)).take k)) 3000000
 sa: ∀k,BQ (auK aIg ((avL (avM cs)).take k)) 4000000
 sb: ∀k,BQ (auK aId ((avL (avM cs)).take k)) 4000000
 sc: ∀k,BQ (auK aIc ((avL (avM cs)).take k)) 4000000
def aIC(t:Tr):Rat:=auK (fun x=>x.1.cross x.2) (avL (avM (aaL t)))*mkRat 1 2
def aJa(t:Tr):PtQ:=(aG5 aHE (avL (avM (aaL t)))).scale (((1:Int):Rat)/((6:Int):Rat))
def zR0:DV:= .ag [vB false, .sl [], .sl []]
def zP0:DV:= .ag [vB false, .sl [], .sl [],vB false, .sl [], .sl []]
def tw4:Rat:=((1:Int):Rat)/((24:Int):Rat)
def aI5(f:PtQ×PtQ→Rat)(t:Tr):Rat:=auK f (avL (avM (aaL t)))*tw4
structure DQ (D B:Nat) (x:Rat):Prop where
 ex: ∃n:Int,x*((D:Nat):Rat)=(n:Rat)∧n.natAbs≤B*D
def crN(l m:LnQ):Nat:=if crossI l m=0 then 1 else(crossI l m).natAbs
def aIr(K:List LnQ):List Nat:=K.flatMap fun l=>K.map (crN l)
def aJw(K:List LnQ):Nat:=(aIr K).foldr (· * ·) 1
structure DP (D B:Nat) (p:PtQ):Prop where
 x:DQ D B p.x
 y:DQ D B p.y

def eM(a b c d e f:Rat):DV:= .ag [(.v (.bool (decide ((a).num<0)))),(dN (a).num.natAbs),(dD (a).den),(.v (.bool (decide ((b).num<0)))),(dN (b).num.natAbs),(dD (b).den),(.v (.bool (decide ((c).num<0)))),(dN (c).num.natAbs),(dD (c).den),(.v (.bool (decide ((d).num<0)))),(dN (d).num.natAbs),(dD (d).den),(.v (.bool (decide ((e).num<0)))),(dN (e).num.natAbs),(dD (e).den),(.v (.bool (decide ((f).num<0)))),(dN (f).num.natAbs),(dD (f).den)]
def zq3:List DV:=[.v (.bool (decide ((0:Rat).num<0))),dN (0:Rat).num.natAbs,dD (0:Rat).den]
theorem aFW{j:Nat}(h:j<4):([vI 1,vI 2,vI 3,vI 4]:List DV)[((j:Nat):Int).toNat]? =some (vI (1+(j:Int))):=by
 have:j=0∨j=1∨j=2∨j=3:=by omega
 rcases this with rfl|rfl|rfl|rfl<;>rfl
theorem aoL{b:Nat}{es:List Int}(hes:es.length≤400){a:Nat}(ha:a≤es.length){n:Int}(hn:n=0):PM GB prog 9 (mkP [none,some (.v (.int .i64 n))] b) b 87 [.sl (es.map vI), .v (.int .i64 (a:Nat))] (eT (afe es 0 a).1) [.sl (es.map vI), .v (.int .i64 ((afe es 0 a).2:Nat))]:=by
 refine fnM (fu:=⟨9⟩) func9 J J ntmps9 J J (fun C b m lo hmb=>?_)
 refine knF rfl (by show some (decide _)=some false;rw[decide_eq_false (by omega)]) rfl<|cm rfl (fun b=>(anY hes ha)) rfl<|?_
 exact rzM hmb J J J J
theorem aoU{b:Nat}{es:List Int}(hes:es.length≤400){a:Nat}(ha:a≤es.length){d:Nat}{n:Int}(hn:n=((d+1:Nat):Int))(hd:d≤1)(ih: ∀{GB:Gh} {b a:Nat} {n:Int},a≤es.length→n=(d:Int)→PM GB prog 9 (mkP [none,some (.v (.int .i64 n))] b) b 87 [.sl (es.map vI), .v (.int .i64 (a:Nat))] (eT (afe es d a).1) [.sl (es.map vI), .v (.int .i64 ((afe es d a).2:Nat))]):PM GB prog 9 (mkP [none,some (.v (.int .i64 n))] b) b 87 [.sl (es.map vI), .v (.int .i64 (a:Nat))] (eT (afe es (d+1) a).1) [.sl (es.map vI), .v (.int .i64 ((afe es (d+1) a).2:Nat))]:=by
 have hk0:=aaV (n:=3) ha
 obtain⟨g1,_,_,g2⟩:=ajn (d:=d) hk0
 have hj:=aaV (n:=4) g2
 have hjl:=abE (es:=es) (n:=4) (a:=(afe es d (aaf es 3 a).2).2) (by decide)
 obtain⟨g3,_,_,g4⟩:=ajn (d:=d) hj
 have hpw:12*2^d≤12*2^1:=eY _ (bT (by decide) hd)
 refine fnM (fu:=⟨9⟩) func9 J J ntmps9 J J (fun C b m lo hmb=>?_)
 refine knT rfl (by show some (decide _)=some true;rw[decide_eq_true (by omega)]) rfl<|cm rfl (fun b=>(adu (n:=3) hes ha (by decide) (by decide))) rfl<|?_
 refine br J J J (fun hc12=>?_) (fun hc12=>?_)
 ·
  refine cm rfl (fun b=>(ih hk0 (by omega))) rfl<|rf J J<|cm rfl (fun b=>(adu (n:=4) hes g2 (by decide) (by decide))) rfl<|ix (vI (1+((aaf es 4 (afe es d (aaf es 3 a).2).2).1:Int))) rfl (aFW (by omega)) rfl<|?_
  refine cm rfl (fun b=>(ih hj (by omega))) rfl<|cl rfl (alA (op:=1+((aaf es 4 (afe es d (aaf es 3 a).2).2).1:Int)) (t:=(afe es d (aaf es 3 a).2).1) (u:=(afe es d (aaf es 4 (afe es d (aaf es 3 a).2).2).2).1) (c:=[]) g3.gd.lb g3.gd.ok g1.gd.lb g1.gd.ok (fun m h=>by cases h) (fun m h=>by cases h) (by have:=g1.dp;have:=g3.dp;rw[fU];omega)) rfl<|?_
  exact rzM hmb J J (by rw[show afe es (d+1) a=_ from if_pos hc12];show eT (Tr.mergeL _ _ _ _)=eT (Tr.mergeQ _ _ _ _);rw[Tr.mergeL_nil (by omega) g1.gd.ok g3.gd.ok]) (by rw[show afe es (d+1) a=_ from if_pos hc12])
 ·
  refine cm rfl (fun b=>(anY hes hk0)) rfl<|?_
  exact rzM hmb J J (by rw[show afe es (d+1) a=_ from if_neg hc12];rfl) (by rw[show afe es (d+1) a=_ from if_neg hc12])
theorem atW{es:List Int}(hes:es.length≤400): ∀{d:Nat} {GB:Gh} {b a:Nat} {n:Int},d≤2→a≤es.length→n=(d:Int)→PM GB prog 9 (mkP [none,some (.v (.int .i64 n))] b) b 87 [.sl (es.map vI), .v (.int .i64 (a:Nat))] (eT (afe es d a).1) [.sl (es.map vI), .v (.int .i64 ((afe es d a).2:Nat))]
 |0,_,_,_,_,_,ha,hn=>aoL hes ha hn
 |d+1,_,_,_,_,hd,ha,hn=>aoU hes ha hn (by omega) (fun h1 h2=>atW hes (by omega) h1 h2)
theorem aAX{es:List Int}(hes:es.length≤400){a d b:Nat}(ha:a≤es.length)(hd:d≤2):PM GB prog 9 (mkP [none,some (.v (.int .i64 (d:Nat)))] b) b 87 [.sl (es.map vI), .v (.int .i64 (a:Nat))] (eT (afe es d a).1) [.sl (es.map vI), .v (.int .i64 ((afe es d a).2:Nat))]:=atW (GB:=GB) hes hd ha rfl
def sqA:List ZP:=[(0,0),(2,0),(2,2),(0,2)]
def sqT:Tr:=ado [sqA] 2
theorem ats{t:Tr}(ht:t.all LnQ.ok): ∀c∈aaL t,aps c:=fun c hc=>ajp ht aaT.nil (show aps [] from .nil) _ (adE.1 hc)
theorem aDr{t:Tr}(ho:t.all LnQ.ok){c:aah}(hc:c∈aaL t){p:PtQ}(hp:InD c p):akH t p=2:=by
 rw[avG ho]
 intro h
 obtain⟨q,h1,_,_,h2⟩:=aCa ho h (M:=[]) (fun l hl=>by cases hl) hp
 have:=((aeD ho aaT.nil (adE.1 hc)).2 q h1).2
 rw[h2] at this;cases this
theorem apx{u v z:PtQ}(hu:u.half≠0)(hv:v.half≠0)(h0:u.cross v=0)(h1:0<u.cross z)(h2:0<v.cross z):u.half=v.half:=by
 have ex:v.x*(u.cross z)=u.x*(v.cross z):=by unfold PtQ.cross at*;grind
 have ey:v.y*(u.cross z)=u.y*(v.cross z):=by unfold PtQ.cross at*;grind
 have key: ∀{a b:Rat},a*(u.cross z)=b*(v.cross z)→(0<a↔0<b)∧(a=0↔b=0):=fun{a b} e=>by
  have k1:0<a*(u.cross z)↔0<a:=aai h1
  have k2:0<b*(v.cross z)↔0<b:=aai h2
  refine⟨by rw[←k1,←k2,e],fun h=>?_,fun h=>?_⟩
  ·rw[h,Rat.zero_mul] at e
   rcases fN.1 e.symm with q|q
   ·exact q
   ·grind
  ·rw[h,Rat.zero_mul] at e
   rcases fN.1 e with q|q
   ·exact q
   ·grind
 obtain⟨x1,x2⟩:=key ex
 obtain⟨y1,y2⟩:=key ey
 have:u.half=1↔v.half=1:=by rw[abv,abv,x1,y1,y2]
 rcases aaY hu with a|a<;>rcases aaY hv with b|b<;>omega
theorem agk{c:aah}(hc:aaT c)(ha:aps c)(hb:af1 c=true){i j:Nat}{w w' s:FrQ}(hw:c[i]? =some w)(hw':c[(i+1)%c.length]? =some w')(hs:c[j]? =some s)(hz:s.l.value (w.l.at w.v.hi)=0):j=i∨j=(i+1)%c.length:=by
 apply Classical.byContradiction
 intro hne
 have n1:j≠i:=fun e=>hne (.inl e)
 have n2:j≠(i+1)%c.length:=fun e=>hne (.inr e)
 obtain⟨h1,_,h3⟩:=azc hc ha hb hw hw'
 have mw:=aS hw
 have mw':=aS hw'
 have ms:=aS hs
 have lt: ∀x∈c,x.v.lo<x.v.hi:=fun x hx=>by
  have h:=(hc.edge x hx).1
  obtain⟨a,b⟩:=(aha hb).2 x hx
  unfold IvQ.Pos at h
  rw[a,b] at h
  rcases h with h|h|h
  ·cases h
  ·cases h
  ·exact h
 have a1:s.l.nor.dot w.l.dir≤0:=by
  have k:=((hc.edge w mw).2 _).1 (asP (hc.edge w mw).1 ((aha hb).2 w mw).1) s ms
  rw[show w.v.lo=w.v.hi+(w.v.lo-w.v.hi) by grind,aiB,hz] at k
  have l1:=lt w mw
  apply Classical.byContradiction
  intro q
  have:=(aai (s:=s.l.nor.dot w.l.dir) (k:=w.v.hi-w.v.lo) (by grind)).2 (by grind)
  grind
 have a2:0≤s.l.nor.dot w'.l.dir:=by
  have k:=((hc.edge w' mw').2 _).1 (ap7 (hc.edge w' mw').1 ((aha hb).2 w' mw').2) s ms
  rw[show w'.v.hi=w'.v.lo+(w'.v.hi-w'.v.lo) by grind,aiB,h3,hz] at k
  have l1:=lt w' mw'
  apply Classical.byContradiction
  intro q
  have:=(aai (s:= -(s.l.nor.dot w'.l.dir)) (k:=w'.v.hi-w'.v.lo) (by grind)).2 (by grind)
  grind
 have b1:0≤w.l.dir.cross s.l.dir:=by rw[aal,ab7];grind
 have b2:0≤s.l.dir.cross w'.l.dir:=by rw[ab7];exact a2
 have nz:=aor hc
 have md: ∀x∈c,x.l.dir∈c.map fun s=>s.l.dir:=fun x hx=>bJ.2 ⟨x,hx,rfl⟩
 have hn:Nxt (c.map fun s=>s.l.dir) w.l.dir w'.l.dir:=atJ ha (by rw[cV,hw];rfl) (by rw[aK,cV,hw'];rfl)
 have bef: ∀{a b:Nat} {x y:FrQ},c[a]? =some x→c[b]? =some y→a≠b→x.l.dir.cross y.l.dir=0→x.l.dir.half≠y.l.dir.half:=fun{a b x y} hx hy hab h0 e=>by
  obtain⟨ha',ea⟩:=aL.1 hx
  obtain⟨hb',eb⟩:=aL.1 hy
  have hp:=iN.1 ha
  have hsw:y.l.dir.cross x.l.dir=0:=by rw[aal,h0];rfl
  rcases Nat.lt_or_gt_of_ne hab with q|q
  ·have:=hp a b (by simpa using ha') (by simpa using hb') q
   rw[kY,kY,ea,eb] at this
   rcases this with r|⟨_,r⟩
   ·omega
   ·rw[h0] at r;exact absurd r (by decide)
  ·have:=hp b a (by simpa using hb') (by simpa using ha') q
   rw[kY,kY,ea,eb] at this
   rcases this with r|⟨_,r⟩
   ·omega
   ·rw[hsw] at r;exact absurd r (by decide)
 by_cases c1:0<w.l.dir.cross s.l.dir
 ·by_cases c2:0<s.l.dir.cross w'.l.dir
  ·exact ahy nz (md w mw) (md s ms) (md w' mw') hn c1 c2 h1
  ·have z2:s.l.dir.cross w'.l.dir=0:=by grind
   have z2':w'.l.dir.cross s.l.dir=0:=by rw[aal,z2];rfl
   refine bef hs hw' n2 z2 ?_
   exact apx (z:=abR w.l.dir) (nz _ (md s ms)) (nz _ (md w' mw')) z2 (by rw[aa5,aal];grind) (by rw[aa5,aal];grind)
 ·have z1:w.l.dir.cross s.l.dir=0:=by grind
  by_cases c2:0<s.l.dir.cross w'.l.dir
  ·exact bef hw hs (Ne.symm n1) z1 (apx (z:=w'.l.dir) (nz _ (md w mw)) (nz _ (md s ms)) z1 h1 c2)
  ·have z2:s.l.dir.cross w'.l.dir=0:=by grind
   have hz0:=nz _ (md s ms)
   have ex:s.l.dir.x*(w.l.dir.cross w'.l.dir)=0:=by unfold PtQ.cross at*;grind
   have ey:s.l.dir.y*(w.l.dir.cross w'.l.dir)=0:=by unfold PtQ.cross at*;grind
   have x0:s.l.dir.x=0:=by rcases fN.1 ex with q|q;exact q;grind
   have y0:s.l.dir.y=0:=by rcases fN.1 ey with q|q;exact q;grind
   rcases aaY hz0 with q|q
   ·rw[abv] at q;grind
   ·have:s.l.dir.half=0:=by unfold PtQ.half;rw[x0,y0];decide
    exact hz0 this
theorem aB1{c:aah}(hc:aaT c)(ha:aps c)(hb:af1 c=true){k:Nat}(hk:k+2<c.length){r:List PtQ}(hr:r=awV (agj (c.map (·.l))) k): ∃a b d,r=[a,b,d]∧ ∀s∈c,0≤s.l.value a∧0≤s.l.value b∧0≤s.l.value d∧0<s.l.value a+s.l.value b+s.l.value d:=by
 obtain⟨w0,e0⟩: ∃u,c[0]? =some u:=⟨_,aQ (by omega)⟩
 obtain⟨w1,e1⟩: ∃u,c[k+1]? =some u:=⟨_,aQ (by omega)⟩
 obtain⟨w2,e2⟩: ∃u,c[k+2]? =some u:=⟨_,aQ (by omega)⟩
 obtain⟨u0,f0⟩: ∃u,c[(0+1)%c.length]? =some u:=⟨_,aQ (cY _ (by omega))⟩
 obtain⟨u1,f1⟩: ∃u,c[(k+1+1)%c.length]? =some u:=⟨_,aQ (cY _ (by omega))⟩
 obtain⟨u2,f2⟩: ∃u,c[(k+2+1)%c.length]? =some u:=⟨_,aQ (cY _ (by omega))⟩
 have hv:=akk hc ha hb
 have g: ∀{i:Nat} {w:FrQ},c[i]? =some w→(agj (c.map (·.l)))[i]? =some (w.l.at w.v.hi):=fun{i w} e=>by rw[hv,cV,e];rfl
 refine⟨_,_,_,hr.trans (aph (g e0) (g e1) (g e2)),fun s hs=>?_⟩
 have nn: ∀{w:FrQ},w∈c→0≤s.l.value (w.l.at w.v.hi):=fun{w} hw=>((hc.edge w hw).2 _).1 (ap7 (hc.edge w hw).1 ((aha hb).2 w hw).2) s hs
 have p0:=nn (aS e0)
 have p1:=nn (aS e1)
 have p2:=nn (aS e2)
 refine⟨p0,p1,p2,?_⟩
 apply Classical.byContradiction
 intro q
 obtain⟨j,hj,ej⟩:=kU.1 hs
 have hjs:c[j]? =some s:=by rw[aQ hj,ej]
 have z0:=agk hc ha hb e0 f0 hjs (by grind)
 have z1:=agk hc ha hb e1 f1 hjs (by grind)
 have z2:=agk hc ha hb e2 f2 hjs (by grind)
 rw[dV (show 0+1<c.length by omega)] at z0
 rw[dV (show k+1+1<c.length by omega)] at z1
 by_cases h3:k+2+1<c.length
 ·rw[dV h3] at z2;omega
 ·rw[show k+2+1=c.length by omega,Nat.mod_self] at z2;omega
theorem awQ(l:LnQ)(p q:PtQ):l.value ((p.add q).scale (((1:Int):Rat)/((2:Int):Rat)))=(l.value p+l.value q)/2:=by
 have e:((1:Int):Rat)/((2:Int):Rat)=1/2:=rfl
 rw[e]
 unfold LnQ.value PtQ.add PtQ.scale PtQ.dot
 dsimp only
 grind
theorem awR(l:LnQ)(p q r:PtQ):l.value (((p.add q).add r).scale (((1:Int):Rat)/((3:Int):Rat)))=(l.value p+l.value q+l.value r)/3:=by
 have e:((1:Int):Rat)/((3:Int):Rat)=1/3:=rfl
 rw[e]
 unfold LnQ.value PtQ.add PtQ.scale PtQ.dot
 dsimp only
 grind
theorem asI{l:LnQ}{a b d:PtQ}(ha:0≤l.value a)(hb:0≤l.value b)(hd:0≤l.value d)(hs:0<l.value a+l.value b+l.value d){j:Nat}(hj:j<3): ∀k,0<l.value (ajQ [a,b,d] j k)
 |0=>by
  show 0<l.value (((a.add b).add d).scale _)
  rw[awR];grind
 |k+1=>by
  have ih:=asI ha hb hd hs hj k
  show 0<l.value (((ajQ [a,b,d] j k).add ([a,b,d].getD j ⟨0,0⟩)).scale _)
  rw[awQ]
  have:0≤l.value ([a,b,d].getD j ⟨0,0⟩):=by
   have:j=0∨j=1∨j=2:=by omega
   rcases this with rfl|rfl|rfl
   ·exact ha
   ·exact hb
   ·exact hd
  grind
theorem arE{t:Tr}(ho:t.all LnQ.ok)(hbd:(aaL t).all af1=true){ts:List (List PtQ)}(hts:ts=(aaL t).flatMap alf)(h0:0<ts.length)(i:Nat):akH t (smp ts i)=2:=by
 obtain⟨r,hr⟩: ∃r,ts[i%ts.length]? =some r:=⟨_,aQ (cY _ h0)⟩
 rw[auh hr]
 have hm:=aS hr
 rw[hts] at hm
 obtain⟨c,hc,hrc⟩:=iQ.1 hm
 unfold alf am4 at hrc
 obtain⟨k,hk,e⟩:=bJ.1 hrc
 have hk':=kL.1 hk
 have hgc:=aoV ho c hc
 have hac:=ats ho c hc
 have hbc:=fK.1 hbd c hc
 rw[akk hgc hac hbc,aK] at hk'
 obtain⟨a,b,d,rfl,hv⟩:=aB1 hgc hac hbc (k:=k) (by omega) e.symm
 refine aDr ho hc fun s hs=>?_
 obtain⟨p0,p1,p2,p3⟩:=hv s hs
 exact asI p0 p1 p2 p3 (cY _ (by decide)) _
theorem at2(l:List PtQ):adn 6 (l.map eZ):=fun d hd=>by
 obtain⟨x,_,rfl⟩:=bJ.1 hd
 exact⟨rfl,rfl⟩
instance BPt.negp (p:PtQ) (i:Nat) [h:BPt p i]:BPt (abR p) i:=⟨inferInstanceAs (BQ (-p.x) i),inferInstanceAs (BQ (-p.y) i)⟩
instance BPt.prip (l:LnQ) [LB l]:BPt (aeo l.dir) 500:=by
 have h:=(inferInstance:BPt (l.dir.scale (rgcd l.dir.x l.dir.y)⁻¹) _)
 exact⟨h.x.mono (by decide),h.y.mono (by decide)⟩
theorem aCJ{p:PtQ}{i:Nat}[h:BPt p i](hi:i≤900000000:=by decide):PF GB prog 193 [eZ p] (eZ (abR p)):=by
 refine fn func193 J J ntmps193 J J (fun C=>?_)
 refine cl rfl (afw (q:=p.x) (i:=i) hi) rfl<|cl rfl (afw (q:=p.y) (i:=i) hi) rfl<|?_
 exact rz J J
theorem aBX{p:PtQ}{i:Nat}[h:BPt p i](hi:i≤900000000:=by decide):PF GB prog 186 [eZ p] (eZ (aem p)):=by
 refine fn func186 J J ntmps186 J J (fun C=>?_)
 refine cl rfl (afw (q:=p.y) (i:=i) hi) rfl<|?_
 exact rz J J
theorem aBM{p:PtQ}{i:Nat}[h:BPt p i](hi:i≤1000000:=by decide):PF GB prog 192 [eZ p] (eZ (aeo p)):=by
 refine fn func192 J J ntmps192 J J (fun C=>?_)
 refine cl rfl (agY (p:=p.x) (q:=p.y) (i:=i) (j:=i) (by omega) (by omega)) rfl<|cl rfl (ay7 (q:=rgcd p.x p.y) (i:=i+i+(i+i)) (by omega)) rfl<|?_
 refine cl rfl (ag8 (p:=p) (c:=(rgcd p.x p.y)⁻¹) (i:=i) (j:=i+i+(i+i)) (by omega) (by omega)) rfl<|?_
 exact rz J J
theorem afW(l:LnQ)(x y:Tr)(p:PtQ):aby (.node l x y) p=(if Int.sign (l.value p).num=0 then [aeo l.dir,abR (aeo l.dir)] else [])++((if 0≤Int.sign (l.value p).num then aby x p else [])++(if Int.sign (l.value p).num≤0 then aby y p else [])):=by
 unfold aby
 rw[am2,mZ,mZ]
 congr 1
 ·split<;>simp
 ·congr 1<;>split<;>simp
theorem ag4: ∀(t:Tr) (p:PtQ),(aby t p).length≤2*t.size
 | .leaf _,_=>bX _
 | .node l x y,p=>by
  have h1:=ag4 x p
  have h2:=ag4 y p
  rw[afW,aV,aV,Tr.size]
  split<;>split<;>split<;>simp only[bY,fU]<;>omega
theorem ao2{b:Bool}{p:PtQ}{o:List PtQ}:PB GB prog 139 (mkB [some (eU (.leaf b)),some (eZ p),none]) 6 146 (o.map eZ) (fun w=> .v (.slice w.a w.n w.c)) ((o++aby (.leaf b) p).map eZ):=by
 refine fnQ func139 J J ntmps139 J J (fun C=>?_)
 refine cl (fu:=⟨0⟩) rfl adj rfl<|?_
 refine kbT 10 rfl ?_
 refine gx rfl<|?_
 exact rzQ J J J (by show _=(o++[]).map eZ;rw[lM])
theorem ax3{l:LnQ}{x y:Tr}{p:PtQ}{i:Nat}[hp:BPt p i](hl:LB l)(hi:i≤10000000){o:List PtQ}(hs:o.length+2*(Tr.node l x y).size≤1000000)(hz:Int.sign (l.value p).num=0)(ihx: ∀{o:List PtQ},o.length+2*x.size≤1000000→PB GB prog 139 (mkB [some (eU x),some (eZ p),none]) 6 146 (o.map eZ) (fun w=> .v (.slice w.a w.n w.c)) ((o++aby x p).map eZ))(ihy: ∀{o:List PtQ},o.length+2*y.size≤1000000→PB GB prog 139 (mkB [some (eU y),some (eZ p),none]) 6 146 (o.map eZ) (fun w=> .v (.slice w.a w.n w.c)) ((o++aby y p).map eZ)):PB GB prog 139 (mkB [some (eU (.node l x y)),some (eZ p),none]) 6 146 (o.map eZ) (fun w=> .v (.slice w.a w.n w.c)) ((o++aby (.node l x y) p).map eZ):=by
 haveI:=hl
 have hz2:(Tr.node l x y).size=1+x.size+y.size:=rfl
 have hp1:=ag4 x p
 refine fnQ func139 J J ntmps139 J J (fun C=>?_)
 refine cl (fu:=⟨0⟩) rfl acS rfl<|?_
 refine kbF 10 rfl ?_
 refine gx rfl<|cl (fu:=⟨7⟩) rfl (ajW (l:=l) (p:=p) (i:=i) hi) rfl<|knT rfl (by show some (decide _)=some true;rw[decide_eq_true (by omega)]) rfl<|?_
 refine cl rfl (ajK (l:=l)) rfl<|cl rfl (aBM (p:=l.dir) (i:=97)) rfl<|cl rfl (aCJ (p:=aeo l.dir) (i:=500)) rfl<|rf J J<|?_
 refine apB (fu:=⟨7⟩) ((o++[aeo l.dir,abR (aeo l.dir)]).map eZ) rfl (by rw[bV]<;>rfl) (at2 [aeo l.dir,abR (aeo l.dir)]) rfl<|knT rfl (by show some (decide _)=some true;rw[decide_eq_true (by omega)]) rfl<|?_
 refine cq (fu:=⟨7⟩) (((o++[aeo l.dir,abR (aeo l.dir)])++aby x p).map eZ) rfl (ihx (by rw[aV,bY,bY,fU];omega)) J J<|?_
 refine knT rfl (by show some (decide _)=some true;rw[decide_eq_true (by omega)]) rfl<|cq _ rfl (ihy (by rw[aV,aV,bY,bY,fU];omega)) J J<|?_
 exact rzQ J J J (by rw[afW,hz];simp)
theorem awj{l:LnQ}{x y:Tr}{p:PtQ}{i:Nat}[hp:BPt p i](hl:LB l)(hi:i≤10000000){o:List PtQ}(hs:o.length+2*(Tr.node l x y).size≤1000000)(hz:Int.sign (l.value p).num=1)(ihx: ∀{o:List PtQ},o.length+2*x.size≤1000000→PB GB prog 139 (mkB [some (eU x),some (eZ p),none]) 6 146 (o.map eZ) (fun w=> .v (.slice w.a w.n w.c)) ((o++aby x p).map eZ)):PB GB prog 139 (mkB [some (eU (.node l x y)),some (eZ p),none]) 6 146 (o.map eZ) (fun w=> .v (.slice w.a w.n w.c)) ((o++aby (.node l x y) p).map eZ):=by
 haveI:=hl
 have hz2:(Tr.node l x y).size=1+x.size+y.size:=rfl
 refine fnQ func139 J J ntmps139 J J (fun C=>?_)
 refine cl (fu:=⟨0⟩) rfl acS rfl<|?_
 refine kbF 10 rfl ?_
 refine gx rfl<|cl (fu:=⟨7⟩) rfl (ajW (l:=l) (p:=p) (i:=i) hi) rfl<|knF (fu:=⟨9⟩) rfl (by show some (decide _)=some false;rw[decide_eq_false (by omega)]) rfl<|?_
 refine knT rfl (by show some (decide _)=some true;rw[decide_eq_true (by omega)]) rfl<|cq (fu:=⟨7⟩) _ rfl (ihx (by omega)) J J<|knF rfl (by show some (decide _)=some false;rw[decide_eq_false (by omega)]) rfl<|?_
 exact rzQ J J J (by rw[afW,hz];simp)
theorem awy{l:LnQ}{x y:Tr}{p:PtQ}{i:Nat}[hp:BPt p i](hl:LB l)(hi:i≤10000000){o:List PtQ}(hs:o.length+2*(Tr.node l x y).size≤1000000)(hz:Int.sign (l.value p).num= -1)(ihy: ∀{o:List PtQ},o.length+2*y.size≤1000000→PB GB prog 139 (mkB [some (eU y),some (eZ p),none]) 6 146 (o.map eZ) (fun w=> .v (.slice w.a w.n w.c)) ((o++aby y p).map eZ)):PB GB prog 139 (mkB [some (eU (.node l x y)),some (eZ p),none]) 6 146 (o.map eZ) (fun w=> .v (.slice w.a w.n w.c)) ((o++aby (.node l x y) p).map eZ):=by
 haveI:=hl
 have hz2:(Tr.node l x y).size=1+x.size+y.size:=rfl
 refine fnQ func139 J J ntmps139 J J (fun C=>?_)
 refine cl (fu:=⟨0⟩) rfl acS rfl<|?_
 refine kbF 10 rfl ?_
 refine gx rfl<|cl (fu:=⟨7⟩) rfl (ajW (l:=l) (p:=p) (i:=i) hi) rfl<|knF (fu:=⟨9⟩) rfl (by show some (decide _)=some false;rw[decide_eq_false (by omega)]) rfl<|?_
 refine knF (fu:=⟨9⟩) rfl (by show some (decide _)=some false;rw[decide_eq_false (by omega)]) rfl<|knT rfl (by show some (decide _)=some true;rw[decide_eq_true (by omega)]) rfl<|?_
 refine cq _ rfl (ihy (by omega)) J J<|?_
 exact rzQ J J J (by rw[afW,hz];simp)
theorem ant{p:PtQ}{i:Nat}[hp:BPt p i](hi:i≤10000000:=by decide): ∀{t:Tr} {o:List PtQ},t.all LB→o.length+2*t.size≤1000000→PB GB prog 139 (mkB [some (eU t),some (eZ p),none]) 6 146 (o.map eZ) (fun w=> .v (.slice w.a w.n w.c)) ((o++aby t p).map eZ)
 | .leaf _,_,_,_=>ao2
 | .node l x y,_,hb,hs=>by
  have hz2:(Tr.node l x y).size=1+x.size+y.size:=rfl
  rcases lQ (l.value p).num 0 with h|h|h
  ·exact awy hb.1 hi hs (dT h) fun k=>ant hi hb.2.2 k
  ·exact ax3 hb.1 hi hs (by rw[h];rfl) (fun k=>ant hi hb.2.1 k) fun k=>ant hi hb.2.2 k
  ·exact awj hb.1 hi hs (dS h) fun k=>ant hi hb.2.1 k
theorem att{t:Tr}{p v:PtQ}{i j:Nat}[hp:BPt p i][hv:BPt v j](hb:t.all LB)(hi:i≤10000000:=by decide)(hj:j≤10000000:=by decide):PF GB prog 140 [eU t,eZ p,eZ v] (.tp [vB (af9 t p v).1,vB (af9 t p v).2]):=by
 refine fn func140 J J ntmps140 J J (fun C=>?_)
 refine lp (X:=Tr) (fun s=>[(0, .d (eU s))]) (fun s=>[]) (fun s=>af9 s p v=af9 t p v∧s.all LB) (fun s=>s.size) t rfl ⟨rfl,hb⟩ (fun _=>rfl) (fun s hk=>?_)
 obtain⟨h1,hb2⟩:=hk
 rcases s with b|⟨l,x,y⟩
 ·
  have hA:af9 t p v=(b,true):=h1.symm
  refine cl (fu:=⟨0⟩) rfl adj rfl<|?_
  refine kbT 10 rfl ?_
  refine gx rfl<|?_
  exact rz rfl (by rw[hA];rfl)
 ·
  have hAn:=h1.symm
  rw[af9,ab7] at hAn
  haveI:=hb2.1
  refine cl (fu:=⟨0⟩) rfl acS rfl<|?_
  refine kbF 10 rfl ?_
  refine gx rfl<|cl (fu:=⟨4⟩) rfl (ajW (l:=l) (p:=p) (i:=i) hi) rfl<|?_
  refine mg (X:=Int) (fun s8=>[(8, .d (vI s8))]) (fun s8=>[]) (fun s8=>s8=(if(l.value p).num.sign=0 then(l.nor.dot v).num.sign else(l.value p).num.sign)) [8] [] rfl ?_ (fun _=>rfl) (fun s8 hs8=>?_)
  ·
   refine gx rfl<|?_
   refine br J J J (fun hc19=>?_) (fun hc19=>?_)
   ·
    refine cl rfl (akr (l:=l)) rfl<|cl rfl (apT (p:=l.nor) (q:=v) (i:=97) (j:=j) (by decide) (by omega)) rfl<|cl rfl (acY (q:=l.nor.dot v) (by omega)) rfl<|?_
    exact at_ (l.nor.dot v).num.sign (if_pos hc19).symm
   ·
    exact at_ (l.value p).num.sign (if_neg hc19).symm
  ·
   rw[←hs8] at hAn
   refine br J J J (fun hc29=>?_) (fun hc29=>?_)
   ·
    exact at_ x ⟨⟨by rw[hAn,hc29];rfl,hb2.2.1⟩,(by simp only[Tr.size];omega)⟩
   ·
    refine br J J J (fun hc35=>?_) (fun hc35=>?_)
    ·
     exact at_ y ⟨⟨by rw[hAn,hc35];rfl,hb2.2.2⟩,(by simp only[Tr.size];omega)⟩
    ·
     exact rz rfl (by rw[hAn];split<;>first|rfl|contradiction)
theorem aC1{q:Rat}{i:Nat}[h:BQ q i](hi:i≤400000000:=by decide):PF GB prog 142 [eR q] (eF q):=by
 haveI:BN q.num.natAbs i:=⟨h.hn⟩
 haveI:BN q.den i:=⟨h.hd⟩
 refine fn func142 J J ntmps142 J J (fun C=>?_)
 refine cl (fu:=⟨0⟩) rfl (ad0 (n:=decide (q.num<0)) (a:=q.num.natAbs) (d:=q.den) (i:=i) (j:=i) (by omega) (by omega)) rfl<|?_
 refine eqF 7 (.d (eF q)) rfl (by rw[adw,sL]) ?_
 refine gx rfl<|?_
 exact rz J J
theorem aCN{p:PtQ}{i:Nat}[h:BPt p i](hi:i≤400000000:=by decide):PF GB prog 79 [ePt p] (eZ p):=by
 refine fn func79 J J ntmps79 J J (fun C=>?_)
 refine cl rfl (aC1 (q:=p.x) (i:=i) hi) rfl<|cl rfl (aC1 (q:=p.y) (i:=i) hi) rfl<|?_
 exact rz J J
theorem aFM(G:Gh)(y:Value)(h:Is G (.sl [.ag [vI (fn_ 1),vI (fd_ 1),fp_ 1,vI 0,vI 0, .v (.pointer none)]]) y):Is G (.sl ((afa []).map eZ)) y:=by
 obtain⟨s,x,es,rfl,h1,h2⟩:=adx.1 h
 obtain⟨v,m,rfl,k,h3⟩:=aae.1 h2
 cases aaJ.1 h3
 refine adx.2 ⟨s,x,_,rfl,h1, .cons ?_ .nil⟩
 obtain⟨m4,rfl,g4⟩:=abX.1 k
 obtain⟨v1,m1,rfl,k1,g1⟩:=aae.1 g4
 obtain⟨v2,m2,rfl,k2,g2⟩:=aae.1 g1
 obtain⟨v3,m3,rfl,k3,g3⟩:=aae.1 g2
 obtain⟨m5,q5,g5⟩:=abX.1 (aDU _ _ (abX.2 ⟨m3,rfl,g3⟩))
 cases q5
 exact abX.2 ⟨_,rfl, .cons k1 (.cons k2 (.cons k3 g5))⟩
theorem auU{ds:List PtQ}{k:Nat}{u w:PtQ}(h1:ds[k]? =some u)(h2:ds[(k+1)%ds.length]? =some w):ars ds k=if 0<Int.sign (u.cross w).num then u.add w else aem u:=by
 unfold ars
 rw[aX,aX,h1,h2];rfl
theorem amw(ds:List PtQ)(k:Nat):(List.range (k+1)).map (ars ds)=(List.range k).map (ars ds)++[ars ds k]:=by rw[sK,bV];rfl
theorem az4:PF GB prog 137 [.sl []] (.sl ((afa []).map eZ)):=by
 refine fn (fu:=⟨10⟩) func137 J J ntmps137 J J (fun C=>?_)
 refine knT rfl (by rfl) rfl<|cl rfl (aik (by omega)) rfl<|rf J J<|?_
 exact rzI rfl aFM
theorem aBa{ds:List PtQ}{i:Nat}(h0:0<ds.length)(hb: ∀d∈ds,BPt d i)(hn:ds.length≤10000000)(hi:i≤1000000:=by decide):PF GB prog 137 [.sl (ds.map eZ)] (.sl ((afa ds).map eZ)):=by
 have hml:(ds.map eZ).length=ds.length:=aK ..
 refine fn (fu:=⟨10⟩) func137 J J ntmps137 J J (fun C=>?_)
 refine eqF 8 (.d (vI (ds.length:Nat))) rfl (by rw[hml]<;>rfl) ?_
 refine gx (fu:=⟨0⟩) rfl<|knF (fu:=⟨15⟩) rfl (by show some (decide _)=some false;rw[decide_eq_false (by omega)]) rfl<|?_
 refine eqF 14 (.d (vI (ds.length:Nat))) rfl (by rw[hml]<;>rfl) ?_
 refine gx rfl<|?_
 refine nr 3 3 146 6 J J J ?_
 refine lp (X:=List PtQ×Nat) (fun⟨acc,k⟩=>[(15, .d (vI (k:Nat))),(3, .rw 3)]) (fun⟨acc,k⟩=>[(3,some (.b 146 6 (acc.map eZ) true))]) (fun⟨acc,k⟩=>acc=(List.range k).map (ars ds)∧k≤ds.length) (fun⟨acc,k⟩=>ds.length-k) ⟨[],0⟩ rfl ⟨rfl,bX _⟩ (fun _=>rfl) (fun⟨acc,k⟩ hk=>?_)
 try dsimp only at hk⊢
 obtain⟨h1,h2⟩:=hk
 have hal:acc.length=k:=by rw[h1,aK,pJ]
 have ham:(acc.map eZ).length=acc.length:=aK ..
 refine br J J J (fun hc16=>?_) (fun hc16=>?_)
 ·
  obtain⟨u,hx⟩: ∃u,ds[k]? =some u:=⟨_,aQ (by omega)⟩
  obtain⟨w,hw⟩: ∃w,ds[(k+1)%ds.length]? =some w:=⟨_,aQ (cY _ (by omega))⟩
  haveI:=hb u (aS hx)
  haveI:=hb w (aS hw)
  refine ix (fu:=⟨13⟩) _ rfl (aaq hx) rfl<|?_
  refine eqF 24 (.d (vI (ds.length:Nat))) rfl (by rw[hml]<;>rfl) ?_
  refine gx (fu:=⟨1⟩) rfl<|?_
  refine eqF 25 (.d (vI (((k+1)%ds.length:Nat):Int))) J J ?_
  refine gx rfl<|ix _ rfl (aaq hw) rfl<|cl rfl (aiG (p:=u) (q:=w) (by omega) (by omega)) rfl<|cl rfl (acY (q:=u.cross w) (by omega)) rfl<|?_
  refine br J J J (fun hc32=>?_) (fun hc32=>?_)
  ·
   refine cl rfl (anp (p:=u) (q:=w) (by omega) (by omega)) rfl<|rf J J<|ap ((acc++[u.add w]).map eZ) rfl (by rw[bV]<;>rfl) (at2 [u.add w]) rfl<|?_
   refine rnE 38 3 rfl ?_
   exact at_ ⟨acc++[u.add w],k+1⟩ (by dsimp only;exact⟨⟨by rw[amw,auU hx hw,if_pos hc32,←h1],by omega⟩,(by omega)⟩)
  ·
   refine cl rfl (aBX (p:=u) (by omega)) rfl<|rf J J<|ap ((acc++[aem u]).map eZ) rfl (by rw[bV]<;>rfl) (at2 [aem u]) rfl<|?_
   refine rnE 43 3 rfl ?_
   exact at_ ⟨acc++[aem u],k+1⟩ (by dsimp only;exact⟨⟨by rw[amw,auU hx hw,if_neg hc32,←h1],by omega⟩,(by omega)⟩)
 ·
  obtain rfl:k=ds.length:=by omega
  have hS:afa ds=acc:=by unfold afa;rw[if_neg (by omega),h1]
  refine fzE 3 rfl ?_
  exact rz rfl (by rw[hS];rfl)
theorem auR{ds:List PtQ}{i:Nat}(hb: ∀d∈ds,BPt d i)(hn:ds.length≤10000000)(hi:i≤1000000:=by decide):PF GB prog 137 [.sl (ds.map eZ)] (.sl ((afa ds).map eZ)):=by
 cases ds with
 |nil=>exact az4
 |cons d ds=>exact aBa (i:=i) (Nat.zero_lt_succ _) hb hn hi
theorem as4{u v:PtQ}{i j:Nat}[hp:BPt u i][hq:BPt v j](hi:i≤10000000:=by decide)(hj:j≤10000000:=by decide):PF GB prog 190 [eZ u,eZ v] (vB (decide (aay u v=0))):=by
 refine fn func190 J J ntmps190 J J (fun C=>?_)
 refine cl rfl (aoz (u:=u) (v:=v) hi hj) rfl<|?_
 exact rz J J
def amu(x:PtQ):List PtQ→List PtQ
 |[]=>[]
 |y::l=>if aay y x=0 then amu y l else y::amu y l
def aj7:List PtQ→List PtQ
 |[]=>[]
 |x::l=>x::amu x l
theorem alE{l:List PtQ}{k:Nat}{x y:PtQ}(h:l[k]? =some y):amu x (l.drop k)=if aay y x=0 then amu y (l.drop (k+1)) else y::amu y (l.drop (k+1)):=by
 obtain⟨h1,h2⟩:=aL.1 h
 rw[bQ h1,h2,amu]
theorem asJ{l:List PtQ}{k:Nat}{y:PtQ}(h:l[k]? =some y):l.take (k+1)=l.take k++[y]:=by
 rw[gR,h];rfl
def vZ:DV:= .ag [vI 0,vI 0, .v (.pointer none),vI 0,vI 0, .v (.pointer none)]
theorem awc(l:List PtQ)(k:Nat)(y:PtQ):(l.map eZ).set k (eZ y)=(l.set k y).map eZ:=(kQ ..).symm
theorem apk{l:List PtQ}(h:l.length<2):aj7 l=l:=by
 cases l with
 |nil=>rfl
 |cons x l=>cases l with
  |nil=>rfl
  |cons y l=>simp at h;omega
theorem aCb{l:List PtQ}{x:PtQ}(h:l[0]? =some x):aj7 l=l.take 1++amu x (l.drop 1):=by
 cases l with
 |nil=>cases h
 |cons y l=>cases h;rfl
theorem aso{r l:List PtQ}{a b:Nat}(h:a≤b)(e:r.drop a=l.drop a):r[b]? =l[b]? :=by
 have:=congrArg (·[b-a]?) e
 simpa[oT,show a+(b-a)=b by omega] using this
theorem aui{r l:List PtQ}{a b:Nat}(h:a≤b)(e:r.drop a=l.drop a):r.drop b=l.drop b:=by
 have:=congrArg (List.drop (b-a)) e
 simpa[sS,show a+(b-a)=b by omega] using this
theorem alq{r:List PtQ}{i:Nat}{u:PtQ}(h:i<r.length):(r.set i u).take (i+1)=r.take i++[u]:=by
 rw[gR,mX h,List.take_set_of_le (aM _)];rfl
theorem auk{r:List PtQ}{i:Nat}(h:i<r.length):(r.map eZ)[(i:Int).toNat]? =some (eZ r[i]):=by simp[h]
theorem auS{l:List PtQ}{i0:Nat}(hb: ∀d∈l,BPt d i0)(hn:l.length≤10000000)(hi:i0≤10000000):PB GB prog 189 (mkB [none,some (.v (.func (.func 190) #[] #[]))]) 6 146 (l.map eZ) (fun w=> .v (.slice w.a w.n w.c)) ((aj7 l).map eZ):=by
 have hml:(l.map eZ).length=l.length:=aK ..
 refine fnQ (fu:=⟨10⟩) func189 J J ntmps189 J J (fun C=>?_)
 refine eqF 9 (.d (vI (l.length:Nat))) rfl (by rw[hml]<;>rfl) ?_
 refine gx rfl<|?_
 refine br J J J (fun hc10=>?_) (fun hc10=>?_)
 ·
  exact rzQ J J J (by rw[apk (by omega)])
 ·
  obtain⟨x0,hx0⟩: ∃x,l[0]? =some x:=⟨_,aQ (by omega)⟩
  refine lp (fu:=⟨6⟩) (X:=Nat×PtQ) (fun⟨k,x⟩=>[(5, .d (vI (k:Nat)))]) (fun⟨k,x⟩=>[]) (fun⟨k,x⟩=>1≤k∧k≤l.length∧l[k-1]? =some x∧aj7 l=l.take k++amu x (l.drop k)) (fun⟨k,x⟩=>l.length-k) ⟨1,x0⟩ rfl ⟨aM _,by omega,hx0,by rw[aCb hx0]⟩ (fun _=>rfl) (fun⟨k,x⟩ hk=>?_)
  try dsimp only at hk⊢
  obtain⟨h1,h2,h3,h4⟩:=hk
  refine eqF 14 (.d (vI (l.length:Nat))) rfl (by rw[hml]<;>rfl) ?_
  refine gx rfl<|?_
  refine br J J J (fun hc15=>?_) (fun hc15=>?_)
  ·
   obtain⟨y,hy⟩: ∃y,l[k]? =some y:=⟨_,aQ (by omega)⟩
   haveI:=hb y (aS hy)
   haveI:=hb x (aS h3)
   refine lb (fu:=⟨3⟩) _ rfl (aaq hy) rfl<|?_
   refine eqF 25 (.d (vI ((k-1:Nat):Int))) rfl (by rw[Int.ofNat_sub h1]<;>rfl) ?_
   refine gx rfl<|lb (fu:=⟨0⟩) _ rfl (aaq h3) rfl<|cl rfl (as4 (u:=y) (v:=x) hi hi) rfl<|?_
   refine bd (fu1:=⟨4⟩) J J J (fun hc28=>?_) (fun hc28=>?_)
   ·
    have hc28':=hc28
    refine rsl k (l.length-k) J J (by omega) (by omega) rfl<|?_
    refine lp (fu:=⟨5⟩) (X:=Nat×Nat×PtQ×List PtQ) (fun⟨i,m,z,r⟩=>[(5, .d (vI (i:Nat))),(7, .d (vI (m:Nat)))]) (fun⟨i,m,z,r⟩=>[(1000000,some (.b 146 6 (r.map eZ) false))]) (fun⟨i,m,z,r⟩=>1≤m∧k+m≤l.length∧i+1≤k+m∧r.length=l.length∧r.drop (k+m-1)=l.drop (k+m-1)∧l[k+m-1]? =some z∧aj7 l=r.take i++amu z (l.drop (k+m))) (fun⟨i,m,z,r⟩=>l.length-m) ⟨k,1,y,l⟩ rfl ⟨aM _,by omega,by omega,rfl,rfl,by rw[kV];exact hy,by rw[h4,alE hy,if_pos hc28']⟩ (fun _=>rfl) (fun⟨i,m,z,r⟩ hk=>?_)
    try dsimp only at hk⊢
    obtain⟨g1,g2,g3,g4,g5,g6,g7⟩:=hk
    have hrl:(r.map eZ).length=r.length:=aK ..
    refine rsn J J<|?_
    refine br (fu1:=⟨9⟩) (fu2:=⟨9⟩) J J J (fun hc35=>?_) (fun hc35=>?_)
    ·
     obtain⟨u,hu⟩: ∃u,l[k+m]? =some u:=⟨_,aQ (by omega)⟩
     haveI:=hb u (aS hu)
     haveI:=hb z (aS g6)
     have g8:r[k+m]? =some u:=by rw[←hu];exact aso (by omega) g5
     have g10:r[k+m-1]? =some z:=by rw[←g6];exact aso (aM _) g5
     have g9:r.drop (k+m)=l.drop (k+m):=aui (by omega) g5
     refine rsi (k+m) rfl (by omega) (by omega) (by omega) rfl<|lb (fu:=⟨3⟩) _ rfl (aaq g8) rfl<|rsi (k+m-1) rfl (by omega) (by omega) (by omega) rfl<|?_
     refine lb (fu:=⟨0⟩) _ rfl (aaq g10) rfl<|cl rfl (as4 (u:=u) (v:=z) hi hi) rfl<|?_
     refine bb (fu1:=⟨6⟩) J J J (fun hc49=>?_) (fun hc49=>?_)
     ·
      have hc49': ¬aay u z=0:=by simpa using hc49
      refine rsi (k+m) rfl (by omega) (by omega) (by omega) rfl<|lb _ rfl (aaq g8) rfl<|sb _ ((r.set i u).map eZ) rfl (auk (by omega)) rfl (by rw[←awc]<;>rfl) rfl<|?_
      exact at_ ⟨i+1,m+1,u,r.set i u⟩ (by dsimp only;exact⟨⟨by omega,by omega,by omega,by rw[aN];exact g4,by rw[show k+(m+1)-1=k+m by omega,qZ (by omega)];exact g9,by rw[show k+(m+1)-1=k+m by omega];exact hu,by rw[g7,alE hu,if_neg hc49',alq (by omega),fT];rfl⟩,(by omega)⟩)
     ·
      have hc49':aay u z=0:=by simpa using hc49
      exact at_ ⟨i,m+1,u,r⟩ (by dsimp only;exact⟨⟨by omega,by omega,by omega,g4,by rw[show k+(m+1)-1=k+m by omega];exact g9,by rw[show k+(m+1)-1=k+m by omega];exact hu,by rw[g7,alE hu,if_pos hc49'];rfl⟩,(by omega)⟩)
    ·
     obtain hm:k+m=l.length:=by omega
     refine rsl i (l.length-i) J J (by omega) (by omega) rfl<|rcl (fu:=⟨6⟩) _ rfl (by rw[hrl];omega) (by omega) J J<|rct ((r.take i).map eZ) i J J (by rw[aV,cJ,aW,hrl];omega) (by rw[dW (by rw[cJ,hrl];omega),List.take_take,Nat.min_self,gX]) rfl<|?_
     exact rzQ J J J (by rw[g7,hm,dR,amu,lM])
   ·
    have hc28':=hc28
    exact at_ ⟨k+1,y⟩ (by dsimp only;exact⟨⟨by omega,by omega,hy,by rw[h4,alE hy,if_neg hc28',asJ hy,fT];rfl⟩,(by omega)⟩)
  ·
   exact rzQ J J J (by rw[h4,show k=l.length by omega,dR,amu,lM,fY])
end Go.Sx
end
