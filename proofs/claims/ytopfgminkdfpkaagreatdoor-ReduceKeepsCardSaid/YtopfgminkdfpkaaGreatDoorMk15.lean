/- Part 15 of a proof. -/
import Derived.Test.YtopfgminkdfpkaaGreatDoorMk14
set_option linter.unusedSimpArgs false
set_option maxHeartbeats 4000000
set_option maxRecDepth 100000
set_option linter.unusedVariables false
section
namespace Go.Sx
open Go Go.Proofs Tryz
variable {GB:Gh}
def adm(v:PtQ):PtQ:=v.scale (rgcd v.x v.y)⁻¹
def abf(t:Tr)(p:PtQ):List PtQ:=(ajW t p).flatMap fun l=>[adm l.dir,abT (adm l.dir)]
def agd(ds:List PtQ):List PtQ:=akL aaG ds
theorem abw{t:Tr}{p d:PtQ}:d∈abf t p↔ ∃l∈ajW t p,d=adm l.dir∨d=abT (adm l.dir):=by
 unfold abf
 rw[List.mem_flatMap]
 constructor
 ·rintro ⟨l,h1,h2⟩
  refine⟨l,h1,?_⟩
  rcases aS.1 h2 with h|h
  ·exact .inl h
  ·exact .inr (aN.1 h)
 ·rintro ⟨l,h1,rfl|rfl⟩
  ·exact⟨l,h1,aQ⟩
  ·exact⟨l,h1,aZ _ aQ⟩
theorem asA{x y:Rat}(h:x≠0∨y≠0):0<rgcd x y:=by
 unfold rgcd
 have hd:0<x.den*y.den:=gR x.den_pos y.den_pos
 have hg:0<Nat.gcd (x.num.natAbs*y.den) (y.num.natAbs*x.den):=by
  rcases h with h|h
  ·exact lL _ (gR (Int.natAbs_pos.2 fun e=>h (kQ.1 e)) y.den_pos)
  ·exact lW _ (gR (Int.natAbs_pos.2 fun e=>h (kQ.1 e)) x.den_pos)
 generalize Nat.gcd (x.num.natAbs*y.den) (y.num.natAbs*x.den)=g at*
 generalize x.den*y.den=d at*
 rw[←aiD]
 have h1:mkRat (g:Int) d=(g:Rat)/(d:Rat):=by rw[lS];rfl
 rw[aiD,h1]
 have hg':(0:Rat)<(g:Rat):=by exact_mod_cast hg
 have hd':(0:Rat)<(d:Rat):=by exact_mod_cast hd
 have e:(g:Rat)/(d:Rat)*(d:Rat)=(g:Rat):=by grind
 exact(aaw (k:=(d:Rat)) hd').1 (by rw[e];exact hg')
theorem aun{v:PtQ}(h:v.half≠0):v.x≠0∨v.y≠0:=by
 rcases aaP v with⟨_,k⟩|⟨_,k⟩|⟨k,_⟩
 ·rcases k with k|⟨_,k⟩
  ·exact .inr (by grind)
  ·exact .inl (by grind)
 ·rcases k with k|⟨_,k⟩
  ·exact .inr (by grind)
  ·exact .inl (by grind)
 ·exact absurd k h
theorem ag0{v:PtQ}(h:v.half≠0): ∃a:Rat,0<a∧adm v=⟨a*v.x,a*v.y⟩:=by
 have hg:=asA (aun h)
 refine⟨(rgcd v.x v.y)⁻¹,?_,?_⟩
 ·generalize rgcd v.x v.y=g at*
  have e:g⁻¹*g=1:=by grind
  exact(aaw (k:=g) hg).1 (by rw[e];decide)
 ·unfold adm PtQ.scale
  simp only[PtQ.mk.injEq]
  constructor<;>grind
theorem auc(v:PtQ):adm (abT v)=abT (adm v):=by
 have e:rgcd (-v.x) (-v.y)=rgcd v.x v.y:=by
  unfold rgcd
  rw[kK,kK,mN,mN,hJ,hJ]
 unfold adm PtQ.scale abT
 simp only[PtQ.mk.injEq,e]
 constructor<;>grind
theorem aiT{v:PtQ}(h:v.half≠0):(adm v).half=v.half:=by
 obtain⟨a,a1,e⟩:=ag0 h
 have:=aiJ (a:=a) (b:=a) (u:=v) (w:=v) a1 a1 rfl h
 rw[←this]
 have h2:adm v=btw (a*(1/2)) (a*(1/2)) v v:=by rw[e];unfold btw;simp only[PtQ.mk.injEq];constructor<;>grind
 have h3:=aiJ (a:=a*(1/2)) (b:=a*(1/2)) (u:=v) (w:=v) (aae a1 (by grind)) (aae a1 (by grind)) rfl h
 rw[h2,h3,this]
theorem aq6{u v:PtQ}:aaG u v=0↔u.half=v.half∧u.cross v=0:=by
 unfold aaG
 split
 ·constructor
  ·intro h;exact absurd h (by decide)
  ·intro h;omega
 ·split
  ·constructor
   ·intro h;exact absurd h (by decide)
   ·intro h;omega
  ·constructor
   ·intro h
    exact⟨by omega,(abO _).1 (by omega)⟩
   ·intro h
    rw[(abO _).2 h.2];rfl
theorem aeX{u v w:PtQ}(h:Bef u v)(k:Bef v w):Bef u w:=by
 by_cases hu:u.half=0
 ·by_cases hw:w.half=0
  ·have z: ∀x y:PtQ,x.half=0→x.cross y=0:=fun x y hx=>by
    rcases aaP x with⟨e,_⟩|⟨e,_⟩|⟨_,e1,e2⟩
    ·rw[hx] at e;exact absurd e (by decide)
    ·rw[hx] at e;exact absurd e (by decide)
    ·unfold PtQ.cross;rw[e1,e2];grind
   rcases h with h|⟨h,h'⟩
   ·rcases k with k|⟨k,k'⟩
    ·omega
    ·have hv:v.half≠0:=by omega
     omega
   ·rw[z u v hu] at h';exact absurd h' (by decide)
  ·refine .inl ?_
   have h1:=abA hw
   omega
 ·have hv:v.half≠0:=by
   intro e
   rcases h with h|⟨h,_⟩
   ·have:=abA hu;omega
   ·omega
  have hw:w.half≠0:=by
   intro e
   rcases k with k|⟨k,_⟩
   ·have:=abA hv;omega
   ·omega
  exact Bef.trans hu hv hw h k
section
variable {α:Type} (c:α→α→Int)
theorem anF{x y:α}: ∀{xs:List α},y∈xs→y∈afy c x xs
 |[],h=>by cases h
 |u::t,h=>by
  rw[afy]
  split
  ·rcases aS.1 h with rfl|h
   ·exact aQ
   ·exact aZ _ (anF h)
  ·split
   ·exact h
   ·exact aZ _ h
theorem aql{x:α}: ∀{xs:List α},∃e∈afy c x xs,e=x∨c e x=0
 |[]=>⟨x,aQ, .inl rfl⟩
 |u::t=>by
  rw[afy]
  split
  ·obtain⟨e,h1,h2⟩:=aql (x:=x) (xs:=t)
   exact⟨e,aZ _ h1,h2⟩
  ·split
   ·exact⟨u,aQ, .inr (by assumption)⟩
   ·exact⟨x,aQ, .inl rfl⟩
theorem aji{y:α}: ∀{l o:List α},y∈o→y∈l.foldl (fun out x=>afy c x out) o
 |[],o,h=>h
 |x::t,o,h=>aji (l:=t) (anF c h)
theorem aiL{d:α}: ∀{l o:List α},d∈l→ ∃e∈l.foldl (fun out x=>afy c x out) o,e=d∨c e d=0
 |[],o,h=>by cases h
 |x::t,o,h=>by
  rcases aS.1 h with rfl|h
  ·obtain⟨e,h1,h2⟩:=aql c (x:=d) (xs:=o)
   exact⟨e,aji c (l:=t) h1,h2⟩
  ·exact aiL (l:=t) h
end
theorem alY(ds:List PtQ):(agd ds).Pairwise Bef:=by
 have:=akr (c:=aaG) (fun u v w h k=>adf.2 (aeX (adf.1 h) (adf.1 k))) (fun u v h k=>adf.2 (avj.1 (by omega))) (l:=ds) (o:=[]) List.Pairwise.nil
 exact this.imp fun h=>adf.1 h
theorem ath{l m:LnQ}(hl:l.ok)(hm:m.ok){p:PtQ}(h1:l.value p=0)(h2:m.value p=0){d e:PtQ}(hd:d=adm l.dir∨d=abT (adm l.dir))(he:e=adm m.dir∨e=abT (adm m.dir))(h:aaG d e=0):d=e:=by
 obtain⟨hh,hc⟩:=aq6.1 h
 have zl:=akc hl
 have zm:=akc hm
 have zpl:(adm l.dir).half≠0:=by rw[aiT zl];exact zl
 have zpm:(adm m.dir).half≠0:=by rw[aiT zm];exact zm
 have cr:l.dir.cross m.dir=0:=by
  obtain⟨a,a1,e1⟩:=ag0 zl
  obtain⟨b,b1,e2⟩:=ag0 zm
  have c0:(adm l.dir).cross (adm m.dir)=0:=by
   rcases hd with rfl|rfl<;>rcases he with rfl|rfl
   ·exact hc
   ·rw[abm] at hc;grind
   ·rw[aav,abm] at hc;rw[aav];grind
   ·rw[abm,aav,abm] at hc;rw[aav];grind
  have e3:(adm l.dir).cross (adm m.dir)=(a*b)*l.dir.cross m.dir:=by rw[e1,e2];unfold PtQ.cross;grind
  have hab:=aae a1 b1
  rw[e3] at c0
  clear e1 e2 e3
  generalize a*b=k at*
  generalize l.dir.cross m.dir=z at*
  rcases aaU z with q|q|q
  ·exact q
  ·have:=aae hab q;grind
  ·have:=aae (a:=k) (b:= -z) hab (by grind);grind
 have dirR: ∀k:LnQ,k.rev.dir=abT k.dir:=fun k=>by
  unfold LnQ.dir LnQ.rev abT
  simp only[PtQ.mk.injEq,mW]
  try constructor<;>grind
 have cdir: ∀k:LnQ,k.canon.dir=k.dir∨k.canon.dir=abT k.dir:=fun k=>by
  unfold LnQ.canon
  split
  ·exact .inr (dirR k)
  ·exact .inl rfl
 have cval: ∀k:LnQ,k.value p=0→k.canon.value p=0:=fun k hk=>by rcases apN k p with e|e<;>rw[e,hk]<;>rfl
 have okc: ∀k:LnQ,k.ok→k.canon.ok:=fun k hk=>by unfold LnQ.canon;split;exact hk.rev;exact hk
 have ec:l.canon=m.canon:=avq (okc l hl) (okc m hm) (ajC hl) (ajC hm) (cval l h1) (cval m h2) (by
  rcases cdir l with e1|e1<;>rcases cdir m with e2|e2<;>rw[e1,e2]
  ·exact cr
  ·rw[abm,cr];rfl
  ·rw[aav,abm,aav,cr];rfl
  ·rw[abm,aav,abm,aav,cr];rfl)
 have hdir:l.dir=m.dir∨l.dir=abT m.dir:=by
  have e1:=cdir l
  have e2:=cdir m
  rw[ec] at e1
  rcases e1 with e1|e1<;>rcases e2 with e2|e2
  ·exact .inl (e1.symm.trans e2)
  ·exact .inr (e1.symm.trans e2)
  ·right;rw[←e2,e1,aeb]
  ·left;rw[←aeb l.dir,←e1,e2,aeb]
 have hP:adm l.dir=adm m.dir∨adm l.dir=abT (adm m.dir):=by
  rcases hdir with e|e
  ·exact .inl (by rw[e])
  ·exact .inr (by rw[e,auc])
 have hn:=ac4 zpm
 have h3:=abA zpm
 have key:d=adm m.dir∨d=abT (adm m.dir):=by
  rcases hd with rfl|rfl<;>rcases hP with e|e
  ·exact .inl e
  ·exact .inr e
  ·exact .inr (by rw[e])
  ·exact .inl (by rw[e,aeb])
 rcases key with rfl|rfl<;>rcases he with rfl|rfl
 ·rfl
 ·exfalso;omega
 ·exfalso;omega
 ·rfl
theorem aks{t:Tr}(ht:t.all LnQ.ok)(p:PtQ):(agd (abf t p)).Pairwise Bef∧asF (agd (abf t p))∧ ∀y,y∈agd (abf t p)↔y∈abf t p:=by
 have h2: ∀y,y∈agd (abf t p)→y∈abf t p:=fun y hy=>by
  rcases ad4 aaG hy with h|h
  ·exact h
  ·cases h
 have h3: ∀y,y∈abf t p→y∈agd (abf t p):=fun y hy=>by
  obtain⟨e,e1,e2⟩:=aiL aaG (o:=[]) hy
  rcases e2 with rfl|e2
  ·exact e1
  ·obtain⟨l,k1,k2⟩:=abw.1 hy
   obtain⟨m,k3,k4⟩:=abw.1 (h2 e e1)
   obtain⟨a1,a2⟩:=abM k1
   obtain⟨b1,b2⟩:=abM k3
   rw[←ath (adV ht _ b1) (adV ht _ a1) b2 a2 k4 k2 e2]
   exact e1
 refine⟨alY _,⟨fun d hd=>?_,fun d hd=>?_⟩,fun y=>⟨h2 y,h3 y⟩⟩
 ·obtain⟨l,k1,k2⟩:=abw.1 (h2 d hd)
  have z:=akc (adV ht _ (abM k1).1)
  have z2:(adm l.dir).half≠0:=by rw[aiT z];exact z
  rcases k2 with rfl|rfl
  ·exact z2
  ·exact aus z2
 ·obtain⟨l,k1,k2⟩:=abw.1 (h2 d hd)
  refine h3 _ (abw.2 ⟨l,k1,?_⟩)
  rcases k2 with rfl|rfl
  ·exact .inr rfl
  ·exact .inl (aeb _)
theorem aot{t:Tr}(ht:t.all LnQ.ok){p v:PtQ}(hv:v∈adY (agd (abf t p))):Gn (ajW t p) p v:=by
 obtain⟨h1,h2,h3⟩:=aks ht p
 have key:(∀d∈agd (abf t p),d.cross v≠0)→Gn (ajW t p) p v:=fun k l hl hz e=>by
  have z:=akc (adV ht _ (abM hl).1)
  obtain⟨a,a1,a2⟩:=ag0 z
  refine k _ ((h3 _).2 (abw.2 ⟨l,hl, .inl rfl⟩)) ?_
  rw[←acN] at e
  have:(adm l.dir).cross v=a*l.dir.cross v:=by rw[a2];unfold PtQ.cross;grind
  rw[this,e];grind
 generalize agd (abf t p)=ds at*
 unfold adY at hv
 split at hv
 ·rename_i hn
  refine key fun d hd=>?_
  rw[List.length_eq_zero_iff.1 hn] at hd;cases hd
 ·obtain⟨i,hi,rfl⟩:=bM.1 hv
  rw[mM] at hi
  have hj:(i+1)%ds.length<ds.length:=cS _ (by omega)
  have hx:=asQ h1 h2 hi hj
  have mu:=fM hi
  have mw:=fM hj
  have hp:=hx.pos h2 mu mw
  refine key ?_
  unfold amU
  rw[aiG hi,aiG hj]
  split
  ·rename_i k
   have hc:=(acy _).1 k
   rw[apg]
   exact hx.gen h2 mu mw (by grind) (by decide) (by decide)
  ·rename_i k
   exact hx.turn h2 mu mw (by have: ¬0<ds[i].cross ds[(i+1)%ds.length]:=fun e=>k ((acy _).2 e);grind)
theorem akk{t:Tr}(ht:t.all LnQ.ok){p x:PtQ}(hx:Gn (ajW t p) p x): ∃v∈adY (agd (abf t p)),(aeQ t p v).1=(aeQ t p x).1:=by
 obtain⟨h1,h2,h3⟩:=aks ht p
 have cr: ∀l∈ajW t p,∃a:Rat,0<a∧ ∀y,(adm l.dir).cross y=a*l.nor.dot y:=fun l hl=>by
  obtain⟨a,a1,a2⟩:=ag0 (akc (adV ht _ (abM hl).1))
  exact⟨a,a1,fun y=>by rw[a2,←acN];unfold PtQ.cross;grind⟩
 by_cases hn:agd (abf t p)=[]
 ·refine⟨⟨1,0⟩,by unfold adY;rw[if_pos (by rw[hn];rfl)];exact aQ,?_⟩
  rw[afj fun l hl=>?_]
  have:=(h3 _).2 (abw.2 ⟨l,hl, .inl rfl⟩)
  rw[hn] at this;cases this
 ·obtain⟨i,hi,hs⟩:=aqS h1 h2 hn (x:=x) fun d hd=>by
   obtain⟨l,k1,k2⟩:=abw.1 ((h3 d).1 hd)
   obtain⟨a,a1,a2⟩:=cr l k1
   have hz:=hx l k1 (abM k1).2
   have e:(adm l.dir).cross x≠0:=by rw[a2];grind
   rcases k2 with rfl|rfl
   ·exact e
   ·intro q;apply e;unfold PtQ.cross abT at*;grind
  refine⟨amU (agd (abf t p)) i,?_,?_⟩
  ·unfold adY
   rw[if_neg (by omega)]
   exact bM.2 ⟨i,mM.2 hi,rfl⟩
  ·rw[afj fun l hl=>?_]
   have:=hs _ ((h3 _).2 (abw.2 ⟨l,hl, .inl rfl⟩))
   obtain⟨a,a1,a2⟩:=cr l hl
   rw[a2,a2] at this
   have sg: ∀z:Rat,Int.sign (a*z).num=Int.sign z.num:=fun z=>by
    rcases aaU z with k|k|k
    ·subst k;rw[show a*0=0 by grind]
    ·rw[(acK _).2 k,(acK _).2 (aae a1 k)]
    ·rw[ahZ k,ahZ (by have:=aae (a:=a) (b:= -z) a1 (by grind);grind)]
   rw[sg,sg] at this
   exact this.symm
def inP(t:Tr)(p:PtQ):Bool:=(adY (agd (abf t p))).any fun v=>(aeQ t p v).1
def alP(t:Tr)(p:PtQ):Bool:=(adY (agd (abf t p))).all fun v=>(aeQ t p v).1
def agb(t:Tr)(p:PtQ):Int:=if inP t p&&alP t p then 2 else if inP t p then 1 else 0
theorem as9{t:Tr}(ht:t.all LnQ.ok){p:PtQ}:inP t p=true↔aqE t p true:=by
 unfold inP
 rw[nV]
 constructor
 ·rintro ⟨v,h1,h2⟩;exact⟨v,aot ht h1,h2⟩
 ·rintro ⟨x,h1,h2⟩
  obtain⟨v,k1,k2⟩:=akk ht h1
  exact⟨v,k1,by rw[k2,h2]⟩
theorem as7{t:Tr}(ht:t.all LnQ.ok){p:PtQ}:alP t p=true↔ ¬aqE t p false:=by
 unfold alP
 rw[fY]
 constructor
 ·rintro h ⟨x,h1,h2⟩
  obtain⟨v,k1,k2⟩:=akk ht h1
  have:=h v k1
  rw[k2,h2] at this;cases this
 ·intro h v hv
  cases hb:(aeQ t p v).1 with
  |true=>rfl
  |false=>exact absurd ⟨v,aot ht hv,hb⟩ h
theorem aqU{t u:Tr}(ht:t.all LnQ.ok)(hu:u.all LnQ.ok){p:PtQ}(h: ∀b,aqE t p b↔aqE u p b):agb t p=agb u p:=by
 have h1:inP t p=inP u p:=by rw[pM,as9 ht,as9 hu,h]
 have h2:alP t p=alP u p:=by rw[pM,as7 ht,as7 hu,h]
 unfold agb
 rw[h1,h2]
theorem alo{t:Tr}(ht:t.all LnQ.ok)(p:PtQ):agb (t.restrict []) p=agb t p:=by
 have hu:=t.restrict_all LnQ.ok [] ht
 have hv: ∀q,Off t.lns q→(t.restrict []).val q=t.val q:=fun q hq=>t.val_restrict [] q ht ae1.nil (avp q) hq
 refine aqU hu ht fun b=>⟨fun h=>?_,fun h=>?_⟩
 ·obtain⟨x,y,h1,h2,h3⟩:=atu (f:=fun x _=>x) hu ht ht (fun q _ h2 _=>hv q h2) h
  subst h3;exact h1
 ·obtain⟨x,y,h1,h2,h3⟩:=atu (f:=fun x _=>x) ht hu hu (fun q h1 _ _=>(hv q h1).symm) h
  subst h3;exact h1
theorem akI{ls:List LnQ}(hb: ∀p∈ls,LB p)(hn:ls.length≤100000):PR GB prog 32 [.sl (ls.map eL)] 6 88 ((aeJ ls).map eL):=by
 have hm':=amh eL ls
 refine fnR (fu:=⟨15⟩) func32 J J ntmps32 J J (fun C hmb=>?_)
 refine eqF 8 (.d (vI (ls.length:Nat))) rfl (by rw[hm']<;>rfl) ?_
 refine gx rfl<|?_
 refine nr 3 3 88 6 J J J ?_
 refine lp (X:=List LnQ×Nat) (fun⟨xs,k⟩=>[(9, .d (vI (k:Nat))),(3, .rw 3)]) (fun⟨xs,k⟩=>[(3,some (.b 88 6 (xs.map eL) true))]) (fun⟨xs,k⟩=>xs=aim agz LnQ.canon ls k∧k≤ls.length) (fun⟨xs,k⟩=>ls.length-k) ⟨[],0⟩ rfl ⟨rfl,cX _⟩ (fun _=>rfl) (fun⟨xs,k⟩ hk=>?_)
 try dsimp only at hk⊢
 obtain⟨hS,hkl⟩:=hk
 refine br J J J (fun hc10=>?_) (fun hc10=>?_)
 ·
  have hk:k<ls.length:=by omega
  obtain⟨z,hm⟩: ∃m,m=ls[k]:=⟨_,rfl⟩
  have hz:ls[k]? =some z:=by rw[hm];exact aJ hk
  haveI hzb:LB z:=hm▸hb _ (fM hk)
  obtain⟨m,hmc⟩: ∃m,m=z.canon:=⟨_,rfl⟩
  haveI hmb:LB m:=by rw[hmc];infer_instance
  have hxl:=amh eL xs
  have hxn:xs.length≤k:=by rw[hS];exact apn
  have hxb: ∀q∈xs,LB q:=fun q hq=>by rw[hS] at hq;obtain⟨z,hz,rfl⟩:=ap9 hq;haveI:=hb z hz;infer_instance
  refine ix (fu:=⟨1⟩) _ rfl (agk hk) rfl<|?_
  refine eqF 12 (.d (eL z)) rfl (by rw[hm];rfl) ?_
  refine gx rfl<|cl (fu:=⟨2⟩) rfl (aq7 (l:=z)) rfl<|?_
  refine eqF 16 (.d (eL m)) rfl (by rw[hmc]) ?_
  refine gx (fu:=⟨10⟩) rfl<|?_
  refine mg (fu:=⟨0⟩) (X:=Nat) (fun n=>[(6, .d (vI (n:Nat)))]) (fun n=>[]) (fun n=>aqu agz m xs=n) [6] [] rfl ?_ (fun _=>rfl) (fun n hnx=>?_)
  ·
   refine gx rfl<|?_
   refine lp (fu:=⟨6⟩) (X:=Nat) (fun n=>[(6, .d (vI (n:Nat)))]) (fun n=>[]) (fun n=>n≤xs.length∧ ∀j (h:j<xs.length),j<n→agz xs[j] m<0) (fun n=>xs.length-n) 0 rfl ⟨cX _,fun j _ hj=>absurd hj (by omega)⟩ (fun _=>rfl) (fun n hk=>?_)
   obtain⟨n1,n2⟩:=hk
   refine csS (v2:=fun hg21=>by simp only[aag];kernel_rfl) J J J J (fun hg21=>?_) (fun hg21=>?_)
   ·
    refine lb _ rfl (agk (by omega)) rfl<|cl rfl (apk (l:=xs[n]'(by omega)) (m:=m) (hl:=hxb _ (fM (by omega))) (hm:=hmb)) rfl<|?_
    refine br J J J (fun hc30=>?_) (fun hc30=>?_)
    ·
     exact at_ (n+1) ⟨⟨by omega,fun j h hj=>by by_cases q:j=n;(subst q;exact hc30);exact n2 j h (by omega)⟩,(by omega)⟩
    ·
     exact at_ n (apH agz n1 n2 (fun h=>hc30))
   ·
    exact at_ n (apH agz n1 n2 (fun h=>absurd h (by omega)))
  ·
   have hnl:n≤xs.length:=by rw[←hnx];exact avK _ _ _
   rcases(show n=xs.length∨(∃h:n<xs.length,agz xs[n] m≠0)∨ ∃h:n<xs.length,agz xs[n] m=0 by by_cases q:n<xs.length;(by_cases q2:agz xs[n] m=0;exact .inr (.inr ⟨q,q2⟩);exact .inr (.inl ⟨q,q2⟩));exact .inl (by omega)) with hq|⟨hq,hq2⟩|⟨hq,hq2⟩
   ·
    have hnew: ∀h:n<xs.length,agz xs[n] m≠0:=fun h=>absurd h (by omega)
    obtain⟨ys,hys⟩: ∃ys,ys=xs.take n++m::xs.drop n:=⟨_,rfl⟩
    have hin:afy agz m xs=ys:=by rw[hys];exact aiM agz hnx hnew
    have hyl:ys.length≤xs.length+1:=by rw[hys];simp;omega
    refine fzC 3 rfl ?_
    refine gx (fu:=⟨5⟩) rfl<|knT rfl (by show some (decide _)=some true;rw[decide_eq_true (by rw[hxl];omega)]) rfl<|s3 n _ J J J J (agf _) (by rw[hxl];exact hnl) rfl<|?_
    refine ro J J<|sc' n xs.length _ J J (by rw[hxl]) rfl (agf _) hnl (by omega) rfl<|ap _ J J (slD agf _ _ _) rfl<|ap (hv:=by simp only[aag];exact⟨by kernel_rfl,by omega⟩) (ho:=fun _=>⟨slT agf _ _,by simp⟩) (ys.map eL) rfl (by rw[hys,gJ,bL,mY,List.map_drop,aR (l:=xs.map eL) (i:=xs.length) (by simp)];rfl) (slI agf _ _ _ _) rfl<|?_
    refine rnE 56 3 rfl ?_
    exact at_ ⟨ys,k+1⟩ (by dsimp only;exact⟨⟨by rw[afD hz,←hS,←hmc];exact hin.symm,by omega⟩,(by omega)⟩)
   ·
    have hnew: ∀h:n<xs.length,agz xs[n] m≠0:=fun h=>hq2
    obtain⟨ys,hys⟩: ∃ys,ys=xs.take n++m::xs.drop n:=⟨_,rfl⟩
    have hin:afy agz m xs=ys:=by rw[hys];exact aiM agz hnx hnew
    have hyl:ys.length≤xs.length+1:=by rw[hys];simp;omega
    refine fzC 3 rfl ?_
    refine gx (fu:=⟨5⟩) rfl<|knF rfl (by show some (decide _)=some false;rw[decide_eq_false (by rw[hxl];omega)]) rfl<|ix _ rfl (agk hq) rfl<|cl (fu:=⟨0⟩) rfl (apk (l:=xs[n]'(by omega)) (m:=m) (hl:=hxb _ (fM (by omega))) (hm:=hmb)) rfl<|?_
    refine knT rfl (by show some (decide _)=some true;rw[decide_eq_true (by assumption)]) rfl<|s3 n _ J J J J (agf _) (by rw[hxl];exact hnl) rfl<|?_
    refine ro J J<|sc' n xs.length _ J J (by rw[hxl]) rfl (agf _) hnl (by omega) rfl<|ap _ J J (slD agf _ _ _) rfl<|ap (hv:=by simp only[aag];exact⟨by kernel_rfl,by omega⟩) (ho:=fun _=>⟨slT agf _ _,by simp⟩) (ys.map eL) rfl (by rw[hys,gJ,bL,mY,List.map_drop,aR (l:=xs.map eL) (i:=xs.length) (by simp)];rfl) (slI agf _ _ _ _) rfl<|?_
    refine rnE 56 3 rfl ?_
    exact at_ ⟨ys,k+1⟩ (by dsimp only;exact⟨⟨by rw[afD hz,←hS,←hmc];exact hin.symm,by omega⟩,(by omega)⟩)
   ·
    have hin:afy agz m xs=xs:=amt agz hnx hq hq2
    refine gx (fu:=⟨5⟩) rfl<|knF rfl (by show some (decide _)=some false;rw[decide_eq_false (by rw[hxl];omega)]) rfl<|lb _ rfl (agk hq) rfl<|cl (fu:=⟨0⟩) rfl (apk (l:=xs[n]'(by omega)) (m:=m) (hl:=hxb _ (fM (by omega))) (hm:=hmb)) rfl<|?_
    refine knF (hv:=by simp only[aag];exact⟨by kernel_rfl,by omega⟩) rfl (by show some (decide _)=some false;rw[decide_eq_false (fun h=>h hq2)]) rfl<|?_
    exact at_ ⟨xs,k+1⟩ (by dsimp only;exact⟨⟨by rw[afD hz,←hS,←hmc];exact hin.symm,by omega⟩,(by omega)⟩)
 ·
  have hfin:aeJ ls=xs:=by rw[hS,apJ (by omega)];rfl
  exact rzR J J J (by rw[hfin])
theorem aro{t:Tr}(hb:t.all LB)(hs:t.size≤100000):PR GB prog 33 [eT t] 6 88 ((aeJ t.lns).map eL):=by
 refine fnR func33 J J ntmps33 J J (fun C hmb=>?_)
 refine cr rfl (akX hs) rfl<|fz 4 J J<|cr rfl (akI (adg.1 hb) (by rw[aeL];exact hs)) rfl<|?_
 exact rzR J J J J
theorem avT{b:Nat}{es:List Int}(hes:es.length≤400){a:Nat}(ha:a≤es.length){n:Int}(hn:1≤n)(hn2:n≤1000000):PM GB prog 42 (mkP [none,some (.v (.int .i64 n))] b) b 94 [.sl (es.map vI), .v (.int .i64 (a:Nat))] (.v (.int .i64 ((aak es n a).1:Nat))) [.sl (es.map vI), .v (.int .i64 ((aak es n a).2:Nat))]:=by
 have hel:(es.map vI).length=es.length:=by simp
 refine fnM func42 J J ntmps42 J J (fun C b m lo hmb=>?_)
 refine br J J J (fun hc15=>?_) (fun hc15=>?_)
 ·
  have hf:aak es n a=(0,a):=by unfold aak;rw[dif_neg (by omega)]
  exact rzM hmb J J (by rw[hf]<;>rfl) (by rw[hf]<;>rfl)
 ·
  have hal:a<es.length:=by omega
  obtain⟨e,he⟩: ∃e,e=es[a]:=⟨_,rfl⟩
  have q2:=Int.tmod_lt_of_pos e (show 0<n by omega)
  have q3: -n<Int.tmod e n:=by have:=Int.lt_tmod_of_pos e (show 0<n by omega);omega
  refine ix (fu:=⟨1⟩) _ rfl (amw hal) rfl<|?_
  refine eqF 25 (.d (vI e)) rfl (by rw[he]<;>rfl) ?_
  refine gx (hv:=by simp only[aag];exact⟨⟨by omega,by kernel_rfl⟩,by omega⟩) rfl<|?_
  refine br J J J (fun hc36=>?_) (fun hc36=>?_)
  ·
   have hf:aak es n a=((Int.tmod e n+n).toNat,a+1):=by unfold aak;rw[dif_pos hal,←he,if_pos hc36]
   exact rzM hmb J J (by rw[hf];show DV.v (.int .i64 _)=DV.v (.int .i64 _);rw[kZ (by omega)]) (by rw[hf]<;>rfl)
  ·
   have hf:aak es n a=((Int.tmod e n).toNat,a+1):=by unfold aak;rw[dif_pos hal,←he,if_neg hc36]
   exact rzM hmb J J (by rw[hf];show DV.v (.int .i64 _)=DV.v (.int .i64 _);rw[kZ (by omega)]) (by rw[hf]<;>rfl)
theorem apT{n:Int}{d:Nat}(hn:n.natAbs≤1000)(hd:0<d)(hd1:d≤1000):PF GB prog 147 [vI n, .v (.int .i64 (d:Nat))] (eQ (mkRat n d)):=by
 haveI:BI n 10:=aw6 (by omega)
 haveI:BN d 10:=⟨by omega⟩
 refine fn func147 J J ntmps147 J J (fun C=>?_)
 refine cl rfl (axY (n:=n) (by omega) (by omega)) rfl<|cl rfl (aft (u:=d) (by omega)) rfl<|cl rfl (ahM (x:=n) (d:=d) hd) rfl<|?_
 exact rz J J
def qF(es:List Int)(a:Nat):Rat×Nat:=
 (if((aak es 6 (aak es 9 a).2).1:Int)=0 then mkRat (2*(((aak es 9 a).1:Int)-4)+1) 2 else if((aak es 6 (aak es 9 a).2).1:Int)=1 then mkRat (3*(((aak es 9 a).1:Int)-4)+1) 3 else(((aak es 9 a).1:Rat)-4:Rat),(aak es 6 (aak es 9 a).2).2)
theorem anN{es:List Int}{a:Nat}(ha:a≤es.length):BQ (qF es a).1 12∧(qF es a).2≤es.length:=by
 have h1:=acE (es:=es) (n:=9) (a:=a) (by decide)
 refine⟨?_,abq (abq ha)⟩
 unfold qF
 dsimp only
 split
 ·exact adF (by decide) (by omega) (by decide)
 ·split
  ·exact adF (by decide) (by omega) (by decide)
  ·haveI:BI (((aak es 9 a).1:Int)-4:Int) 11:=aw6 (by omega)
   have e:((((aak es 9 a).1:Rat)-4):Rat)=((((aak es 9 a).1:Int)-4:Int):Rat):=by rw[mV];rfl
   rw[e]
   exact inferInstance
def aqw(es:List Int)(a:Nat):PtQ×Nat:=(⟨(qF es a).1,(qF es (qF es a).2).1⟩,(qF es (qF es a).2).2)
theorem akK{es:List Int}{a:Nat}(ha:a≤es.length):BPt (aqw es a).1 1200∧(aqw es a).2≤es.length:=by
 obtain⟨h1,h2⟩:=anN ha
 obtain⟨h3,h4⟩:=anN h2
 exact⟨⟨h1.mono (by decide),h3.mono (by decide)⟩,h4⟩
theorem q9(z:Nat):(z:Rat)-4=(((z:Int)-4:Int):Rat):=by rw[mV];rfl
def lnO:LnQ:=⟨1,0,0⟩
def ala(es:List Int)(L:List LnQ)(a:Nat):PtQ×Nat:=
 if L.length=0 then aqw es a else
 if((aak es 3 (aak es L.length a).2).1:Int)=0 then
  (if crossI (L.getD (aak es L.length a).1 lnO) (L.getD (aak es L.length (aak es 3 (aak es L.length a).2).2).1 lnO)≠0 then(acF (L.getD (aak es L.length a).1 lnO) (L.getD (aak es L.length (aak es 3 (aak es L.length a).2).2).1 lnO),(aak es L.length (aak es 3 (aak es L.length a).2).2).2) else aqw es (aak es L.length (aak es 3 (aak es L.length a).2).2).2)
 else if((aak es 3 (aak es L.length a).2).1:Int)=1 then((L.getD (aak es L.length a).1 lnO).at (qF es (aak es 3 (aak es L.length a).2).2).1,(qF es (aak es 3 (aak es L.length a).2).2).2) else aqw es (aak es 3 (aak es L.length a).2).2
theorem azj{b:Nat}{es:List Int}(hes:es.length≤400){a:Nat}(ha:a≤es.length):PM GB prog 73 (mkP [none] b) b 94 [.sl (es.map vI), .v (.int .i64 (a:Nat))] (eQ (qF es a).1) [.sl (es.map vI), .v (.int .i64 ((qF es a).2:Nat))]:=by
 have h1:=acE (es:=es) (n:=9) (a:=a) (by decide)
 refine fnM func73 J J ntmps73 J J (fun C b m lo hmb=>?_)
 refine cm rfl (fun b=>(aeK (n:=9) hes ha (by decide) (by decide))) rfl<|cm rfl (fun b=>(aeK (n:=6) hes (abq ha) (by decide) (by decide))) rfl<|?_
 refine br J J J (fun hc9=>?_) (fun hc9=>?_)
 ·
  refine cl rfl (apT (n:=2*(((aak es 9 a).1:Int)-4)+1) (d:=2) (by omega) (by decide) (by decide)) rfl<|?_
  exact rzM hmb J J (by unfold qF;dsimp only;rw[if_pos hc9];rfl) rfl
 ·
  refine br J J J (fun hc15=>?_) (fun hc15=>?_)
  ·
   refine cl rfl (apT (n:=3*(((aak es 9 a).1:Int)-4)+1) (d:=3) (by omega) (by decide) (by decide)) rfl<|?_
   exact rzM hmb J J (by unfold qF;dsimp only;rw[if_neg hc9,if_pos hc15];rfl) rfl
  ·
   refine cl rfl (axV (n:=(((aak es 9 a).1:Int)-4)) (by omega) (by omega)) rfl<|?_
   exact rzM hmb J J (by unfold qF;dsimp only;rw[if_neg hc9,if_neg hc15,q9];rfl) rfl
theorem aik{b:Nat}{es:List Int}(hes:es.length≤400){a:Nat}(ha:a≤es.length):PM GB prog 70 (mkP [none] b) b 94 [.sl (es.map vI), .v (.int .i64 (a:Nat))] (eP (aqw es a).1) [.sl (es.map vI), .v (.int .i64 ((aqw es a).2:Nat))]:=by
 refine fnM func70 J J ntmps70 J J (fun C b m lo hmb=>?_)
 refine cm rfl (fun b=>(azj hes ha)) rfl<|cm rfl (fun b=>(azj hes (anN ha).2)) rfl<|?_
 exact rzM hmb J J J J
theorem arM{t:Tr}{L:List LnQ}(h:L=aeJ t.lns)(hb:t.all LB)(hs:t.size≤100000):PR GB prog 33 [eT t] 6 88 (L.map eL):=h▸aro hb hs
theorem akP{b:Nat}{es:List Int}(hes:es.length≤400){a i c:Nat}(ha:a≤es.length){n:Int}(hn:1≤n)(hn2:n≤1000000)(e:aak es n a=(i,c)):PM GB prog 42 (mkP [none,some (.v (.int .i64 n))] b) b 94 [.sl (es.map vI), .v (.int .i64 (a:Nat))] (.v (.int .i64 (i:Nat))) [.sl (es.map vI), .v (.int .i64 (c:Nat))]:=by
 have:=avT (GB:=GB) (b:=b) hes ha hn hn2
 rw[e] at this
 exact this
theorem afY{L:List LnQ}{i:Nat}{m:LnQ}(h:L[i]? =some m):L.getD i lnO=m:=by rw[aK,h];rfl
theorem aiS{es:List Int}{n:Int}{a i c:Nat}(ha:a≤es.length)(hn:1≤n)(e:aak es n a=(i,c)):(i:Int)<n∧c≤es.length:=by
 have h1:=acE (es:=es) (n:=n) (a:=a) hn
 have h2:=abq (n:=n) ha
 rw[e] at h1 h2
 exact⟨h1,h2⟩
theorem au4{l m:LnQ}(h:LB l)(k:LB m):BPt (acF l m) 1200:=by
 have:= @BPt.imeet l m h k
 exact⟨this.x.mono (by decide),this.y.mono (by decide)⟩
theorem auO{es:List Int}{L:List LnQ}(hL: ∀l∈L,LB l){a:Nat}(ha:a≤es.length):BPt (ala es L a).1 1200∧(ala es L a).2≤es.length:=by
 unfold ala
 split
 ·exact akK ha
 ·rename_i h0
  have h1:=abq (n:=(L.length:Int)) ha
  have h2:=abq (n:=3) h1
  have hn:(1:Int)≤L.length:=by omega
  have hg: ∀{c:Nat},c<L.length→LB (L.getD c lnO):=fun{c} hc=>by rw[afY (aJ hc)];exact hL _ (fM hc)
  have i1:=hg (c:=(aak es L.length a).1) (by have:=acE (es:=es) (n:=(L.length:Int)) (a:=a) hn;omega)
  split
  ·have i2:=hg (c:=(aak es L.length (aak es 3 (aak es L.length a).2).2).1) (by have:=acE (es:=es) (n:=(L.length:Int)) (a:=(aak es 3 (aak es L.length a).2).2) hn;omega)
   split
   ·exact⟨au4 i1 i2,abq h2⟩
   ·exact akK (abq h2)
  ·split
   ·obtain⟨q1,q2⟩:=anN h2
    haveI:=i1
    have:= @BPt.at (L.getD (aak es L.length a).1 lnO) (qF es (aak es 3 (aak es L.length a).2).2).1 12 i1 q1
    exact⟨⟨this.x.mono (by decide),this.y.mono (by decide)⟩,q2⟩
   ·exact akK h2
theorem arL{b:Nat}{es:List Int}(hes:es.length≤400){a:Nat}(ha:a≤es.length){t:Tr}{L:List LnQ}(hL:L=aeJ t.lns)(hb:t.all LB)(ho:t.all LnQ.ok)(hs:t.size≤100000):PM GB prog 26 (mkP [none,some (eT t)] b) b 94 [.sl (es.map vI), .v (.int .i64 (a:Nat))] (eP (ala es L a).1) [.sl (es.map vI), .v (.int .i64 ((ala es L a).2:Nat))]:=by
 have hLB: ∀l∈L,LB l:=by rw[hL];exact aoX (adg.1 hb)
 have hLN: ∀l∈L,l.Ne:=by rw[hL];exact avQ (adV ho)
 have hLl:L.length≤100000:=by rw[hL];have:=apP t.lns;rw[aeL] at this;omega
 have hml:(L.map eL).length=L.length:=aX ..
 refine fnM func26 J J ntmps26 J J (fun C b m lo hmb=>?_)
 refine cr (fu:=⟨8⟩) rfl (arM hL hb hs) rfl<|?_
 refine eqF 12 (.d (vI (L.length:Nat))) rfl (by rw[hml]<;>rfl) ?_
 refine gx rfl<|?_
 refine br (fu2:=⟨8⟩) J J J (fun hc13=>?_) (fun hc13=>?_)
 ·
  have hf:ala es L a=aqw es a:=if_pos (by omega)
  refine cm rfl (fun b=>(aik hes (by assumption))) rfl<|?_
  exact rzM hmb J J (by rw[hf]<;>rfl) (by rw[hf])
 ·
  obtain⟨⟨i,a1⟩,e1⟩: ∃x,aak es L.length a=x:=⟨_,rfl⟩
  obtain⟨il,a1l⟩:=aiS (by assumption) (by omega) e1
  obtain⟨m,hx⟩: ∃m,L[i]? =some m:=⟨_,aJ (by omega)⟩
  haveI:=hLB m (cZ hx)
  obtain⟨⟨k,a2⟩,e2⟩: ∃x,aak es 3 a1=x:=⟨_,rfl⟩
  obtain⟨kl,a2l⟩:=aiS (by assumption) (by decide) e2
  have hmN:=hLN m (cZ hx)
  haveI hq:=(anN a2l).1
  refine eqF 19 (.d (vI (L.length:Nat))) rfl (by rw[hml]<;>rfl) ?_
  refine gx rfl<|cm rfl (fun b=>(akP (n:=(L.length:Int)) hes ha (by omega) (by omega) e1)) rfl<|lb _ rfl (abr hx) rfl<|cm rfl (fun b=>(akP (n:=3) hes a1l (by decide) (by decide) e2)) rfl<|?_
  refine br (fu1:=⟨7⟩) J J J (fun hc25=>?_) (fun hc25=>?_)
  ·
   obtain⟨⟨j,a3⟩,e3⟩: ∃x,aak es L.length a2=x:=⟨_,rfl⟩
   obtain⟨jl,a3l⟩:=aiS (by assumption) (by omega) e3
   obtain⟨m2,hx2⟩: ∃m,L[j]? =some m:=⟨_,aJ (by omega)⟩
   haveI:=hLB m2 (cZ hx2)
   refine eqF 32 (.d (vI (L.length:Nat))) rfl (by rw[hml]<;>rfl) ?_
   refine gx rfl<|cm rfl (fun b=>(akP (n:=(L.length:Int)) hes a2l (by omega) (by omega) e3)) rfl<|lb _ rfl (abr hx2) rfl<|cl rfl (aw3 (l:=m) (m:=m2)) rfl<|?_
   refine bd J J J (fun hc39=>?_) (fun hc39=>?_)
   ·
    have hf:ala es L a=(acF m m2,a3):=by unfold ala;rw[if_neg (by omega),e1];dsimp only;rw[e2];dsimp only;rw[if_pos hc25,e3];dsimp only;rw[afY hx,afY hx2,if_pos hc39]
    exact rzM hmb J J (by rw[hf]<;>rfl) (by rw[hf])
   ·
    have hf:ala es L a=aqw es a3:=by unfold ala;rw[if_neg (by omega),e1];dsimp only;rw[e2];dsimp only;rw[if_pos hc25,e3];dsimp only;rw[afY hx,afY hx2,if_neg hc39]
    refine cm rfl (fun b=>(aik hes (by assumption))) rfl<|?_
    exact rzM hmb J J (by rw[hf]<;>rfl) (by rw[hf])
  ·
   refine br J J J (fun hc41=>?_) (fun hc41=>?_)
   ·
    have hf:ala es L a=(m.at (qF es a2).1,(qF es a2).2):=by unfold ala;rw[if_neg (by omega),e1];dsimp only;rw[e2];dsimp only;rw[if_neg hc25,if_pos hc41,afY hx]
    refine cm rfl (fun b=>(azj hes a2l)) rfl<|cl rfl (aBR (l:=m) (t:=(qF es a2).1) (k:=12) hmN) rfl<|?_
    exact rzM hmb J J (by rw[hf]<;>rfl) (by rw[hf])
   ·
    have hf:ala es L a=aqw es a2:=by unfold ala;rw[if_neg (by omega),e1];dsimp only;rw[e2];dsimp only;rw[if_neg hc25,if_neg hc41]
    refine cm rfl (fun b=>(aik hes (by assumption))) rfl<|?_
    exact rzM hmb J J (by rw[hf]<;>rfl) (by rw[hf])
def RN.of(n:NQ):RN:=⟨⟨decide (n.l.a<0),dg n.l.a.natAbs,decide (n.l.b<0),dg n.l.b.natAbs,decide (n.l.c<0),dg n.l.c.natAbs⟩,n.a,n.b⟩
theorem azf(ns:List NQ):ns.map eN=(ns.map RN.of).map RN.d:=by
 rw[List.map_map];rfl
theorem auP(t:Tr):eA t=eRT (t.num 0) ((t.wr 0).map RN.of):=by
 unfold eA eRT
 rw[azf];rfl
theorem arz(a:Int):ahw (decide (a<0)) (dg a.natAbs)=a:=by
 unfold ahw
 rw[(aaD _).1]
 split
 ·rename_i h;have:=of_decide_eq_true h;omega
 ·rename_i h;have: ¬a<0:=fun e=>h (decide_eq_true e);omega
theorem ak0(a:Int):akv (decide (a<0)) (dg a.natAbs):=⟨(aaD _).2.2,fun h=>afH.2 (by have:=of_decide_eq_true h;omega)⟩
theorem RN.of_l(n:NQ):(RN.of n).g.l=n.l:=by
 unfold RN.of RL.l
 simp only[arz]
theorem RN.of_ln{n:NQ}(h:n.l.ok):(RN.of n).g.ln=some n.l:=by
 unfold RL.ln
 rw[if_pos ⟨⟨ak0 _,ak0 _,ak0 _⟩,by rw[RN.of_l];exact h⟩,RN.of_l]
theorem RN.of_sm{n:NQ}(h:LB n.l):(RN.of n).g.sm:=by
 have key: ∀a:Int,a.natAbs<2^96→DOk (dg a.natAbs)∧(dg a.natAbs).length≤3:=fun a ha=>⟨(aaD _).2.1,by have:=aa3 ha;omega⟩
 exact⟨key _ h.bl.a,key _ h.bl.b,key _ h.bl.c⟩
theorem adM(b:Bool)(k:Nat):acs b≠(k:Int):=by cases b<;>(unfold acs;simp)
theorem RR.det{ns:List RN}{rt:Int}{s s1:RS}{t1:Tr}(h:RR ns rt s t1 s1): ∀{s2:RS} {t2:Tr},RR ns rt s t2 s2→t1=t2∧s1=s2:=by
 induction h with
 |leaf b s=>
  intro s2 t2 h
  generalize hr:acs b=r at h
  cases h with
  |leaf b' s=>
   have:b=b':=by cases b<;>cases b'<;>first|rfl|(simp[acs] at hr)
   subst this;exact⟨rfl,rfl⟩
  |bad rt s h1 h2 h=>cases b<;>simp[acs] at hr<;>omega
  |line k=>exact absurd hr (adM _ _)
  |node k=>exact absurd hr (adM _ _)
 |bad rt s h1 h2 h=>
  intro s2 t2 h'
  cases h' with
  |leaf b s=>cases b<;>simp[acs] at h1 h2
  |bad=>exact⟨rfl,rfl⟩
  |line k n s hn hf=>
   have:=(bZ.1 hn).1
   rcases h with h|h|⟨j,e,_,hj⟩
   ·omega
   ·omega
   ·have:j=k:=by omega
    subst this;rw[hf] at hj;cases hj
  |node k n l s s2 s3 x y hn hf=>
   have:=(bZ.1 hn).1
   rcases h with h|h|⟨j,e,_,hj⟩
   ·omega
   ·omega
   ·have:j=k:=by omega
    subst this;rw[hf] at hj;cases hj
 |line k n s hn hf hl=>
  intro s2 t2 h'
  generalize hr:(k:Int)=r at h'
  cases h' with
  |leaf b s=>exact absurd hr.symm (adM _ _)
  |bad rt s h1 h2 h=>
   have:=(bZ.1 hn).1
   rcases h with h|h|⟨j,e,_,hj⟩
   ·omega
   ·omega
   ·have:j=k:=by omega
    subst this;rw[hf] at hj;cases hj
  |line k' n' s hn' hf' hl'=>
   have:k=k':=by omega
   subst this;exact⟨rfl,rfl⟩
  |node k' n' l s s2 s3 x y hn' hf' hl'=>
   have:k=k':=by omega
   subst this;rw[hn] at hn';cases hn';rw[hl] at hl';cases hl'
 |node k n l s s2 s3 x y hn hf hl h1 h2 i1 i2=>
  intro s4 t4 h'
  generalize hr:(k:Int)=r at h'
  cases h' with
  |leaf b s=>exact absurd hr.symm (adM _ _)
  |bad rt s h1 h2 h=>
   have:=(bZ.1 hn).1
   rcases h with h|h|⟨j,e,_,hj⟩
   ·omega
   ·omega
   ·have:j=k:=by omega
    subst this;rw[hf] at hj;cases hj
  |line k' n' s hn' hf' hl'=>
   have:k=k':=by omega
   subst this;rw[hn] at hn';cases hn';rw[hl] at hl';cases hl'
  |node k' n' l' s s2' s3' x' y' hn' hf' hl' h1' h2'=>
   have:k=k':=by omega
   subst this;rw[hn] at hn';cases hn';rw[hl] at hl';cases hl'
   obtain⟨rfl,rfl⟩:=i1 h1'
   obtain⟨rfl,rfl⟩:=i2 h2'
   exact⟨rfl,rfl⟩
def RT'(ns:List NQ):Tr→Int→List Nat→Prop
 | .leaf b,rt,L=>rt=acs b∧L=[]
 | .node l x y,rt,L=> ∃(k:Nat) (a b:Int) (L1 L2:List Nat),rt=(k:Int)∧ns[k]? =some ⟨l,a,b⟩∧RT' ns x a L1∧RT' ns y b L2∧L=k::(L1++L2)
theorem RT'.rr{ns:List NQ}: ∀{t:Tr} {rt:Int} {L:List Nat} {s:RS},RT' ns t rt L→t.all LnQ.ok→L.Nodup→(∀j∈L,s.f j=false)→ ∃f,RR (ns.map RN.of) rt s t ⟨f,s.c+t.size,s.b⟩∧ ∀j,j∉L→f j=s.f j
 | .leaf b,rt,L,s,⟨e,e2⟩,_,_,_=>by
  subst e e2
  exact⟨s.f, .leaf b s,fun _ _=>rfl⟩
 | .node l x y,rt,L,s,⟨k,a,b,L1,L2,e,hk,hx,hy,e2⟩,⟨h0,h1,h2⟩,hnd,hf=>by
  subst e e2
  obtain⟨hkn,hnd⟩:=List.nodup_cons.1 hnd
  obtain⟨hd1,hd2,hdis⟩:=List.nodup_append.1 hnd
  have hfk:=hf k aQ
  have hn1: ∀j∈L1,j≠k:=fun j hj e=>hkn (e▸bW _ hj)
  have hn2: ∀j∈L2,j≠k:=fun j hj e=>hkn (e▸bR _ hj)
  obtain⟨f1,r1,g1⟩:=RT'.rr (s:=⟨aj3 s.f k,s.c+1,s.b⟩) hx h1 hd1 (fun j hj=>by simp only;rw[ahp (hn1 j hj)];exact hf j (aZ _ (bW _ hj)))
  simp only at r1 g1
  obtain⟨f2,r2,g2⟩:=RT'.rr (s:=⟨f1,s.c+1+x.size,s.b⟩) hy h2 hd2 (fun j hj=>by
   simp only
   rw[g1 j (fun h=>hdis _ h _ hj rfl),ahp (hn2 j hj)]
   exact hf j (aZ _ (bR _ hj)))
  simp only at r2 g2
  have hc:s.c+(Tr.node l x y).size=s.c+1+x.size+y.size:=by simp only[Tr.size];omega
  rw[hc]
  refine⟨f2, .node k (RN.of ⟨l,a,b⟩) l s _ _ x y (by rw[fR,hk];rfl) hfk (RN.of_ln h0) r1 r2,fun j hj=>?_⟩
  simp only[aS,bS,not_or] at hj
  rw[g2 j hj.2.2,g1 j hj.2.1,ahp hj.1]
theorem RT'.len{ns:List NQ}: ∀{t:Tr} {rt:Int} {L:List Nat},RT' ns t rt L→L.length=t.size
 | .leaf _,_,_,⟨_,h⟩=>by rw[h];rfl
 | .node l x y,_,_,⟨k,a,b,L1,L2,_,_,h1,h2,h⟩=>by
  rw[h,bY,aU,RT'.len h1,RT'.len h2]
  simp only[Tr.size]
  omega
def RD'(ns:List NQ)(t:Tr)(rt:Int):Prop:= ∃L,RT' ns t rt L∧L.Nodup∧L.length=ns.length
theorem ayr{ns:List NQ}{t:Tr}{rt:Int}(h:RD' ns t rt)(ho:t.all LnQ.ok):ofQ (ns.map RN.of) rt=some t:=by
 obtain⟨L,h1,h2,h3⟩:=h
 obtain⟨f,r,_⟩:=h1.rr (s:=rs0) ho h2 (fun _ _=>rfl)
 have hr:=ajx (ns:=ns.map RN.of) (m:=(ns.map RN.of).length+1) (rt:=rt) (s:=rs0) (by have:=ae3 (ns.map RN.of).length rs0.f;omega)
 obtain⟨e1,e2⟩:=hr.1.det r
 unfold ofQ
 simp only
 rw[e2,e1,if_pos ⟨rfl,by show rs0.c+t.size=_;rw[aX,←h3,h1.len];show 0+_=_;omega⟩]
theorem avr{ns:List NQ}: ∀{t:Tr} {n:Nat},(∀i,i<t.size→ns[n+i]? =(t.wr n)[i]?)→RT' ns t (t.num n) (List.range' n t.size)
 | .leaf b,n,_=>⟨rfl,rfl⟩
 | .node l x y,n,h=>by
  have hsz:(Tr.node l x y).size=1+x.size+y.size:=rfl
  have hw:(Tr.node l x y).wr n=⟨l,x.num (n+1),y.num (n+1+x.size)⟩::(x.wr (n+1)++y.wr (n+1+x.size)):=by simp[Tr.wr]
  have hx:=x.wr_len (n+1)
  have hy:=y.wr_len (n+1+x.size)
  refine⟨n,x.num (n+1),y.num (n+1+x.size),List.range' (n+1) x.size,List.range' (n+1+x.size) y.size,rfl,?_,avr fun i hi=>?_,avr fun i hi=>?_,?_⟩
  ·have:=h 0 (by omega)
   rw[hw,dQ] at this
   rw[this];rfl
  ·have:=h (1+i) (by omega)
   rw[hw,iZ 1 i,List.getElem?_cons_succ,gL (by omega)] at this
   rw[show n+1+i=n+(i+1) by omega];exact this
  ·have:=h (1+x.size+i) (by omega)
   rw[hw,show 1+x.size+i=(x.size+i)+1 by omega,List.getElem?_cons_succ,gW (by omega),hx,Nat.add_sub_cancel_left] at this
   rw[show n+1+x.size+i=n+(x.size+i+1) by omega];exact this
  ·rw[hsz,show 1+x.size+y.size=(x.size+y.size)+1 by omega,List.range'_succ,List.range'_append_1]
theorem alv{t:Tr}(ho:t.all LnQ.ok):ofQ ((t.wr 0).map RN.of) (t.num 0)=some t:=
 ayr ⟨_,avr (n:=0) (fun i _=>by rw[cN]),List.nodup_range',by rw[List.length_range',t.wr_len]⟩ ho
theorem au5{t:Tr}(hb:t.all LB): ∀n∈(t.wr 0).map RN.of,n.g.sm:=fun n hn=>by
 obtain⟨m,hm,rfl⟩:=bM.1 hn
 exact RN.of_sm (Tr.all_wr 0 hb m hm)
def aCe(cs:List RL):Option (List LnQ):=if cs.all (fun r=>r.ln.isSome) then some (cs.filterMap RL.ln) else none
def aB5:Option (List LnQ)→DV
 |some ls=> .tp [.sl (ls.map eLn),vB true]
 |none=> .tp [.sl [],vB false]
def aBZ:Option aat→DV
 |some c=> .tp [.sl (c.map eFr),vB true]
 |none=> .tp [.sl [],vB false]
def ari(ai al:Addr)(more:Nat):Option Tr→DV
 |none=> .tp [.v (.pointer none),av9 ai]
 |some t=>if 1024<t.depth+more then .tp [.v (.pointer none),av9 al] else .tp [eU t, .v .nilIface]
theorem ayo{t:Tr}(h:t.gd∧t.size≤65536):t.depth≤65536:=by have:=t.depth_size;omega
theorem al0{ai al ae:Addr}(hE:EG GB ai al ae){ns:List RN}{rt:Int}(hs: ∀n∈ns,n.g.sm)(hn:ns.length≤65536){more:Nat}(hmo:more≤1000):PF GB prog 64 [eRT rt ns,vI (more:Nat)] (ari ai al more (ofQ ns rt)):=by
 refine fn func64 J J ntmps64 J J (fun C=>?_)
 rcases h:ofQ ns rt with _|t
 ·
  refine cl (fu:=⟨3⟩) rfl (azL hs hn h) rfl<|?_
  refine kbF 12 rfl ?_
  refine gx rfl<|gl rfl hE.ErrInvalid rfl<|?_
  exact rz J J
 ·
  have g:=atf hs hn h
  have hd:=ayo g
  refine cl (fu:=⟨3⟩) rfl (awW hs hn h) rfl<|?_
  refine kbT 12 rfl ?_
  refine gx rfl<|cl rfl (akx (by omega)) rfl<|?_
  refine br J J J (fun hc17=>?_) (fun hc17=>?_)
  ·
   refine gl rfl hE.ErrLimit rfl<|?_
   exact rz rfl (by rw[ari,if_pos (by omega)];rfl)
  ·
   exact rz rfl (by rw[ari,if_neg (by omega)];rfl)
theorem aww{ai al ae:Addr}(hE:EG GB ai al ae){ns:List RN}{rt:Int}(hs: ∀n∈ns,n.g.sm)(hn:ns.length≤65536){more:Nat}(hmo:more≤1000){t:Tr}(h:ofQ ns rt=some t)(hd:t.depth+more≤1024):PF GB prog 64 [eRT rt ns,vI (more:Nat)] (.tp [eU t, .v .nilIface]):=by
 have:=al0 hE (rt:=rt) hs hn hmo;rw[h,ari,if_neg (by omega)] at this;exact this
theorem az2{ai al ae:Addr}(hE:EG GB ai al ae){ns:List RN}{rt:Int}(hs: ∀n∈ns,n.g.sm)(hn:ns.length≤65536){more:Nat}(hmo:more≤1000)(h:ofQ ns rt=none):PF GB prog 64 [eRT rt ns,vI (more:Nat)] (.tp [.v (.pointer none),av9 ai]):=by
 have:=al0 hE (rt:=rt) hs hn hmo;rw[h] at this;exact this
def aBT(ai:Addr)(f:Tr→Tr):Option Tr→Tr ⊕ Addr
 |some t=> .inl (f t)
 |none=> .inr ai
def aBd(ai ae:Addr):Option Tr→Option (List LnQ)→Tr ⊕ Addr
 |some t,some ls=>(match atH ls [] with
  |some c=> .inl (t.restrict c)
  |none=> .inr ae)
 |_,_=> .inr ai
def aCo(ai:Addr):Option LnQ→Option Tr→DV
 |some m,some t=> .tp [eA (t.restrict (abg [] m)),eA (t.restrict (abg [] m.rev)), .v .nilIface]
 |_,_=> .tp [trZ,trZ,av9 ai]
theorem aph{ai al ae:Addr}(hE:EG GB ai al ae){ns:List RN}{rt:Int}(hs: ∀n∈ns,n.g.sm)(hn:ns.length≤65536)(hlim: ∀t,ofQ ns rt=some t→t.depth≤1000):PF GB prog 22 [eRT rt ns] (aA6 (aBT ai (fun t=>t.restrict []) (ofQ ns rt))):=by
 refine fn func22 J J ntmps22 J J (fun C=>?_)
 rcases h:ofQ ns rt with _|t
 ·
  refine cl rfl (az2 hE hs hn (more:=0) (by decide) h) rfl<|?_
  exact rz J J
 ·
  have g:=atf hs hn h
  have hd:=hlim t h
  refine cl rfl (aww hE hs hn (more:=0) (by decide) h (by omega)) rfl<|cl rfl (alJ (t:=t) g.1.lb g.1.ok (by omega)) rfl<|cl rfl (azW (t:=t.restrict []) (ag3 g.1 []).lb (by have:=t.restrict_size [];omega)) rfl<|?_
  exact rz J J
theorem ajG{b:Bool}:PF GB prog 67 [eU (.leaf b),eU (.leaf b)] (vB true):=by
 refine fn func67 J J ntmps67 J J (fun C=>?_)
 refine cl (fu:=⟨0⟩) rfl abI rfl<|?_
 refine kbT 7 rfl ?_
 refine gx rfl<|cl (fu:=⟨0⟩) rfl abI rfl<|?_
 refine kbT 9 rfl ?_
 refine gx (fu:=⟨0⟩) rfl<|knF J J J<|cl (fu:=⟨0⟩) rfl abI rfl<|?_
 refine kbT 13 rfl ?_
 refine gx rfl<|?_
 exact rz rfl (by show vB (b==b)=vB true;simp)
theorem akm{l:LnQ}{x y:Tr}(hl:LB l)(ihx:PF GB prog 67 [eU x,eU x] (vB true))(ihy:PF GB prog 67 [eU y,eU y] (vB true)):PF GB prog 67 [eU (.node l x y),eU (.node l x y)] (vB true):=by
 refine fn func67 J J ntmps67 J J (fun C=>?_)
 refine cl (fu:=⟨0⟩) rfl abu rfl<|?_
 refine kbF 7 rfl ?_
 refine gx rfl<|cl (fu:=⟨0⟩) rfl abu rfl<|?_
 refine kbF 9 rfl ?_
 refine gx (fu:=⟨0⟩) rfl<|knF J J J<|cl (fu:=⟨0⟩) rfl abu rfl<|?_
 refine kbF 13 rfl ?_
 refine gx rfl<|cl (fu:=⟨0⟩) rfl (amc (l:=l) (m:=l)) rfl<|knT rfl (by show some (decide (l=l))=some true;simp) rfl<|cl (fu:=⟨1⟩) rfl ihx rfl<|knT J J J<|?_
 refine cl rfl ihy rfl<|?_
 exact rz J J
theorem alk: ∀{t:Tr},t.all LB→PF GB prog 67 [eU t,eU t] (vB true)
 | .leaf _,_=>ajG
 | .node _ _ _,h=>akm h.1 (alk h.2.1) (alk h.2.2)
theorem ay9{ai al ae:Addr}(hE:EG GB ai al ae){t:Tr}(h:t.gd)(hs:t.size≤65536)(hd:t.depth≤1024):PF GB prog 64 [eA t,vI 0] (.tp [eU t, .v .nilIface]):=by
 have:=aww hE (rt:=t.num 0) (au5 h.lb) (by rw[aX,t.wr_len];exact hs) (more:=0) (by decide) (alv h.ok) (by omega)
 rw[←auP] at this
 exact this
theorem anc{ai al ae:Addr}(hE:EG GB ai al ae){t:Tr}(h:t.gd)(hs:t.size≤65536)(hd:t.depth≤1024)(hr:t.restrict []=t):PF GB prog 23 [eA t] (.tp [vB true, .v .nilIface]):=by
 refine fn func23 J J ntmps23 J J (fun C=>?_)
 refine cl rfl (ay9 hE h hs hd) rfl<|cl (fu:=⟨0⟩) rfl (alJ (t:=t) h.lb h.ok (by omega)) rfl<|?_
 refine eqF 16 (.d (eU t)) rfl (by rw[hr]) ?_
 refine gx rfl<|cl rfl (alk (t:=t) h.lb) rfl<|?_
 exact rz J J
section
variable {GB:Gh} {C:Ctx} {n:Nat} {Q0:Exit→Act→World→Prop} {fr fr':FrX} {own own':OwX} {cf cf':Cf} {vc:List Prop}
theorem aqJ{lk:LK}{bk:BM}{fo:Operand}{args:Array Operand}{tys:Array TypeId}{f:FuncId}{nm d:Nat}{l:List (Option DV)}{s:Nat}{ty ty0:TypeId}{pos:String}{af:Array Edge}{gd:Option (Nat×Bool)}{dsi dso:List DV}{lo:Bool}(hne:Nat.beq nm d=false)
  (ha:ajg lk fo args=some (f,nm,l))(hb:bk nm=some (.b ty0 s dsi lo))(hF:PB GB prog f (mkB l) s ty0 dsi (fun w=> .v (.slice w.a w.n w.c)) dso):OpR prog GB C n lk bk ⟨some d, .call ⟨.value fo,args,tys⟩,ty,pos,af,gd⟩ (.rw d) [(nm,none),(d,some (.b ty0 s dso lo))] [d]:=by
 intro hd tl tb K' s1 s2 hf hk
 refine⟨fun ρ G ov a w r Q=>?_⟩
 have r1:=r.mono s1 s2
 unfold ajg at ha
 split at ha<;>try (cases ha;done)
 rename_i h1
 split at ha<;>cases ha
 rename_i h2
 obtain⟨y,hy,hy'⟩:=r1.ev h1
 rw[(aaM (G:=G)).1 hy'] at hy
 obtain⟨B,g1,g2⟩:=r1.bx _ _ hb
 have hB:aaX G ⟨ρ nm,s,ty0,dsi,lo⟩ B:=g1
 obtain⟨vs,h7,h8⟩:=ag7 r1 (z:=ρ nm) h2 (fun nm e=>by cases e;rfl)
 have hp: ∃rest,ov.Perm (B++rest)∧ ∀o∈ov,(∀o'∈B,o.b≠o'.b)→o∈rest:=by
  rcases hB with⟨vs',⟨_,_,e⟩|⟨b0,r0,lo0,_,e,_⟩,_⟩
  ·rw[e];exact⟨ov,List.Perm.refl _,fun o ho _=>ho⟩
  ·rw[e] at g2⊢
   obtain⟨l1,l2,e2⟩:=jQ (g2 _ aQ)
   rw[e2]
   refine⟨l1++l2,kW,fun o ho hno=>?_⟩
   rcases bS.1 ho with ho|ho
   ·exact bW _ ho
   ·rcases aS.1 ho with rfl|ho
    ·exact absurd rfl (hno _ aQ)
    ·exact bR _ ho
 obtain⟨rest,h5,h6⟩:=hp
 refine ac3 (M:=B) (rest:=rest) hy h7 h5 (hF G (ρ nm) vs B r.gb hB.weak h8) hd (fun v own1 G' hG hK a' w' rl=>?_) a w Q ⟨r.h,r.sz,aaK a,r.df⟩
 obtain⟨z,hr,vs',k1,k2,k3,k4⟩:=hK
 have k1':=k1.relo (flM B)
 have e2:lo=true→ ∀o∈own1.map (relo (flM B)),o.lo=true:=fun hl o ho=>by
  obtain⟨o',_,rfl⟩:=bM.1 ho
  obtain⟨_,_,_,_,hlo⟩:=hB
  exact afb _ (hlo hl)
 generalize own1.map (relo (flM B))=B' at rl e2 k1'
 have rl':Rel C n (Sx.put (frA a) (some d) v) (B'++rest) G' a' w':=rl
 have hdis:=(fV.1 rl'.h.nd).2.2
 have r2:=r.dropB nm
 have hnn:nm≠d:=fun e=>by subst e;rw[mX] at hne;cases hne
 have hf2:acg [d] (some d) tl (Sx.upB tb [(nm,none)]):=fun q hq=>by
  obtain⟨f1,f2⟩:=hf q hq
  refine⟨f1,fun k B e1 e=>?_⟩
  simp only[Sx.upB] at e
  split at e
  ·cases e
  ·exact f2 k B e1 e
 have hsep: ∀q B0,Sx.upB tb [(nm,none)] q=some B0→ ∀o∈ov,(ρ q).a=some ⟨o.b,0,none⟩→o∈rest:=fun q B0 e o ho hbq=>by
  simp only[Sx.upB] at e
  split at e
  ·cases e
  ·rename_i hqn
   refine h6 o ho fun o' ho' he=>?_
   exact r.dj nm q _ _ (s2 _ _ hb) e (Ne.symm hqn) o'.b (g1.blk ho') (by rw[hbq,he])
 rw[aaM.1 hr] at rl'
 have r3:=r2.new' (x:=z) (B':= .b ty0 s dso lo) (os:=B') (ov':=B'++rest) (f:= .rw d) (y:= .slice z.a z.n z.c) hf2 hG.le rl'.h ⟨vs',by simpa using k1',k2,k3,e2⟩ (fun o ho=>bW _ ho)
  (fun q B0 hq e o ho hbq=>⟨bR _ (hsep q B0 e o ho hbq),fun hc=>by
   have hx: ∃o1∈B',o1.b=o.b:=by
    rcases k1' with⟨_,h,_⟩|⟨b0,rest0,lo0,h,hB,_⟩
    ·rw[show z=_ from h] at hc;cases hc
    ·rw[show z=_ from h] at hc;cases hc;exact⟨⟨_,aaf vs'++rest0,_,lo0⟩,by rw[hB];exact aQ,rfl⟩
   obtain⟨o1,ho1,he1⟩:=hx
   exact hdis o1 ho1 o (hsep q B0 e o ho hbq) he1⟩) (by simp[IsX]) (aa8 rl')
 exact hk.run _ G' _ a' w' r3
theorem cq[fu:Fu]{f:FuncId}{nm d:Nat}{l:List (Option DV)}{ty:TypeId}{s:Nat}{dsi dso:List DV}{lo:Bool}(dso':List DV)(ha:ayK fr own cf=some ⟨f,nm,l,ty,s,dsi,lo,d⟩)(hF:PB GB prog f (mkB l) s ty dsi (fun w=> .v (.slice w.a w.n w.c)) dso)(he:dso=dso')
  (hgo:goA tt n fu.n fr own cf (.rw d) [(nm,none),(d,some (.b ty s dso' lo))] [d]=⟨vc,fr',own',cf'⟩)(k:CfS prog GB C n Q0 fr' own' cf')
  (hv:aag vc:=by first|exact trivial|(simp only[aag];kernel_rfl)|(simp only[aag];omega)|(simp only[aag,aX,aY,aV];omega)):CfS prog GB C n Q0 fr own cf:=by
 subst he
 unfold ayK at ha
 split at ha<;>try (cases ha;done)
 rename_i hh
 split at ha<;>try (cases ha;done)
 rename_i h1
 split at ha<;>try (cases ha;done)
 rename_i h2
 rw[cond_eq_ite] at ha
 split at ha<;>cases ha
 rename_i h3
 exact us hh (aqJ (by cases hq:Nat.beq nm d with|false=>rfl|true=>exact absurd hq h3) h1 h2 hF) hgo hv k
def anH(C:Ctx)(s:Nat)(ty:TypeId)(dso:List DV):Ending→World→Prop:=afw C (fun v own' G'=> ∃w',Is G' (.v (.slice w'.a w'.n w'.c)) v∧aaX G' ⟨w',s,ty,dso,false⟩ own')
theorem fnQ[fu:Fu]{f:FuncId}{fb:Func}{c:Code}{k s:Nat}{l:List (Option DV)}{dsi dso:List DV}{ty:TypeId}(hf:prog.funcs[f]? =some fb)(hb:fb.body=some c)(hn:(fb.name== "runtime.NumGoroutine")=false)(hm:fb.ntmps=k)(hlen:Nat.ble l.length k=true)
  (hgo:go tt k fu.n [] (ahe 0 l) [(NM,some (.b ty s dsi false))] (.code c [])=⟨vc,fr,own,cf⟩)(h: ∀C,CfS prog GB C k (bodyPost prog fb (anH C s ty dso)) fr own cf)
  (hv:aag vc:=by first|exact trivial|(simp only[aag];kernel_rfl)|(simp only[aag];omega)|(simp only[aag,aX,aY,aV];omega)):PB GB prog f (mkB l) s ty dsi (fun w=> .v (.slice w.a w.n w.c)) dso:=by
 intro G w vs B hg hB hvs
 refine FnO.intro hf hb hn hm (by rw[hvs.len,aiX];exact hlen) fun C _ hmb=>?_
 intro a wd rl
 have h1:=gx' (GB:=GB) (C:=C) (Q0:=bodyPost prog fb (anH C s ty dso)) hgo hv (h C)
 refine h1.run (fun _=>w) G (Sx.asB B) a wd ⟨hg,rl.h,rl.sz,rl.df,fun k f e=>?_,fun nm B' e=>?_,fun nm nm' B' B2 e e' hne=>?_⟩
 ·obtain⟨y,⟨j,hj,hy⟩,h2⟩:=adG (ρ:=fun _=>w) (w:=w) rfl 0 hvs k f e
  refine⟨y,rl.fr k y ?_,h2⟩
  rw[hj];exact ab3 vs 0 j y hy
 ·rw[aaL] at e
  split at e
  ·cases e;exact⟨Sx.asB B,hB.asB,fun o ho=>ho⟩
  ·cases e
 ·rw[aaL] at e e'
  split at e<;>split at e'
  ·rename_i h2 h3;exact absurd (h2.trans h3.symm) hne
  ·cases e'
  ·cases e
  ·cases e
theorem rzQ{fb:Func}{t d s:Nat}{ty:TypeId}{ds dso:List DV}(hr:fb.results.toList=[.tmp t])(hl:aau fr t=some (.rw d))(hw:aaA own d=some (.b ty s ds false))(ed:ds=dso):
  CfS prog GB C n (bodyPost prog fb (anH C s ty dso)) fr own (.ex .ret []):=by
 subst ed
 refine⟨fun ρ G ov a w r=>?_⟩
 obtain⟨B,g1,g2⟩:=r.bx _ _ hw
 have hB:aaX G ⟨ρ d,s,ty,ds,false⟩ B:=g1
 obtain⟨rest,hp⟩:=ai2 hB g2
 obtain⟨y,hy,hy'⟩:=r.ev (x:= .tmp t) (f:= .rw d) hl
 cases (show y=_ from hy')
 exact adL (C:=C) (n:=n) (fr:=frA a) (own:=ov) (G:=G) (vs:=[.slice (ρ d).a (ρ d).n (ρ d).c]) (by rw[hr];exact .tmp hy .nil) (B++rest) B hp (lV _ _) ⟨ρ d,aaM.2 rfl,hB⟩ a w ⟨r.h,r.sz,aaK a,r.df⟩
/-! the same with nil as the row of nothing, the last argument -/
def av5(lk:LK):List Operand→Option (List (Option DV))
 |[]=>none
 |[x]=>match evX lk x with
  |some .nl=>some [none]
  |_=>none
 |x::t=>match evX lk x,av5 lk t with
  |some f,some l=>match ahU f with
   |some d=>some (some d::l)
   |none=>none
  |_,_=>none
def avs(lk:LK)(fo:Operand)(args:Array Operand):Option (FuncId×List (Option DV)):=match evX lk fo with
 |some (.d (.v (.func (.func f) ⟨[]⟩ ⟨[]⟩)))=>match av5 lk args.toList with
  |some l=>some (f,l)
  |_=>none
 |_=>none
theorem ao2{lk:LK}{bk:BM}{ρ:NE}{G:Gh}{ov:List Own}{a:Act}{w:World}(r:RlX GB C n lk bk ρ G ov a w): ∀{x:List Operand} {l:List (Option DV)},av5 lk x=some l→ ∃y,aeM (frA a) x=some y∧IsLs G (mkB l ⟨none,0,0⟩) y
 |[],l,e=>by cases e
 |[x],l,e=>by
  simp only[av5] at e
  split at e<;>cases e
  rename_i h1
  obtain⟨y,h3,h4⟩:=r.ev h1
  cases (show y=_ from h4)
  exact⟨[Value.slice none 0 0],by simp only[aeM,h3], .cons ((aaM (G:=G)).2 rfl) .nil⟩
 |x::x2::t,l,e=>by
  simp only[av5] at e
  split at e
  ·rename_i f l' h1 h2
   cases hd:ahU f with
   |none=>rw[hd] at e;cases e
   |some d=>
   rw[hd] at e;cases e
   obtain⟨y,h3,h4⟩:=r.ev h1
   obtain⟨ys,h5,h6⟩:=ao2 r (x:=x2::t) (by simpa only[av5] using h2)
   exact⟨y::ys,by simp only[aeM,h3] at h5⊢;rw[h5], .cons (aca h4 hd) h6⟩
  ·cases e
theorem aqa{lk:LK}{bk:BM}{fo:Operand}{args:Array Operand}{tys:Array TypeId}{f:FuncId}{d:Nat}{l:List (Option DV)}{s:Nat}{ty ty0:TypeId}{pos:String}{af:Array Edge}{gd:Option (Nat×Bool)}{dso:List DV}
  (ha:avs lk fo args=some (f,l))(hF:PB GB prog f (mkB l) s ty0 [] (fun w=> .v (.slice w.a w.n w.c)) dso):OpR prog GB C n lk bk ⟨some d, .call ⟨.value fo,args,tys⟩,ty,pos,af,gd⟩ (.rw d) [(d,some (.b ty0 s dso true))] [d]:=by
 intro hd tl tb K' s1 s2 hf hk
 refine⟨fun ρ G ov a w r Q=>?_⟩
 have r1:=r.mono s1 s2
 unfold avs at ha
 split at ha<;>try (cases ha;done)
 rename_i h1
 split at ha<;>cases ha
 rename_i h2
 obtain⟨y,hy,hy'⟩:=r1.ev h1
 rw[(aaM (G:=G)).1 hy'] at hy
 obtain⟨vs,h7,h8⟩:=ao2 r1 h2
 refine ac3 (M:=[]) (rest:=ov) hy h7 (List.Perm.refl _) (hF G ⟨none,0,0⟩ vs [] r.gb ⟨[], .nil _ _, .nil,by simp,fun h=>by cases h⟩ h8) hd (fun v own1 G' hG hK a' w' rl=>?_) a w Q ⟨r.h,r.sz,aaK a,r.df⟩
 obtain⟨z,hr,vs',k1,k2,k3,k4⟩:=hK
 have k1':=k1.relo (flM [])
 have e2: ∀o∈own1.map (relo (flM [])),o.lo=true:=fun o ho=>by
  obtain⟨o',_,rfl⟩:=bM.1 ho
  rfl
 generalize own1.map (relo (flM []))=B' at rl e2 k1'
 have rl':Rel C n (Sx.put (frA a) (some d) v) (B'++ov) G' a' w':=rl
 have hdis:=(fV.1 rl'.h.nd).2.2
 rw[aaM.1 hr] at rl'
 have r3:=r.new (x:=z) (B':= .b ty0 s dso true) (os:=B') (ov':=B'++ov) (f:= .rw d) (y:= .slice z.a z.n z.c) hf hG.le rl'.h ⟨vs',by simpa using k1',k2,k3,fun _=>e2⟩ (fun o ho=>bW _ ho) (fun o ho=>bR _ ho)
  (fun o ho hc=>by
   have hx: ∃o1∈B',o1.b=o.b:=by
    rcases k1' with⟨_,h,_⟩|⟨b0,rest0,lo0,h,hB,_⟩
    ·rw[show z=_ from h] at hc;cases hc
    ·rw[show z=_ from h] at hc;cases hc;exact⟨⟨_,aaf vs'++rest0,_,lo0⟩,by rw[hB];exact aQ,rfl⟩
   obtain⟨o1,ho1,he1⟩:=hx
   exact hdis o1 ho1 o ho he1) (by simp[IsX]) (aa8 rl')
 exact hk.run _ G' _ a' w' r3
def axM(fr:FrX)(cf:Cf):Option (FuncId×List (Option DV)×Nat):=match opC fr cf with
 |some ⟨some d, .call ⟨.value fo,args,_⟩,_,_,_,_⟩=>match avs (lkC fr cf) fo args with
  |some (f,l)=>some (f,l,d)
  |none=>none
 |_=>none
theorem cqn[fu:Fu]{f:FuncId}{d:Nat}{l:List (Option DV)}{ty:TypeId}{s:Nat}{dso:List DV}(dso':List DV)(ha:axM fr cf=some (f,l,d))(hF:PB GB prog f (mkB l) s ty [] (fun w=> .v (.slice w.a w.n w.c)) dso)(he:dso=dso')
  (hgo:goA tt n fu.n fr own cf (.rw d) [(d,some (.b ty s dso' true))] [d]=⟨vc,fr',own',cf'⟩)(k:CfS prog GB C n Q0 fr' own' cf')
  (hv:aag vc:=by first|exact trivial|(simp only[aag];kernel_rfl)|(simp only[aag];omega)|(simp only[aag,aX,aY,aV];omega)):CfS prog GB C n Q0 fr own cf:=by
 subst he
 unfold axM at ha
 split at ha<;>try (cases ha;done)
 rename_i hh
 split at ha<;>cases ha
 rename_i h1
 exact us hh (aqa h1 hF) hgo hv k
end
/-! append to a row that was handed over -/
section
variable {P:Program} {T:TT} {GB:Gh} {C:Ctx} {n:Nat} {lk:LK} {bk:BM} {ρ:NE} {G:Gh} {ov:List Own} {a:Act} {w:World}
variable {dst:Option Nat} {t t' ty':TypeId} {pos:String} {af:Array Edge} {gd:Option (Nat×Bool)} {x y:Operand} {e s by_:Nat}
theorem ar0{d nm:Nat}{i:TI}{z:DV}{ds ds2:List DV}[hT:ab7 P t e s by_][hN:TyN P t'](hi:aeh P e=some i)(hz:zeE i=some z)(hs:Nat.beq z.cells.length s=true)(hx:evX lk x=some (.rw nm))(hb:bk nm=some (.b e s ds false))(hy:anR lk bk s y=some ds2)(hk2:aef s ds2)
  (hby:Nat.blt 0 by_=true)(hbd:(ds.length+ds2.length)*by_≤140737488355328)(hnd:Nat.beq nm d=false){ds':List DV}(hds:ds++ds2=ds'):
  OpR P GB C n lk bk ⟨some d, .call ⟨.builtin .append, #[x,y], #[t,t']⟩,ty',pos,af,gd⟩ (.rw d) [(nm,none),(d,some (.b e s ds' false))] [d]:=by
 intro hd tl tb K s1 s2 hf hk
 refine⟨fun ρ G ov a w r Q=>?_⟩
 subst hds
 have r1:=r.mono s1 s2
 obtain⟨v,hz1,hz2,hz3⟩:=agI hi hz
 have cz:=((hz2 G).cells hz3).1.len
 replace hs:=aW hs
 rw[mT] at hby
 have hne:nm≠d:=fun e=>by subst e;simp at hnd
 obtain⟨u,hx',hx2⟩:=r1.ev hx
 cases hx2
 obtain⟨B,hB0,hBo⟩:=r1.bx _ _ hb
 have hB1:aaX G ⟨ρ nm,s,e,ds,false⟩ B:=hB0
 clear hB0
 obtain⟨vs,hB,hv,hvs,_⟩:=hB1
 simp only[] at hB hv hvs
 obtain⟨w2,us,hy',h2,h3,h4,h5,h6⟩:=ajY (P:=P) r1 hy hk2
 have hus:(aaf us).length=us.length*s:=aam us h4
 have hbd':(vs.length+us.length)*by_≤140737488355328:=by rw[hv.len,h3.len];exact hbd
 have hall: ∀v∈vs++us,(aad v).length=s:=fun v hv=>by
  rcases bS.1 hv with hv|hv
  ·exact hvs v hv
  ·exact h4 v hv
 have rd:=r.dropB nm
 have hf':acg [d] (some d) tl (Sx.upB tb [(nm,none)]):=fun m hm=>by
  obtain⟨g1,g2⟩:=hf m hm
  refine⟨g1,fun k B' hk e=>g2 k B' hk ?_⟩
  simp only[Sx.upB] at e
  split at e
  ·cases e
  ·exact e
 have hbk: ∀m B',(Sx.upB tb [(nm,none)]) m=some B'→m≠nm∧tb m=some B':=fun m B' e=>by
  simp only[Sx.upB] at e
  split at e
  ·cases e
  ·exact⟨by assumption,e⟩
 have hnew: ∀{z:SV} {ov':List Own} {B1:List Own} {a':Act} {w':World} {dz:List DV},aaX G ⟨z,s,e,dz,false⟩ B1→(∀o∈B1,o∈ov')→(∀m B',m≠d→(Sx.upB tb [(nm,none)]) m=some B'→ ∀o∈ov,(ρ m).a=some ⟨o.b,0,none⟩→o∈ov'∧z.a≠some ⟨o.b,0,none⟩)→
   SX GB C n (upL tl (some d) (.rw d)) (Sx.upB (Sx.upB tb [(nm,none)]) [(d,some (.b e s dz false))]) K→Rel C n (Sx.put (frA a) (some d) (.slice z.a z.n z.c)) ov' G a' w'→K a' w':=fun hB1 hos hov hk1 rl=>
  hk1.run _ _ _ _ _ (rd.new' (f:= .rw d) (y:= .slice _ _ _) hf' (GLe.refl _) rl.h (hB1.toBk (by simp)) hos hov (by show _=_;simp) (aa8 rl))
 have hfin: ∀(b:Nat) (lo1:Bool) (cap':Nat) (rest':List Value) (ov1:List Own) a' w',vs.length+us.length≤cap'→rest'.length+(vs.length+us.length)*s=cap'*s→(∀o∈ov,(ρ nm).a≠some ⟨o.b,0,none⟩→o∈ov1)→
   Rel C n (put (frA a) (some d) (.slice (some ⟨b,0,none⟩) (vs.length+us.length) cap')) (⟨b,aaf (vs++us)++rest',e,lo1⟩::ov1) G a' w'→K a' w':=by
  intro b lo1 cap' rest' ov1 a' w' hc hr ho1 rl
  have hnd':=(bU.1 rl.h.nd).1
  refine hnew (z:=⟨some ⟨b,0,none⟩,vs.length+us.length,cap'⟩) (B1:=[⟨b,aaf (vs++us)++rest',e,lo1⟩]) ⟨vs++us, .inr ⟨b,rest',lo1,by simp,rfl,aam _ hall,?_,by simpa using hc⟩,hv.app h3,hall,fun h=>by cases h⟩
   (fun o ho=>by rw[aN.1 ho];exact aQ) (fun m B' hm e o ho hmo=>?_) hk rl
  ·rw[aam _ hall,aU]
   simp only[]
   omega
  ·obtain⟨h7,h8⟩:=hbk m B' e
   have ho2:=ho1 o ho fun hc=>r.dj m nm B' _ h8 (s2 _ _ hb) h7 _ hmo hc
   exact⟨aZ _ ho2,fun e'=>by cases e';exact hnd' o ho2 rfl⟩
 rcases hB with⟨e1,e2,e3⟩|⟨b,rest,lo',k3,k4,k5,k6,k7⟩
 ·subst e1
  rw[e2] at hx'
  by_cases hne:us=[]
  ·subst hne
   have:ds2=[]:=bV (by rw[←h3.len];rfl)
   subst this
   rw[h2] at hy'
   refine ae0 hx' hy' hd (fun a' w' rl=>?_) a w Q ⟨r.h,r.sz,aaK a,r.df⟩
   refine hnew (z:=⟨none,0,0⟩) (B1:=[]) ⟨[], .inl ⟨rfl,rfl,rfl⟩,by simpa using hv,by simp,fun h=>by cases h⟩ (fun o ho=>by cases ho) (fun m B' hm e o ho hmo=>⟨ho,fun e'=>by cases e'⟩) hk rl
  ·have hup:0<us.length:=nS.2 hne
   rw[h2] at hy' h6
   refine abU (z:=v) (xs:=[]) (ys:=aaf us) hx' hy' adb h6 (by show(0:Nat)<0+us.length;omega) hby (by simpa using hbd') hd (fun b cap' hc a' w' rl=>?_) a w Q ⟨r.h,r.sz,aaK a,r.df⟩
   exact hfin b true cap' (aaT v (cap'-us.length)) ov a' w' (by simpa using hc) (by rw[abe,cz,hs,←bN];simp at hc⊢;congr 1;omega) (fun o ho _=>ho) (by simpa using rl)
 ·subst k4
  have ha:(ρ nm).a=some ⟨b,0,none⟩:=by rw[k3]
  have hn:(ρ nm).n=vs.length:=by rw[k3]
  rw[ha,hn] at hx'
  rw[h2] at hy' h6
  obtain⟨ov1,o1,o2⟩:=ahB.of_mem (hBo _ aQ)
  refine aff (z:=v) (xs:=aaf vs) (ys:=aaf us) (rest:=rest) (own1:=ov1) hx' hy' o1 k5 k6 k7 h6 hus h5 hby hbd' (by rw[cz,hs]) hd (fun b' lo2 cap' rest' hc hr a' w' rl=>?_) a w Q ⟨r.h,r.sz,aaK a,r.df⟩
  rw[←aa2] at rl
  exact hfin b' lo2 cap' rest' ov1 a' w' hc hr (fun o ho hne=>o2 o ho fun e'=>hne (by rw[ha,e'])) rl
end
section
variable {GB:Gh} {C:Ctx} {n:Nat} {Q0:Exit→Act→World→Prop} {fr fr':FrX} {own own':OwX} {cf cf':Cf} {vc:List Prop}
def aAX(fr:FrX)(own:OwX)(cf:Cf):Option (Nat×Nat×Nat×Nat×Nat×List DV×List DV):=match opC fr cf with
 |some ⟨some d, .call ⟨.builtin .append,⟨[x,y]⟩,⟨[t,t']⟩⟩,_,_,_,_⟩=>match aa9 tt t with
  |some ⟨.sl e s b,_,_,_⟩=>match aa9 tt t' with
   |some ⟨.sl _ _ _,_,_,_⟩=>match aa9 tt e with
    |some i=>match zeE i with
     |some z=>bif Nat.beq z.cells.length s&&Nat.blt 0 b then(match anR (lkC fr cf) (bkC fr own cf) s y with
      |some ds2=>match evX (lkC fr cf) x with
       |some (.rw nm)=>match bkC fr own cf nm with
        |some (.b e' s' ds false)=>bif (Nat.beq e' e&&Nat.beq s' s)&&!Nat.beq nm d then some (d,nm,e,s,b,ds,ds2) else none
        |_=>none
       |_=>none
      |none=>none) else none
     |none=>none
    |none=>none
   |_=>none
  |_=>none
 |_=>none
theorem apB[fu:Fu]{d nm:Nat}{e s b:Nat}{ds ds2:List DV}(ds':List DV)(h:aAX fr own cf=some (d,nm,e,s,b,ds,ds2))(hds:ds++ds2=ds')(ho2:aef s ds2)(hgo:goA tt n fu.n fr own cf (.rw d) [(nm,none),(d,some (.b e s ds' false))] [d]=⟨vc,fr',own',cf'⟩)(k:CfS prog GB C n Q0 fr' own' cf')
  (hbd:(ds.length+ds2.length)*b≤140737488355328:=by simp;omega)
  (hv:aag vc:=by first|exact trivial|(simp only[aag];kernel_rfl)|(simp only[aag];omega)|(simp only[aag,aX,aY,aV];omega)):CfS prog GB C n Q0 fr own cf:=by
 unfold aAX at h
 split at h<;>try (cases h;done)
 rename_i hh
 split at h<;>try (cases h;done)
 rename_i hT
 split at h<;>try (cases h;done)
 rename_i hT'
 split at h<;>try (cases h;done)
 rename_i hi
 split at h<;>try (cases h;done)
 rename_i hz
 rw[cond_eq_ite] at h
 split at h<;>try (cases h;done)
 rename_i hc
 simp only[bK] at hc
 split at h<;>try (cases h;done)
 rename_i hy
 have:=adh (abt _ _ hT) rfl
 have hN:TyN prog _:=⟨_,(adh (abt _ _ hT') rfl).un⟩
 split at h<;>try (cases h;done)
 rename_i hx
 split at h<;>try (cases h;done)
 rename_i hb
 rw[cond_eq_ite] at h
 split at h<;>cases h
 rename_i hq
 simp only[bK,fT] at hq
 cases aW hq.1.1
 cases aW hq.1.2
 exact us hh (ar0 (abt _ _ hi) hz hc.1 hx hb hy ho2 hc.2 hbd hq.2 hds) hgo hv k
end
def ePa(x:Bool×aat):DV:= .ag [.sl (x.2.map eFr),eU (.leaf x.1)]
def eC(c:aat):DV:= .sl (c.map eFr)
def aAe(ps:List (Bool×aat)):List aat:=(ps.filter (·.1)).map (·.2)
theorem aoj(l:List PtQ):aef 6 (l.map eZ):=fun d hd=>by
 obtain⟨x,_,rfl⟩:=bM.1 hd
 exact⟨rfl,rfl⟩
instance BPt.negp (p:PtQ) (i:Nat) [h:BPt p i]:BPt (abT p) i:=⟨inferInstanceAs (BQ (-p.x) i),inferInstanceAs (BQ (-p.y) i)⟩
instance BPt.prip (l:LnQ) [LB l]:BPt (adm l.dir) 500:=by
 have h:=(inferInstance:BPt (l.dir.scale (rgcd l.dir.x l.dir.y)⁻¹) _)
 exact⟨h.x.mono (by decide),h.y.mono (by decide)⟩
theorem ayt{p:PtQ}{i:Nat}[h:BPt p i](hi:i≤900000000:=by decide):PF GB prog 214 [eZ p] (eZ (abT p)):=by
 refine fn func214 J J ntmps214 J J (fun C=>?_)
 refine cl rfl (ad3 (q:=p.x) (i:=i) hi) rfl<|cl rfl (ad3 (q:=p.y) (i:=i) hi) rfl<|?_
 exact rz J J
theorem auD{p:PtQ}{i:Nat}[h:BPt p i](hi:i≤900000000:=by decide):PF GB prog 207 [eZ p] (eZ (agc p)):=by
 refine fn func207 J J ntmps207 J J (fun C=>?_)
 refine cl rfl (ad3 (q:=p.y) (i:=i) hi) rfl<|?_
 exact rz J J
theorem aux{p:PtQ}{i:Nat}[h:BPt p i](hi:i≤1000000:=by decide):PF GB prog 213 [eZ p] (eZ (adm p)):=by
 refine fn func213 J J ntmps213 J J (fun C=>?_)
 refine cl rfl (afv (p:=p.x) (q:=p.y) (i:=i) (j:=i) (by omega) (by omega)) rfl<|cl rfl (atG (q:=rgcd p.x p.y) (i:=i+i+(i+i)) (by omega)) rfl<|?_
 refine cl rfl (aip (p:=p) (c:=(rgcd p.x p.y)⁻¹) (i:=i) (j:=i+i+(i+i)) (by omega) (by omega)) rfl<|?_
 exact rz J J
theorem aes(l:LnQ)(x y:Tr)(p:PtQ):abf (.node l x y) p=(if Int.sign (l.value p).num=0 then [adm l.dir,abT (adm l.dir)] else [])++((if 0≤Int.sign (l.value p).num then abf x p else [])++(if Int.sign (l.value p).num≤0 then abf y p else [])):=by
 unfold abf
 rw[ajW,List.flatMap_append,List.flatMap_append]
 congr 1
 ·split<;>simp
 ·congr 1<;>split<;>simp
theorem ae9: ∀(t:Tr) (p:PtQ),(abf t p).length≤2*t.size
 | .leaf _,_=>cX _
 | .node l x y,p=>by
  have h1:=ae9 x p
  have h2:=ae9 y p
  rw[aes,aU,aU,Tr.size]
  split<;>split<;>split<;>simp only[bY,eY]<;>omega
theorem alf{b:Bool}{p:PtQ}{o:List PtQ}:PB GB prog 151 (mkB [some (eU (.leaf b)),some (eZ p),none]) 6 104 (o.map eZ) (fun w=> .v (.slice w.a w.n w.c)) ((o++abf (.leaf b) p).map eZ):=by
 refine fnQ func151 J J ntmps151 J J (fun C=>?_)
 refine cl (fu:=⟨0⟩) rfl abI rfl<|?_
 refine kbT 10 rfl ?_
 refine gx rfl<|?_
 exact rzQ J J J (by show _=(o++[]).map eZ;rw[gV])
theorem arZ{l:LnQ}{x y:Tr}{p:PtQ}{i:Nat}[hp:BPt p i](hl:LB l)(hi:i≤10000000){o:List PtQ}(hs:o.length+2*(Tr.node l x y).size≤1000000)(hz:Int.sign (l.value p).num=0)(ihx: ∀{o:List PtQ},o.length+2*x.size≤1000000→PB GB prog 151 (mkB [some (eU x),some (eZ p),none]) 6 104 (o.map eZ) (fun w=> .v (.slice w.a w.n w.c)) ((o++abf x p).map eZ))(ihy: ∀{o:List PtQ},o.length+2*y.size≤1000000→PB GB prog 151 (mkB [some (eU y),some (eZ p),none]) 6 104 (o.map eZ) (fun w=> .v (.slice w.a w.n w.c)) ((o++abf y p).map eZ)):PB GB prog 151 (mkB [some (eU (.node l x y)),some (eZ p),none]) 6 104 (o.map eZ) (fun w=> .v (.slice w.a w.n w.c)) ((o++abf (.node l x y) p).map eZ):=by
 haveI:=hl
 have hz2:(Tr.node l x y).size=1+x.size+y.size:=rfl
 have hp1:=ae9 x p
 refine fnQ func151 J J ntmps151 J J (fun C=>?_)
 refine cl (fu:=⟨0⟩) rfl abu rfl<|?_
 refine kbF 10 rfl ?_
 refine gx rfl<|cl (fu:=⟨7⟩) rfl (ahq (l:=l) (p:=p) (i:=i) hi) rfl<|knT rfl (by show some (decide _)=some true;rw[decide_eq_true (by omega)]) rfl<|?_
 refine cl rfl (ajd (l:=l)) rfl<|cl rfl (aux (p:=l.dir) (i:=97)) rfl<|cl rfl (ayt (p:=adm l.dir) (i:=500)) rfl<|rf J J<|?_
 refine apB (fu:=⟨7⟩) ((o++[adm l.dir,abT (adm l.dir)]).map eZ) rfl (by rw[gJ]<;>rfl) (aoj [adm l.dir,abT (adm l.dir)]) rfl<|knT rfl (by show some (decide _)=some true;rw[decide_eq_true (by omega)]) rfl<|?_
 refine cq (fu:=⟨7⟩) (((o++[adm l.dir,abT (adm l.dir)])++abf x p).map eZ) rfl (ihx (by rw[aU,bY,bY,eY];omega)) J J<|?_
 refine knT rfl (by show some (decide _)=some true;rw[decide_eq_true (by omega)]) rfl<|cq _ rfl (ihy (by rw[aU,aU,bY,bY,eY];omega)) J J<|?_
 exact rzQ J J J (by rw[aes,hz];simp)
theorem asq{l:LnQ}{x y:Tr}{p:PtQ}{i:Nat}[hp:BPt p i](hl:LB l)(hi:i≤10000000){o:List PtQ}(hs:o.length+2*(Tr.node l x y).size≤1000000)(hz:Int.sign (l.value p).num=1)(ihx: ∀{o:List PtQ},o.length+2*x.size≤1000000→PB GB prog 151 (mkB [some (eU x),some (eZ p),none]) 6 104 (o.map eZ) (fun w=> .v (.slice w.a w.n w.c)) ((o++abf x p).map eZ)):PB GB prog 151 (mkB [some (eU (.node l x y)),some (eZ p),none]) 6 104 (o.map eZ) (fun w=> .v (.slice w.a w.n w.c)) ((o++abf (.node l x y) p).map eZ):=by
 haveI:=hl
 have hz2:(Tr.node l x y).size=1+x.size+y.size:=rfl
 refine fnQ func151 J J ntmps151 J J (fun C=>?_)
 refine cl (fu:=⟨0⟩) rfl abu rfl<|?_
 refine kbF 10 rfl ?_
 refine gx rfl<|cl (fu:=⟨7⟩) rfl (ahq (l:=l) (p:=p) (i:=i) hi) rfl<|knF (fu:=⟨9⟩) rfl (by show some (decide _)=some false;rw[decide_eq_false (by omega)]) rfl<|?_
 refine knT rfl (by show some (decide _)=some true;rw[decide_eq_true (by omega)]) rfl<|cq (fu:=⟨7⟩) _ rfl (ihx (by omega)) J J<|knF rfl (by show some (decide _)=some false;rw[decide_eq_false (by omega)]) rfl<|?_
 exact rzQ J J J (by rw[aes,hz];simp)
theorem arc{l:LnQ}{x y:Tr}{p:PtQ}{i:Nat}[hp:BPt p i](hl:LB l)(hi:i≤10000000){o:List PtQ}(hs:o.length+2*(Tr.node l x y).size≤1000000)(hz:Int.sign (l.value p).num= -1)(ihy: ∀{o:List PtQ},o.length+2*y.size≤1000000→PB GB prog 151 (mkB [some (eU y),some (eZ p),none]) 6 104 (o.map eZ) (fun w=> .v (.slice w.a w.n w.c)) ((o++abf y p).map eZ)):PB GB prog 151 (mkB [some (eU (.node l x y)),some (eZ p),none]) 6 104 (o.map eZ) (fun w=> .v (.slice w.a w.n w.c)) ((o++abf (.node l x y) p).map eZ):=by
 haveI:=hl
 have hz2:(Tr.node l x y).size=1+x.size+y.size:=rfl
 refine fnQ func151 J J ntmps151 J J (fun C=>?_)
 refine cl (fu:=⟨0⟩) rfl abu rfl<|?_
 refine kbF 10 rfl ?_
 refine gx rfl<|cl (fu:=⟨7⟩) rfl (ahq (l:=l) (p:=p) (i:=i) hi) rfl<|knF (fu:=⟨9⟩) rfl (by show some (decide _)=some false;rw[decide_eq_false (by omega)]) rfl<|?_
 refine knF (fu:=⟨9⟩) rfl (by show some (decide _)=some false;rw[decide_eq_false (by omega)]) rfl<|knT rfl (by show some (decide _)=some true;rw[decide_eq_true (by omega)]) rfl<|?_
 refine cq _ rfl (ihy (by omega)) J J<|?_
 exact rzQ J J J (by rw[aes,hz];simp)
theorem akp{p:PtQ}{i:Nat}[hp:BPt p i](hi:i≤10000000:=by decide): ∀{t:Tr} {o:List PtQ},t.all LB→o.length+2*t.size≤1000000→PB GB prog 151 (mkB [some (eU t),some (eZ p),none]) 6 104 (o.map eZ) (fun w=> .v (.slice w.a w.n w.c)) ((o++abf t p).map eZ)
 | .leaf _,_,_,_=>alf
 | .node l x y,_,hb,hs=>by
  have hz2:(Tr.node l x y).size=1+x.size+y.size:=rfl
  rcases jN (l.value p).num 0 with h|h|h
  ·exact arc hb.1 hi hs (dJ h) fun k=>akp hi hb.2.2 k
  ·exact arZ hb.1 hi hs (by rw[h];rfl) (fun k=>akp hi hb.2.1 k) fun k=>akp hi hb.2.2 k
  ·exact asq hb.1 hi hs (dV h) fun k=>akp hi hb.2.1 k
theorem an3{t:Tr}{p v:PtQ}{i j:Nat}[hp:BPt p i][hv:BPt v j](hb:t.all LB)(hi:i≤10000000:=by decide)(hj:j≤10000000:=by decide):PF GB prog 152 [eU t,eZ p,eZ v] (.tp [vB (aeQ t p v).1,vB (aeQ t p v).2]):=by
 refine fn func152 J J ntmps152 J J (fun C=>?_)
 refine lp (X:=Tr) (fun s=>[(0, .d (eU s))]) (fun s=>[]) (fun s=>aeQ s p v=aeQ t p v∧s.all LB) (fun s=>s.size) t rfl ⟨rfl,hb⟩ (fun _=>rfl) (fun s hk=>?_)
 obtain⟨h1,hb2⟩:=hk
 rcases s with b|⟨l,x,y⟩
 ·
  have hA:aeQ t p v=(b,true):=h1.symm
  refine cl (fu:=⟨0⟩) rfl abI rfl<|?_
  refine kbT 10 rfl ?_
  refine gx rfl<|?_
  exact rz rfl (by rw[hA];rfl)
 ·
  have hAn:=h1.symm
  rw[aeQ,acN] at hAn
  haveI:=hb2.1
  refine cl (fu:=⟨0⟩) rfl abu rfl<|?_
  refine kbF 10 rfl ?_
  refine gx rfl<|cl (fu:=⟨4⟩) rfl (ahq (l:=l) (p:=p) (i:=i) hi) rfl<|?_
  refine mg (X:=Int) (fun s8=>[(8, .d (vI s8))]) (fun s8=>[]) (fun s8=>s8=(if(l.value p).num.sign=0 then(l.nor.dot v).num.sign else(l.value p).num.sign)) [8] [] rfl ?_ (fun _=>rfl) (fun s8 hs8=>?_)
  ·
   refine gx rfl<|?_
   refine br J J J (fun hc19=>?_) (fun hc19=>?_)
   ·
    refine cl rfl (alR (l:=l)) rfl<|cl rfl (al6 (p:=l.nor) (q:=v) (i:=97) (j:=j) (by decide) (by omega)) rfl<|cl rfl (acm (q:=l.nor.dot v) (by omega)) rfl<|?_
    exact at_ (l.nor.dot v).num.sign (if_pos hc19).symm
   ·
    exact at_ (l.value p).num.sign (if_neg hc19).symm
  ·
   rw[←hs8] at hAn
   refine br J J J (fun hc29=>?_) (fun hc29=>?_)
   ·
    exact at_ x ⟨⟨by rw[hAn,hc29];rfl,hb2.2.1⟩,(by simp only[Tr.size];omega)⟩
   ·
    refine br J J J (fun hc35=>?_) (fun hc35=>?_)
    ·
     exact at_ y ⟨⟨by rw[hAn,hc35];rfl,hb2.2.2⟩,(by simp only[Tr.size];omega)⟩
    ·
     exact rz rfl (by rw[hAn];split<;>first|rfl|contradiction)
theorem axE{q:Rat}{i:Nat}[h:BQ q i](hi:i≤400000000:=by decide):PF GB prog 154 [eR q] (eF q):=by
 haveI:BN q.num.natAbs i:=⟨h.hn⟩
 haveI:BN q.den i:=⟨h.hd⟩
 refine fn func154 J J ntmps154 J J (fun C=>?_)
 refine cl (fu:=⟨0⟩) rfl (adc (n:=decide (q.num<0)) (a:=q.num.natAbs) (d:=q.den) (i:=i) (j:=i) (by omega) (by omega)) rfl<|?_
 refine eqF 7 (.d (eF q)) rfl (by rw[acB,Rat.mkRat_self]) ?_
 refine gx rfl<|?_
 exact rz J J
theorem axy{p:PtQ}{i:Nat}[h:BPt p i](hi:i≤400000000:=by decide):PF GB prog 76 [ePt p] (eZ p):=by
 refine fn func76 J J ntmps76 J J (fun C=>?_)
 refine cl rfl (axE (q:=p.x) (i:=i) hi) rfl<|cl rfl (axE (q:=p.y) (i:=i) hi) rfl<|?_
 exact rz J J
theorem azb(G:Gh)(y:Value)(h:Is G (.sl [.ag [vI (fn_ 1),vI (fd_ 1),fp_ 1,vI 0,vI 0, .v (.pointer none)]]) y):Is G (.sl ((adY []).map eZ)) y:=by
 obtain⟨s,x,es,rfl,h1,h2⟩:=acz.1 h
 obtain⟨v,m,rfl,k,h3⟩:=aab.1 h2
 cases aaz.1 h3
 refine acz.2 ⟨s,x,_,rfl,h1, .cons ?_ .nil⟩
 obtain⟨m4,rfl,g4⟩:=abl.1 k
 obtain⟨v1,m1,rfl,k1,g1⟩:=aab.1 g4
 obtain⟨v2,m2,rfl,k2,g2⟩:=aab.1 g1
 obtain⟨v3,m3,rfl,k3,g3⟩:=aab.1 g2
 obtain⟨m5,q5,g5⟩:=abl.1 (ax6 _ _ (abl.2 ⟨m3,rfl,g3⟩))
 cases q5
 exact abl.2 ⟨_,rfl, .cons k1 (.cons k2 (.cons k3 g5))⟩
theorem apI{ds:List PtQ}{k:Nat}{u w:PtQ}(h1:ds[k]? =some u)(h2:ds[(k+1)%ds.length]? =some w):amU ds k=if 0<Int.sign (u.cross w).num then u.add w else agc u:=by
 unfold amU
 rw[aK,aK,h1,h2];rfl
theorem ajZ(ds:List PtQ)(k:Nat):(List.range (k+1)).map (amU ds)=(List.range k).map (amU ds)++[amU ds k]:=by rw[List.range_succ,gJ];rfl
theorem auR:PF GB prog 149 [.sl []] (.sl ((adY []).map eZ)):=by
 refine fn (fu:=⟨10⟩) func149 J J ntmps149 J J (fun C=>?_)
 refine knT rfl (by rfl) rfl<|cl rfl (ahz (by omega)) rfl<|rf J J<|?_
 exact rzI rfl azb
theorem auG{ds:List PtQ}{i:Nat}(h0:0<ds.length)(hb: ∀d∈ds,BPt d i)(hn:ds.length≤10000000)(hi:i≤1000000:=by decide):PF GB prog 149 [.sl (ds.map eZ)] (.sl ((adY ds).map eZ)):=by
 have hml:(ds.map eZ).length=ds.length:=aX ..
 refine fn (fu:=⟨10⟩) func149 J J ntmps149 J J (fun C=>?_)
 refine eqF 8 (.d (vI (ds.length:Nat))) rfl (by rw[hml]<;>rfl) ?_
 refine gx (fu:=⟨0⟩) rfl<|knF (fu:=⟨15⟩) rfl (by show some (decide _)=some false;rw[decide_eq_false (by omega)]) rfl<|?_
 refine eqF 14 (.d (vI (ds.length:Nat))) rfl (by rw[hml]<;>rfl) ?_
 refine gx rfl<|?_
 refine nr 3 3 104 6 J J J ?_
 refine lp (X:=List PtQ×Nat) (fun⟨acc,k⟩=>[(15, .d (vI (k:Nat))),(3, .rw 3)]) (fun⟨acc,k⟩=>[(3,some (.b 104 6 (acc.map eZ) true))]) (fun⟨acc,k⟩=>acc=(List.range k).map (amU ds)∧k≤ds.length) (fun⟨acc,k⟩=>ds.length-k) ⟨[],0⟩ rfl ⟨rfl,cX _⟩ (fun _=>rfl) (fun⟨acc,k⟩ hk=>?_)
 try dsimp only at hk⊢
 obtain⟨h1,h2⟩:=hk
 have hal:acc.length=k:=by rw[h1,aX,pQ]
 have ham:(acc.map eZ).length=acc.length:=aX ..
 refine br J J J (fun hc16=>?_) (fun hc16=>?_)
 ·
  obtain⟨u,hx⟩: ∃u,ds[k]? =some u:=⟨_,aJ (by omega)⟩
  obtain⟨w,hw⟩: ∃w,ds[(k+1)%ds.length]? =some w:=⟨_,aJ (cS _ (by omega))⟩
  haveI:=hb u (cZ hx)
  haveI:=hb w (cZ hw)
  refine ix (fu:=⟨13⟩) _ rfl (abr hx) rfl<|?_
  refine eqF 24 (.d (vI (ds.length:Nat))) rfl (by rw[hml]<;>rfl) ?_
  refine gx (fu:=⟨1⟩) rfl<|?_
  refine eqF 25 (.d (vI (((k+1)%ds.length:Nat):Int))) J J ?_
  refine gx rfl<|ix _ rfl (abr hw) rfl<|cl rfl (amM (p:=u) (q:=w) (by omega) (by omega)) rfl<|cl rfl (acm (q:=u.cross w) (by omega)) rfl<|?_
  refine br J J J (fun hc32=>?_) (fun hc32=>?_)
  ·
   refine cl rfl (atp (p:=u) (q:=w) (by omega) (by omega)) rfl<|rf J J<|ap ((acc++[u.add w]).map eZ) rfl (by rw[gJ]<;>rfl) (aoj [u.add w]) rfl<|?_
   refine rnE 38 3 rfl ?_
   exact at_ ⟨acc++[u.add w],k+1⟩ (by dsimp only;exact⟨⟨by rw[ajZ,apI hx hw,if_pos hc32,←h1],by omega⟩,(by omega)⟩)
  ·
   refine cl rfl (auD (p:=u) (by omega)) rfl<|rf J J<|ap ((acc++[agc u]).map eZ) rfl (by rw[gJ]<;>rfl) (aoj [agc u]) rfl<|?_
   refine rnE 43 3 rfl ?_
   exact at_ ⟨acc++[agc u],k+1⟩ (by dsimp only;exact⟨⟨by rw[ajZ,apI hx hw,if_neg hc32,←h1],by omega⟩,(by omega)⟩)
 ·
  obtain rfl:k=ds.length:=by omega
  have hS:adY ds=acc:=by unfold adY;rw[if_neg (by omega),h1]
  refine fzE 3 rfl ?_
  exact rz rfl (by rw[hS];rfl)
theorem anX{ds:List PtQ}{i:Nat}(hb: ∀d∈ds,BPt d i)(hn:ds.length≤10000000)(hi:i≤1000000:=by decide):PF GB prog 149 [.sl (ds.map eZ)] (.sl ((adY ds).map eZ)):=by
 cases ds with
 |nil=>exact auR
 |cons d ds=>exact auG (i:=i) (Nat.zero_lt_succ _) hb hn hi
end Go.Sx
end
