import Derived.Test.YtidmgdlbilojcaaGreatDoorTi12
import Derived.WalkKit
import Derived.LaidEql
import Derived.Stop.Asserts
import Derived.RowKitTokens
set_option linter.unusedSimpArgs false
set_option maxHeartbeats 2000000
set_option maxRecDepth 100000
set_option linter.unusedVariables false
section
namespace Go.Sx
open Go Go.Proofs Tryz
variable {GB:Gh}
theorem au8{es:List Int}{i:Nat}(h:i<es.length):(es.map vI)[(i:Int).toNat]? =some (vI (es.getD i 0)):=by simp[h]
theorem aqP{es:List Int}{i:Nat}(h:i<es.length):orI (es.drop i)=if es.getD i 0≠0 then es.getD i 0 else orI (es.drop (i+1)):=by
 rw[bQ h,orI,aX,aQ h];rfl
theorem aH7{es:List Int}(hn:es.length≤1000000):PF GB prog 304 [.sl (es.map vI)] (vI (orI es)):=by
 have hel:(es.map vI).length=es.length:=by simp
 refine fn (fu:=⟨15⟩) func304 J J ntmps304 J J (fun C=>?_)
 refine eqF 7 (.d (vI (es.length:Nat))) rfl (by rw[hel]<;>rfl) ?_
 refine gx rfl<|?_
 refine lp (X:=Nat) (fun i=>[(8, .d (vI (i:Nat)))]) (fun i=>[]) (fun i=>i≤es.length∧orI es=orI (es.drop i)) (fun i=>es.length-i) 0 rfl ⟨bX _,rfl⟩ (fun _=>rfl) (fun i hk=>?_)
 obtain⟨h1,h2⟩:=hk
 refine br J J J (fun hc9=>?_) (fun hc9=>?_)
 ·
  refine ix _ rfl (au8 (by omega)) rfl<|?_
  refine br J J J (fun hc14=>?_) (fun hc14=>?_)
  ·
   exact rz rfl (by rw[h2,aqP (by omega),if_pos hc14];rfl)
  ·
   exact at_ (i+1) ⟨⟨by omega,by rw[h2,aqP (by omega),if_neg hc14]⟩,(by omega)⟩
 ·
  exact rz rfl (by rw[h2,fX (by omega)];rfl)
def lcq(l m:LnQ):Int:=orI [abg l.a m.a,abg l.b m.b,abg l.c m.c]
theorem awZ(l m:LnQ):lcq l m=0↔l=m:=by
 unfold lcq orI orI orI orI
 have ha:=aeR (l.a:Rat) m.a
 have hb:=aeR (l.b:Rat) m.b
 have hc:=aeR (l.c:Rat) m.c
 rw[nV] at ha hb hc
 constructor
 ·intro h
  repeat' (split at h<;>try contradiction)
  all_goals exact LnQ.ext' (by omega) (by omega) (by omega)
 ·rintro rfl
  rw[if_neg (by simp[ha.2 rfl]),if_neg (by simp[hb.2 rfl]),if_neg (by simp[hc.2 rfl])]
theorem aFa{l m:LnQ}[hl:LB l][hm:LB m]:PF GB prog 295 [eLn l,eLn m] (vI (lcq l m)):=by
 refine fn func295 J J ntmps295 J J (fun C=>?_)
 refine cl rfl (ajr (p:=(l.a:Rat)) (q:=(m.a:Rat))) rfl<|cl rfl (ajr (p:=(l.b:Rat)) (q:=(m.b:Rat))) rfl<|cl rfl (ajr (p:=(l.c:Rat)) (q:=(m.c:Rat))) rfl<|?_
 refine rf J J<|cl rfl (aH7 (es:=[abg l.a m.a,abg l.b m.b,abg l.c m.c]) (nb rfl)) rfl<|?_
 exact rz J J
theorem avT{l m:LnQ}[hl:LB l][hm:LB m]:PF GB prog 269 [eLn l,eLn m] (vB (decide (l=m))):=by
 refine fn func269 J J ntmps269 J J (fun C=>?_)
 refine cl rfl (aFa (l:=l) (m:=m)) rfl<|?_
 exact rz rfl (by show DV.v (.bool (decide _))= .v (.bool _);congr 2;exact decide_eq_decide.2 (awZ l m))
theorem aD4{l:LnQ}[hl:LB l]:PF GB prog 264 [eLn l] (eLn l.rev):=by
 refine fn func264 J J ntmps264 J J (fun C=>?_)
 refine cl rfl (afw (q:=(l.a:Rat))) rfl<|cl rfl (afw (q:=(l.b:Rat))) rfl<|cl rfl (afw (q:=(l.c:Rat))) rfl<|?_
 exact rz rfl (by unfold eLn LnQ.rev;simp only[oN];rfl)
theorem ay6{p:PtQ}{i:Nat}[hp:BPt p i](hi:i≤10000000:=by decide):PF GB prog 247 [eZ p] (vI p.half):=by
 refine fn func247 J J ntmps247 J J (fun C=>?_)
 refine cl rfl (acY (q:=p.y) (by omega)) rfl<|?_
 refine cs 10 J J J (fun hg10=>?_) (fun hg10=>?_)
 ·
  exact rz rfl (by unfold PtQ.half;(repeat' split)<;>first|rfl|(exfalso;omega))
 ·
  refine cs 13 J J J (fun hg13=>?_) (fun hg13=>?_)
  ·
   refine cl rfl (acY (q:=p.x) (by omega)) rfl<|?_
   refine br J J J (fun hc7=>?_) (fun hc7=>?_)
   ·
    exact rz rfl (by unfold PtQ.half;(repeat' split)<;>first|rfl|(exfalso;omega))
   ·
    refine cs 23 J J J (fun hg23=>?_) (fun hg23=>?_)
    ·
     exact rz rfl (by unfold PtQ.half;(repeat' split)<;>first|rfl|(exfalso;omega))
    ·
     refine cl rfl (acY (q:=p.x) (by omega)) rfl<|?_
     refine br J J J (fun hc20=>?_) (fun hc20=>?_)
     ·
      exact rz rfl (by unfold PtQ.half;(repeat' split)<;>first|rfl|(exfalso;omega))
     ·
      exact rz rfl (by unfold PtQ.half;(repeat' split)<;>first|rfl|(exfalso;omega))
  ·
   refine cs 23 J J J (fun hg23=>?_) (fun hg23=>?_)
   ·
    exact rz rfl (by unfold PtQ.half;(repeat' split)<;>first|rfl|(exfalso;omega))
   ·
    refine cl rfl (acY (q:=p.x) (by omega)) rfl<|?_
    refine br J J J (fun hc20=>?_) (fun hc20=>?_)
    ·
     exact rz rfl (by unfold PtQ.half;(repeat' split)<;>first|rfl|(exfalso;omega))
    ·
     exact rz rfl (by unfold PtQ.half;(repeat' split)<;>first|rfl|(exfalso;omega))
theorem aoz{u v:PtQ}{i j:Nat}[hp:BPt u i][hq:BPt v j](hi:i≤10000000:=by decide)(hj:j≤10000000:=by decide):PF GB prog 188 [eZ u,eZ v] (vI (aay u v)):=by
 refine fn func188 J J ntmps188 J J (fun C=>?_)
 refine cl rfl (ay6 (p:=u) hi) rfl<|cl rfl (ay6 (p:=v) hj) rfl<|?_
 refine br J J J (fun hc11=>?_) (fun hc11=>?_)
 ·
  exact rz rfl (by unfold aay;rw[if_pos hc11];rfl)
 ·
  refine br J J J (fun hc15=>?_) (fun hc15=>?_)
  ·
   exact rz rfl (by unfold aay;rw[if_neg hc11,if_pos hc15];rfl)
  ·
   refine cl rfl (aiG (p:=u) (q:=v) (by omega) (by omega)) rfl<|cl (fu:=⟨0⟩) rfl (acY (q:=u.cross v) (by omega)) rfl<|?_
   have hs:=sY (u.cross v).num
   refine gx rfl<|?_
   exact rz rfl (by unfold aay;rw[if_neg hc11,if_neg hc15];rfl)
theorem aCO{m:Int}:Nrm (dg m.natAbs)∧(decide (m<0)=true→0<(dg m.natAbs).length):=⟨(aaD _).2.2,fun h=>by
 have:0<m.natAbs:=by have:=of_decide_eq_true h;omega
 exact ahM.2 this⟩
theorem acj{m:Int}{i:Nat}[h:BI m i](hi:i≤1000000000:=by decide):PF GB prog 221 [eI m] (.v (.bool true)):=(amN (neg:=decide (m<0)) (ds:=dg m.natAbs) (aaD _).2.1 (by have:=agT (a:=m.natAbs) hi;omega)).to (by unfold vB;rw[decide_eq_true aCO])
theorem aHK{l:LnQ}(h:l.ok):rgcd (rgcd (l.a:Rat) (l.b:Rat)) (l.c:Rat)=((1:Int):Rat):=by
 rw[ahf,ahf]
 have:=h.2
 simp only[jZ];rw[this];rfl
instance BQ.rgcd (p q:Rat) (i j:Nat) [h:BQ p i] [k:BQ q j]:BQ (rgcd p q) (i+j+(i+j)):=by
 unfold Sx.rgcd
 refine ahk (iL (abO p) (abO q)) ?_ ?_
 ·rw[jZ]
  have h1:=abq h.hn k.hd
  have h2:=abq k.hn h.hd
  rw[kZ j i] at h2
  exact aoY h1 h2
 ·have h1:=abq h.hd k.hd
  have:2^(i+j)≤2^(i+j+(i+j)):=bT (by decide) (by omega)
  omega
theorem aFf{l:LnQ}[hl:LB l](ho:l.ok):PF GB prog 167 [eL l] (.tp [eLn l,vB true]):=by
 refine fn func167 J J ntmps167 J J (fun C=>?_)
 refine cl (fu:=⟨0⟩) rfl (acj (m:=l.a)) rfl<|knF J J J<|cl (fu:=⟨0⟩) rfl (acj (m:=l.b)) rfl<|knF J J J<|cl (fu:=⟨0⟩) rfl (acj (m:=l.c)) rfl<|?_
 refine knF J J J<|cl rfl (aeS (m:=l.a)) rfl<|cl rfl (aeS (m:=l.b)) rfl<|cl rfl (aeS (m:=l.c)) rfl<|cl (fu:=⟨0⟩) rfl (aje (q:=(l.a:Rat))) rfl<|?_
 refine csS (fu2:=⟨4⟩) J J J J (fun hg35=>?_) (fun hg35=>?_)
 ·
  have ha:l.a=0:=dQ.1 hg35
  refine cl (fu:=⟨1⟩) rfl (aje (q:=(l.b:Rat))) rfl<|knF rfl (by first|rfl|(show some (decide _)=some false;rw[decide_eq_false (fun e=>ho.1 ⟨ha,dQ.1 e⟩)])) rfl<|?_
  refine cl rfl (agY (p:=(l.a:Rat)) (q:=(l.b:Rat))) rfl<|cl rfl (agY (p:=rgcd l.a l.b) (q:=(l.c:Rat))) rfl<|cl rfl (aik (m:=1) (by decide)) rfl<|?_
  refine cl (fu:=⟨0⟩) rfl (aiC (p:=rgcd (rgcd l.a l.b) l.c) (q:=((1:Int):Rat))) rfl<|knF rfl (by show some (!decide _)=some false;rw[aHK ho,decide_eq_true rfl];rfl) rfl<|?_
  exact rz J J
 ·
  refine knF rfl (by first|rfl|(show some (decide _)=some false;rw[decide_eq_false (fun e=>ho.1 ⟨ha,dQ.1 e⟩)])) rfl<|cl rfl (agY (p:=(l.a:Rat)) (q:=(l.b:Rat))) rfl<|?_
  refine cl rfl (agY (p:=rgcd l.a l.b) (q:=(l.c:Rat))) rfl<|cl rfl (aik (m:=1) (by decide)) rfl<|cl (fu:=⟨0⟩) rfl (aiC (p:=rgcd (rgcd l.a l.b) l.c) (q:=((1:Int):Rat))) rfl<|?_
  refine knF rfl (by show some (!decide _)=some false;rw[aHK ho,decide_eq_true rfl];rfl) rfl<|?_
  exact rz J J
def eFr(f:FrQ):DV:= .ag [vI (fn_ (f.l.a:Rat)),vI (fd_ (f.l.a:Rat)),fp_ (f.l.a:Rat),vI (fn_ (f.l.b:Rat)),vI (fd_ (f.l.b:Rat)),fp_ (f.l.b:Rat),vI (fn_ (f.l.c:Rat)),vI (fd_ (f.l.c:Rat)),fp_ (f.l.c:Rat),vI (fn_ f.v.lo),vI (fd_ f.v.lo),fp_ f.v.lo,vI (fn_ f.v.hi),vI (fd_ f.v.hi),fp_ f.v.hi, .v (.bool f.v.nl), .v (.bool f.v.nh)]
structure axM (v:IvQ):Prop where
 z:IvZ v
 lo:BQ v.lo 1200
 hi:BQ v.hi 1200
structure aIH (s:FrQ):Prop where
 lb:LB s.l
 ok:s.l.ok
 v:axM s.v
abbrev abQ (c:aah):Prop:= ∀s∈c,aIH s
theorem agi{α:Type}(f:α→DV)(l:List α):(l.map f).length=l.length:=by simp
theorem axM.all:axM IvQ.all:=⟨⟨fun _=>rfl,fun _=>rfl⟩,BQ.z1.mono (by decide),BQ.z1.mono (by decide)⟩
theorem axM.cut{l m:LnQ}{v:IvQ}[LB l][LB m](hn:l.Ne)(h:axM v):axM (l.cutV v m):=by
 by_cases h0:crossI l m=0
 ·rw[(ahe (v:=v) h0).1];exact h
 ·obtain⟨u1,_,u3,u4,u5⟩:=ai1 (v:=v) hn h.z h.lo h.hi h0
  rw[u1];exact⟨u3,u4,u5⟩
def ivD(o:Option IvQ):IvQ:=o.getD ⟨0,0,false,false⟩
theorem aEH(G:Gh)(y:Value)(k:Is G (.tp [.ag [vI 0,vI 0, .v (.pointer none),vI 0,vI 0, .v (.pointer none), .v (.bool false), .v (.bool false)], .v (.bool false)]) y):Is G (.tp [eW (ivD none),vB false]) y:=by
 obtain⟨m,rfl,g⟩:=adS.1 k
 exact adS.2 ⟨m,rfl,aER (fun y hy=>by
  obtain⟨l,rfl,g⟩:=abX.1 hy
  exact abX.2 ⟨l,rfl,ayc (asg [vI 0,vI 0, .v (.pointer none)] g)⟩) g⟩
theorem aaq{α:Type}{f:α→DV}{l:List α}{i:Nat}{s:α}(h:l[i]? =some s):(l.map f)[(i:Int).toNat]? =some (f s):=by simp[h]
theorem aiY{α:Type}{l:List α}{k:Nat}{s:α}(h:l[k]? =some s):l.drop k=s::l.drop (k+1):=by
 obtain⟨h1,h2⟩:=aL.1 h
 rw[bQ h1,h2]
theorem apE{l:LnQ}{c:aah}{v:IvQ}{k:Nat}{s:FrQ}(h:c[k]? =some s):agA l (c.drop k) v=if l.cutB v s.l then agA l (c.drop (k+1)) (l.cutV v s.l) else none:=by
 rw[aiY h];rfl
theorem ajD{l:LnQ}{c:aah}{k:Nat}{s:FrQ}(h:c[k]? =some s):aev l (c.drop k)=if aeq l s≠0 then aeq l s else if s.l=l then 1 else aev l (c.drop (k+1)):=by
 rw[aiY h];rfl
instance BQ.sample (v:IvQ) [h1:BQ v.lo 1200] [h2:BQ v.hi 1200]:BQ v.sample 2500:=by
 unfold IvQ.sample
 split
 ·exact BQ.z1.mono (by decide)
 ·split
  ·exact BQ.mono (inferInstance:BQ (v.hi-((1:Int):Rat)) _) (by decide)
  ·split
   ·exact BQ.mono (inferInstance:BQ (v.lo+((1:Int):Rat)) _) (by decide)
   ·exact BQ.mono (inferInstance:BQ ((v.lo+v.hi)*mkRat 1 2) _) (by decide)
theorem ayq{c:aah}{l:LnQ}[hl:LB l](hlo:l.ok)(hc:abQ c)(hn:c.length≤1000000):PF GB prog 225 [.sl (c.map eFr),eLn l] (.tp [eW (ivD (afz c l)),vB (afz c l).isSome]):=by
 have hm:=agi eFr c
 refine fn func225 J J ntmps225 J J (fun C=>?_)
 refine cl (fu:=⟨10⟩) rfl aFL rfl<|?_
 refine eqF 12 (.d (vI (c.length:Nat))) rfl (by rw[agi]<;>rfl) ?_
 refine gx rfl<|?_
 refine lp (X:=IvQ×Nat) (fun⟨v,k⟩=>[(13, .d (vI (k:Nat))),(6, .ov 6 0)]) (fun⟨v,k⟩=>[(6,some (.o 199 [.d (vI (fn_ v.lo)), .d (vI (fd_ v.lo)), .d (fp_ v.lo), .d (vI (fn_ v.hi)), .d (vI (fd_ v.hi)), .d (fp_ v.hi), .d (.v (.bool v.nl)), .d (.v (.bool v.nh))] true))]) (fun⟨v,k⟩=>k≤c.length∧axM v∧agA l (c.drop k) v=afz c l) (fun⟨v,k⟩=>c.length-k) (IvQ.all,0) rfl ⟨bX _, .all,rfl⟩ (fun _=>rfl) (fun⟨v,k⟩ hk=>?_)
 dsimp only at hk⊢
 obtain⟨h1,h2,h3⟩:=hk
 haveI:=h2.lo
 haveI:=h2.hi
 refine br J J J (fun hc14=>?_) (fun hc14=>?_)
 ·
  obtain⟨s,hs0⟩: ∃s,c[k]? =some s:=⟨_,aQ (by omega)⟩
  have hs:=hc s (aS hs0)
  haveI:=hs.lb
  refine ix _ rfl (aaq hs0) rfl<|cl (fu:=⟨0⟩) rfl (aDJ (l:=l) (m:=s.l) (v:=v)) rfl<|?_
  generalize hw:l.cutV v s.l=w
  generalize hb:l.cutB v s.l=b
  refine gx rfl<|?_
  refine bb J J J (fun hc26=>?_) (fun hc26=>?_)
  ·
   exact rzI rfl (by rw[←h3,apE hs0,hb,if_neg (by simpa using hc26)];exact aEH)
  ·
   exact at_ (w,k+1) (by dsimp only;exact⟨⟨by omega,hw▸h2.cut hlo.1,by rw[←h3,apE hs0,hb,hw,if_pos (by simpa using hc26)]⟩,(by omega)⟩)
 ·
  exact rz rfl (by rw[←h3,fX (by omega)];rfl)
theorem aAa{c:aah}{l:LnQ}[hl:LB l](hlo:l.ok)(hc:abQ c)(hn:c.length≤1000000):PF GB prog 226 [.sl (c.map eFr),eLn l] (vI (ajc c l)):=by
 have hm:=agi eFr c
 refine fn func226 J J ntmps226 J J (fun C=>?_)
 refine cl rfl (ayq (c:=c) (l:=l) hlo hc hn) rfl<|?_
 refine bb (fu2:=⟨7⟩) J J J (fun hc16=>?_) (fun hc16=>?_)
 ·
  exact rz rfl (by unfold ajc;rw[if_pos hc16];rfl)
 ·
  have hp:ajc c l=aev l c:=by unfold ajc;rw[if_neg (by simp[hc16])]
  refine eqF 18 (.d (vI (c.length:Nat))) rfl (by rw[agi]<;>rfl) ?_
  refine gx rfl<|?_
  refine lp (X:=Nat) (fun k=>[(19, .d (vI (k:Nat)))]) (fun k=>[]) (fun k=>k≤c.length∧aev l (c.drop k)=aev l c) (fun k=>c.length-k) 0 rfl ⟨bX _,rfl⟩ (fun _=>rfl) (fun k hk=>?_)
  obtain⟨h1,h2⟩:=hk
  refine br J J J (fun hc20=>?_) (fun hc20=>?_)
  ·
   obtain⟨s,hs0⟩: ∃s,c[k]? =some s:=⟨_,aQ (by omega)⟩
   have hs:=hc s (aS hs0)
   haveI:=hs.lb
   haveI:=hs.v.lo
   haveI:=hs.v.hi
   haveI:=BQ.sample s.v
   refine ix _ rfl (aaq hs0) rfl<|cl (fu:=⟨0⟩) rfl (axD (v:=s.v)) rfl<|?_
   generalize ht:s.v.sample=t at*
   refine gx rfl<|cl rfl (aFE (l:=s.l) (t:=t)) rfl<|cl rfl (ajW (l:=l) (p:=s.l.at t)) rfl<|?_
   refine br J J J (fun hc32=>?_) (fun hc32=>?_)
   ·
    have hsd:aeq l s=(l.value (s.l.at t)).num.sign:=by unfold aeq;rw[ht]
    exact rz rfl (by rw[hp,←h2,ajD hs0,hsd,if_pos hc32];rfl)
   ·
    refine cl rfl (avT (l:=s.l) (m:=l)) rfl<|?_
    refine bd J J J (fun hc37=>?_) (fun hc37=>?_)
    ·
     have hsd:aeq l s=(l.value (s.l.at t)).num.sign:=by unfold aeq;rw[ht]
     exact rz rfl (by rw[hp,←h2,ajD hs0,hsd,if_neg hc32,if_pos hc37];rfl)
    ·
     have hsd:aeq l s=(l.value (s.l.at t)).num.sign:=by unfold aeq;rw[ht]
     exact at_ (k+1) ⟨⟨by omega,by rw[←h2,ajD hs0,hsd,if_neg hc32,if_neg hc37]⟩,(by omega)⟩
  ·
   exact rz rfl (by rw[hp,←h2,fX (by omega)];rfl)
theorem an1{vs rest:List Value}(h: ∀v∈vs,(aag v).length=17){i:Nat}(hi:i≤vs.length):aa1 (aak vs++rest) (i*17) ((vs.length-i)*17)=some (aak (vs.drop i)):=by
 have hl:=aar vs h
 have hd:(aak (vs.drop i)).length=(vs.length-i)*17:=by
  rw[aar (s:=17) _ (fun v hv=>h v (gK hv)),gT]
 rw[abN _ _ _ (by simp only[aV];omega)]
 congr 1
 rw[iS (by omega),afP vs i h hi,dW (by omega),aR (by omega)]
theorem arl{vs rest vcs:List Value}(h: ∀v∈vs,(aag v).length=17)(hv:vcs.length=17){i:Nat}(hi:i<vs.length)(hr:17≤rest.length):
  ovw (ovw (aak vs++rest) ((i+1)*17) (aak (vs.drop i))) (i*17) vcs=aak (vs.take i)++vcs++aak (vs.drop i)++rest.drop 17:=by
 have hl:=aar vs h
 have hd:(aak (vs.drop i)).length=(vs.length-i)*17:=by
  rw[aar (s:=17) _ (fun v hv=>h v (gK hv)),gT]
 have ht:(aak (vs.take i)).length=i*17:=by
  rw[aar (s:=17) _ (fun v hv=>h v (dZ hv)),cJ,fM (by omega)]
 rw[acA (aak (vs.drop i)) (aak vs++rest) _ (by rw[aV];omega)]
 rw[acA vcs _ _ (by simp only[aV,cJ,gT];omega)]
 have e1:(aak vs++rest).drop ((i+1)*17+(aak (vs.drop i)).length)=rest.drop 17:=by
  rw[hd,show(i+1)*17+(vs.length-i)*17=(aak vs).length+17 by omega,mW,jT (by omega),lJ]
  congr 1
  omega
 have e2:((aak vs++rest).take ((i+1)*17)++aak (vs.drop i)++rest.drop 17).take (i*17)=aak (vs.take i):=by
  rw[fT,dW (by simp only[cJ,aV];omega),List.take_take,fM (by omega),dW (by omega),afK vs i h (by omega)]
 have e3:((aak vs++rest).take ((i+1)*17)++aak (vs.drop i)++rest.drop 17).drop (i*17+vcs.length)=aak (vs.drop i)++rest.drop 17:=by
  rw[hv,fT,show i*17+17=((aak vs++rest).take ((i+1)*17)).length by simp only[cJ,aV];omega,List.drop_left]
 rw[e1,e2,e3]
 simp[fT]
theorem arL{vs rest vcs:List Value}(h: ∀v∈vs,(aag v).length=17)(hv:vcs.length=17)(hr:17≤rest.length):ovw (aak vs++rest) (vs.length*17) vcs=aak vs++vcs++rest.drop 17:=by
 have hl:=aar vs h
 rw[acA _ _ _ (by simp only[aV];omega),hv,←hl,List.take_left,mW]
 simp
theorem ali{G:Gh}{b bv cap i c2:Nat}{vs rest vcs r2:List Value}{lo lo2:Bool}(hvs: ∀v∈vs,(aag v).length=17)(hfl: ∀v∈vs,∀c∈aag v,flat c=true)(hv:vcs.length=17)(hvf: ∀c∈vcs,flat c=true)
  (hcap:vs.length*17+rest.length=cap*17)(hroom:vs.length+1≤cap)(hi:i≤vs.length)(hb:vs.length≤1125899906842624):
  FnM prog 230 [.slice (some ⟨b,0,none⟩) vs.length cap, .int .i64 i, .slice (some ⟨bv,0,none⟩) 1 c2] [⟨b,aak vs++rest,201,lo⟩,⟨bv,vcs++r2,201,lo2⟩] G
   (fun u css _=>u= .slice (some ⟨b,0,none⟩) (vs.length+1) cap∧css=[aak (vs.take i)++vcs++aak (vs.drop i)++rest.drop 17,vcs++r2]):=by
 have hL:(aak vs++rest).length=cap*17:=by rw[aV,aar vs hvs];exact hcap
 have hr:17≤rest.length:=by omega
 have hD:(aak (vs.drop i)).length=(vs.length-i)*17:=by
  rw[aar (s:=17) _ (fun v hv=>hvs v (gK hv)),gT]
 have hDf: ∀c∈aak (vs.drop i),flat c=true:=fun c hc=>by
  obtain⟨l,hl,hcl⟩:=List.mem_flatten.1 hc
  obtain⟨v,hv,rfl⟩:=bJ.1 hl
  exact hfl v (gK hv) c hcl
 have hvt:aa1 (vcs++r2) 0 (1*17)=some vcs:=by rw[abN _ _ _ (by rw[aV];omega),iX,dW (by omega),aR (by omega)]
 refine FnM.intro func230 J J ntmps230 rfl ?_
 intro C _ _
 show St C _ _ [⟨b,aak vs++rest,201,false⟩,⟨bv,vcs++r2,201,false⟩] _ _
 refine axR (fun hne=>?_)
 simp only[] at hne
 refine sR<|sa J J<|zE<|sR<|sm J J<|sm J J<|sy (aeL J J (by omega) (by omega)) rfl<|zE<|sR<|?_
 refine sm J J<|ads J J<|sa J J<|zE<|aan<|sR<|sm J J<|sy (ab9 J J) rfl<|zE<|agW rfl<|?_
 refine zK<|sR<|sm J J<|ads J J<|sa J J<|zE<|aan<|sR<|sm J J<|sm J J<|sy (ab9 J J) rfl<|zE<|?_
 refine aaE rfl (fun hc=>?_) (fun hc=>?_) -- slot 22
 ·have hin:i=vs.length:=by omega
  subst hin
  refine sR<|sm J J<|sm J J<|?_
  refine sc (af7 (s:=17) (m:=1) (ys:=vcs) J J (.hd ..) hL (aiV inferInstance hvt) (by omega) hvf hroom rfl ?_)
  refine sa J J<|zE<|aaH<|?_
  refine adf (css:=[ovw (aak vs++rest) (vs.length*17) vcs,vcs++r2]) (.tmp rfl .nil) rfl _ (List.Perm.refl _) (List.Sublist.refl _) ⟨rfl,?_⟩
  rw[arL hvs hv hr,fY,dR]
  simp[aak]
 have hin:i<vs.length:=by omega
 have hn1:((vs.length:Int)+((1:Nat):Int)).toNat=vs.length+1:=by omega
 have ht1:((i:Int)+((1:Nat):Int)).toNat=i+1:=by omega
 refine zK<|aan<|sR<|sm J J<|sm J J<|sy (aas J J) rfl<|sm J J<|?_
 refine sy (aE7 rfl) rfl<|sy (ahc J J) rfl<|zE<|?_
 refine aaE rfl (fun hc2=>?_) (fun hc2=>?_) -- slot 31
 ·exact absurd hc2 (by omega)
 refine zK<|sR<|sm J J<|sm J J<|sm J J<|sy (aas J J) rfl<|sy (ac6 J J (by omega) (by omega)) rfl<|?_
 rw[hn1]
 refine sa J J<|zE<|aan<|sR<|sm J J<|sm J J<|sm J J<|sm J J<|sy (aas J J) rfl<|sy (ad1 J J (by omega) (by omega) (by omega)) rfl<|?_
 refine sy (aox (tS:=102) (tR:=4) func272 (by kernel_rfl) (by kernel_rfl) (by kernel_rfl) (by kernel_rfl) J J (Ne.symm hne) (fun h=>by rw[h] at hL;simp at hL;omega)) rfl<|?_
 refine sy (arj rfl) rfl<|zE<|adc rfl<|?_
 refine aan<|dr0 (b:=b) (fun _=>false) [(0,true),(1,true),(2,true),(3,true),(4,true),(5,true),(6,true),(7,true),(8,false)] follows (.hd ..) (by kernel_rfl)<|dM J J J<|?_
 refine dM J J J<|dM J J J<|dy rfl (fun _=>aas J J (by omega) (by omega)) J J<|dy rfl (fun _=>ad1 J J (by omega) (by omega) (by omega)) J J<|?_
 refine dM J J J<|dM J J J<|dy rfl (fun _=>ad1 J J (by omega) (by omega) (by omega)) J J<|?_
 rw[ht1,bK,fQ,fQ]
 refine dc J J (avc (s:=17) (m:=vs.length-i) (ys:=aak (vs.drop i)) J J (by show min _ _=_;omega) (aiV inferInstance (an1 hvs hi)) hDf (by rw[hD,hL];omega) (.hd ..) rfl ?_)
 refine aBD<|dn<|sR<|sm J J<|sm J J<|sy (ad1 J J (by omega) (by omega) (by omega)) rfl<|sm J J<|?_
 rw[bK,fQ]
 refine sc (avc (s:=17) (m:=1) (ys:=vcs) J J (by show min _ _=_;omega) (aiV inferInstance hvt) hvf (by rw[ajP,hL,hv];omega) (.hd ..) rfl ?_)
 refine zE<|sR<|sm J J<|sa J J<|zE<|aaH<|?_
 refine adf (css:=[ovw (ovw (aak vs++rest) ((i+1)*17) (aak (vs.drop i))) (i*17) vcs,vcs++r2]) (.tmp rfl .nil) rfl _ (List.Perm.refl _) (List.Sublist.refl _) ⟨rfl,?_⟩
 rw[arl hvs hv hin hr]
theorem FnM.toO{P:Program}{f:FuncId}{vs:List Value}{M:List Own}{G:Gh}{K:Value→List (List Value)→Gh→Prop}{K':Value→List Own→Gh→Prop}(h:FnM P f vs M G K)(hk: ∀v css G',GLe G G'→css.length=M.length→K v css G'→ ∃o,o.Sublist (aff (asB M) css)∧K' v o G'):FnO P f vs M G K':=
 ⟨h.able,fun w hw=>(h.run w hw).mono fun _ _ ⟨v,css,G',he,hl,hh,hK⟩=>let⟨o,h1,h2⟩:=hk v css G' hh.gle hl hK;⟨v,o,G',he,hh.drop h1,h2⟩⟩
theorem aC4(c:aah):adn 17 (c.map eFr):=fun d hd=>by
 obtain⟨f,_,rfl⟩:=bJ.1 hd;exact⟨rfl,rfl⟩
theorem aqF{G:Gh}{s:Nat}{ds:List DV}{vs:List Value}(hk:adn s ds)(h:IsLs G ds vs): ∀v∈vs,∀c∈aag v,flat c=true:=fun v hv=>by
 obtain⟨d,hd,h3⟩:=h.all v hv
 exact(h3.cells (hk d hd).1).2
theorem axl{c:aah}{x:FrQ}{i cap:Nat}(hi:i≤c.length)(hc:c.length+1≤cap)(hn:c.length≤1000000):PI GB prog 230 (i:Nat) 17 201 201 (c.map eFr) (eFr x) cap ((c.take i++x::c.drop i).map eFr):=by
 intro G w w2 B B2 _ hB hcap hB2
 obtain⟨vs,q1,q2,q3,_⟩:=hB
 obtain⟨us,u1,u2,u3,_⟩:=hB2
 dsimp only at q1 q2 q3 u1 u2 u3
 have hl:=q2.len
 rw[aK] at hl
 obtain⟨v,m,rfl,hv,hm⟩:=aae.1 u2
 cases aaJ.1 hm
 rcases q1 with⟨_,e,_⟩|⟨b,rest,lo,e,rfl,h5,h6,h7⟩
 ·rw[e] at hcap;simp at hcap;omega
 rcases u1 with⟨h,_⟩|⟨bv,r2,lo2,e2,rfl,h8,h9,h10⟩
 ·cases h
 have hx:(aag v).length=17:=u3 v aZ
 have hxf:=aqF (s:=17) (ds:=[eFr x]) (fun d hd=>by rw[aY.1 hd];exact⟨rfl,rfl⟩) u2 v aZ
 have key:=ali (G:=G) (b:=b) (bv:=bv) (cap:=w.c) (i:=i) (c2:=w2.c) (vs:=vs) (rest:=rest) (vcs:=aag v) (r2:=r2) (lo:=lo) (lo2:=lo2) q3 (aqF (aC4 c) q2) hx hxf (by rw[←h5];exact h6) (by omega) (by omega) (by omega)
 rw[e,e2]
 rw[ajA]
 refine key.toO fun u css G' hg hl2 ⟨k1,k2⟩=>?_
 subst k1 k2
 have hall: ∀u∈vs.take i++v::vs.drop i,(aag u).length=17:=fun u hu=>by
  rcases bZ.1 hu with hu|hu
  ·exact q3 u (dZ hu)
  ·rcases aU.1 hu with rfl|hu
   ·exact hx
   ·exact q3 u (gK hu)
 have hlen:(vs.take i++v::vs.drop i).length=vs.length+1:=by
  rw[aV,bY,cJ,gT];omega
 refine⟨[⟨b,aak (vs.take i)++aag v++aak (vs.drop i)++rest.drop 17,201,false⟩], .cons_cons _ (mV _),⟨some ⟨b,0,none⟩,vs.length+1,w.c⟩,rfl,vs.take i++v::vs.drop i, .inr ⟨b,rest.drop 17,false,by rw[hlen],?_,aar _ hall,?_,?_⟩,?_,hall,fun h=>by cases h⟩
 ·rw[ace];simp[aak]
 ·rw[aar _ hall,hlen,gT]
  rw[h5] at h6
  have:=bW 17 (show vs.length+1≤w.c by omega)
  simp only[cS] at this⊢;omega
 ·rw[hlen];show vs.length+1≤w.c;omega
 ·rw[bV,cK,gX,iK]
  exact((q2.take i).up hg).app (.cons (hv.up hg) ((q2.drop i).up hg))
theorem asF{s:FrQ}{l:LnQ}[hs:LB s.l][hl:LB l]:PF GB prog 229 [eFr s,eLn l] (vI (aay s.l.dir l.dir)):=by
 refine fn func229 J J ntmps229 J J (fun C=>?_)
 refine cl rfl (ajK (l:=s.l)) rfl<|cl rfl (ajK (l:=l)) rfl<|cl rfl (aoz (u:=s.l.dir) (v:=l.dir)) rfl<|?_
 exact rz J J
def bsB(c:aah)(l:LnQ)(i:Nat):Bool:=match c[i]? with
 |some s=>decide (aay s.l.dir l.dir=0)
 |none=>false
theorem ax2(i j:Nat):((i:Int)+(j:Int)).fdiv (2^min (1:Int).toNat IntKind.u64.bits)=((i+j)/2:Nat):=by
 rw[show(2:Int)^min (1:Int).toNat IntKind.u64.bits=((2:Nat):Int) from rfl,gV _ (by decide)];omega
theorem azS{c:aah}{l:LnQ}{k:Nat}{s:FrQ}(h:c[k]? =some s):aeu c l k=decide (aay s.l.dir l.dir<0):=by unfold aeu;rw[h]
theorem aFZ{c:aah}{l:LnQ}{k:Nat}{s:FrQ}(h:c[k]? =some s):bsB c l k=decide (aay s.l.dir l.dir=0):=by unfold bsB;rw[h]
theorem aF9{c:aah}{l:LnQ}{k:Nat}(h: ¬k<c.length):bsB c l k=false:=by unfold bsB;rw[cN (by omega)]
theorem aGR{p:Nat→Bool}{i j:Nat}(h:i<j)(hp:p ((i+j)/2)=true):bsq p i j=bsq p ((i+j)/2+1) j:=by rw[bsq,dif_pos h,if_pos hp]
theorem aGd{p:Nat→Bool}{i j:Nat}(h:i<j)(hp: ¬p ((i+j)/2)=true):bsq p i j=bsq p i ((i+j)/2):=by rw[bsq,dif_pos h,if_neg hp]
theorem aEk{p:Nat→Bool}{i j:Nat}(h: ¬i<j):bsq p i j=i:=by rw[bsq,dif_neg h]
theorem aGC{c:aah}{l:LnQ}[hl:LB l](hc:abQ c)(hn:c.length≤1000000):PF GB prog 228 [.sl (c.map eFr),eLn l, .v (.func (.func 229) #[] #[])] (.tp [vI (bsq (aeu c l) 0 c.length:Nat),vB (bsB c l (bsq (aeu c l) 0 c.length))]):=by
 have hm:=agi eFr c
 refine fn (fu:=⟨11⟩) func228 J J ntmps228 J J (fun C=>?_)
 refine eqF 13 (.d (vI (c.length:Nat))) rfl (by rw[hm]<;>rfl) ?_
 refine gx rfl<|?_
 refine lp (X:=Nat×Nat) (fun⟨i,j⟩=>[(9, .d (vI (i:Nat))),(10, .d (vI (j:Nat)))]) (fun⟨i,j⟩=>[]) (fun⟨i,j⟩=>i≤j∧j≤c.length∧bsq (aeu c l) i j=bsq (aeu c l) 0 c.length) (fun⟨i,j⟩=>j-i) (0,c.length) rfl ⟨bX _,aM _,rfl⟩ (fun _=>rfl) (fun⟨i,j⟩ hk=>?_)
 dsimp only at hk⊢
 obtain⟨h1,h2,h3⟩:=hk
 refine br (fu1:=⟨10⟩) (fu2:=⟨11⟩) J J J (fun hc17=>?_) (fun hc17=>?_)
 ·
  obtain⟨s,hs0⟩: ∃s,c[(i+j)/2]? =some s:=⟨_,aQ (by omega)⟩
  haveI:=(hc s (aS hs0)).lb
  have hang:=azS (l:=l) hs0
  refine eqF 22 (.d (.v (.int .u64 ((i+j)/2:Nat)))) rfl (by rw[ax2]) ?_
  refine gx rfl<|ix _ rfl (aaq hs0) rfl<|cl rfl (asF (s:=s) (l:=l)) rfl<|?_
  refine br J J J (fun hc31=>?_) (fun hc31=>?_)
  ·
   exact at_ ((i+j)/2+1,j) (by dsimp only;exact⟨⟨by omega,h2,by rw[←h3,aGR (i:=i) (j:=j) (by omega) (by rw[hang];exact decide_eq_true hc31)]⟩,(by omega)⟩)
  ·
   exact at_ (i,(i+j)/2) (by dsimp only;exact⟨⟨by omega,by omega,by rw[←h3,aGd (i:=i) (j:=j) (by omega) (by rw[hang,decide_eq_false hc31];exact Bool.false_ne_true)]⟩,(by omega)⟩)
 ·
  refine csS (v2:=fun hg39=>by simp only[aaj];kernel_rfl) J J J J (fun hg39=>?_) (fun hg39=>?_)
  ·
   have he:=aEk (p:=aeu c l) (i:=i) (j:=j) (by omega)
   obtain⟨s,hs0⟩: ∃s,c[i]? =some s:=⟨_,aQ (by omega)⟩
   haveI:=(hc s (aS hs0)).lb
   refine ix _ rfl (aaq hs0) rfl<|cl rfl (asF (s:=s) (l:=l)) rfl<|?_
   exact rz rfl (by rw[←h3,he,aFZ hs0];rfl)
  ·
   have he:=aEk (p:=aeu c l) (i:=i) (j:=j) (by omega)
   exact rz rfl (by rw[←h3,he,aF9 (by omega)];rfl)
theorem asp{l:LnQ}[LB l](hlo:l.ok): ∀{c:aah} {v w:IvQ},abQ c→axM v→agA l c v=some w→axM w
 |[],v,w,_,hv,h=>by cases h;exact hv
 |s::t,v,w,hc,hv,h=>by
  haveI:=(hc s aZ).lb
  simp only[agA] at h
  split at h
  ·exact asp hlo (fun x hx=>hc x (aJ _ hx)) (hv.cut hlo.1) h
  ·cases h
theorem alb{l:LnQ}[LB l]: ∀{c:aah},abQ c→abQ (abZ l c)
 |[],_,s,h=>by cases h
 |a::t,hc,s,h=>by
  have ha:=hc a aZ
  haveI:=ha.lb
  have ht:=alb (l:=l) (fun x hx=>hc x (aJ _ hx))
  unfold abZ at h
  split at h
  ·rcases aU.1 h with rfl|h
   ·exact⟨ha.lb,ha.ok,ha.v.cut ha.ok.1⟩
   ·exact ht s h
  ·exact ht s h
theorem agp{l:LnQ}[hl:LB l](hlo:l.ok){c:aah}(hc:abQ c):abQ (aaP c l):=by
 unfold aaP
 split
 ·rename_i v hv
  intro s hs
  unfold aoM at hs
  rcases bZ.1 hs with h|h
  ·exact alb hc s (dZ h)
  ·rcases aU.1 h with rfl|h
   ·exact⟨hl,hlo,asp hlo hc .all hv⟩
   ·exact alb hc s (gK h)
 ·exact hc
theorem aq4{l:LnQ}{c:aah}{k:Nat}{s:FrQ}(h:c[k]? =some s):abZ l (c.drop k)=if s.l.cutB s.v l then⟨s.l,s.l.cutV s.v l⟩::abZ l (c.drop (k+1)) else abZ l (c.drop (k+1)):=by
 rw[aiY h];rfl
theorem azm{c:aah}{l:LnQ}[hl:LB l](hlo:l.ok)(hc:abQ c)(hn:c.length≤100000):PF GB prog 168 [.sl (c.map eFr),eLn l] (.tp [.sl ((aaP c l).map eFr),vB (abh c l)]):=by
 have hm:=agi eFr c
 refine fn func168 J J ntmps168 J J (fun C=>?_)
 refine cl rfl (ayq (c:=c) (l:=l) hlo hc (by omega)) rfl<|?_
 refine bb (fu2:=⟨6⟩) J J J (fun hc22=>?_) (fun hc22=>?_)
 ·
  have hp:afz c l=none:=by simpa using hc22
  refine cl rfl (aAa (c:=c) (l:=l) hlo hc (by omega)) rfl<|?_
  exact rz rfl (by unfold aaP abh;rw[hp];rfl)
 ·
  obtain⟨v,hv⟩: ∃v,afz c l=some v:=qV.1 (by simpa using hc22)
  have hvd:ivD (afz c l)=v:=by rw[hv];rfl
  rw[hvd]
  refine eqF 29 (.d (vI (c.length:Nat))) rfl (by rw[hm]<;>rfl) ?_
  refine gx rfl<|mkc (fu:=⟨8⟩) (c.length+1) J J J<|?_
  refine eqF 33 (.d (vI (c.length:Nat))) rfl (by rw[hm]<;>rfl) ?_
  refine gx rfl<|?_
  refine lp (X:=aah×Nat) (fun⟨o,k⟩=>[(34, .d (vI (k:Nat))),(8, .rw 31)]) (fun⟨o,k⟩=>[(31,some (.c 201 17 (o.map eFr) (c.length+1)))]) (fun⟨o,k⟩=>k≤c.length∧o.length≤k∧o++abZ l (c.drop k)=abZ l c) (fun⟨o,k⟩=>c.length-k) ([],0) rfl ⟨bX _,aM _,rfl⟩ (fun _=>rfl) (fun⟨o,k⟩ hk=>?_)
  dsimp only at hk⊢
  obtain⟨h1,h2,h3⟩:=hk
  have hmo:=agi eFr o
  refine br J J J (fun hc35=>?_) (fun hc35=>?_)
  ·
   obtain⟨s,hs0⟩: ∃s,c[k]? =some s:=⟨_,aQ (by omega)⟩
   have hs:=hc s (aS hs0)
   haveI:=hs.lb
   haveI:=hs.v.lo
   haveI:=hs.v.hi
   refine ix _ rfl (aaq hs0) rfl<|cl (fu:=⟨0⟩) rfl (aDJ (l:=s.l) (m:=l) (v:=s.v)) rfl<|?_
   generalize hw:s.l.cutV s.v l=w
   generalize hb:s.l.cutB s.v l=b
   refine gx rfl<|?_
   refine bb J J J (fun hc47=>?_) (fun hc47=>?_)
   ·
    refine rf J J<|apc ((o++[FrQ.mk s.l w]).map eFr) rfl (by rw[bV];rfl) (aC4 [FrQ.mk s.l w]) (by rw[hmo];simp;omega) rfl<|?_
    refine rnE 54 31 rfl ?_
    exact at_ (o++[FrQ.mk s.l w],k+1) (by dsimp only;exact⟨⟨by omega,by simp;omega,by rw[←h3,aq4 hs0,hb,if_pos hc47,hw,fT];rfl⟩,(by omega)⟩)
   ·
    exact at_ (o,k+1) (by dsimp only;exact⟨⟨by omega,by omega,by rw[←h3,aq4 hs0,hb,if_neg (by simp[hc47])]⟩,(by omega)⟩)
  ·
   obtain rfl:k=c.length:=by omega
   have ho:o=abZ l c:=by rw[←h3,dR];simp[abZ]
   subst ho
   have hbl:=(aqu (aeu (abZ l c) l) (abZ l c).length 0 (abZ l c).length (by omega) (by omega)).2
   refine cL rfl (aGC (c:=abZ l c) (l:=l) (alb hc) (by omega)) J J<|ro J J<|ci ((aoM (abZ l c) l v).map eFr) rfl (axl (c:=abZ l c) (x:=⟨l,v⟩) (i:=bsq (aeu (abZ l c) l) 0 (abZ l c).length) (cap:=c.length+1) hbl (by omega) (by omega)) J J<|?_
   refine fzE 68 rfl ?_
   exact rz rfl (by unfold aaP abh;rw[hv];rfl)
theorem arb{c:aah}{l:LnQ}[hl:LB l](hlo:l.ok)(hc:abQ c)(hn:c.length≤100000):PF GB prog 220 [.sl (c.map eFr),eLn l] (.tp [.sl ((aaP c l).map eFr), .sl ((aaP c l.rev).map eFr),vB (abh c l),vB (abh c l.rev)]):=by
 refine fn func220 J J ntmps220 J J (fun C=>?_)
 refine cl rfl (azm (c:=c) (l:=l) hlo hc hn) rfl<|cl rfl (aD4 (l:=l)) rfl<|cl rfl (azm (c:=c) (l:=l.rev) hlo.rev hc hn) rfl<|?_
 exact rz J J
def cU:Tr→List DV
 | .leaf b=>[vI 0,vI 0, .v (.pointer none),vI 0,vI 0, .v (.pointer none),vI 0,vI 0, .v (.pointer none), .v (.pointer none), .v (.pointer none), .v (.bool b)]
 | .node l x y=>[vI (fn_ (l.a:Rat)),vI (fd_ (l.a:Rat)),fp_ (l.a:Rat),vI (fn_ (l.b:Rat)),vI (fd_ (l.b:Rat)),fp_ (l.b:Rat),vI (fn_ (l.c:Rat)),vI (fd_ (l.c:Rat)),fp_ (l.c:Rat), .pt (cU x), .pt (cU y), .v (.bool false)]
def eU(t:Tr):DV:= .pt (cU t)
theorem akW{b:Bool}:PF GB prog 181 [.v (.bool b)] (eU (.leaf b)):=by
 refine fn func181 J J ntmps181 J J (fun C=>?_)
 refine fzE 5 rfl ?_
 exact rz J J
theorem axk{l:LnQ}{x y:Tr}:PF GB prog 182 [eLn l,eU x,eU y] (eU (.node l x y)):=by
 refine fn func182 J J ntmps182 J J (fun C=>?_)
 refine fzE 11 rfl ?_
 exact rz J J
theorem adj{b:Bool}:PF GB prog 130 [eU (.leaf b)] (.v (.bool true)):=by
 refine fn func130 J J ntmps130 J J (fun C=>?_)
 exact rz J J
theorem acS{l:LnQ}{x y:Tr}:PF GB prog 130 [eU (.node l x y)] (.v (.bool false)):=by
 refine fn func130 J J ntmps130 J J (fun C=>?_)
 exact rz J J
theorem avZ{l l1:LnQ}{x y u:Tr}:PF GB prog 242 [eLn l,eU (.node l1 x y),eU u] (eU (.node l (.node l1 x y) u)):=by
 refine fn func242 J J ntmps242 J J (fun C=>?_)
 refine cl (fu:=⟨0⟩) rfl acS rfl<|knF J J J<|cl rfl axk rfl<|?_
 exact rz J J
theorem avv{l l1:LnQ}{x y:Tr}{p:Bool}:PF GB prog 242 [eLn l,eU (.leaf p),eU (.node l1 x y)] (eU (.node l (.leaf p) (.node l1 x y))):=by
 refine fn func242 J J ntmps242 J J (fun C=>?_)
 refine cl (fu:=⟨0⟩) rfl adj rfl<|knT J J J<|cl (fu:=⟨1⟩) rfl acS rfl<|knF J J J<|cl rfl axk rfl<|?_
 exact rz J J
theorem at9{l:LnQ}{p q:Bool}:PF GB prog 242 [eLn l,eU (.leaf p),eU (.leaf q)] (eU (Tr.joinQ l (.leaf p) (.leaf q))):=by
 refine fn func242 J J ntmps242 J J (fun C=>?_)
 refine cl (fu:=⟨0⟩) rfl adj rfl<|knT J J J<|cl (fu:=⟨1⟩) rfl adj rfl<|knT J J J<|?_
 refine bb J J J (fun hc23=>?_) (fun hc23=>?_)
 ·
  exact rz rfl (by rw[show Tr.joinQ l (.leaf p) (.leaf q)= .leaf p by simp[Tr.joinQ,Tr.isLeaf,Tr.code,hc23]];rfl)
 ·
  refine cl rfl axk rfl<|?_
  exact rz rfl (by rw[show Tr.joinQ l (.leaf p) (.leaf q)= .node l (.leaf p) (.leaf q) by simp[Tr.joinQ,Tr.isLeaf,Tr.code,hc23]];rfl)
theorem aDp{l:LnQ}: ∀{x y:Tr},PF GB prog 242 [eLn l,eU x,eU y] (eU (Tr.joinQ l x y))
 | .leaf _, .leaf _=>at9
 | .leaf _, .node .. =>avv
 | .node ..,_=>avZ
theorem aon{b:Bool}:PF GB prog 102 [eU (.leaf b)] (vI (Tr.depth (.leaf b):Nat)):=by
 refine fn func102 J J ntmps102 J J (fun C=>?_)
 refine cl (fu:=⟨0⟩) rfl adj rfl<|?_
 refine kbT 4 rfl ?_
 refine gx rfl<|?_
 exact rz J J
theorem aoa{l:LnQ}{x y:Tr}(hd:(Tr.node l x y).depth≤1000000)(ihx:PF GB prog 102 [eU x] (vI (Tr.depth x:Nat)))(ihy:PF GB prog 102 [eU y] (vI (Tr.depth y:Nat))):PF GB prog 102 [eU (.node l x y)] (vI (Tr.depth (.node l x y):Nat)):=by
 have hdp:(Tr.node l x y).depth=1+max x.depth y.depth:=rfl
 have hdx:=qS x.depth y.depth
 have hdy:=pL x.depth y.depth
 refine fn func102 J J ntmps102 J J (fun C=>?_)
 refine cl (fu:=⟨0⟩) rfl acS rfl<|?_
 refine kbF 4 rfl ?_
 refine gx rfl<|cl rfl ihx rfl<|cl (hv:=by simp only[aaj];exact⟨by omega,by kernel_rfl⟩) rfl ihy rfl<|?_
 exact rz rfl (by show DV.v (.int _ _)= .v (.int _ _);congr 2;split<;>omega)
theorem aoC: ∀{t:Tr},t.depth≤1000000→PF GB prog 102 [eU t] (vI (Tr.depth t:Nat))
 | .leaf _,_=>aon
 | .node l x y,h=>aoa h (aoC (by have:=qS x.depth y.depth;have:(Tr.node l x y).depth=1+max x.depth y.depth:=rfl;omega)) (aoC (by have:=pL x.depth y.depth;have:(Tr.node l x y).depth=1+max x.depth y.depth:=rfl;omega))
theorem ajs{b:Bool}{c:aah}:PF GB prog 185 [eU (.leaf b), .sl (c.map eFr)] (eU (Tr.restrict (.leaf b) c)):=by
 refine fn func185 J J ntmps185 J J (fun C=>?_)
 refine cl (fu:=⟨0⟩) rfl adj rfl<|?_
 refine kbT 10 rfl ?_
 refine gx rfl<|?_
 exact rz J J
theorem ajz{l:LnQ}{x y:Tr}{c:aah}(hl:LB l)(hlo:l.ok)(hc:abQ c)(hn:c.length+(Tr.node l x y).depth≤100000)(ihx: ∀{c:aah},abQ c→c.length+x.depth≤100000→PF GB prog 185 [eU x, .sl (c.map eFr)] (eU (Tr.restrict x c)))(ihy: ∀{c:aah},abQ c→c.length+y.depth≤100000→PF GB prog 185 [eU y, .sl (c.map eFr)] (eU (Tr.restrict y c))):PF GB prog 185 [eU (.node l x y), .sl (c.map eFr)] (eU (Tr.restrict (.node l x y) c)):=by
 have hdp:(Tr.node l x y).depth=1+max x.depth y.depth:=rfl
 have hdx:=qS x.depth y.depth
 have hdy:=pL x.depth y.depth
 have hca:=aez c l
 have hcb:=aez c l.rev
 refine fn func185 J J ntmps185 J J (fun C=>?_)
 refine cl (fu:=⟨0⟩) rfl acS rfl<|?_
 refine kbF 10 rfl ?_
 refine gx rfl<|cl rfl (arb (c:=c) (l:=l) hlo hc (by omega)) rfl<|?_
 refine bb J J J (fun hc23=>?_) (fun hc23=>?_)
 ·
  refine cl rfl (ihx hc (by omega)) rfl<|?_
  exact rz rfl (by rw[Tr.restrict,if_pos hc23];rfl)
 ·
  refine bb J J J (fun hc32=>?_) (fun hc32=>?_)
  ·
   refine cl rfl (ihy hc (by omega)) rfl<|?_
   exact rz rfl (by rw[Tr.restrict,if_neg (by simp[hc23]),if_pos hc32];rfl)
  ·
   refine cl rfl (ihx (c:=aaP c l) (agp hlo hc) (by omega)) rfl<|cl rfl (ihy (c:=aaP c l.rev) (agp hlo.rev hc) (by omega)) rfl<|cl rfl aDp rfl<|?_
   exact rz rfl (by rw[Tr.restrict,if_neg (by simp[hc23]),if_neg (by simp[hc32])];rfl)
theorem ahz: ∀{t:Tr} {c:aah},t.all LB→t.all LnQ.ok→abQ c→c.length+t.depth≤100000→PF GB prog 185 [eU t, .sl (c.map eFr)] (eU (Tr.restrict t c))
 | .leaf _,_,_,_,_,_=>ajs
 | .node l x y,c,hb,ho,hc,hn=>ajz hb.1 ho.1 hc hn (fun h1 h2=>ahz hb.2.1 ho.2.1 h1 h2) (fun h1 h2=>ahz hb.2.2 ho.2.2 h1 h2)
theorem awF{t:Tr}(hb:t.all LB)(ho:t.all LnQ.ok)(hd:t.depth≤100000):PF GB prog 131 [eU t] (eU (t.restrict [])):=by
 refine fn func131 J J ntmps131 J J (fun C=>?_)
 refine cl rfl (ahz (t:=t) (c:=[]) hb ho (fun s h=>by cases h) (by simpa using hd)) rfl<|?_
 exact rz J J
def Tr.compl:Tr→Tr
 | .leaf b=> .leaf !b
 | .node l x y=> .node l x.compl y.compl
def Tr.chooseQ(op:Int)(b:Bool)(t:Tr)(c:aah):Tr:=
 if op=1∨op=2 then(if b=decide (op=1) then .leaf b else t.restrict c)
 else if op=3∧b=false then .leaf false
 else if b then(t.restrict c).compl else t.restrict c
def Tr.mergeQ(op:Int):Tr→Tr→aah→Tr
 | .leaf b,u,c=>u.chooseQ op b c
 | .node l x y,u,c=>if !abh c l.rev then x.mergeQ op u c else if !abh c l then y.mergeQ op u c else joinQ l (x.mergeQ op u (aaP c l)) (y.mergeQ op u (aaP c l.rev))
def lnZ:DV:= .ag [vI 0,vI 0, .v (.pointer none),vI 0,vI 0, .v (.pointer none),vI 0,vI 0, .v (.pointer none)]
def lnR:Option LnQ→DV
 |some l=> .tp [eLn l,vB true]
 |none=> .tp [lnZ,vB false]
theorem aEy{l:LnQ}(h: ¬l.ok)(hz: ¬(l.a=0∧l.b=0)):decide (rgcd (rgcd (l.a:Rat) (l.b:Rat)) (l.c:Rat)=((1:Int):Rat))=false:=by
 rw[ahf,ahf]
 refine decide_eq_false fun e=>h ⟨hz,?_⟩
 simp only[jZ] at e
 have:=nV.1 e
 omega
theorem axB{l:LnQ}[hl:LB l](ha:l.a=0)(hb:l.b=0):PF GB prog 167 [eL l] (lnR none):=by
 refine fn func167 J J ntmps167 J J (fun C=>?_)
 refine cl (fu:=⟨0⟩) rfl (acj (m:=l.a)) rfl<|knF J J J<|cl (fu:=⟨0⟩) rfl (acj (m:=l.b)) rfl<|knF J J J<|cl (fu:=⟨0⟩) rfl (acj (m:=l.c)) rfl<|?_
 refine knF J J J<|cl rfl (aeS (m:=l.a)) rfl<|cl rfl (aeS (m:=l.b)) rfl<|cl rfl (aeS (m:=l.c)) rfl<|cl (fu:=⟨0⟩) rfl (aje (q:=(l.a:Rat))) rfl<|?_
 refine knT rfl (by show some (decide _)=some true;rw[ha];rfl) rfl<|cl (fu:=⟨0⟩) rfl (aje (q:=(l.b:Rat))) rfl<|knT rfl (by show some (decide _)=some true;rw[hb];rfl) rfl<|?_
 exact rz J J
theorem awp{l:LnQ}[hl:LB l](hz: ¬(l.a=0∧l.b=0))(ho: ¬l.ok):PF GB prog 167 [eL l] (lnR none):=by
 refine fn func167 J J ntmps167 J J (fun C=>?_)
 refine cl (fu:=⟨0⟩) rfl (acj (m:=l.a)) rfl<|knF J J J<|cl (fu:=⟨0⟩) rfl (acj (m:=l.b)) rfl<|knF J J J<|cl (fu:=⟨0⟩) rfl (acj (m:=l.c)) rfl<|?_
 refine knF J J J<|cl rfl (aeS (m:=l.a)) rfl<|cl rfl (aeS (m:=l.b)) rfl<|cl rfl (aeS (m:=l.c)) rfl<|cl (fu:=⟨0⟩) rfl (aje (q:=(l.a:Rat))) rfl<|?_
 refine csS (fu2:=⟨4⟩) J J J J (fun hg35=>?_) (fun hg35=>?_)
 ·
  have ha:l.a=0:=dQ.1 hg35
  refine cl (fu:=⟨1⟩) rfl (aje (q:=(l.b:Rat))) rfl<|knF rfl (by first|rfl|(show some (decide _)=some false;rw[decide_eq_false (fun e=>hz ⟨ha,dQ.1 e⟩)])) rfl<|?_
  refine cl rfl (agY (p:=(l.a:Rat)) (q:=(l.b:Rat))) rfl<|cl rfl (agY (p:=rgcd l.a l.b) (q:=(l.c:Rat))) rfl<|cl rfl (aik (m:=1) (by decide)) rfl<|?_
  refine cl (fu:=⟨0⟩) rfl (aiC (p:=rgcd (rgcd l.a l.b) l.c) (q:=((1:Int):Rat))) rfl<|knT rfl (by show some (!decide _)=some true;rw[aEy ho hz];rfl) rfl<|?_
  exact rz J J
 ·
  refine knF rfl (by first|rfl|(show some (decide _)=some false;rw[decide_eq_false (fun e=>hz ⟨ha,dQ.1 e⟩)])) rfl<|cl rfl (agY (p:=(l.a:Rat)) (q:=(l.b:Rat))) rfl<|?_
  refine cl rfl (agY (p:=rgcd l.a l.b) (q:=(l.c:Rat))) rfl<|cl rfl (aik (m:=1) (by decide)) rfl<|cl (fu:=⟨0⟩) rfl (aiC (p:=rgcd (rgcd l.a l.b) l.c) (q:=((1:Int):Rat))) rfl<|?_
  refine knT rfl (by show some (!decide _)=some true;rw[aEy ho hz];rfl) rfl<|?_
  exact rz J J
theorem aAH{l:LnQ}[hl:LB l][Decidable l.ok]:PF GB prog 167 [eL l] (lnR (if l.ok then some l else none)):=by
 split
 ·rename_i h;exact aFf h
 ·rename_i h
  by_cases hz:l.a=0∧l.b=0
  ·exact axB hz.1 hz.2
  ·exact awp hz h
def aoq(n:Bool)(ds:List Nat):Prop:=Nrm ds∧(n=true→0<ds.length)
instance (n:Bool) (ds:List Nat):Decidable (aoq n ds):=inferInstanceAs (Decidable (_∧_))
theorem adF{neg:Bool}{ds:List Nat}(h:DOk ds∧ds.length≤3):PF GB prog 221 [.ag [.v (.bool neg),dLi ds]] (vB (decide (aoq neg ds))):=amN h.1 (by have:=h.2;omega)
structure RL where
 na:Bool
 da:List Nat
 nb:Bool
 db:List Nat
 nc:Bool
 dc:List Nat
def RL.d(r:RL):DV:= .ag [.v (.bool r.na),dLi r.da, .v (.bool r.nb),dLi r.db, .v (.bool r.nc),dLi r.dc]
def ahQ(n:Bool)(ds:List Nat):Int:=if n then-(dv ds:Int) else dv ds
def RL.l(r:RL):LnQ:=⟨ahQ r.na r.da,ahQ r.nb r.db,ahQ r.nc r.dc⟩
def RL.nm(r:RL):Prop:=aoq r.na r.da∧aoq r.nb r.db∧aoq r.nc r.dc
instance (l:LnQ):Decidable l.ok:=inferInstanceAs (Decidable (_∧_))
instance (r:RL):Decidable r.nm:=inferInstanceAs (Decidable (_∧_∧_))
def RL.ln(r:RL):Option LnQ:=if r.nm∧r.l.ok then some r.l else none
structure RL.sm (r:RL):Prop where
 a:DOk r.da∧r.da.length≤3
 b:DOk r.db∧r.db.length≤3
 c:DOk r.dc∧r.dc.length≤3
theorem am6(n:Bool)(ds:List Nat):(ahQ n ds).natAbs=dv ds:=by unfold ahQ;cases n<;>simp
theorem aiJ{n:Bool}{ds:List Nat}(hd:DOk ds)(h:aoq n ds):decide (ahQ n ds<0)=n:=by
 unfold ahQ
 cases n with
 |false=>simp
 |true=>
  have h0:0<dv ds:=by
   refine iJ fun e=>?_
   have:=arT hd h.1
   rw[e,ahW] at this
   have h2:=h.2 rfl
   rw[←this] at h2
   exact absurd h2 (by decide)
  simp only[if_true,decide_eq_true_eq]
  omega
theorem RL.eL{r:RL}(s:r.sm)(h:r.nm):r.d=Go.Sx.eL r.l:=by
 unfold RL.d Go.Sx.eL RL.l
 simp only[am6,aiJ s.a.1 h.1,aiJ s.b.1 h.2.1,aiJ s.c.1 h.2.2,dN,arT s.a.1 h.1.1,arT s.b.1 h.2.1.1,arT s.c.1 h.2.2.1]
 rfl
theorem RL.lb{r:RL}(s:r.sm):LB r.l:=by
 have key: ∀(n:Bool) (ds:List Nat),DOk ds∧ds.length≤3→(ahQ n ds).natAbs<2^96:=fun n ds h=>by
  rw[am6]
  refine dX (aey h.1) ?_
  rw[show(2:Nat)^96=4294967296^3 by decide]
  exact bT (by decide) h.2
 exact⟨key _ _ s.a,key _ _ s.b,key _ _ s.c⟩
theorem av1{r:RL}(s:r.sm)(h: ¬aoq r.na r.da):PF GB prog 167 [r.d] (lnR none):=by
 refine fn func167 J J ntmps167 J J (fun C=>?_)
 refine cl (fu:=⟨0⟩) rfl (adF (neg:=r.na) (ds:=r.da) s.a) rfl<|knT rfl (by show some (!decide _)=some true;rw[decide_eq_false h];rfl) rfl<|?_
 exact rz J J
theorem awH{r:RL}(s:r.sm)(h1:aoq r.na r.da)(h: ¬aoq r.nb r.db):PF GB prog 167 [r.d] (lnR none):=by
 refine fn func167 J J ntmps167 J J (fun C=>?_)
 refine cl (fu:=⟨0⟩) rfl (adF (neg:=r.na) (ds:=r.da) s.a) rfl<|knF rfl (by show some (!decide _)=some false;rw[decide_eq_true h1];rfl) rfl<|cl (fu:=⟨0⟩) rfl (adF (neg:=r.nb) (ds:=r.db) s.b) rfl<|?_
 refine knT rfl (by show some (!decide _)=some true;rw[decide_eq_false h];rfl) rfl<|?_
 exact rz J J
theorem aw8{r:RL}(s:r.sm)(h1:aoq r.na r.da)(h2:aoq r.nb r.db)(h: ¬aoq r.nc r.dc):PF GB prog 167 [r.d] (lnR none):=by
 refine fn func167 J J ntmps167 J J (fun C=>?_)
 refine cl (fu:=⟨0⟩) rfl (adF (neg:=r.na) (ds:=r.da) s.a) rfl<|knF rfl (by show some (!decide _)=some false;rw[decide_eq_true h1];rfl) rfl<|cl (fu:=⟨0⟩) rfl (adF (neg:=r.nb) (ds:=r.db) s.b) rfl<|?_
 refine knF rfl (by show some (!decide _)=some false;rw[decide_eq_true h2];rfl) rfl<|cl (fu:=⟨0⟩) rfl (adF (neg:=r.nc) (ds:=r.dc) s.c) rfl<|knT rfl (by show some (!decide _)=some true;rw[decide_eq_false h];rfl) rfl<|?_
 exact rz J J
theorem avr{r:RL}(s:r.sm):PF GB prog 167 [r.d] (lnR r.ln):=by
 by_cases h1:aoq r.na r.da
 ·by_cases h2:aoq r.nb r.db
  ·by_cases h3:aoq r.nc r.dc
   ·haveI:=RL.lb s
    rw[RL.eL s ⟨h1,h2,h3⟩,show r.ln=if r.l.ok then some r.l else none by unfold RL.ln;simp[show r.nm from⟨h1,h2,h3⟩]]
    exact aAH
   ·rw[show r.ln=none from if_neg fun e=>h3 e.1.2.2]
    exact aw8 s h1 h2 h3
  ·rw[show r.ln=none from if_neg fun e=>h2 e.1.2.1]
   exact awH s h1 h2
 ·rw[show r.ln=none from if_neg fun e=>h1 e.1.1]
  exact av1 s h1
def afX(n:Nat)(f:Nat→Bool):List Value:=(List.range n).map fun j=> .bool (f j)
def ano(f:Nat→Bool)(i:Nat):Nat→Bool:=fun j=>f j||Nat.beq j i
theorem ajX(n:Nat)(f:Nat→Bool):(afX n f).length=n:=by simp[afX]
theorem ahm{n i:Nat}{f:Nat→Bool}{b:Bool}(h:i<n)(hf:f i=b):(afX n f)[i]? =some (.bool b):=by simp[afX,h,hf]
theorem ajx{f:Nat→Bool}{i j:Nat}(e:j≠i):ano f i j=f j:=by
 unfold ano
 cases hb:Nat.beq j i with
 |false=>rw[Bool.or_false]
 |true=>exact absurd (aT hb) e
theorem asv{f:Nat→Bool}{i:Nat}:ano f i i=true:=by
 unfold ano;rw[nY,Bool.or_true]
theorem amV(n i:Nat)(f:Nat→Bool):(afX n f).set i (.bool true)=afX n (ano f i):=by
 apply jM
 intro j
 rw[pX]
 simp only[afX,aK,pJ,cV]
 by_cases hj:j<n
 ·rw[pN hj]
  simp only[jY]
  by_cases e:i=j
  ·subst e;simp[hj,asv]
  ·rw[ajx (fun h=>e h.symm)];simp[e]
 ·rw[cN (by simpa using hj)]
  by_cases e:i=j
  ·subst e;simp[hj]
  ·simp[e]
theorem aoR(n:Nat):abo (.bool false) n=afX n (fun _=>false):=by
 apply jM
 intro j
 by_cases hj:j<n
 ·rw[ahm hj rfl]
  unfold abo
  rw[afq (aag (.bool false)) n j (by simpa[aag] using hj)]
  simp[aag,Nat.mod_one]
 ·rw[cN (by rw[abP];simp[aag];omega),cN (by rw[ajX];omega)]
structure RN where
 g:RL
 l:Int
 r:Int
def RN.d(n:RN):DV:= .ag [.v (.bool n.g.na),dLi n.g.da, .v (.bool n.g.nb),dLi n.g.db, .v (.bool n.g.nc),dLi n.g.dc, .v (.int .i64 n.l), .v (.int .i64 n.r)]
structure RS where
 f:Nat→Bool
 c:Nat
 b:Bool
inductive RR (ns:List RN):Int→RS→Tr→RS→Prop where
 |leaf (b:Bool) (s:RS):RR ns (adg b) s (.leaf b) s
 |bad (rt:Int) (s:RS) (h1:rt≠ -1) (h2:rt≠ -2) (h:rt<0∨(ns.length:Int)≤rt∨(∃k:Nat,rt=k∧k<ns.length∧s.f k=true)):RR ns rt s (.leaf false) ⟨s.f,s.c,true⟩
 |line (k:Nat) (n:RN) (s:RS) (h:ns[k]? =some n) (hf:s.f k=false) (hl:n.g.ln=none):RR ns (k:Int) s (.leaf false) ⟨ano s.f k,s.c+1,true⟩
 |node (k:Nat) (n:RN) (l:LnQ) (s s2 s3:RS) (x y:Tr) (h:ns[k]? =some n) (hf:s.f k=false) (hl:n.g.ln=some l) (h1:RR ns n.l ⟨ano s.f k,s.c+1,s.b⟩ x s2) (h2:RR ns n.r s2 y s3):RR ns (k:Int) s (.node l x y) s3
theorem RR.mono{ns:List RN}{rt:Int}{s s':RS}{t:Tr}(h:RR ns rt s t s'):s.c≤s'.c:=by
 induction h with
 |leaf=>exact aM _
 |bad=>exact aM _
 |line=>exact Nat.le_succ _
 |node k n l s s2 s3 x y h hf hl h1 h2 i1 i2=>simp only at i1;omega
theorem auf{G:Gh}{q:Rat}{v:Value}(h:Is G (fp_ q) v): ∃p,v= .pointer p:=by
 rcases aoT.1 h with⟨_,h⟩|⟨_,h⟩
 ·exact⟨_,h⟩
 ·obtain⟨b,m,h,_⟩:=alO.1 h;exact⟨_,h⟩
theorem aC7{G:Gh}{l:LnQ}{v:Value}(h:Is G (eLn l) v): ∃n1 d1 p1 n2 d2 p2 n3 d3 p3,v= .agg ⟨[.int .i64 n1, .int .i64 d1, .pointer p1, .int .i64 n2, .int .i64 d2, .pointer p2, .int .i64 n3, .int .i64 d3, .pointer p3]⟩:=by
 obtain⟨m,rfl,g⟩:=abX.1 h
 clear h
 obtain⟨v1,m,rfl,h1,h⟩:=aae.1 g
 obtain⟨v2,m,rfl,h2,h⟩:=aae.1 h
 obtain⟨v3,m,rfl,h3,h⟩:=aae.1 h
 obtain⟨v4,m,rfl,h4,h⟩:=aae.1 h
 obtain⟨v5,m,rfl,h5,h⟩:=aae.1 h
 obtain⟨v6,m,rfl,h6,h⟩:=aae.1 h
 obtain⟨v7,m,rfl,h7,h⟩:=aae.1 h
 obtain⟨v8,m,rfl,h8,h⟩:=aae.1 h
 obtain⟨v9,m,rfl,h9,h⟩:=aae.1 h
 rw[aaJ] at h;subst h
 obtain⟨_,rfl⟩:=auf h3
 obtain⟨_,rfl⟩:=auf h6
 obtain⟨_,rfl⟩:=auf h9
 rw[aa4.1 h1,aa4.1 h2,aa4.1 h4,aa4.1 h5,aa4.1 h7,aa4.1 h8]
 exact⟨_,_,_,_,_,_,_,_,_,rfl⟩
theorem azb{G:Gh}{o:Option LnQ}{v:Value}(h:Is G (lnR o) v): ∃n1 d1 p1 n2 d2 p2 n3 d3 p3,v= .tuple #[.agg ⟨[.int .i64 n1, .int .i64 d1, .pointer p1, .int .i64 n2, .int .i64 d2, .pointer p2, .int .i64 n3, .int .i64 d3, .pointer p3]⟩, .bool o.isSome]∧
  ∀l,o=some l→Is G (eLn l) (.agg ⟨[.int .i64 n1, .int .i64 d1, .pointer p1, .int .i64 n2, .int .i64 d2, .pointer p2, .int .i64 n3, .int .i64 d3, .pointer p3]⟩):=by
 cases o with
 |some l=>
  obtain⟨m,rfl,g⟩:=adS.1 h
  obtain⟨v1,m,rfl,h1,h⟩:=aae.1 g
  obtain⟨v2,m,rfl,h2,h⟩:=aae.1 h
  rw[aaJ] at h;subst h
  obtain⟨n1,d1,p1,n2,d2,p2,n3,d3,p3,rfl⟩:=aC7 h1
  rw[aa4.1 h2]
  exact⟨n1,d1,p1,n2,d2,p2,n3,d3,p3,rfl,fun k e=>by cases e;exact h1⟩
 |none=>
  obtain⟨m,rfl,g⟩:=adS.1 h
  obtain⟨v1,m,rfl,h1,h⟩:=aae.1 g
  obtain⟨v2,m,rfl,h2,h⟩:=aae.1 h
  rw[aaJ] at h;subst h
  clear g h
  obtain⟨m,rfl,g⟩:=abX.1 h1
  obtain⟨w1,m,rfl,k1,h⟩:=aae.1 g
  obtain⟨w2,m,rfl,k2,h⟩:=aae.1 h
  obtain⟨w3,m,rfl,k3,h⟩:=aae.1 h
  obtain⟨w4,m,rfl,k4,h⟩:=aae.1 h
  obtain⟨w5,m,rfl,k5,h⟩:=aae.1 h
  obtain⟨w6,m,rfl,k6,h⟩:=aae.1 h
  obtain⟨w7,m,rfl,k7,h⟩:=aae.1 h
  obtain⟨w8,m,rfl,k8,h⟩:=aae.1 h
  obtain⟨w9,m,rfl,k9,h⟩:=aae.1 h
  rw[aaJ] at h;subst h
  rw[aa4.1 k1,aa4.1 k2,aa4.1 k3,aa4.1 k4,aa4.1 k5,aa4.1 k6,aa4.1 k7,aa4.1 k8,aa4.1 k9]
  rw[aa4.1 h2]
  exact⟨_,_,_,_,_,_,_,_,_,rfl,fun k e=>by cases e⟩
theorem aEN{G:Gh}{n:RN}{v:Value}(h:Is G n.d v): ∃x1 x2 x3:SV,v= .agg ⟨[.bool n.g.na, .slice x1.a x1.n x1.c, .bool n.g.nb, .slice x2.a x2.n x2.c, .bool n.g.nc, .slice x3.a x3.n x3.c, .int .i64 n.l, .int .i64 n.r]⟩∧
  Is G n.g.d (.agg ⟨[.bool n.g.na, .slice x1.a x1.n x1.c, .bool n.g.nb, .slice x2.a x2.n x2.c, .bool n.g.nc, .slice x3.a x3.n x3.c]⟩):=by
 obtain⟨m,rfl,g⟩:=abX.1 h
 clear h
 obtain⟨v1,m,rfl,h1,h⟩:=aae.1 g
 obtain⟨v2,m,rfl,h2,h⟩:=aae.1 h
 obtain⟨v3,m,rfl,h3,h⟩:=aae.1 h
 obtain⟨v4,m,rfl,h4,h⟩:=aae.1 h
 obtain⟨v5,m,rfl,h5,h⟩:=aae.1 h
 obtain⟨v6,m,rfl,h6,h⟩:=aae.1 h
 obtain⟨v7,m,rfl,h7,h⟩:=aae.1 h
 obtain⟨v8,m,rfl,h8,h⟩:=aae.1 h
 rw[aaJ] at h;subst h
 obtain⟨_,x1,_,rfl,_,_⟩:=adx.1 (id h2)
 obtain⟨_,x2,_,rfl,_,_⟩:=adx.1 (id h4)
 obtain⟨_,x3,_,rfl,_,_⟩:=adx.1 (id h6)
 cases aa4.1 h1;cases aa4.1 h3;cases aa4.1 h5;cases aa4.1 h7;cases aa4.1 h8
 exact⟨x1,x2,x3,rfl,abX.2 ⟨_,rfl, .cons h1 (.cons h2 (.cons h3 (.cons h4 (.cons h5 (.cons h6 .nil)))))⟩⟩
theorem ajg{G:Gh}{t:Tr}{v:Value}(h:Is G (eU t) v): ∃p,v= .pointer p:=by
 obtain⟨b,m,h,_⟩:=alO.1 h;exact⟨_,h⟩
theorem PF.fn0{P:Program}{f:FuncId}{ds:List DV}{r:DV}(h: ∀{GB:Gh},PF GB P f ds r){G:Gh}{vs:List Value}(hv:IsLs G ds vs):Fn P f vs G (fun v G'=>Is G' r v):=h (GB:=G) G vs (GLe.refl G) hv
abbrev aHx (x:SV) (ns:List RN) (A:Gh):Prop:= ∃es,afs A 8 x es∧IsLs A (ns.map RN.d) es
theorem aB5{A:Gh}{ns:List RN}{x:SV}(hx:aHx x ns A)(hs: ∀n∈ns,n.g.sm)(hn:ns.length≤1000000){rt:Int}{s s':RS}{t:Tr}(h:RR ns rt s t s'): ∀{G:Gh} {rb sb:Nat} {lo lo2:Bool},[GL A G]→s'.c≤1000000→
  FnM prog 127 [.pointer (some ⟨rb,0,none⟩), .int .i64 rt] [⟨rb,[.slice x.a x.n x.c, .slice (some ⟨sb,0,none⟩) ns.length ns.length, .int .i64 s.c, .bool s.b],235,lo⟩,⟨sb,afX ns.length s.f,4,lo2⟩] G
   (fun v css G'=> ∃p,v= .pointer p∧Is G' (eU t) (.pointer p)∧css=[[.slice x.a x.n x.c, .slice (some ⟨sb,0,none⟩) ns.length ns.length, .int .i64 s'.c, .bool s'.b],afX ns.length s'.f]):=by
 obtain⟨es,hx,hes⟩:=hx
 have hel:=hes.len
 rw[aK] at hel
 have hlen:=hx.len
 rw[hel] at hlen
 obtain⟨xa,xn,xc⟩:=x
 simp only[] at hlen
 subst hlen
 induction h with
 |leaf bb s=>
  intro G rb sb lo lo2 _ hc
  refine FnM.intro func127 J J ntmps127 rfl ?_
  intro C _ _
  show St C _ _ [⟨rb,_,_,false⟩,⟨sb,_,_,false⟩] _ _
  cases bb
  case true=>
   refine sR<|sa J J<|zE<|aan<|aat<|sR<|sm J J<|sy (ab9 J J) rfl<|sm J J<|ss J J J J<|ss J J J J<|?_
   refine sy (ac9 J J) rfl<|sa J J<|zE<|adc rfl<|sR<|sm J J<|sy (ab9 J J) rfl<|?_
   refine sc (zC J J (PF.fn0 (akW (b:=true)) (.cons (aa4.2 rfl) .nil)) rfl ?_)
   rintro _ G1 _ hp
   obtain⟨p,rfl⟩:=ajg hp
   refine sa J J<|zE<|aaH<|?_
   exact adf (css:=[_,_]) (.tmp rfl .nil) rfl _ (List.Perm.refl _) (List.Sublist.refl _) ⟨p,rfl,hp,rfl⟩
  refine sR<|sa J J<|zE<|aan<|aat<|sR<|sm J J<|sy (ab9 J J) rfl<|sm J J<|syg J J (aaQ rfl) rfl<|syg J J (ab9 J J) rfl<|?_
  refine sy (abD J J) rfl<|sa J J<|zE<|adc rfl<|sR<|sm J J<|sy (ab9 J J) rfl<|?_
  refine sc (zC J J (PF.fn0 (akW (b:=false)) (.cons (aa4.2 rfl) .nil)) rfl ?_)
  rintro _ G1 _ hp
  obtain⟨p,rfl⟩:=ajg hp
  refine sa J J<|zE<|aaH<|?_
  exact adf (css:=[_,_]) (.tmp rfl .nil) rfl _ (List.Perm.refl _) (List.Sublist.refl _) ⟨p,rfl,hp,rfl⟩
 |bad rt s h1 h2 h=>
  intro G rb sb lo lo2 _ hc
  refine FnM.intro func127 J J ntmps127 rfl ?_
  intro C _ _
  show St C _ [(0, .pointer (some ⟨rb,0,none⟩)),(1, .int .i64 rt)] [⟨rb,[.slice xa ns.length xc, .slice (some ⟨sb,0,none⟩) ns.length ns.length, .int .i64 s.c, .bool s.b],_,false⟩,⟨sb,afX ns.length s.f,_,false⟩] _ _
  refine sR<|sa J J<|zE<|aan<|aat<|sR<|sm J J<|sy (ab9 J J) rfl<|sm J J<|?_
  refine aci 12 rfl (fun hg=>absurd hg (by omega)) (fun hg=>?_)
  refine syg J J (aaQ rfl) rfl<|syg J J (ab9 J J) rfl<|sy (abD J J) rfl<|sa J J<|zE<|?_
  refine aaE rfl (fun hc=>absurd hc (by omega)) (fun _=>?_)
  refine sR<|sm J J<|sy (acu J J) rfl<|sm J J<|?_
  refine aci 22 rfl (fun hg=>?_) (fun hg=>?_)
  ·refine ss J J J J<|ss J J J J<|ss J J J J<|ss J J J J<|ss J J J J<|ss J J J J<|ss J J J J<|sy (ac9 J J) rfl<|sm J J<|ss J J J J<|ss J J J J<|?_
   refine ss J J J J<|ss J J J J<|ss J J J J<|ss J J J J<|ss J J J J<|sy (ac9 J J) rfl<|sa J J<|zE<|adc rfl<|aan<|?_
   refine aao<|sm J J<|sn J J<|sf J J<|?_
   refine sc (adG J J J (.hd ..) (nb rfl) J J ?_)
   refine zE<|sR<|?_
   refine sc (zC J J (PF.fn0 (akW (b:=false)) (.cons (aa4.2 rfl) .nil)) rfl ?_)
   rintro _ G1 _ hp
   obtain⟨p,rfl⟩:=ajg hp
   refine sa J J<|zE<|aaH<|?_
   exact adf (css:=[_,_]) (.tmp rfl .nil) rfl _ (List.Perm.refl _) (List.Sublist.refl _) ⟨p,rfl,hp,rfl⟩
  refine syg J J (aaQ rfl) rfl<|syg J J (aaQ rfl) rfl<|syg J J (aaX rfl) rfl<|syg J J (aaS rfl) rfl<|syg J J (aaC J J) rfl<|syg J J (aew rfl) rfl<|syg J J (ahY J J) rfl<|sy (abD J J) rfl<|sm J J<|?_
  refine aci 31 rfl (fun hg=>?_) (fun hg=>?_)
  ·refine ss J J J J<|ss J J J J<|ss J J J J<|ss J J J J<|ss J J J J<|ss J J J J<|ss J J J J<|?_
   refine sy (ac9 J J) rfl<|sa J J<|zE<|adc rfl<|sR<|sm J J<|sn J J<|sf J J<|?_
   refine sc (adG J J J (.hd ..) (nb rfl) J J ?_)
   refine zE<|sR<|?_
   refine sc (zC J J (PF.fn0 (akW (b:=false)) (.cons (aa4.2 rfl) .nil)) rfl ?_)
   rintro _ G1 _ hp
   obtain⟨p,rfl⟩:=ajg hp
   refine sa J J<|zE<|aaH<|?_
   exact adf (css:=[_,_]) (.tmp rfl .nil) rfl _ (List.Perm.refl _) (List.Sublist.refl _) ⟨p,rfl,hp,rfl⟩
  obtain⟨k,rfl,hk,hf⟩: ∃k:Nat,rt=k∧k<ns.length∧s.f k=true:=by
   rcases h with h|h|h
   ·omega
   ·exact absurd h hg
   ·exact h
  refine syg J J (aaQ rfl) rfl<|syg J J (aaX rfl) rfl<|syg J J (aaS rfl) rfl<|syg J J (aaC J J) rfl<|syg J J (aaQ rfl) rfl<|syg J J (abp J J (by omega) (by omega)) rfl<|?_
  refine syg J J (aaC (v:= .bool true) rfl (by rw[bK,gN];exact ahm hk hf)) rfl<|sy (abD J J) rfl<|sa J J<|zE<|adc rfl<|?_
  refine sR<|sm J J<|sn J J<|sf J J<|?_
  refine sc (adG J J J (.hd ..) (nb rfl) J J ?_)
  refine zE<|sR<|?_
  refine sc (zC J J (PF.fn0 (akW (b:=false)) (.cons (aa4.2 rfl) .nil)) rfl ?_)
  rintro _ G1 _ hp
  obtain⟨p,rfl⟩:=ajg hp
  refine sa J J<|zE<|aaH<|?_
  exact adf (css:=[_,_]) (.tmp rfl .nil) rfl _ (List.Perm.refl _) (List.Sublist.refl _) ⟨p,rfl,hp,rfl⟩
 |line base n s h0 hfb hl=>
  intro G rb sb lo lo2 _ hc
  have hbn:base<ns.length:=(aL.1 h0).1
  simp only at hc
  obtain⟨z,hzi,hz⟩:=hes.get (i:=base) (d:=n.d) (by rw[cV,h0];rfl)
  obtain⟨x1,x2,x3,rfl,hzg⟩:=aEN hz
  refine FnM.intro func127 J J ntmps127 rfl ?_
  intro C _ _
  show St C _ [(0, .pointer (some ⟨rb,0,none⟩)),(1, .int .i64 (base:Int))] [⟨rb,[.slice xa ns.length xc, .slice (some ⟨sb,0,none⟩) ns.length ns.length, .int .i64 s.c, .bool s.b],_,false⟩,⟨sb,afX ns.length s.f,_,false⟩] _ _
  refine sR<|sa J J<|zE<|aan<|aat<|sR<|sm J J<|sy (ab9 J J) rfl<|sm J J<|?_
  refine aci 12 rfl (fun hg=>absurd hg (by omega)) (fun hg=>?_)
  refine syg J J (aaQ rfl) rfl<|syg J J (ab9 J J) rfl<|sy (abD J J) rfl<|sa J J<|zE<|?_
  refine aaE rfl (fun hc=>absurd hc (by omega)) (fun _=>?_)
  refine sR<|sm J J<|sy (acu J J) rfl<|sm J J<|?_
  refine aci 22 rfl (fun hg=>absurd hg (by omega)) (fun hg=>?_)
  refine syg J J (aaQ rfl) rfl<|syg J J (aaQ rfl) rfl<|syg J J (aaX rfl) rfl<|syg J J (aaS rfl) rfl<|syg J J (aaC J J) rfl<|syg J J (aew rfl) rfl<|syg J J (ahY J J) rfl<|sy (abD J J) rfl<|sm J J<|?_
  refine aci 31 rfl (fun hg=>absurd hg (by omega)) (fun hg=>?_)
  refine syg J J (aaQ rfl) rfl<|syg J J (aaX rfl) rfl<|syg J J (aaS rfl) rfl<|syg J J (aaC J J) rfl<|syg J J (aaQ rfl) rfl<|syg J J (abp J J (by omega) (by omega)) rfl<|?_
  refine syg J J (aaC (v:= .bool false) rfl (by rw[bK,gN];exact ahm hbn hfb)) rfl<|sy (abD J J) rfl<|sa J J<|zE<|agW rfl<|zK<|?_
  refine sR<|sm J J<|sn J J<|sf J J<|awd J J J<|sm J J<|sy (abp J J (by omega) (by omega)) rfl<|?_
  refine sc (adM J J (.tl _ _ _ _ _ _ _ _ (.hd ..)) (by rw[ajX,bK,gN];exact hbn) J J ?_)
  rw[bK,gN,amV]
  refine zE<|sR<|sm J J<|sn J J<|sf J J<|awd J J J<|sy (aas J J) rfl<|sn J J<|sf J J<|?_
  refine sc (adG J J J (by repeat (first|exact .hd .. |apply agq.tl)) (nb rfl) J J ?_)
  rw[show(s.c:Int)+1=((s.c+1:Nat):Int) by omega]
  refine zE<|sR<|sm J J<|sn J J<|sf J J<|awd J J J<|sm J J<|sy (aBz (z:=⟨xa,ns.length,xc⟩) hx J J (by omega) (by show(base:Int)<(ns.length:Int);omega)) rfl<|?_
  rw[bK]
  refine sy (ayG (i:=base) hx rfl (by rw[hel];exact hbn) hzi) rfl<|?_
  refine sc (agt rfl ?_)
  intro b5
  refine sc (ahi J J J (by repeat (first|exact .hd .. |apply agq.tl)) rfl (nb rfl) J J ?_)
  refine zE<|sR<|sf J J<|slo J J J<|?_
  refine sc (zC J J (PF.fn0 (avr (hs n (aS h0))) (.cons (hzg.up GL.le) .nil)) rfl ?_)
  rintro _ G6 _ hw
  rw[hl] at hw
  obtain⟨n1,d1,p1,n2,d2,p2,n3,d3,p3,rfl,hw⟩:=azb hw
  refine sm J J<|sx J J J<|sx J J J<|?_
  refine sc (agt rfl ?_)
  intro b6
  refine sc (ahi J J J (by repeat (first|exact .hd .. |apply agq.tl)) rfl (nb rfl) J J ?_)
  refine sa J J<|zE<|aan<|sR<|sm J J<|sy (arj rfl) rfl<|zE<|adc rfl<|?_
  refine sR<|sm J J<|sn J J<|sf J J<|?_
  refine sc (adG J J J (by repeat (first|exact .hd .. |apply agq.tl)) (nb rfl) J J ?_)
  refine zE<|sR<|?_
  refine sc (zC J J (PF.fn0 (akW (b:=false)) (.cons (aa4.2 rfl) .nil)) rfl ?_)
  rintro _ G7 _ hp
  obtain⟨p,rfl⟩:=ajg hp
  refine sa J J<|zE<|aaH<|?_
  exact adf (css:=[_,_]) (.tmp rfl .nil) rfl _ (List.perm_append_comm (l₁:=[_,_]) (l₂:=[_,_])) (.cons_cons _ (.cons_cons _ (mV _))) ⟨p,rfl,hp,rfl⟩
 |node base n l s s2 s3 tx ty h0 hfb hl h1 h2 ih1 ih2=>
  intro G rb sb lo lo2 _ hc
  have hbn:base<ns.length:=(aL.1 h0).1
  have hm1:=h1.mono
  have hm2:=h2.mono
  simp only at hm1
  obtain⟨z,hzi,hz⟩:=hes.get (i:=base) (d:=n.d) (by rw[cV,h0];rfl)
  obtain⟨x1,x2,x3,rfl,hzg⟩:=aEN hz
  refine FnM.intro func127 J J ntmps127 rfl ?_
  intro C _ _
  show St C _ [(0, .pointer (some ⟨rb,0,none⟩)),(1, .int .i64 (base:Int))] [⟨rb,[.slice xa ns.length xc, .slice (some ⟨sb,0,none⟩) ns.length ns.length, .int .i64 s.c, .bool s.b],_,false⟩,⟨sb,afX ns.length s.f,_,false⟩] _ _
  refine sR<|sa J J<|zE<|aan<|aat<|sR<|sm J J<|sy (ab9 J J) rfl<|sm J J<|?_
  refine aci 12 rfl (fun hg=>absurd hg (by omega)) (fun hg=>?_)
  refine syg J J (aaQ rfl) rfl<|syg J J (ab9 J J) rfl<|sy (abD J J) rfl<|sa J J<|zE<|?_
  refine aaE rfl (fun hc=>absurd hc (by omega)) (fun _=>?_)
  refine sR<|sm J J<|sy (acu J J) rfl<|sm J J<|?_
  refine aci 22 rfl (fun hg=>absurd hg (by omega)) (fun hg=>?_)
  refine syg J J (aaQ rfl) rfl<|syg J J (aaQ rfl) rfl<|syg J J (aaX rfl) rfl<|syg J J (aaS rfl) rfl<|syg J J (aaC J J) rfl<|syg J J (aew rfl) rfl<|syg J J (ahY J J) rfl<|sy (abD J J) rfl<|sm J J<|?_
  refine aci 31 rfl (fun hg=>absurd hg (by omega)) (fun hg=>?_)
  refine syg J J (aaQ rfl) rfl<|syg J J (aaX rfl) rfl<|syg J J (aaS rfl) rfl<|syg J J (aaC J J) rfl<|syg J J (aaQ rfl) rfl<|syg J J (abp J J (by omega) (by omega)) rfl<|?_
  refine syg J J (aaC (v:= .bool false) rfl (by rw[bK,gN];exact ahm hbn hfb)) rfl<|sy (abD J J) rfl<|sa J J<|zE<|agW rfl<|zK<|?_
  refine sR<|sm J J<|sn J J<|sf J J<|awd J J J<|sm J J<|sy (abp J J (by omega) (by omega)) rfl<|?_
  refine sc (adM J J (.tl _ _ _ _ _ _ _ _ (.hd ..)) (by rw[ajX,bK,gN];exact hbn) J J ?_)
  rw[bK,gN,amV]
  refine zE<|sR<|sm J J<|sn J J<|sf J J<|awd J J J<|sy (aas J J) rfl<|sn J J<|sf J J<|?_
  refine sc (adG J J J (by repeat (first|exact .hd .. |apply agq.tl)) (nb rfl) J J ?_)
  rw[show(s.c:Int)+1=((s.c+1:Nat):Int) by omega]
  refine zE<|sR<|sm J J<|sn J J<|sf J J<|awd J J J<|sm J J<|sy (aBz (z:=⟨xa,ns.length,xc⟩) hx J J (by omega) (by show(base:Int)<(ns.length:Int);omega)) rfl<|?_
  rw[bK]
  refine sy (ayG (i:=base) hx rfl (by rw[hel];exact hbn) hzi) rfl<|?_
  refine sc (agt rfl ?_)
  intro b5
  refine sc (ahi J J J (by repeat (first|exact .hd .. |apply agq.tl)) rfl (nb rfl) J J ?_)
  refine zE<|sR<|sf J J<|slo J J J<|?_
  refine sc (zC J J (PF.fn0 (avr (hs n (aS h0))) (.cons (hzg.up GL.le) .nil)) rfl ?_)
  rintro _ G6 _ hw
  rw[hl] at hw
  obtain⟨n1,d1,p1,n2,d2,p2,n3,d3,p3,rfl,hw'⟩:=azb hw
  replace hw:=hw' l rfl
  refine sm J J<|sx J J J<|sx J J J<|?_
  refine sc (agt rfl ?_)
  intro b6
  refine sc (ahi J J J (by repeat (first|exact .hd .. |apply agq.tl)) rfl (nb rfl) J J ?_)
  refine sa J J<|zE<|aan<|sR<|sm J J<|sy (arj rfl) rfl<|zE<|agW rfl<|zK<|?_
  refine sR<|sm J J<|sf J J<|awd J J J<|?_
  have hrp:=ih1 (G:=G6) (rb:=rb) (sb:=sb) (lo:=false) (lo2:=false) (by omega)
  refine sc (aiH J J (List.perm_append_comm (l₁:=[_,_]) (l₂:=[_,_])) hrp rfl ?_)
  rintro _ css G7 _ _ ⟨q1,rfl,hp1,rfl⟩
  show St C _ _ [⟨rb,[.slice xa ns.length xc, .slice (some ⟨sb,0,none⟩) ns.length ns.length, .int .i64 s2.c, .bool s2.b],235,false⟩,⟨sb,afX ns.length s2.f,4,false⟩,⟨b6,[.int .i64 n1, .int .i64 d1, .pointer p1, .int .i64 n2, .int .i64 d2, .pointer p2, .int .i64 n3, .int .i64 d3, .pointer p3],108,true⟩,⟨b5,[.bool n.g.na, .slice x1.a x1.n x1.c, .bool n.g.nb, .slice x2.a x2.n x2.c, .bool n.g.nc, .slice x3.a x3.n x3.c, .int .i64 n.l, .int .i64 n.r],182,true⟩] _ _
  refine sa J J<|zE<|aan<|?_
  refine drS [⟨b6,[.int .i64 n1, .int .i64 d1, .pointer p1, .int .i64 n2, .int .i64 d2, .pointer p2, .int .i64 n3, .int .i64 d3, .pointer p3],108,true⟩,⟨b5,[.bool n.g.na, .slice x1.a x1.n x1.c, .bool n.g.nb, .slice x2.a x2.n x2.c, .bool n.g.nc, .slice x3.a x3.n x3.c, .int .i64 n.l, .int .i64 n.r],182,true⟩] (fun _=>false) [(0,true),(1,true),(2,true),(3,true),(4,true),(5,false),(6,false),(7,true)] follows (by kernel_rfl)<|?_
  refine dL J J J J<|dM J J J<|dM J J J<|dF J J J<|dL1 J J J J<|?_
  have hrp:=ih2 (G:=G7) (rb:=rb) (sb:=sb) (lo:=false) (lo2:=false) hc
  refine dc J J (aiH J J (M:=[_,_]) (rest:=[_,_]) (List.Perm.refl _) hrp rfl ?_)
  rintro _ css G8 _ _ ⟨q2,rfl,hp2,rfl⟩
  show St C _ _ [⟨rb,[.slice xa ns.length xc, .slice (some ⟨sb,0,none⟩) ns.length ns.length, .int .i64 s3.c, .bool s3.b],235,false⟩,⟨sb,afX ns.length s3.f,4,false⟩,⟨b6,[.int .i64 n1, .int .i64 d1, .pointer p1, .int .i64 n2, .int .i64 d2, .pointer p2, .int .i64 n3, .int .i64 d3, .pointer p3],108,true⟩,⟨b5,[.bool n.g.na, .slice x1.a x1.n x1.c, .bool n.g.nb, .slice x2.a x2.n x2.c, .bool n.g.nc, .slice x3.a x3.n x3.c, .int .i64 n.l, .int .i64 n.r],182,true⟩] _ _
  refine aBD<|?_
  refine dc J J (zC J J (PF.fn0 (axk (l:=l) (x:=tx) (y:=ty)) (.cons (hw.up GL.le) (.cons (hp1.up GL.le) (.cons hp2 .nil)))) rfl ?_)
  rintro _ G9 _ hp
  obtain⟨p,rfl⟩:=ajg hp
  refine aBD<|dA J J J<|dn<|aaH<|?_
  exact adf (css:=[_,_]) (.tmp rfl .nil) rfl _ (List.Perm.refl _) (.cons_cons _ (.cons_cons _ (mV _))) ⟨p,rfl,hp,rfl⟩
def rs0:RS:=⟨fun _=>false,0,false⟩
def ofD(ns:List RN)(t:Tr)(s:RS):DV:=if s.b=false∧s.c=ns.length then .tp [eU t,vB true] else .tp [.v (.pointer none),vB false]
def eRT(rt:Int)(ns:List RN):DV:= .ag [vI rt, .sl (ns.map RN.d)]
theorem aIs{ns:List RN}{rt:Int}{t:Tr}{s:RS}(hs: ∀n∈ns,n.g.sm)(hn:ns.length≤65536)(h:RR ns rt rs0 t s)(hc:s.c≤1000000):PF GB prog 64 [eRT rt ns] (ofD ns t s):=by
 intro G vs _ hv
 obtain⟨v0,m,rfl,h0,hm⟩:=aae.1 hv
 rw[aaJ] at hm;subst hm
 obtain⟨m,rfl,g⟩:=abX.1 h0
 obtain⟨v1,m,rfl,h1,hm⟩:=aae.1 g
 obtain⟨v2,m,rfl,h2,hm⟩:=aae.1 hm
 rw[aaJ] at hm;subst hm
 obtain⟨s0,x,es,rfl,hsl,hes⟩:=adx.1 h2
 rw[aa4.1 h1]
 have hel:=hes.len
 rw[aK] at hel
 have hlen:=hsl.len
 rw[hel] at hlen
 have hx:aHx x ns G:=by
  refine⟨es,?_,hes⟩
  rcases afy (s:=8) hsl hes (fun d hd=>by obtain⟨n,_,rfl⟩:=bJ.1 hd;exact⟨rfl,rfl⟩) with e|e
  ·exact⟨hsl.len,hsl.cap, .inl e⟩
  ·rw[e] at hsl;exact hsl
 obtain⟨xa,xn,xc⟩:=x
 simp only[] at hlen
 subst hlen
 show Fn _ _ [.agg ⟨[.int .i64 rt, .slice xa ns.length xc]⟩] _ _
 refine Fn.intro func64 J J ntmps64 rfl ?_
 intro C _ _
 refine sR<|?_
 refine sc (auy J J ?_)
 intro b1
 refine sa J J<|sa J J<|zE<|aan<|sR<|sf J J<|awd J J J<|ads J J<|sy (ahc J J) rfl<|zE<|?_
 refine aaE rfl (fun hc=>absurd hc (by omega)) (fun _=>?_)
 refine zK<|aan<|dr (fun _=>false) [(0,true),(1,true),(2,true),(3,true),(4,true),(5,false),(6,true),(7,false),(8,true)] follows (by kernel_rfl)<|dF J J J<|?_
 refine dL1 J J J J<|dF J J J<|dL1 J J J J<|dy rfl (fun _=>aew rfl) J J<|?_
 refine dc J J (ae0 J J (by omega) (by omega) (by omega) (by rfl) rfl ?_)
 intro b2
 rw[bK,aoR]
 refine aBD<|dy rfl (fun _=>ald rfl) J J<|?_
 refine dc J J (auy J J ?_)
 intro b3
 refine aBD<|dA J J J<|dn<|sR<|sm J J<|sf J J<|awd J J J<|?_
 have hrp:=aB5 hx hs (by omega) h (G:=G) (rb:=b3) (sb:=b2) (lo:=true) (lo2:=true) hc
 refine sc (aiH J J (M:=[_,_]) (rest:=[_]) (List.Perm.refl _) hrp rfl ?_)
 rintro _ css G4 _ _ ⟨p,rfl,hp,rfl⟩
 show St C _ _ [⟨b3,[.slice xa ns.length xc, .slice (some ⟨b2,0,none⟩) ns.length ns.length, .int .i64 s.c, .bool s.b],235,true⟩,⟨b2,afX ns.length s.f,4,true⟩,⟨b1,[.int .i64 rt, .slice xa ns.length xc],25,true⟩] _ _
 refine sa J J<|zE<|aan<|aan<|dr (fun _=>false) [(0,true),(1,true),(2,true),(3,true),(4,true),(5,true),(6,true),(7,true),(8,true),(9,true),(10,true),(11,true),(12,true),(13,true)] follows (by kernel_rfl)<|?_
 obtain⟨sf_,sc_,sb_⟩:=s
 cases sb_
 case true=>
  refine dM J J J<|dy rfl (fun _=>aaX rfl) J J<|dF J J J<|dL1 J J J J<|dM J J J<|?_
  refine dys J J J J J J<|dys J J J J J J<|dys J J J J J J<|dys J J J J J J<|dys J J J J J J<|dys J J J J J J<|?_
  refine dys J J J J J J<|dys J J J J J J<|dy rfl (fun _=>ac9 J J) J J<|dn<|adc rfl<|?_
  refine sR<|sa J J<|sa J J<|zE<|aaH<|?_
  refine zD (.tmp rfl (.tmp rfl .nil)) ?_
  rw[ofD,if_neg (fun e=>by cases e.1)]
  exact adS.2 ⟨_,rfl, .cons (aa4.2 rfl) (.cons (aa4.2 rfl) .nil)⟩
 refine dM J J J<|dy rfl (fun _=>aaX rfl) J J<|dF J J J<|dL1 J J J J<|dM J J J<|?_
 refine dyg J J J J (fun _=>aaQ rfl) rfl<|dyg J J J J (fun _=>aaX rfl) rfl<|dyg J J J J (fun _=>aaS rfl) rfl<|dyg J J J J (fun _=>aaC J J) rfl<|?_
 refine dyg J J J J (fun _=>aaS rfl) rfl<|dyg J J J J (fun _=>aaC J J) rfl<|dyg J J J J (fun _=>aew rfl) rfl<|dyg J J J J (fun _=>aia J J) rfl<|?_
 refine dy rfl (fun _=>abD J J) J J<|dn<|?_
 refine aaE rfl (fun hc=>?_) (fun hc=>?_) -- slot 35
 ·refine sR<|sa J J<|sa J J<|zE<|aaH<|?_
  refine zD (.tmp rfl (.tmp rfl .nil)) ?_
  rw[ofD,if_neg (fun e=>hc (by have:=e.2;simp only at this;omega))]
  exact adS.2 ⟨_,rfl, .cons (aa4.2 rfl) (.cons (aa4.2 rfl) .nil)⟩
 refine zK<|sR<|sm J J<|sa J J<|sa J J<|zE<|aaH<|?_
 refine zD (.tmp rfl (.tmp rfl .nil)) ?_
 rw[ofD,if_pos ⟨rfl,by have h9:=hc;simp at h9;show sc_=_;omega⟩]
 exact adS.2 ⟨_,rfl, .cons hp (.cons (aa4.2 rfl) .nil)⟩

def Tr.pre:Tr→List Tr
 | .leaf b=>[.leaf b]
 | .node l x y=> .node l x y::(x.pre++y.pre)
structure Vis (f:FuncId) (c2:List Value) (σ:Type) (step:σ→Tr→σ) (ok:σ→Tr→Prop) (Inv:σ→List Own→Gh→Prop):Prop where
 up: ∀{s B G G'},GLe G G'→Inv s B G→Inv s B G'
 re: ∀{s B G} (fl:Nat→Bool),Inv s B G→Inv s (B.map (relo fl)) G
 go: ∀{s t p B G},ok s t→Inv s B G→Is G (eU t) (.pointer p)→FnO prog f (.pointer p::c2) B G (fun _ B' G'=>Inv (step s t) B' G')
section
variable {P:Program} {C:Ctx} {n:Nat} {fr:Fr} {own:List Own} {G:Gh}
end
def ayZ{σ:Type}(step:σ→Tr→σ)(ok:σ→Tr→Prop):σ→List Tr→Prop
 |_,[]=>True
 |s,t::ts=>ok s t∧ayZ step ok (step s t) ts
structure EX (σ:Type) where
 ts:List Tr
 vs:List Value
 rest:List Value
 b:Nat
 cap:Nat
 lo:Bool
 s:σ
 B:List Own
def tsz(t:Tr):Nat:=2*t.size+1
def stk(ts:List Tr):List Tr:=ts.reverse.flatMap Tr.pre
structure EI (A:Gh) {σ:Type} (step:σ→Tr→σ) (ok:σ→Tr→Prop) (Inv:σ→List Own→Gh→Prop) (N:Nat) (fin:σ) (x:EX σ) (G:Gh):Prop where
 rel:awL (fun v t=> ∃p,v= .pointer p∧Is A (eU t) (.pointer p)) x.vs x.ts
 cap:x.vs.length+x.rest.length=x.cap
 inv:Inv x.s x.B G
 mu:(x.ts.map tsz).sum≤N
 okf:ayZ step ok x.s (stk x.ts)
 fin:(stk x.ts).foldl step x.s=fin
def szI(nbk:Nat)(s:Nat)(B:List Own)(_:Gh):Prop:= ∃lo,B=[⟨nbk,[.int .i64 s],3,lo⟩]
def szS(s:Nat):Tr→Nat
 | .leaf _=>s
 | .node .. =>s+1
def ah5(n:Nat)(f:Nat→Bool):Nat:=((List.range n).filter fun j=>!f j).length
theorem ar1{n k:Nat}{f:Nat→Bool}(hk:k<n)(hf:f k=false):ah5 n (ano f k)+1=ah5 n f:=by
 unfold ah5
 have key: ∀l:List Nat,l.Nodup→((l.filter fun j=>!ano f k j).length+(if k∈l then 1 else 0)=(l.filter fun j=>!f j).length):=fun l=>by
  induction l with
  |nil=>intro _;rfl
  |cons a l ih=>
   intro hn
   obtain⟨h1,h2⟩:=List.nodup_cons.1 hn
   have:=ih h2
   by_cases e:a=k
   ·subst e
    simp only[pU,asv,hf,aU,true_or,if_true] at this⊢
    rw[if_neg h1] at this
    simp at this⊢
    omega
   ·have e': ¬k=a:=fun h=>e h.symm
    simp only[pU,ajx e,aU,e',false_or] at this⊢
    cases f a<;>simp at this⊢ <;>omega
 have:=key (List.range n) List.nodup_range
 rwa [if_pos (kL.2 hk)] at this
def rdF(ns:List RN):Nat→Int→RS→Tr×RS
 |0,_,s=>(.leaf false,s)
 |m+1,rt,s=>
  if rt= -1 then(.leaf false,s) else if rt= -2 then(.leaf true,s) else
  match ns[rt.toNat]? with
  |none=>(.leaf false,⟨s.f,s.c,true⟩)
  |some n=>if rt<0∨s.f rt.toNat=true then(.leaf false,⟨s.f,s.c,true⟩) else
   match n.g.ln with
   |none=>(.leaf false,⟨ano s.f rt.toNat,s.c+1,true⟩)
   |some l=>let a:=rdF ns m n.l ⟨ano s.f rt.toNat,s.c+1,s.b⟩;let b:=rdF ns m n.r a.2;(.node l a.1 b.1,b.2)
theorem aq7{ns:List RN}: ∀{m:Nat} {rt:Int} {s:RS},ah5 ns.length s.f<m→RR ns rt s (rdF ns m rt s).1 (rdF ns m rt s).2∧(rdF ns m rt s).2.c+ah5 ns.length (rdF ns m rt s).2.f=s.c+ah5 ns.length s.f
 |0,_,_,h=>absurd h (Nat.not_lt_zero _)
 |m+1,rt,s,h=>by
  rw[rdF]
  split
  ·rename_i e;subst e;exact⟨.leaf false s,rfl⟩
  rename_i e1
  split
  ·rename_i e;subst e;exact⟨.leaf true s,rfl⟩
  rename_i e2
  split
  ·rename_i hn
   have:=List.getElem?_eq_none_iff.1 hn
   exact⟨.bad rt s e1 e2 (by omega),rfl⟩
  rename_i n hn
  have hlt:=(aL.1 hn).1
  split
  ·rename_i hb
   refine⟨.bad rt s e1 e2 ?_,rfl⟩
   rcases hb with hb|hb
   ·exact .inl hb
   ·by_cases h0:rt<0
    ·exact .inl h0
    ·exact .inr (.inr ⟨rt.toNat,by omega,hlt,hb⟩)
  rename_i hb
  obtain⟨k,rfl⟩: ∃k:Nat,rt=k:=⟨rt.toNat,by omega⟩
  rw[bK] at hn hlt hb⊢
  have hf:s.f k=false:=by
   cases hh:s.f k with
   |false=>rfl
   |true=>exact absurd (Or.inr hh) hb
  have hu:=ar1 hlt hf
  split
  ·rename_i hl;exact⟨.line k n s hn hf hl,by simp only;omega⟩
  rename_i l hl
  have h1:=aq7 (ns:=ns) (m:=m) (rt:=n.l) (s:=⟨ano s.f k,s.c+1,s.b⟩) (by simp only;omega)
  have hc:=h1.1.mono
  simp only at h1 hc
  have h2:=aq7 (ns:=ns) (m:=m) (rt:=n.r) (s:=(rdF ns m n.l ⟨ano s.f k,s.c+1,s.b⟩).2) (by omega)
  exact⟨.node k n l s _ _ _ _ hn hf hl h1.1 h2.1,by have:=h1.2;have:=h2.2;dsimp only;omega⟩
def ofQ(ns:List RN)(rt:Int):Option Tr:=
 let r:=rdF ns (ns.length+1) rt rs0
 if r.2.b=false∧r.2.c=ns.length then some r.1 else none
def ofR:Option Tr→DV
 |some t=> .tp [eU t,vB true]
 |none=> .tp [.v (.pointer none),vB false]
theorem ajd(n:Nat)(f:Nat→Bool):ah5 n f≤n:=by
 unfold ah5
 refine cR (pQ _ _) ?_
 rw[pJ];exact aM _
theorem aGe{ns:List RN}{rt:Int}(hs: ∀n∈ns,n.g.sm)(hn:ns.length≤65536):PF GB prog 64 [eRT rt ns] (ofR (ofQ ns rt)):=by
 have h:=aq7 (ns:=ns) (m:=ns.length+1) (rt:=rt) (s:=rs0) (by have:=ajd ns.length rs0.f;omega)
 have hu:=ajd ns.length rs0.f
 have h0:rs0.c=0:=rfl
 have h2:=aIs (GB:=GB) hs hn h.1 (by have:=h.2;omega)
 unfold ofD at h2
 unfold ofQ
 simp only
 split
 ·rename_i e;rw[if_pos e] at h2;exact h2
 ·rename_i e;rw[if_neg e] at h2;exact h2
end Go.Sx
end
section
namespace Go.Sx
open Go Go.Proofs Go.RowKit Go.Extern.Stop Go.Stop Go.Extern
theorem axn(v:Value)(w:World):(Extern.ReflectliteType.typeOf #[.iface 405 v]).run Tryz.prog w= .ok (.iface 243 (.agg #[.pointer (some ⟨Tryz.prog.globals.size,405,none⟩)])) w:=by kernel_rfl
def aHN:TypeId→Sem Value:=fun t=>do Go.Extern.Rtype.noPackHeld "Comparable" t;pure (.bool (←typeInfo t).comparable)
theorem anu(w:World):((Extern.ReflectliteType.method aHN) #[.agg #[.pointer (some ⟨Tryz.prog.globals.size,405,none⟩)]]).run Tryz.prog w= .ok (.bool true) w:=by kernel_rfl
theorem aCL:(Tryz.prog.info? 405).map (·.comparable)=some true:=by kernel_rfl
theorem aDB:(Tryz.prog.info? 430).map (·.size)=some 1:=by kernel_rfl
theorem agD(n:Nat)(v:Value)(w:World):(Go.method (n+1) 243 v "Comparable").run Tryz.prog w= .ok (330,v) w:=by
 kernel_rfl
theorem azT(a:Addr)(w:World):Calls Tryz.prog 27 #[.iface 405 (.pointer (some a)), .iface 405 (.pointer (some a))] w fun e w'=>e= .returned (.bool true)∧w'=w:=by
 obtain⟨i,hi,hcmp⟩:=Option.map_eq_some_iff.1 aCL
 obtain⟨j,hj,hjs⟩:=Option.map_eq_some_iff.1 aDB
 have h8:= @run_callFunc_extern Tryz.prog 76 _ Extern.ReflectliteType.typeOf Tryz.func76 (by kernel_rfl) (by kernel_rfl) (by kernel_rfl) (by kernel_rfl)
 have h32:= @run_callFunc_extern Tryz.prog 330 _ (Extern.ReflectliteType.method aHN) Tryz.func330 (by kernel_rfl) (by kernel_rfl) (by kernel_rfl) (by kernel_rfl)
 have tT:=axn
 have cT:=anu
 obtain⟨g,hg⟩: ∃g,g=Tryz.prog.globals.size:=⟨_,rfl⟩
 simp only[←hg] at tT cT
 clear hg
 have mR:=agD
 have heq:=run_eql_iface_ptr_same (P:=Tryz.prog) w a Tryz.underlying38 Tryz.underlying405 hi hcmp hj
 go_enter Tryz.func27,Tryz.ntmps27
 go_wp2
 refine wp_loop_rounds 1 ?_
 rw[rounds_succ]
 go_wp2
 go_ret
 exact⟨rfl,rfl⟩
theorem aAD:acP Tryz.prog 27:=⟨_,Tryz.func27,by kernel_rfl,by kernel_rfl⟩
def ay2(a:Addr):DV:= .v (.iface 405 (.pointer (some a)))
theorem aGP{GB:Gh}{a:Addr}:PF GB Tryz.prog 27 [ay2 a,ay2 a] (.v (.bool true)):=by
 intro G vs _ hv
 obtain⟨v1,m,rfl,h1,hm⟩:=aae.1 hv
 obtain⟨v2,m,rfl,h2,hm⟩:=aae.1 hm
 rw[aaJ] at hm;subst hm
 cases aa4.1 h1;cases aa4.1 h2
 exact(Fn.of_calls aAD (azT a)).mono fun v G' _ h=>aa4.2 h
end Go.Sx
end
section
namespace Go.Sx
open Go Go.Proofs Tryz
structure EG (GB:Gh) (ai al ae:Addr):Prop where
 ErrInvalid:GB 2=some [.iface 405 (.pointer (some ai))]
 ErrLimit:GB 4=some [.iface 405 (.pointer (some al))]
structure EGE (GB:Gh) (ai al ae:Addr):Prop extends EG GB ai al ae where
 ErrEmpty:GB 0=some [.iface 405 (.pointer (some ae))]
structure Tr.gd (t:Tr):Prop where
 lb:t.all LB
 ok:t.all LnQ.ok
theorem Tr.compl_all(p:LnQ→Prop): ∀t:Tr,t.all p→t.compl.all p
 | .leaf _,h=>h
 | .node l x y,⟨h0,h1,h2⟩=>⟨h0,x.compl_all p h1,y.compl_all p h2⟩
theorem Tr.compl_depth: ∀t:Tr,t.compl.depth=t.depth
 | .leaf _=>rfl
 | .node l x y=>by simp only[Tr.compl,Tr.depth,x.compl_depth,y.compl_depth]
theorem Tr.chooseQ_all(p:LnQ→Prop)(op:Int)(b:Bool)(t:Tr)(c:aah)(h:t.all p):(t.chooseQ op b c).all p:=by
 have:=t.restrict_all p c h
 unfold chooseQ
 split
 ·split
  ·trivial
  ·exact this
 ·split
  ·trivial
  ·split
   ·exact(t.restrict c).compl_all p this
   ·exact this
theorem Tr.mergeQ_all(p:LnQ→Prop)(op:Int){u:Tr}(hu:u.all p): ∀(t:Tr) (c:aah),t.all p→(t.mergeQ op u c).all p
 | .leaf b,c,_=>u.chooseQ_all p op b c hu
 | .node l x y,c,⟨h0,h1,h2⟩=>by
  rw[Tr.mergeQ]
  split
  ·exact Tr.mergeQ_all p op hu x c h1
  ·split
   ·exact Tr.mergeQ_all p op hu y c h2
   ·rcases Tr.joinQ_cases l (x.mergeQ op u (aaP c l)) (y.mergeQ op u (aaP c l.rev)) with⟨h,_⟩|⟨h,_⟩
    ·rw[h];exact Tr.mergeQ_all p op hu x _ h1
    ·rw[h];exact⟨h0,Tr.mergeQ_all p op hu x _ h1,Tr.mergeQ_all p op hu y _ h2⟩
def aHM(op:Int)(a b:Tr):Option Tr:=if 1024<a.depth+b.depth then none else if 65536<(a.mergeQ op b []).size then none else some (a.mergeQ op b [])
def aIJ(al:Addr):Option Tr→DV
 |some t=> .tp [eU t, .v .nilIface]
 |none=> .tp [.v (.pointer none),ay2 al]
def aHa(op:Int):Tr→List Tr→Option Tr
 |t,[]=>some t
 |t,u::us=>match aHM op t u with
  |none=>none
  |some r=>aHa op r us
theorem apo{t:Tr}(h:t.gd)(c:aah):(t.restrict c).gd:=⟨t.restrict_all LB c h.lb,t.restrict_all LnQ.ok c h.ok⟩
theorem aFN{GB:Gh}{ns:List RN}{rt:Int}{t:Tr}(hs: ∀n∈ns,n.g.sm)(hn:ns.length≤65536)(h:ofQ ns rt=some t):PF GB prog 64 [eRT rt ns] (.tp [eU t,vB true]):=by
 have:=aGe (GB:=GB) (rt:=rt) hs hn;rw[h] at this;exact this
def trZ:DV:= .ag [vI 0, .sl []]
def aJm:Tr ⊕ Addr→DV
 | .inl t=> .tp [eA t, .v .nilIface]
 | .inr e=> .tp [trZ,ay2 e]
def aHS(ai:Addr):Option Tr→Tr ⊕ Addr
 |some t=> .inl t.compl
 |none=> .inr ai
def aHo(al:Addr):Option Tr→Tr ⊕ Addr
 |some t=> .inl t
 |none=> .inr al
def aHn(ai al:Addr)(op:Int):Option Tr→Option Tr→Tr ⊕ Addr
 |some a,some b=>if 1≤op∧op≤4 then aHo al (aHM op a b) else .inr ai
 |_,_=> .inr ai
abbrev TIn:=Int×List RN
def TIn.d(x:TIn):DV:=eRT x.1 x.2
def TIn.q(x:TIn):Option Tr:=ofQ x.2 x.1
def ofP:Option Tr→DV
 |some t=>eU t
 |none=> .v (.pointer none)
def aGa(op:Int)(ts:List TIn):Bool:=decide (1≤op∧op≤4)&&ts.all fun x=>x.q.isSome
def aIP(ai al ae:Addr)(op:Int)(ts:List TIn):Tr ⊕ Addr:=
 if aGa op ts then(match ts.filterMap TIn.q with
  |[]=> .inr ae
  |a::us=>if 1024<a.depth then .inr al else aHo al (aHa op (a.restrict []) us)) else .inr ai
def aJg(ts:List TIn):List DV:=ts.map fun x=>ofP x.q
structure TIn.ok (x:TIn):Prop where
 s: ∀n∈x.2,n.g.sm
 n:x.2.length≤65536
end Go.Sx
end
