/- Part 13 of a proof. -/
import Derived.Test.YtopfgminkdfpkaaGreatDoorMy12
set_option linter.unusedSimpArgs false
set_option maxHeartbeats 2000000
set_option maxRecDepth 100000
set_option linter.unusedVariables false
section
namespace Go.Sx
open Go Go.Proofs Tryz
variable {GB:Gh}
theorem atP{es:List Int}{i:Nat}(h:i<es.length):(es.map vI)[(i:Int).toNat]? =some (vI (es.getD i 0)):=by simp[h]
theorem apS{es:List Int}{i:Nat}(h:i<es.length):orI (es.drop i)=if es.getD i 0≠0 then es.getD i 0 else orI (es.drop (i+1)):=by
 rw[aN h,orI,aK,aZ h];rfl
theorem aF3{es:List Int}(hn:es.length≤1000000):PF GB prog 248 [.sl (es.map vI)] (vI (orI es)):=by
 have hel:(es.map vI).length=es.length:=by simp
 refine fn (fu:=⟨15⟩) func248 J J ntmps248 J J (fun C=>?_)
 refine eqF 7 (.d (vI (es.length:Nat))) rfl (by rw[hel]<;>rfl) ?_
 refine gx rfl<|?_
 refine lp (X:=Nat) (fun i=>[(8, .d (vI (i:Nat)))]) (fun i=>[]) (fun i=>i≤es.length∧orI es=orI (es.drop i)) (fun i=>es.length-i) 0 rfl ⟨bK _,rfl⟩ (fun _=>rfl) (fun i hk=>?_)
 obtain⟨h1,h2⟩:=hk
 refine br J J J (fun hc9=>?_) (fun hc9=>?_)
 ·
  refine ix _ rfl (atP (by omega)) rfl<|?_
  refine br J J J (fun hc14=>?_) (fun hc14=>?_)
  ·
   exact rz rfl (by rw[h2,apS (by omega),if_pos hc14];rfl)
  ·
   exact at_ (i+1) ⟨⟨by omega,by rw[h2,apS (by omega),if_neg hc14]⟩,(by omega)⟩
 ·
  exact rz rfl (by rw[h2,fR (by omega)];rfl)
def lcq(l m:LnQ):Int:=orI [abh l.a m.a,abh l.b m.b,abh l.c m.c]
theorem avP(l m:LnQ):lcq l m=0↔l=m:=by
 unfold lcq orI orI orI orI
 have ha:=aeF (l.a:Rat) m.a
 have hb:=aeF (l.b:Rat) m.b
 have hc:=aeF (l.c:Rat) m.c
 rw[mS] at ha hb hc
 constructor
 ·intro h
  repeat' (split at h<;>try contradiction)
  all_goals exact LnQ.ext' (by omega) (by omega) (by omega)
 ·rintro rfl
  rw[if_neg (by simp[ha.2 rfl]),if_neg (by simp[hb.2 rfl]),if_neg (by simp[hc.2 rfl])]
theorem aCE{l m:LnQ}[hl:LB l][hm:LB m]:PF GB prog 201 [eLn l,eLn m] (vI (lcq l m)):=by
 refine fn func201 J J ntmps201 J J (fun C=>?_)
 refine cl rfl (ajO (p:=(l.a:Rat)) (q:=(m.a:Rat))) rfl<|cl rfl (ajO (p:=(l.b:Rat)) (q:=(m.b:Rat))) rfl<|cl rfl (ajO (p:=(l.c:Rat)) (q:=(m.c:Rat))) rfl<|?_
 refine rf J J<|cl rfl (aF3 (es:=[abh l.a m.a,abh l.b m.b,abh l.c m.c]) (nb rfl)) rfl<|?_
 exact rz J J
theorem au1{l m:LnQ}[hl:LB l][hm:LB m]:PF GB prog 142 [eLn l,eLn m] (vB (decide (l=m))):=by
 refine fn func142 J J ntmps142 J J (fun C=>?_)
 refine cl rfl (aCE (l:=l) (m:=m)) rfl<|?_
 exact rz rfl (by show DV.v (.bool (decide _))= .v (.bool _);congr 2;exact decide_eq_decide.2 (avP l m))
theorem aCB{l:LnQ}[hl:LB l]:PF GB prog 247 [eLn l] (eLn l.rev):=by
 refine fn func247 J J ntmps247 J J (fun C=>?_)
 refine cl rfl (afb (q:=(l.a:Rat))) rfl<|cl rfl (afb (q:=(l.b:Rat))) rfl<|cl rfl (afb (q:=(l.c:Rat))) rfl<|?_
 exact rz rfl (by unfold eLn LnQ.rev;simp only[oZ];rfl)
theorem aBV{l:LnQ}[hl:LB l]:PF GB prog 141 [eLn l] (eL l):=by
 refine fn func141 J J ntmps141 J J (fun C=>?_)
 refine cl rfl (ald (q:=(l.a:Rat))) rfl<|cl rfl (ald (q:=(l.b:Rat))) rfl<|cl rfl (ald (q:=(l.c:Rat))) rfl<|?_
 exact rz J J
theorem ayf{p:PtQ}{i:Nat}[hp:BPt p i](hi:i≤10000000:=by decide):PF GB prog 256 [eZ p] (vI p.half):=by
 refine fn func256 J J ntmps256 J J (fun C=>?_)
 refine cl rfl (acW (q:=p.y) (by omega)) rfl<|?_
 refine cs 10 J J J (fun hg10=>?_) (fun hg10=>?_)
 ·
  exact rz rfl (by unfold PtQ.half;(repeat' split)<;>first|rfl|(exfalso;omega))
 ·
  refine cs 13 J J J (fun hg13=>?_) (fun hg13=>?_)
  ·
   refine cl rfl (acW (q:=p.x) (by omega)) rfl<|?_
   refine br J J J (fun hc7=>?_) (fun hc7=>?_)
   ·
    exact rz rfl (by unfold PtQ.half;(repeat' split)<;>first|rfl|(exfalso;omega))
   ·
    refine cs 23 J J J (fun hg23=>?_) (fun hg23=>?_)
    ·
     exact rz rfl (by unfold PtQ.half;(repeat' split)<;>first|rfl|(exfalso;omega))
    ·
     refine cl rfl (acW (q:=p.x) (by omega)) rfl<|?_
     refine br J J J (fun hc20=>?_) (fun hc20=>?_)
     ·
      exact rz rfl (by unfold PtQ.half;(repeat' split)<;>first|rfl|(exfalso;omega))
     ·
      exact rz rfl (by unfold PtQ.half;(repeat' split)<;>first|rfl|(exfalso;omega))
  ·
   refine cs 23 J J J (fun hg23=>?_) (fun hg23=>?_)
   ·
    exact rz rfl (by unfold PtQ.half;(repeat' split)<;>first|rfl|(exfalso;omega))
   ·
    refine cl rfl (acW (q:=p.x) (by omega)) rfl<|?_
    refine br J J J (fun hc20=>?_) (fun hc20=>?_)
    ·
     exact rz rfl (by unfold PtQ.half;(repeat' split)<;>first|rfl|(exfalso;omega))
    ·
     exact rz rfl (by unfold PtQ.half;(repeat' split)<;>first|rfl|(exfalso;omega))
theorem an2{u v:PtQ}{i j:Nat}[hp:BPt u i][hq:BPt v j](hi:i≤10000000:=by decide)(hj:j≤10000000:=by decide):PF GB prog 209 [eZ u,eZ v] (vI (aaC u v)):=by
 refine fn func209 J J ntmps209 J J (fun C=>?_)
 refine cl rfl (ayf (p:=u) hi) rfl<|cl rfl (ayf (p:=v) hj) rfl<|?_
 refine br J J J (fun hc11=>?_) (fun hc11=>?_)
 ·
  exact rz rfl (by unfold aaC;rw[if_pos hc11];rfl)
 ·
  refine br J J J (fun hc15=>?_) (fun hc15=>?_)
  ·
   exact rz rfl (by unfold aaC;rw[if_neg hc11,if_pos hc15];rfl)
  ·
   refine cl rfl (apt (p:=u) (q:=v) (by omega) (by omega)) rfl<|cl (fu:=⟨0⟩) rfl (acW (q:=u.cross v) (by omega)) rfl<|?_
   have hs:=Int.sign_trichotomy (u.cross v).num
   refine gx rfl<|?_
   exact rz rfl (by unfold aaC;rw[if_neg hc11,if_neg hc15];rfl)
theorem aCR{m:Int}:Nrm (dg m.natAbs)∧(decide (m<0)=true→0<(dg m.natAbs).length):=⟨(aaK _).2.2,fun h=>by
 have:0<m.natAbs:=by have:=of_decide_eq_true h;omega
 exact ahw.2 this⟩
theorem acd{m:Int}{i:Nat}[h:BI m i](hi:i≤1000000000:=by decide):PF GB prog 249 [eI m] (.v (.bool true)):=(amd (neg:=decide (m<0)) (ds:=dg m.natAbs) (aaK _).2.1 (by have:=ago (a:=m.natAbs) hi;omega)).to (by unfold vB;rw[decide_eq_true aCR])
theorem aFI{l:LnQ}(h:l.ok):rgcd (rgcd (l.a:Rat) (l.b:Rat)) (l.c:Rat)=((1:Int):Rat):=by
 rw[agN,agN]
 have:=h.2
 simp only[jJ];rw[this];rfl
instance BQ.rgcd (p q:Rat) (i j:Nat) [h:BQ p i] [k:BQ q j]:BQ (rgcd p q) (i+j+(i+j)):=by
 unfold Sx.rgcd
 refine aeC (iY (abN p) (abN q)) ?_ ?_
 ·rw[jJ]
  have h1:=abj h.hn k.hd
  have h2:=abj k.hn h.hd
  rw[jQ j i] at h2
  exact aoc h1 h2
 ·have h1:=abj h.hd k.hd
  have:2^(i+j)≤2^(i+j+(i+j)):=bJ (by decide) (by omega)
  omega
theorem aDp{l:LnQ}[hl:LB l](ho:l.ok):PF GB prog 204 [eL l] (.tp [eLn l,vB true]):=by
 refine fn func204 J J ntmps204 J J (fun C=>?_)
 refine cl (fu:=⟨0⟩) rfl (acd (m:=l.a)) rfl<|knF J J J<|cl (fu:=⟨0⟩) rfl (acd (m:=l.b)) rfl<|knF J J J<|cl (fu:=⟨0⟩) rfl (acd (m:=l.c)) rfl<|?_
 refine knF J J J<|cl rfl (aeL (m:=l.a)) rfl<|cl rfl (aeL (m:=l.b)) rfl<|cl rfl (aeL (m:=l.c)) rfl<|cl (fu:=⟨0⟩) rfl (akh (q:=(l.a:Rat))) rfl<|?_
 refine csS (fu2:=⟨4⟩) J J J J (fun hg35=>?_) (fun hg35=>?_)
 ·
  have ha:l.a=0:=cY.1 hg35
  refine cl (fu:=⟨1⟩) rfl (akh (q:=(l.b:Rat))) rfl<|knF rfl (by first|rfl|(show some (decide _)=some false;rw[decide_eq_false (fun e=>ho.1 ⟨ha,cY.1 e⟩)])) rfl<|?_
  refine cl rfl (agR (p:=(l.a:Rat)) (q:=(l.b:Rat))) rfl<|cl rfl (agR (p:=rgcd l.a l.b) (q:=(l.c:Rat))) rfl<|cl rfl (ajS (m:=1) (by decide)) rfl<|?_
  refine cl (fu:=⟨0⟩) rfl (aij (p:=rgcd (rgcd l.a l.b) l.c) (q:=((1:Int):Rat))) rfl<|knF rfl (by show some (!decide _)=some false;rw[aFI ho,decide_eq_true rfl];rfl) rfl<|?_
  exact rz J J
 ·
  refine knF rfl (by first|rfl|(show some (decide _)=some false;rw[decide_eq_false (fun e=>ho.1 ⟨ha,cY.1 e⟩)])) rfl<|cl rfl (agR (p:=(l.a:Rat)) (q:=(l.b:Rat))) rfl<|?_
  refine cl rfl (agR (p:=rgcd l.a l.b) (q:=(l.c:Rat))) rfl<|cl rfl (ajS (m:=1) (by decide)) rfl<|cl (fu:=⟨0⟩) rfl (aij (p:=rgcd (rgcd l.a l.b) l.c) (q:=((1:Int):Rat))) rfl<|?_
  refine knF rfl (by show some (!decide _)=some false;rw[aFI ho,decide_eq_true rfl];rfl) rfl<|?_
  exact rz J J
def eFr(f:FrQ):DV:= .ag [vI (fn_ (f.l.a:Rat)),vI (fd_ (f.l.a:Rat)),fp_ (f.l.a:Rat),vI (fn_ (f.l.b:Rat)),vI (fd_ (f.l.b:Rat)),fp_ (f.l.b:Rat),vI (fn_ (f.l.c:Rat)),vI (fd_ (f.l.c:Rat)),fp_ (f.l.c:Rat),vI (fn_ f.v.lo),vI (fd_ f.v.lo),fp_ f.v.lo,vI (fn_ f.v.hi),vI (fd_ f.v.hi),fp_ f.v.hi, .v (.bool f.v.nl), .v (.bool f.v.nh)]
structure avK (v:IvQ):Prop where
 z:IvZ v
 lo:BQ v.lo 1200
 hi:BQ v.hi 1200
structure aGs (s:FrQ):Prop where
 lb:LB s.l
 ok:s.l.ok
 v:avK s.v
abbrev acE (c:aan):Prop:= ∀s∈c,aGs s
theorem agd{α:Type}(f:α→DV)(l:List α):(l.map f).length=l.length:=by simp
theorem avK.all:avK IvQ.all:=⟨⟨fun _=>rfl,fun _=>rfl⟩,BQ.z1.mono (by decide),BQ.z1.mono (by decide)⟩
theorem avK.cut{l m:LnQ}{v:IvQ}[LB l][LB m](hn:l.Ne)(h:avK v):avK (l.cutV v m):=by
 by_cases h0:crossI l m=0
 ·rw[(agS (v:=v) h0).1];exact h
 ·obtain⟨u1,_,u3,u4,u5⟩:=ajq (v:=v) hn h.z h.lo h.hi h0
  rw[u1];exact⟨u3,u4,u5⟩
def ivD(o:Option IvQ):IvQ:=o.getD ⟨0,0,false,false⟩
theorem aC4(G:Gh)(y:Value)(k:Is G (.tp [.ag [vI 0,vI 0, .v (.pointer none),vI 0,vI 0, .v (.pointer none), .v (.bool false), .v (.bool false)], .v (.bool false)]) y):Is G (.tp [eW (ivD none),vB false]) y:=by
 obtain⟨m,rfl,g⟩:=adL.1 k
 exact adL.2 ⟨m,rfl,aDa (fun y hy=>by
  obtain⟨l,rfl,g⟩:=abF.1 hy
  exact abF.2 ⟨l,rfl,awK (aum [vI 0,vI 0, .v (.pointer none)] g)⟩) g⟩
theorem aaB{α:Type}{f:α→DV}{l:List α}{i:Nat}{s:α}(h:l[i]? =some s):(l.map f)[(i:Int).toNat]? =some (f s):=by simp[h]
theorem aiZ{α:Type}{l:List α}{k:Nat}{s:α}(h:l[k]? =some s):l.drop k=s::l.drop (k+1):=by
 obtain⟨h1,h2⟩:=bQ.1 h
 rw[aN h1,h2]
theorem apx{l:LnQ}{c:aan}{v:IvQ}{k:Nat}{s:FrQ}(h:c[k]? =some s):agP l (c.drop k) v=if l.cutB v s.l then agP l (c.drop (k+1)) (l.cutV v s.l) else none:=by
 rw[aiZ h];rfl
theorem aiH{l:LnQ}{c:aan}{k:Nat}{s:FrQ}(h:c[k]? =some s):aez l (c.drop k)=if aet l s≠0 then aet l s else if s.l=l then 1 else aez l (c.drop (k+1)):=by
 rw[aiZ h];rfl
instance BQ.sample (v:IvQ) [h1:BQ v.lo 1200] [h2:BQ v.hi 1200]:BQ v.sample 2500:=by
 unfold IvQ.sample
 split
 ·exact BQ.z1.mono (by decide)
 ·split
  ·exact BQ.mono (inferInstance:BQ (v.hi-((1:Int):Rat)) _) (by decide)
  ·split
   ·exact BQ.mono (inferInstance:BQ (v.lo+((1:Int):Rat)) _) (by decide)
   ·exact BQ.mono (inferInstance:BQ ((v.lo+v.hi)*mkRat 1 2) _) (by decide)
theorem axq{c:aan}{l:LnQ}[hl:LB l](hlo:l.ok)(hc:acE c)(hn:c.length≤1000000):PF GB prog 279 [.sl (c.map eFr),eLn l] (.tp [eW (ivD (afS c l)),vB (afS c l).isSome]):=by
 have hm:=agd eFr c
 refine fn func279 J J ntmps279 J J (fun C=>?_)
 refine cl (fu:=⟨10⟩) rfl aD1 rfl<|?_
 refine eqF 12 (.d (vI (c.length:Nat))) rfl (by rw[agd]<;>rfl) ?_
 refine gx rfl<|?_
 refine lp (X:=IvQ×Nat) (fun⟨v,k⟩=>[(13, .d (vI (k:Nat))),(6, .ov 6 0)]) (fun⟨v,k⟩=>[(6,some (.o 185 [.d (vI (fn_ v.lo)), .d (vI (fd_ v.lo)), .d (fp_ v.lo), .d (vI (fn_ v.hi)), .d (vI (fd_ v.hi)), .d (fp_ v.hi), .d (.v (.bool v.nl)), .d (.v (.bool v.nh))] true))]) (fun⟨v,k⟩=>k≤c.length∧avK v∧agP l (c.drop k) v=afS c l) (fun⟨v,k⟩=>c.length-k) (IvQ.all,0) rfl ⟨bK _, .all,rfl⟩ (fun _=>rfl) (fun⟨v,k⟩ hk=>?_)
 dsimp only at hk⊢
 obtain⟨h1,h2,h3⟩:=hk
 haveI:=h2.lo
 haveI:=h2.hi
 refine br J J J (fun hc14=>?_) (fun hc14=>?_)
 ·
  obtain⟨s,hs0⟩: ∃s,c[k]? =some s:=⟨_,aZ (by omega)⟩
  have hs:=hc s (bX hs0)
  haveI:=hs.lb
  refine ix _ rfl (aaB hs0) rfl<|cl (fu:=⟨0⟩) rfl (aBe (l:=l) (m:=s.l) (v:=v)) rfl<|?_
  generalize hw:l.cutV v s.l=w
  generalize hb:l.cutB v s.l=b
  refine gx rfl<|?_
  refine bb J J J (fun hc26=>?_) (fun hc26=>?_)
  ·
   exact rzI rfl (by rw[←h3,apx hs0,hb,if_neg (by simpa using hc26)];exact aC4)
  ·
   exact at_ (w,k+1) (by dsimp only;exact⟨⟨by omega,hw▸h2.cut hlo.1,by rw[←h3,apx hs0,hb,hw,if_pos (by simpa using hc26)]⟩,(by omega)⟩)
 ·
  exact rz rfl (by rw[←h3,fR (by omega)];rfl)
theorem azC{c:aan}{l:LnQ}[hl:LB l](hlo:l.ok)(hc:acE c)(hn:c.length≤1000000):PF GB prog 280 [.sl (c.map eFr),eLn l] (vI (aiv c l)):=by
 have hm:=agd eFr c
 refine fn func280 J J ntmps280 J J (fun C=>?_)
 refine cl rfl (axq (c:=c) (l:=l) hlo hc hn) rfl<|?_
 refine bb (fu2:=⟨7⟩) J J J (fun hc16=>?_) (fun hc16=>?_)
 ·
  exact rz rfl (by unfold aiv;rw[if_pos hc16];rfl)
 ·
  have hp:aiv c l=aez l c:=by unfold aiv;rw[if_neg (by simp[hc16])]
  refine eqF 18 (.d (vI (c.length:Nat))) rfl (by rw[agd]<;>rfl) ?_
  refine gx rfl<|?_
  refine lp (X:=Nat) (fun k=>[(19, .d (vI (k:Nat)))]) (fun k=>[]) (fun k=>k≤c.length∧aez l (c.drop k)=aez l c) (fun k=>c.length-k) 0 rfl ⟨bK _,rfl⟩ (fun _=>rfl) (fun k hk=>?_)
  obtain⟨h1,h2⟩:=hk
  refine br J J J (fun hc20=>?_) (fun hc20=>?_)
  ·
   obtain⟨s,hs0⟩: ∃s,c[k]? =some s:=⟨_,aZ (by omega)⟩
   have hs:=hc s (bX hs0)
   haveI:=hs.lb
   haveI:=hs.v.lo
   haveI:=hs.v.hi
   haveI:=BQ.sample s.v
   refine ix _ rfl (aaB hs0) rfl<|cl (fu:=⟨0⟩) rfl (aww (v:=s.v)) rfl<|?_
   generalize ht:s.v.sample=t at*
   refine gx rfl<|cl rfl (aD4 (l:=s.l) (t:=t)) rfl<|cl rfl (aiJ (l:=l) (p:=s.l.at t)) rfl<|?_
   refine br J J J (fun hc32=>?_) (fun hc32=>?_)
   ·
    have hsd:aet l s=(l.value (s.l.at t)).num.sign:=by unfold aet;rw[ht]
    exact rz rfl (by rw[hp,←h2,aiH hs0,hsd,if_pos hc32];rfl)
   ·
    refine cl rfl (au1 (l:=s.l) (m:=l)) rfl<|?_
    refine bd J J J (fun hc37=>?_) (fun hc37=>?_)
    ·
     have hsd:aet l s=(l.value (s.l.at t)).num.sign:=by unfold aet;rw[ht]
     exact rz rfl (by rw[hp,←h2,aiH hs0,hsd,if_neg hc32,if_pos hc37];rfl)
    ·
     have hsd:aet l s=(l.value (s.l.at t)).num.sign:=by unfold aet;rw[ht]
     exact at_ (k+1) ⟨⟨by omega,by rw[←h2,aiH hs0,hsd,if_neg hc32,if_neg hc37]⟩,(by omega)⟩
  ·
   exact rz rfl (by rw[hp,←h2,fR (by omega)];rfl)
theorem am2{vs rest:List Value}(h: ∀v∈vs,(aaf v).length=17){i:Nat}(hi:i≤vs.length):aaZ (aag vs++rest) (i*17) ((vs.length-i)*17)=some (aag (vs.drop i)):=by
 have hl:=aao vs h
 have hd:(aag (vs.drop i)).length=(vs.length-i)*17:=by
  rw[aao (s:=17) _ (fun v hv=>h v (gK hv)),gT]
 rw[abL _ _ _ (by simp only[aV];omega)]
 congr 1
 rw[iU (by omega),afQ vs i h hi,dV (by omega),aT (by omega)]
theorem aqI{vs rest vcs:List Value}(h: ∀v∈vs,(aaf v).length=17)(hv:vcs.length=17){i:Nat}(hi:i<vs.length)(hr:17≤rest.length):
  ovw (ovw (aag vs++rest) ((i+1)*17) (aag (vs.drop i))) (i*17) vcs=aag (vs.take i)++vcs++aag (vs.drop i)++rest.drop 17:=by
 have hl:=aao vs h
 have hd:(aag (vs.drop i)).length=(vs.length-i)*17:=by
  rw[aao (s:=17) _ (fun v hv=>h v (gK hv)),gT]
 have ht:(aag (vs.take i)).length=i*17:=by
  rw[aao (s:=17) _ (fun v hv=>h v (cM hv)),cK,fU (by omega)]
 rw[acr (aag (vs.drop i)) (aag vs++rest) _ (by rw[aV];omega)]
 rw[acr vcs _ _ (by simp only[aV,cK,gT];omega)]
 have e1:(aag vs++rest).drop ((i+1)*17+(aag (vs.drop i)).length)=rest.drop 17:=by
  rw[hd,show(i+1)*17+(vs.length-i)*17=(aag vs).length+17 by omega,lL,jW (by omega),iR]
  congr 1
  omega
 have e2:((aag vs++rest).take ((i+1)*17)++aag (vs.drop i)++rest.drop 17).take (i*17)=aag (vs.take i):=by
  rw[cR,dV (by simp only[cK,aV];omega),List.take_take,fU (by omega),dV (by omega),afw vs i h (by omega)]
 have e3:((aag vs++rest).take ((i+1)*17)++aag (vs.drop i)++rest.drop 17).drop (i*17+vcs.length)=aag (vs.drop i)++rest.drop 17:=by
  rw[hv,cR,show i*17+17=((aag vs++rest).take ((i+1)*17)).length by simp only[cK,aV];omega,List.drop_left]
 rw[e1,e2,e3]
 simp[cR]
theorem aqL{vs rest vcs:List Value}(h: ∀v∈vs,(aaf v).length=17)(hv:vcs.length=17)(hr:17≤rest.length):ovw (aag vs++rest) (vs.length*17) vcs=aag vs++vcs++rest.drop 17:=by
 have hl:=aao vs h
 rw[acr _ _ _ (by simp only[aV];omega),hv,←hl,List.take_left,lL]
 simp
theorem alx{G:Gh}{b bv cap i c2:Nat}{vs rest vcs r2:List Value}{lo lo2:Bool}(hvs: ∀v∈vs,(aaf v).length=17)(hfl: ∀v∈vs,∀c∈aaf v,flat c=true)(hv:vcs.length=17)(hvf: ∀c∈vcs,flat c=true)
  (hcap:vs.length*17+rest.length=cap*17)(hroom:vs.length+1≤cap)(hi:i≤vs.length)(hb:vs.length≤1125899906842624):
  FnM prog 284 [.slice (some ⟨b,0,none⟩) vs.length cap, .int .i64 i, .slice (some ⟨bv,0,none⟩) 1 c2] [⟨b,aag vs++rest,187,lo⟩,⟨bv,vcs++r2,187,lo2⟩] G
   (fun u css _=>u= .slice (some ⟨b,0,none⟩) (vs.length+1) cap∧css=[aag (vs.take i)++vcs++aag (vs.drop i)++rest.drop 17,vcs++r2]):=by
 have hL:(aag vs++rest).length=cap*17:=by rw[aV,aao vs hvs];exact hcap
 have hr:17≤rest.length:=by omega
 have hD:(aag (vs.drop i)).length=(vs.length-i)*17:=by
  rw[aao (s:=17) _ (fun v hv=>hvs v (gK hv)),gT]
 have hDf: ∀c∈aag (vs.drop i),flat c=true:=fun c hc=>by
  obtain⟨l,hl,hcl⟩:=List.mem_flatten.1 hc
  obtain⟨v,hv,rfl⟩:=bL.1 hl
  exact hfl v (gK hv) c hcl
 have hvt:aaZ (vcs++r2) 0 (1*17)=some vcs:=by rw[abL _ _ _ (by rw[aV];omega),hJ,dV (by omega),aT (by omega)]
 refine FnM.intro func284 J J ntmps284 rfl ?_
 intro C _ _
 show St C _ _ [⟨b,aag vs++rest,187,false⟩,⟨bv,vcs++r2,187,false⟩] _ _
 refine avF (fun hne=>?_)
 simp only[] at hne
 refine sR<|sa J J<|zE<|sR<|sm J J<|sm J J<|sy (aeT J J (by omega) (by omega)) rfl<|zE<|sR<|?_
 refine sm J J<|ac7 J J<|sa J J<|zE<|aaj<|sR<|sm J J<|sy (ab6 J J) rfl<|zE<|adp rfl<|?_
 refine zK<|sR<|sm J J<|ac7 J J<|sa J J<|zE<|aaj<|sR<|sm J J<|sm J J<|sy (ab6 J J) rfl<|zE<|?_
 refine aaL rfl (fun hc=>?_) (fun hc=>?_) -- slot 22
 ·have hin:i=vs.length:=by omega
  subst hin
  refine sR<|sm J J<|sm J J<|?_
  refine sc (af2 (s:=17) (m:=1) (ys:=vcs) J J (.hd ..) hL (agh inferInstance hvt) (by omega) hvf hroom rfl ?_)
  refine sa J J<|zE<|aaI<|?_
  refine ac8 (css:=[ovw (aag vs++rest) (vs.length*17) vcs,vcs++r2]) (.tmp rfl .nil) rfl _ (List.Perm.refl _) (List.Sublist.refl _) ⟨rfl,?_⟩
  rw[aqL hvs hv hr,fK,fZ]
  simp[aag]
 have hin:i<vs.length:=by omega
 have hn1:((vs.length:Int)+((1:Nat):Int)).toNat=vs.length+1:=by omega
 have ht1:((i:Int)+((1:Nat):Int)).toNat=i+1:=by omega
 refine zK<|aaj<|sR<|sm J J<|sm J J<|sy (aaq J J) rfl<|sm J J<|?_
 refine sy (aBN rfl) rfl<|sy (af4 J J) rfl<|zE<|?_
 refine aaL rfl (fun hc2=>?_) (fun hc2=>?_) -- slot 31
 ·exact absurd hc2 (by omega)
 refine zK<|sR<|sm J J<|sm J J<|sm J J<|sy (aaq J J) rfl<|sy (acz J J (by omega) (by omega)) rfl<|?_
 rw[hn1]
 refine sa J J<|zE<|aaj<|sR<|sm J J<|sm J J<|sm J J<|sm J J<|sy (aaq J J) rfl<|sy (adW J J (by omega) (by omega) (by omega)) rfl<|?_
 refine sy (aoe (tS:=105) (tR:=4) func305 (by kernel_rfl) (by kernel_rfl) (by kernel_rfl) (by kernel_rfl) J J (Ne.symm hne) (fun h=>by rw[h] at hL;simp at hL;omega)) rfl<|?_
 refine sy (ahO rfl) rfl<|zE<|abX rfl<|?_
 refine aaj<|dr0 (b:=b) (fun _=>false) [(0,true),(1,true),(2,true),(3,true),(4,true),(5,true),(6,true),(7,true),(8,false)] follows (.hd ..) (by kernel_rfl)<|dM J J J<|?_
 refine dM J J J<|dM J J J<|dy rfl (fun _=>aaq J J (by omega) (by omega)) J J<|dy rfl (fun _=>adW J J (by omega) (by omega) (by omega)) J J<|?_
 refine dM J J J<|dM J J J<|dy rfl (fun _=>adW J J (by omega) (by omega) (by omega)) J J<|?_
 rw[ht1,aL,dJ,dJ]
 refine dc J J (atZ (s:=17) (m:=vs.length-i) (ys:=aag (vs.drop i)) J J (by show min _ _=_;omega) (agh inferInstance (am2 hvs hi)) hDf (by rw[hD,hL];omega) (.hd ..) rfl ?_)
 refine anN<|dn<|sR<|sm J J<|sm J J<|sy (adW J J (by omega) (by omega) (by omega)) rfl<|sm J J<|?_
 rw[aL,dJ]
 refine sc (atZ (s:=17) (m:=1) (ys:=vcs) J J (by show min _ _=_;omega) (agh inferInstance hvt) hvf (by rw[ajF,hL,hv];omega) (.hd ..) rfl ?_)
 refine zE<|sR<|sm J J<|sa J J<|zE<|aaI<|?_
 refine ac8 (css:=[ovw (ovw (aag vs++rest) ((i+1)*17) (aag (vs.drop i))) (i*17) vcs,vcs++r2]) (.tmp rfl .nil) rfl _ (List.Perm.refl _) (List.Sublist.refl _) ⟨rfl,?_⟩
 rw[aqI hvs hv hin hr]
theorem FnM.toO{P:Program}{f:FuncId}{vs:List Value}{M:List Own}{G:Gh}{K:Value→List (List Value)→Gh→Prop}{K':Value→List Own→Gh→Prop}(h:FnM P f vs M G K)(hk: ∀v css G',GLe G G'→css.length=M.length→K v css G'→ ∃o,o.Sublist (ae5 (asB M) css)∧K' v o G'):FnO P f vs M G K':=
 ⟨h.able,fun w hw=>(h.run w hw).mono fun _ _ ⟨v,css,G',he,hl,hh,hK⟩=>let⟨o,h1,h2⟩:=hk v css G' hh.gle hl hK;⟨v,o,G',he,hh.drop h1,h2⟩⟩
theorem aDh(c:aan):adx 17 (c.map eFr):=fun d hd=>by
 obtain⟨f,_,rfl⟩:=bL.1 hd;exact⟨rfl,rfl⟩
theorem aqx{G:Gh}{s:Nat}{ds:List DV}{vs:List Value}(hk:adx s ds)(h:IsLs G ds vs): ∀v∈vs,∀c∈aaf v,flat c=true:=fun v hv=>by
 obtain⟨d,hd,h3⟩:=h.all v hv
 exact(h3.cells (hk d hd).1).2
theorem avh{c:aan}{x:FrQ}{i cap:Nat}(hi:i≤c.length)(hc:c.length+1≤cap)(hn:c.length≤1000000):PI GB prog 284 (i:Nat) 17 187 187 (c.map eFr) (eFr x) cap ((c.take i++x::c.drop i).map eFr):=by
 intro G w w2 B B2 _ hB hcap hB2
 obtain⟨vs,q1,q2,q3,_⟩:=hB
 obtain⟨us,u1,u2,u3,_⟩:=hB2
 dsimp only at q1 q2 q3 u1 u2 u3
 have hl:=q2.len
 rw[aJ] at hl
 obtain⟨v,m,rfl,hv,hm⟩:=aab.1 u2
 cases aaG.1 hm
 rcases q1 with⟨_,e,_⟩|⟨b,rest,lo,e,rfl,h5,h6,h7⟩
 ·rw[e] at hcap;simp at hcap;omega
 rcases u1 with⟨h,_⟩|⟨bv,r2,lo2,e2,rfl,h8,h9,h10⟩
 ·cases h
 have hx:(aaf v).length=17:=u3 v aQ
 have hxf:=aqx (s:=17) (ds:=[eFr x]) (fun d hd=>by rw[aS.1 hd];exact⟨rfl,rfl⟩) u2 v aQ
 have key:=alx (G:=G) (b:=b) (bv:=bv) (cap:=w.c) (i:=i) (c2:=w2.c) (vs:=vs) (rest:=rest) (vcs:=aaf v) (r2:=r2) (lo:=lo) (lo2:=lo2) q3 (aqx (aDh c) q2) hx hxf (by rw[←h5];exact h6) (by omega) (by omega) (by omega)
 rw[e,e2]
 rw[adJ]
 refine key.toO fun u css G' hg hl2 ⟨k1,k2⟩=>?_
 subst k1 k2
 have hall: ∀u∈vs.take i++v::vs.drop i,(aaf u).length=17:=fun u hu=>by
  rcases bV.1 hu with hu|hu
  ·exact q3 u (cM hu)
  ·rcases aU.1 hu with rfl|hu
   ·exact hx
   ·exact q3 u (gK hu)
 have hlen:(vs.take i++v::vs.drop i).length=vs.length+1:=by
  rw[aV,bZ,cK,gT];omega
 refine⟨[⟨b,aag (vs.take i)++aaf v++aag (vs.drop i)++rest.drop 17,187,false⟩], .cons_cons _ (kL _),⟨some ⟨b,0,none⟩,vs.length+1,w.c⟩,rfl,vs.take i++v::vs.drop i, .inr ⟨b,rest.drop 17,false,by rw[hlen],?_,aao _ hall,?_,?_⟩,?_,hall,fun h=>by cases h⟩
 ·rw[abd];simp[aag]
 ·rw[aao _ hall,hlen,gT]
  rw[h5] at h6
  have:=bY 17 (show vs.length+1≤w.c by omega)
  simp only[cW] at this⊢;omega
 ·rw[hlen];show vs.length+1≤w.c;omega
 ·rw[bU,bW,gV,iM]
  exact((q2.take i).up hg).app (.cons (hv.up hg) ((q2.drop i).up hg))
theorem arv{s:FrQ}{l:LnQ}[hs:LB s.l][hl:LB l]:PF GB prog 283 [eFr s,eLn l] (vI (aaC s.l.dir l.dir)):=by
 refine fn func283 J J ntmps283 J J (fun C=>?_)
 refine cl rfl (anL (l:=s.l)) rfl<|cl rfl (anL (l:=l)) rfl<|cl rfl (an2 (u:=s.l.dir) (v:=l.dir)) rfl<|?_
 exact rz J J
def bsB(c:aan)(l:LnQ)(i:Nat):Bool:=match c[i]? with
 |some s=>decide (aaC s.l.dir l.dir=0)
 |none=>false
theorem awa(i j:Nat):((i:Int)+(j:Int)).fdiv (2^min (1:Int).toNat IntKind.u64.bits)=((i+j)/2:Nat):=by
 rw[show(2:Int)^min (1:Int).toNat IntKind.u64.bits=((2:Nat):Int) from rfl,fS _ (by decide)];omega
theorem aAF{c:aan}{l:LnQ}{k:Nat}{s:FrQ}(h:c[k]? =some s):agz c l k=decide (aaC s.l.dir l.dir<0):=by unfold agz;rw[h]
theorem aE5{c:aan}{l:LnQ}{k:Nat}{s:FrQ}(h:c[k]? =some s):bsB c l k=decide (aaC s.l.dir l.dir=0):=by unfold bsB;rw[h]
theorem aDO{c:aan}{l:LnQ}{k:Nat}(h: ¬k<c.length):bsB c l k=false:=by unfold bsB;rw[cS (by omega)]
theorem aED{p:Nat→Bool}{i j:Nat}(h:i<j)(hp:p ((i+j)/2)=true):bsq p i j=bsq p ((i+j)/2+1) j:=by rw[bsq,dif_pos h,if_pos hp]
theorem aEj{p:Nat→Bool}{i j:Nat}(h:i<j)(hp: ¬p ((i+j)/2)=true):bsq p i j=bsq p i ((i+j)/2):=by rw[bsq,dif_pos h,if_neg hp]
theorem aCl{p:Nat→Bool}{i j:Nat}(h: ¬i<j):bsq p i j=i:=by rw[bsq,dif_neg h]
theorem aEd{c:aan}{l:LnQ}[hl:LB l](hc:acE c)(hn:c.length≤1000000):PF GB prog 282 [.sl (c.map eFr),eLn l, .v (.func (.func 283) #[] #[])] (.tp [vI (bsq (agz c l) 0 c.length:Nat),vB (bsB c l (bsq (agz c l) 0 c.length))]):=by
 have hm:=agd eFr c
 refine fn (fu:=⟨11⟩) func282 J J ntmps282 J J (fun C=>?_)
 refine eqF 13 (.d (vI (c.length:Nat))) rfl (by rw[hm]<;>rfl) ?_
 refine gx rfl<|?_
 refine lp (X:=Nat×Nat) (fun⟨i,j⟩=>[(9, .d (vI (i:Nat))),(10, .d (vI (j:Nat)))]) (fun⟨i,j⟩=>[]) (fun⟨i,j⟩=>i≤j∧j≤c.length∧bsq (agz c l) i j=bsq (agz c l) 0 c.length) (fun⟨i,j⟩=>j-i) (0,c.length) rfl ⟨bK _,aM _,rfl⟩ (fun _=>rfl) (fun⟨i,j⟩ hk=>?_)
 dsimp only at hk⊢
 obtain⟨h1,h2,h3⟩:=hk
 refine br (fu1:=⟨10⟩) (fu2:=⟨11⟩) J J J (fun hc17=>?_) (fun hc17=>?_)
 ·
  obtain⟨s,hs0⟩: ∃s,c[(i+j)/2]? =some s:=⟨_,aZ (by omega)⟩
  haveI:=(hc s (bX hs0)).lb
  have hang:=aAF (l:=l) hs0
  refine eqF 22 (.d (.v (.int .u64 ((i+j)/2:Nat)))) rfl (by rw[awa]) ?_
  refine gx rfl<|ix _ rfl (aaB hs0) rfl<|cl rfl (arv (s:=s) (l:=l)) rfl<|?_
  refine br J J J (fun hc31=>?_) (fun hc31=>?_)
  ·
   exact at_ ((i+j)/2+1,j) (by dsimp only;exact⟨⟨by omega,h2,by rw[←h3,aED (i:=i) (j:=j) (by omega) (by rw[hang];exact decide_eq_true hc31)]⟩,(by omega)⟩)
  ·
   exact at_ (i,(i+j)/2) (by dsimp only;exact⟨⟨by omega,by omega,by rw[←h3,aEj (i:=i) (j:=j) (by omega) (by rw[hang,decide_eq_false hc31];exact Bool.false_ne_true)]⟩,(by omega)⟩)
 ·
  refine csS (v2:=fun hg39=>by simp only[aai];kernel_rfl) J J J J (fun hg39=>?_) (fun hg39=>?_)
  ·
   have he:=aCl (p:=agz c l) (i:=i) (j:=j) (by omega)
   obtain⟨s,hs0⟩: ∃s,c[i]? =some s:=⟨_,aZ (by omega)⟩
   haveI:=(hc s (bX hs0)).lb
   refine ix _ rfl (aaB hs0) rfl<|cl rfl (arv (s:=s) (l:=l)) rfl<|?_
   exact rz rfl (by rw[←h3,he,aE5 hs0];rfl)
  ·
   have he:=aCl (p:=agz c l) (i:=i) (j:=j) (by omega)
   exact rz rfl (by rw[←h3,he,aDO (by omega)];rfl)
theorem auM{l:LnQ}[LB l](hlo:l.ok): ∀{c:aan} {v w:IvQ},acE c→avK v→agP l c v=some w→avK w
 |[],v,w,_,hv,h=>by cases h;exact hv
 |s::t,v,w,hc,hv,h=>by
  haveI:=(hc s aQ).lb
  simp only[agP] at h
  split at h
  ·exact auM hlo (fun x hx=>hc x (aX _ hx)) (hv.cut hlo.1) h
  ·cases h
theorem akW{l:LnQ}[LB l]: ∀{c:aan},acE c→acE (acG l c)
 |[],_,s,h=>by cases h
 |a::t,hc,s,h=>by
  have ha:=hc a aQ
  haveI:=ha.lb
  have ht:=akW (l:=l) (fun x hx=>hc x (aX _ hx))
  unfold acG at h
  split at h
  ·rcases aU.1 h with rfl|h
   ·exact⟨ha.lb,ha.ok,ha.v.cut ha.ok.1⟩
   ·exact ht s h
  ·exact ht s h
theorem alo{l:LnQ}[hl:LB l](hlo:l.ok){c:aan}(hc:acE c):acE (aaR c l):=by
 unfold aaR
 split
 ·rename_i v hv
  intro s hs
  unfold ark at hs
  rcases bV.1 hs with h|h
  ·exact akW hc s (cM h)
  ·rcases aU.1 h with rfl|h
   ·exact⟨hl,hlo,auM hlo hc .all hv⟩
   ·exact akW hc s (gK h)
 ·exact hc
theorem aoR{l:LnQ}{c:aan}{k:Nat}{s:FrQ}(h:c[k]? =some s):acG l (c.drop k)=if s.l.cutB s.v l then⟨s.l,s.l.cutV s.v l⟩::acG l (c.drop (k+1)) else acG l (c.drop (k+1)):=by
 rw[aiZ h];rfl
theorem axO{c:aan}{l:LnQ}[hl:LB l](hlo:l.ok)(hc:acE c)(hn:c.length≤100000):PF GB prog 246 [.sl (c.map eFr),eLn l] (.tp [.sl ((aaR c l).map eFr),vB (abr c l)]):=by
 have hm:=agd eFr c
 refine fn func246 J J ntmps246 J J (fun C=>?_)
 refine cl rfl (axq (c:=c) (l:=l) hlo hc (by omega)) rfl<|?_
 refine bb (fu2:=⟨6⟩) J J J (fun hc22=>?_) (fun hc22=>?_)
 ·
  have hp:afS c l=none:=by simpa using hc22
  refine cl rfl (azC (c:=c) (l:=l) hlo hc (by omega)) rfl<|?_
  exact rz rfl (by unfold aaR abr;rw[hp];rfl)
 ·
  obtain⟨v,hv⟩: ∃v,afS c l=some v:=Option.isSome_iff_exists.1 (by simpa using hc22)
  have hvd:ivD (afS c l)=v:=by rw[hv];rfl
  rw[hvd]
  refine eqF 29 (.d (vI (c.length:Nat))) rfl (by rw[hm]<;>rfl) ?_
  refine gx rfl<|mkc (fu:=⟨8⟩) (c.length+1) J J J<|?_
  refine eqF 33 (.d (vI (c.length:Nat))) rfl (by rw[hm]<;>rfl) ?_
  refine gx rfl<|?_
  refine lp (X:=aan×Nat) (fun⟨o,k⟩=>[(34, .d (vI (k:Nat))),(8, .rw 31)]) (fun⟨o,k⟩=>[(31,some (.c 187 17 (o.map eFr) (c.length+1)))]) (fun⟨o,k⟩=>k≤c.length∧o.length≤k∧o++acG l (c.drop k)=acG l c) (fun⟨o,k⟩=>c.length-k) ([],0) rfl ⟨bK _,aM _,rfl⟩ (fun _=>rfl) (fun⟨o,k⟩ hk=>?_)
  dsimp only at hk⊢
  obtain⟨h1,h2,h3⟩:=hk
  have hmo:=agd eFr o
  refine br J J J (fun hc35=>?_) (fun hc35=>?_)
  ·
   obtain⟨s,hs0⟩: ∃s,c[k]? =some s:=⟨_,aZ (by omega)⟩
   have hs:=hc s (bX hs0)
   haveI:=hs.lb
   haveI:=hs.v.lo
   haveI:=hs.v.hi
   refine ix _ rfl (aaB hs0) rfl<|cl (fu:=⟨0⟩) rfl (aBe (l:=s.l) (m:=l) (v:=s.v)) rfl<|?_
   generalize hw:s.l.cutV s.v l=w
   generalize hb:s.l.cutB s.v l=b
   refine gx rfl<|?_
   refine bb J J J (fun hc47=>?_) (fun hc47=>?_)
   ·
    refine rf J J<|apc ((o++[FrQ.mk s.l w]).map eFr) rfl (by rw[bU];rfl) (aDh [FrQ.mk s.l w]) (by rw[hmo];simp;omega) rfl<|?_
    refine rnE 54 31 rfl ?_
    exact at_ (o++[FrQ.mk s.l w],k+1) (by dsimp only;exact⟨⟨by omega,by simp;omega,by rw[←h3,aoR hs0,hb,if_pos hc47,hw,cR];rfl⟩,(by omega)⟩)
   ·
    exact at_ (o,k+1) (by dsimp only;exact⟨⟨by omega,by omega,by rw[←h3,aoR hs0,hb,if_neg (by simp[hc47])]⟩,(by omega)⟩)
  ·
   obtain rfl:k=c.length:=by omega
   have ho:o=acG l c:=by rw[←h3,fZ];simp[acG]
   subst ho
   have hbl:=(aoX (agz (acG l c) l) (acG l c).length 0 (acG l c).length (by omega) (by omega)).2
   refine cL rfl (aEd (c:=acG l c) (l:=l) (akW hc) (by omega)) J J<|ro J J<|ci ((ark (acG l c) l v).map eFr) rfl (avh (c:=acG l c) (x:=⟨l,v⟩) (i:=bsq (agz (acG l c) l) 0 (acG l c).length) (cap:=c.length+1) hbl (by omega) (by omega)) J J<|?_
   refine fzE 68 rfl ?_
   exact rz rfl (by unfold aaR abr;rw[hv];rfl)
theorem aqo{c:aan}{l:LnQ}[hl:LB l](hlo:l.ok)(hc:acE c)(hn:c.length≤100000):PF GB prog 199 [.sl (c.map eFr),eLn l] (.tp [.sl ((aaR c l).map eFr), .sl ((aaR c l.rev).map eFr),vB (abr c l),vB (abr c l.rev)]):=by
 refine fn func199 J J ntmps199 J J (fun C=>?_)
 refine cl rfl (axO (c:=c) (l:=l) hlo hc hn) rfl<|cl rfl (aCB (l:=l)) rfl<|cl rfl (axO (c:=c) (l:=l.rev) hlo.rev hc hn) rfl<|?_
 exact rz J J
def cU:Tr→List DV
 | .leaf b=>[vI 0,vI 0, .v (.pointer none),vI 0,vI 0, .v (.pointer none),vI 0,vI 0, .v (.pointer none), .v (.pointer none), .v (.pointer none), .v (.bool b)]
 | .node l x y=>[vI (fn_ (l.a:Rat)),vI (fd_ (l.a:Rat)),fp_ (l.a:Rat),vI (fn_ (l.b:Rat)),vI (fd_ (l.b:Rat)),fp_ (l.b:Rat),vI (fn_ (l.c:Rat)),vI (fd_ (l.c:Rat)),fp_ (l.c:Rat), .pt (cU x), .pt (cU y), .v (.bool false)]
def eU(t:Tr):DV:= .pt (cU t)
theorem afg{b:Bool}:PF GB prog 203 [.v (.bool b)] (eU (.leaf b)):=by
 refine fn func203 J J ntmps203 J J (fun C=>?_)
 refine fzE 5 rfl ?_
 exact rz J J
theorem arJ{l:LnQ}{x y:Tr}:PF GB prog 205 [eLn l,eU x,eU y] (eU (.node l x y)):=by
 refine fn func205 J J ntmps205 J J (fun C=>?_)
 refine fzE 11 rfl ?_
 exact rz J J
theorem abR{b:Bool}:PF GB prog 137 [eU (.leaf b)] (.v (.bool true)):=by
 refine fn func137 J J ntmps137 J J (fun C=>?_)
 exact rz J J
theorem abE{l:LnQ}{x y:Tr}:PF GB prog 137 [eU (.node l x y)] (.v (.bool false)):=by
 refine fn func137 J J ntmps137 J J (fun C=>?_)
 exact rz J J
theorem awk{l l1:LnQ}{x y u:Tr}:PF GB prog 200 [eLn l,eU (.node l1 x y),eU u] (eU (.node l (.node l1 x y) u)):=by
 refine fn func200 J J ntmps200 J J (fun C=>?_)
 refine cl (fu:=⟨0⟩) rfl abE rfl<|knF J J J<|cl rfl arJ rfl<|?_
 exact rz J J
theorem auz{l l1:LnQ}{x y:Tr}{p:Bool}:PF GB prog 200 [eLn l,eU (.leaf p),eU (.node l1 x y)] (eU (.node l (.leaf p) (.node l1 x y))):=by
 refine fn func200 J J ntmps200 J J (fun C=>?_)
 refine cl (fu:=⟨0⟩) rfl abR rfl<|knT J J J<|cl (fu:=⟨1⟩) rfl abE rfl<|knF J J J<|cl rfl arJ rfl<|?_
 exact rz J J
theorem arO{l:LnQ}{p q:Bool}:PF GB prog 200 [eLn l,eU (.leaf p),eU (.leaf q)] (eU (Tr.joinQ l (.leaf p) (.leaf q))):=by
 refine fn func200 J J ntmps200 J J (fun C=>?_)
 refine cl (fu:=⟨0⟩) rfl abR rfl<|knT J J J<|cl (fu:=⟨1⟩) rfl abR rfl<|knT J J J<|?_
 refine bb J J J (fun hc23=>?_) (fun hc23=>?_)
 ·
  exact rz rfl (by rw[show Tr.joinQ l (.leaf p) (.leaf q)= .leaf p by simp[Tr.joinQ,Tr.isLeaf,Tr.code,hc23]];rfl)
 ·
  refine cl rfl arJ rfl<|?_
  exact rz rfl (by rw[show Tr.joinQ l (.leaf p) (.leaf q)= .node l (.leaf p) (.leaf q) by simp[Tr.joinQ,Tr.isLeaf,Tr.code,hc23]];rfl)
theorem axV{l:LnQ}: ∀{x y:Tr},PF GB prog 200 [eLn l,eU x,eU y] (eU (Tr.joinQ l x y))
 | .leaf _, .leaf _=>arO
 | .leaf _, .node .. =>auz
 | .node ..,_=>awk
theorem amx{b:Bool}:PF GB prog 108 [eU (.leaf b)] (vI (Tr.depth (.leaf b):Nat)):=by
 refine fn func108 J J ntmps108 J J (fun C=>?_)
 refine cl (fu:=⟨0⟩) rfl abR rfl<|?_
 refine kbT 4 rfl ?_
 refine gx rfl<|?_
 exact rz J J
theorem ani{l:LnQ}{x y:Tr}(hd:(Tr.node l x y).depth≤1000000)(ihx:PF GB prog 108 [eU x] (vI (Tr.depth x:Nat)))(ihy:PF GB prog 108 [eU y] (vI (Tr.depth y:Nat))):PF GB prog 108 [eU (.node l x y)] (vI (Tr.depth (.node l x y):Nat)):=by
 have hdp:(Tr.node l x y).depth=1+max x.depth y.depth:=rfl
 have hdx:=mT x.depth y.depth
 have hdy:=lM x.depth y.depth
 refine fn func108 J J ntmps108 J J (fun C=>?_)
 refine cl (fu:=⟨0⟩) rfl abE rfl<|?_
 refine kbF 4 rfl ?_
 refine gx rfl<|cl rfl ihx rfl<|cl (hv:=by simp only[aai];exact⟨by omega,by kernel_rfl⟩) rfl ihy rfl<|?_
 exact rz rfl (by show DV.v (.int _ _)= .v (.int _ _);congr 2;split<;>omega)
theorem ak8: ∀{t:Tr},t.depth≤1000000→PF GB prog 108 [eU t] (vI (Tr.depth t:Nat))
 | .leaf _,_=>amx
 | .node l x y,h=>ani h (ak8 (by have:=mT x.depth y.depth;have:(Tr.node l x y).depth=1+max x.depth y.depth:=rfl;omega)) (ak8 (by have:=lM x.depth y.depth;have:(Tr.node l x y).depth=1+max x.depth y.depth:=rfl;omega))
theorem aio{b:Bool}{c:aan}:PF GB prog 139 [eU (.leaf b), .sl (c.map eFr)] (eU (Tr.restrict (.leaf b) c)):=by
 refine fn func139 J J ntmps139 J J (fun C=>?_)
 refine cl (fu:=⟨0⟩) rfl abR rfl<|?_
 refine kbT 10 rfl ?_
 refine gx rfl<|?_
 exact rz J J
theorem ajx{l:LnQ}{x y:Tr}{c:aan}(hl:LB l)(hlo:l.ok)(hc:acE c)(hn:c.length+(Tr.node l x y).depth≤100000)(ihx: ∀{c:aan},acE c→c.length+x.depth≤100000→PF GB prog 139 [eU x, .sl (c.map eFr)] (eU (Tr.restrict x c)))(ihy: ∀{c:aan},acE c→c.length+y.depth≤100000→PF GB prog 139 [eU y, .sl (c.map eFr)] (eU (Tr.restrict y c))):PF GB prog 139 [eU (.node l x y), .sl (c.map eFr)] (eU (Tr.restrict (.node l x y) c)):=by
 have hdp:(Tr.node l x y).depth=1+max x.depth y.depth:=rfl
 have hdx:=mT x.depth y.depth
 have hdy:=lM x.depth y.depth
 have hca:=agV c l
 have hcb:=agV c l.rev
 refine fn func139 J J ntmps139 J J (fun C=>?_)
 refine cl (fu:=⟨0⟩) rfl abE rfl<|?_
 refine kbF 10 rfl ?_
 refine gx rfl<|cl rfl (aqo (c:=c) (l:=l) hlo hc (by omega)) rfl<|?_
 refine bb J J J (fun hc23=>?_) (fun hc23=>?_)
 ·
  refine cl rfl (ihx hc (by omega)) rfl<|?_
  exact rz rfl (by rw[Tr.restrict,if_pos hc23];rfl)
 ·
  refine bb J J J (fun hc32=>?_) (fun hc32=>?_)
  ·
   refine cl rfl (ihy hc (by omega)) rfl<|?_
   exact rz rfl (by rw[Tr.restrict,if_neg (by simp[hc23]),if_pos hc32];rfl)
  ·
   refine cl rfl (ihx (c:=aaR c l) (alo hlo hc) (by omega)) rfl<|cl rfl (ihy (c:=aaR c l.rev) (alo hlo.rev hc) (by omega)) rfl<|cl rfl axV rfl<|?_
   exact rz rfl (by rw[Tr.restrict,if_neg (by simp[hc23]),if_neg (by simp[hc32])];rfl)
theorem abk: ∀{t:Tr} {c:aan},t.all LB→t.all LnQ.ok→acE c→c.length+t.depth≤100000→PF GB prog 139 [eU t, .sl (c.map eFr)] (eU (Tr.restrict t c))
 | .leaf _,_,_,_,_,_=>aio
 | .node l x y,c,hb,ho,hc,hn=>ajx hb.1 ho.1 hc hn (fun h1 h2=>abk hb.2.1 ho.2.1 h1 h2) (fun h1 h2=>abk hb.2.2 ho.2.2 h1 h2)
def Tr.compl:Tr→Tr
 | .leaf b=> .leaf !b
 | .node l x y=> .node l x.compl y.compl
def Tr.chooseQ(op:Int)(b:Bool)(t:Tr)(c:aan):Tr:=
 if op=1∨op=2 then(if b=decide (op=1) then .leaf b else t.restrict c)
 else if op=3∧b=false then .leaf false
 else if b then(t.restrict c).compl else t.restrict c
def Tr.mergeQ(op:Int):Tr→Tr→aan→Tr
 | .leaf b,u,c=>u.chooseQ op b c
 | .node l x y,u,c=>if !abr c l.rev then x.mergeQ op u c else if !abr c l then y.mergeQ op u c else joinQ l (x.mergeQ op u (aaR c l)) (y.mergeQ op u (aaR c l.rev))
theorem amR{b:Bool}:PF GB prog 167 [eU (.leaf b)] (eU (Tr.compl (.leaf b))):=by
 refine fn func167 J J ntmps167 J J (fun C=>?_)
 refine cl (fu:=⟨0⟩) rfl abR rfl<|?_
 refine kbT 4 rfl ?_
 refine gx rfl<|cl rfl afg rfl<|?_
 exact rz J J
theorem anG{l:LnQ}{x y:Tr}(ihx:PF GB prog 167 [eU x] (eU (Tr.compl x)))(ihy:PF GB prog 167 [eU y] (eU (Tr.compl y))):PF GB prog 167 [eU (.node l x y)] (eU (Tr.compl (.node l x y))):=by
 refine fn func167 J J ntmps167 J J (fun C=>?_)
 refine cl (fu:=⟨0⟩) rfl abE rfl<|?_
 refine kbF 4 rfl ?_
 refine gx rfl<|cl rfl ihx rfl<|cl rfl ihy rfl<|cl rfl (arJ (l:=l) (x:=x.compl) (y:=y.compl)) rfl<|?_
 exact rz J J
theorem agc: ∀{t:Tr},PF GB prog 167 [eU t] (eU (Tr.compl t))
 | .leaf _=>amR
 | .node _ _ _=>anG agc agc
theorem aws{op:Int}{b:Bool}{t:Tr}{c:aan}(hb:t.all LB)(ho:t.all LnQ.ok)(hc:acE c)(hn:c.length+t.depth≤100000):PF GB prog 239 [vI op, .v (.bool b),eU t, .sl (c.map eFr)] (eU (t.chooseQ op b c)):=by
 refine fn func239 J J ntmps239 J J (fun C=>?_)
 refine br J J J (fun hc10=>?_) (fun hc10=>?_)
 ·
  refine br J J J (fun hc10=>?_) (fun hc10=>?_)
  ·
   refine bb J J J (fun hc18=>?_) (fun hc18=>?_)
   ·
    refine cl rfl afg rfl<|?_
    exact rz rfl (by unfold Tr.chooseQ;simp_all [afy]<;>omega)
   ·
    refine cl rfl (abk (by assumption) (by assumption) (by assumption) (by omega)) rfl<|?_
    exact rz rfl (by unfold Tr.chooseQ;simp_all [afy]<;>omega)
  ·
   refine br J J J (fun hc13=>?_) (fun hc13=>?_)
   ·
    refine bb J J J (fun hc22=>?_) (fun hc22=>?_)
    ·
     refine cl rfl afg rfl<|?_
     exact rz rfl (by unfold Tr.chooseQ;simp_all [afy]<;>omega)
    ·
     refine bb J J J (fun hc24=>?_) (fun hc24=>?_)
     ·
      refine cl rfl (abk (by assumption) (by assumption) (by assumption) (by omega)) rfl<|cl rfl (agc (t:=t.restrict c)) rfl<|?_
      exact rz rfl (by unfold Tr.chooseQ;simp_all [afy]<;>omega)
     ·
      refine cl rfl (abk (by assumption) (by assumption) (by assumption) (by omega)) rfl<|?_
      exact rz rfl (by unfold Tr.chooseQ;simp_all [afy]<;>omega)
   ·
    refine bb J J J (fun hc24=>?_) (fun hc24=>?_)
    ·
     refine cl rfl (abk (by assumption) (by assumption) (by assumption) (by omega)) rfl<|cl rfl (agc (t:=t.restrict c)) rfl<|?_
     exact rz rfl (by unfold Tr.chooseQ;simp_all [afy]<;>omega)
    ·
     refine cl rfl (abk (by assumption) (by assumption) (by assumption) (by omega)) rfl<|?_
     exact rz rfl (by unfold Tr.chooseQ;simp_all [afy]<;>omega)
 ·
  refine br J J J (fun hc10=>?_) (fun hc10=>?_)
  ·
   refine bb J J J (fun hc18=>?_) (fun hc18=>?_)
   ·
    refine cl rfl afg rfl<|?_
    exact rz rfl (by unfold Tr.chooseQ;simp_all [afy]<;>omega)
   ·
    refine cl rfl (abk (by assumption) (by assumption) (by assumption) (by omega)) rfl<|?_
    exact rz rfl (by unfold Tr.chooseQ;simp_all [afy]<;>omega)
  ·
   refine br J J J (fun hc13=>?_) (fun hc13=>?_)
   ·
    refine bb J J J (fun hc22=>?_) (fun hc22=>?_)
    ·
     refine cl rfl afg rfl<|?_
     exact rz rfl (by unfold Tr.chooseQ;simp_all [afy]<;>omega)
    ·
     refine bb J J J (fun hc24=>?_) (fun hc24=>?_)
     ·
      refine cl rfl (abk (by assumption) (by assumption) (by assumption) (by omega)) rfl<|cl rfl (agc (t:=t.restrict c)) rfl<|?_
      exact rz rfl (by unfold Tr.chooseQ;simp_all [afy]<;>omega)
     ·
      refine cl rfl (abk (by assumption) (by assumption) (by assumption) (by omega)) rfl<|?_
      exact rz rfl (by unfold Tr.chooseQ;simp_all [afy]<;>omega)
   ·
    refine bb J J J (fun hc24=>?_) (fun hc24=>?_)
    ·
     refine cl rfl (abk (by assumption) (by assumption) (by assumption) (by omega)) rfl<|cl rfl (agc (t:=t.restrict c)) rfl<|?_
     exact rz rfl (by unfold Tr.chooseQ;simp_all [afy]<;>omega)
    ·
     refine cl rfl (abk (by assumption) (by assumption) (by assumption) (by omega)) rfl<|?_
     exact rz rfl (by unfold Tr.chooseQ;simp_all [afy]<;>omega)
theorem anc{b:Bool}{op:Int}{u:Tr}{c:aan}(hbu:u.all LB)(hou:u.all LnQ.ok)(hc:acE c)(hn:c.length+u.depth≤100000):PF GB prog 191 [vI op,eU (.leaf b),eU u, .sl (c.map eFr)] (eU (Tr.mergeQ op (.leaf b) u c)):=by
 refine fn func191 J J ntmps191 J J (fun C=>?_)
 refine cl (fu:=⟨0⟩) rfl abR rfl<|?_
 refine kbT 14 rfl ?_
 refine gx rfl<|cl rfl (aws (t:=u) hbu hou hc hn) rfl<|?_
 exact rz J J
theorem ams{l:LnQ}{x y:Tr}{op:Int}{u:Tr}{c:aan}(hl:LB l)(hlo:l.ok)(hc:acE c)(hn:c.length+(Tr.node l x y).depth+u.depth≤100000)(ihx: ∀{c:aan},acE c→c.length+x.depth+u.depth≤100000→PF GB prog 191 [vI op,eU x,eU u, .sl (c.map eFr)] (eU (Tr.mergeQ op x u c)))(ihy: ∀{c:aan},acE c→c.length+y.depth+u.depth≤100000→PF GB prog 191 [vI op,eU y,eU u, .sl (c.map eFr)] (eU (Tr.mergeQ op y u c))):PF GB prog 191 [vI op,eU (.node l x y),eU u, .sl (c.map eFr)] (eU (Tr.mergeQ op (.node l x y) u c)):=by
 have hdp:(Tr.node l x y).depth=1+max x.depth y.depth:=rfl
 have hdx:=mT x.depth y.depth
 have hdy:=lM x.depth y.depth
 have hca:=agV c l
 have hcb:=agV c l.rev
 refine fn func191 J J ntmps191 J J (fun C=>?_)
 refine cl (fu:=⟨0⟩) rfl abE rfl<|?_
 refine kbF 14 rfl ?_
 refine gx rfl<|cl rfl (aqo (c:=c) (l:=l) hlo hc (by omega)) rfl<|?_
 refine bb J J J (fun hc34=>?_) (fun hc34=>?_)
 ·
  refine cl rfl (ihx hc (by omega)) rfl<|?_
  exact rz rfl (by rw[Tr.mergeQ,if_pos hc34];rfl)
 ·
  refine bb J J J (fun hc45=>?_) (fun hc45=>?_)
  ·
   refine cl rfl (ihy hc (by omega)) rfl<|?_
   exact rz rfl (by rw[Tr.mergeQ,if_neg (by simp[hc34]),if_pos hc45];rfl)
  ·
   refine cl rfl (ihx (c:=aaR c l) (alo hlo hc) (by omega)) rfl<|cl rfl (ihy (c:=aaR c l.rev) (alo hlo.rev hc) (by omega)) rfl<|cl rfl axV rfl<|?_
   exact rz rfl (by rw[Tr.mergeQ,if_neg (by simp[hc34]),if_neg (by simp[hc45])];rfl)
theorem aos{op:Int}{u:Tr}(hbu:u.all LB)(hou:u.all LnQ.ok): ∀{t:Tr} {c:aan},t.all LB→t.all LnQ.ok→acE c→c.length+t.depth+u.depth≤100000→PF GB prog 191 [vI op,eU t,eU u, .sl (c.map eFr)] (eU (Tr.mergeQ op t u c))
 | .leaf _,_,_,_,hc,hn=>anc hbu hou hc (by simp only[Tr.depth] at hn;omega)
 | .node l x y,c,hb,ho,hc,hn=>ams hb.1 ho.1 hc hn (fun h1 h2=>aos hbu hou hb.2.1 ho.2.1 h1 h2) (fun h1 h2=>aos hbu hou hb.2.2 ho.2.2 h1 h2)
def lnZ:DV:= .ag [vI 0,vI 0, .v (.pointer none),vI 0,vI 0, .v (.pointer none),vI 0,vI 0, .v (.pointer none)]
def lnR:Option LnQ→DV
 |some l=> .tp [eLn l,vB true]
 |none=> .tp [lnZ,vB false]
theorem aCA{l:LnQ}(h: ¬l.ok)(hz: ¬(l.a=0∧l.b=0)):decide (rgcd (rgcd (l.a:Rat) (l.b:Rat)) (l.c:Rat)=((1:Int):Rat))=false:=by
 rw[agN,agN]
 refine decide_eq_false fun e=>h ⟨hz,?_⟩
 simp only[jJ] at e
 have:=mS.1 e
 omega
theorem avI{l:LnQ}[hl:LB l](ha:l.a=0)(hb:l.b=0):PF GB prog 204 [eL l] (lnR none):=by
 refine fn func204 J J ntmps204 J J (fun C=>?_)
 refine cl (fu:=⟨0⟩) rfl (acd (m:=l.a)) rfl<|knF J J J<|cl (fu:=⟨0⟩) rfl (acd (m:=l.b)) rfl<|knF J J J<|cl (fu:=⟨0⟩) rfl (acd (m:=l.c)) rfl<|?_
 refine knF J J J<|cl rfl (aeL (m:=l.a)) rfl<|cl rfl (aeL (m:=l.b)) rfl<|cl rfl (aeL (m:=l.c)) rfl<|cl (fu:=⟨0⟩) rfl (akh (q:=(l.a:Rat))) rfl<|?_
 refine knT rfl (by show some (decide _)=some true;rw[ha];rfl) rfl<|cl (fu:=⟨0⟩) rfl (akh (q:=(l.b:Rat))) rfl<|knT rfl (by show some (decide _)=some true;rw[hb];rfl) rfl<|?_
 exact rz J J
theorem av1{l:LnQ}[hl:LB l](hz: ¬(l.a=0∧l.b=0))(ho: ¬l.ok):PF GB prog 204 [eL l] (lnR none):=by
 refine fn func204 J J ntmps204 J J (fun C=>?_)
 refine cl (fu:=⟨0⟩) rfl (acd (m:=l.a)) rfl<|knF J J J<|cl (fu:=⟨0⟩) rfl (acd (m:=l.b)) rfl<|knF J J J<|cl (fu:=⟨0⟩) rfl (acd (m:=l.c)) rfl<|?_
 refine knF J J J<|cl rfl (aeL (m:=l.a)) rfl<|cl rfl (aeL (m:=l.b)) rfl<|cl rfl (aeL (m:=l.c)) rfl<|cl (fu:=⟨0⟩) rfl (akh (q:=(l.a:Rat))) rfl<|?_
 refine csS (fu2:=⟨4⟩) J J J J (fun hg35=>?_) (fun hg35=>?_)
 ·
  have ha:l.a=0:=cY.1 hg35
  refine cl (fu:=⟨1⟩) rfl (akh (q:=(l.b:Rat))) rfl<|knF rfl (by first|rfl|(show some (decide _)=some false;rw[decide_eq_false (fun e=>hz ⟨ha,cY.1 e⟩)])) rfl<|?_
  refine cl rfl (agR (p:=(l.a:Rat)) (q:=(l.b:Rat))) rfl<|cl rfl (agR (p:=rgcd l.a l.b) (q:=(l.c:Rat))) rfl<|cl rfl (ajS (m:=1) (by decide)) rfl<|?_
  refine cl (fu:=⟨0⟩) rfl (aij (p:=rgcd (rgcd l.a l.b) l.c) (q:=((1:Int):Rat))) rfl<|knT rfl (by show some (!decide _)=some true;rw[aCA ho hz];rfl) rfl<|?_
  exact rz J J
 ·
  refine knF rfl (by first|rfl|(show some (decide _)=some false;rw[decide_eq_false (fun e=>hz ⟨ha,cY.1 e⟩)])) rfl<|cl rfl (agR (p:=(l.a:Rat)) (q:=(l.b:Rat))) rfl<|?_
  refine cl rfl (agR (p:=rgcd l.a l.b) (q:=(l.c:Rat))) rfl<|cl rfl (ajS (m:=1) (by decide)) rfl<|cl (fu:=⟨0⟩) rfl (aij (p:=rgcd (rgcd l.a l.b) l.c) (q:=((1:Int):Rat))) rfl<|?_
  refine knT rfl (by show some (!decide _)=some true;rw[aCA ho hz];rfl) rfl<|?_
  exact rz J J
theorem ayF{l:LnQ}[hl:LB l][Decidable l.ok]:PF GB prog 204 [eL l] (lnR (if l.ok then some l else none)):=by
 split
 ·rename_i h;exact aDp h
 ·rename_i h
  by_cases hz:l.a=0∧l.b=0
  ·exact avI hz.1 hz.2
  ·exact av1 hz h
def anO(n:Bool)(ds:List Nat):Prop:=Nrm ds∧(n=true→0<ds.length)
instance (n:Bool) (ds:List Nat):Decidable (anO n ds):=inferInstanceAs (Decidable (_∧_))
theorem adw{neg:Bool}{ds:List Nat}(h:DOk ds∧ds.length≤3):PF GB prog 249 [.ag [.v (.bool neg),dLi ds]] (vB (decide (anO neg ds))):=amd h.1 (by have:=h.2;omega)
structure RL where
 na:Bool
 da:List Nat
 nb:Bool
 db:List Nat
 nc:Bool
 dc:List Nat
def RL.d(r:RL):DV:= .ag [.v (.bool r.na),dLi r.da, .v (.bool r.nb),dLi r.db, .v (.bool r.nc),dLi r.dc]
def ahz(n:Bool)(ds:List Nat):Int:=if n then-(dv ds:Int) else dv ds
def RL.l(r:RL):LnQ:=⟨ahz r.na r.da,ahz r.nb r.db,ahz r.nc r.dc⟩
def RL.nm(r:RL):Prop:=anO r.na r.da∧anO r.nb r.db∧anO r.nc r.dc
instance (l:LnQ):Decidable l.ok:=inferInstanceAs (Decidable (_∧_))
instance (r:RL):Decidable r.nm:=inferInstanceAs (Decidable (_∧_∧_))
def RL.ln(r:RL):Option LnQ:=if r.nm∧r.l.ok then some r.l else none
structure RL.sm (r:RL):Prop where
 a:DOk r.da∧r.da.length≤3
 b:DOk r.db∧r.db.length≤3
 c:DOk r.dc∧r.dc.length≤3
theorem amc(n:Bool)(ds:List Nat):(ahz n ds).natAbs=dv ds:=by unfold ahz;cases n<;>simp
theorem ajo{n:Bool}{ds:List Nat}(hd:DOk ds)(h:anO n ds):decide (ahz n ds<0)=n:=by
 unfold ahz
 cases n with
 |false=>simp
 |true=>
  have h0:0<dv ds:=by
   refine jX fun e=>?_
   have:=aqD hd h.1
   rw[e,aho] at this
   have h2:=h.2 rfl
   rw[←this] at h2
   exact absurd h2 (by decide)
  simp only[if_true,decide_eq_true_eq]
  omega
theorem RL.eL{r:RL}(s:r.sm)(h:r.nm):r.d=Go.Sx.eL r.l:=by
 unfold RL.d Go.Sx.eL RL.l
 simp only[amc,ajo s.a.1 h.1,ajo s.b.1 h.2.1,ajo s.c.1 h.2.2,dN,aqD s.a.1 h.1.1,aqD s.b.1 h.2.1.1,aqD s.c.1 h.2.2.1]
 rfl
theorem RL.lb{r:RL}(s:r.sm):LB r.l:=by
 have key: ∀(n:Bool) (ds:List Nat),DOk ds∧ds.length≤3→(ahz n ds).natAbs<2^96:=fun n ds h=>by
  rw[amc]
  refine cN (aev h.1) ?_
  rw[show(2:Nat)^96=4294967296^3 by decide]
  exact bJ (by decide) h.2
 exact⟨key _ _ s.a,key _ _ s.b,key _ _ s.c⟩
theorem avS{r:RL}(s:r.sm)(h: ¬anO r.na r.da):PF GB prog 204 [r.d] (lnR none):=by
 refine fn func204 J J ntmps204 J J (fun C=>?_)
 refine cl (fu:=⟨0⟩) rfl (adw (neg:=r.na) (ds:=r.da) s.a) rfl<|knT rfl (by show some (!decide _)=some true;rw[decide_eq_false h];rfl) rfl<|?_
 exact rz J J
theorem avR{r:RL}(s:r.sm)(h1:anO r.na r.da)(h: ¬anO r.nb r.db):PF GB prog 204 [r.d] (lnR none):=by
 refine fn func204 J J ntmps204 J J (fun C=>?_)
 refine cl (fu:=⟨0⟩) rfl (adw (neg:=r.na) (ds:=r.da) s.a) rfl<|knF rfl (by show some (!decide _)=some false;rw[decide_eq_true h1];rfl) rfl<|cl (fu:=⟨0⟩) rfl (adw (neg:=r.nb) (ds:=r.db) s.b) rfl<|?_
 refine knT rfl (by show some (!decide _)=some true;rw[decide_eq_false h];rfl) rfl<|?_
 exact rz J J
theorem awX{r:RL}(s:r.sm)(h1:anO r.na r.da)(h2:anO r.nb r.db)(h: ¬anO r.nc r.dc):PF GB prog 204 [r.d] (lnR none):=by
 refine fn func204 J J ntmps204 J J (fun C=>?_)
 refine cl (fu:=⟨0⟩) rfl (adw (neg:=r.na) (ds:=r.da) s.a) rfl<|knF rfl (by show some (!decide _)=some false;rw[decide_eq_true h1];rfl) rfl<|cl (fu:=⟨0⟩) rfl (adw (neg:=r.nb) (ds:=r.db) s.b) rfl<|?_
 refine knF rfl (by show some (!decide _)=some false;rw[decide_eq_true h2];rfl) rfl<|cl (fu:=⟨0⟩) rfl (adw (neg:=r.nc) (ds:=r.dc) s.c) rfl<|knT rfl (by show some (!decide _)=some true;rw[decide_eq_false h];rfl) rfl<|?_
 exact rz J J
theorem aua{r:RL}(s:r.sm):PF GB prog 204 [r.d] (lnR r.ln):=by
 by_cases h1:anO r.na r.da
 ·by_cases h2:anO r.nb r.db
  ·by_cases h3:anO r.nc r.dc
   ·haveI:=RL.lb s
    rw[RL.eL s ⟨h1,h2,h3⟩,show r.ln=if r.l.ok then some r.l else none by unfold RL.ln;simp[show r.nm from⟨h1,h2,h3⟩]]
    exact ayF
   ·rw[show r.ln=none from if_neg fun e=>h3 e.1.2.2]
    exact awX s h1 h2 h3
  ·rw[show r.ln=none from if_neg fun e=>h2 e.1.2.1]
   exact avR s h1 h2
 ·rw[show r.ln=none from if_neg fun e=>h1 e.1.1]
  exact avS s h1
def afU(n:Nat)(f:Nat→Bool):List Value:=(List.range n).map fun j=> .bool (f j)
def amu(f:Nat→Bool)(i:Nat):Nat→Bool:=fun j=>f j||Nat.beq j i
theorem aje(n:Nat)(f:Nat→Bool):(afU n f).length=n:=by simp[afU]
theorem ahd{n i:Nat}{f:Nat→Bool}{b:Bool}(h:i<n)(hf:f i=b):(afU n f)[i]? =some (.bool b):=by simp[afU,h,hf]
theorem aiU{f:Nat→Bool}{i j:Nat}(e:j≠i):amu f i j=f j:=by
 unfold amu
 cases hb:Nat.beq j i with
 |false=>rw[Bool.or_false]
 |true=>exact absurd (aY hb) e
theorem as5{f:Nat→Bool}{i:Nat}:amu f i i=true:=by
 unfold amu;rw[nQ,Bool.or_true]
theorem anf(n i:Nat)(f:Nat→Bool):(afU n f).set i (.bool true)=afU n (amu f i):=by
 apply jT
 intro j
 rw[oJ]
 simp only[afU,aJ,qR,dR]
 by_cases hj:j<n
 ·rw[rS hj]
  simp only[jK]
  by_cases e:i=j
  ·subst e;simp[hj,as5]
  ·rw[aiU (fun h=>e h.symm)];simp[e]
 ·rw[cS (by simpa using hj)]
  by_cases e:i=j
  ·subst e;simp[hj]
  ·simp[e]
theorem aor(n:Nat):aa2 (.bool false) n=afU n (fun _=>false):=by
 apply jT
 intro j
 by_cases hj:j<n
 ·rw[ahd hj rfl]
  unfold aa2
  rw[afi (aaf (.bool false)) n j (by simpa[aaf] using hj)]
  simp[aaf,Nat.mod_one]
 ·rw[cS (by rw[abn];simp[aaf];omega),cS (by rw[aje];omega)]
structure RN where
 g:RL
 l:Int
 r:Int
def RN.d(n:RN):DV:= .ag [.v (.bool n.g.na),dLi n.g.da, .v (.bool n.g.nb),dLi n.g.db, .v (.bool n.g.nc),dLi n.g.dc, .v (.int .i64 n.l), .v (.int .i64 n.r)]
structure RS where
 f:Nat→Bool
 c:Nat
 b:Bool
inductive RR (ns:List RN):Int→RS→Tr→RS→Prop where
 |leaf (b:Bool) (s:RS):RR ns (ac6 b) s (.leaf b) s
 |bad (rt:Int) (s:RS) (h1:rt≠ -1) (h2:rt≠ -2) (h:rt<0∨(ns.length:Int)≤rt∨(∃k:Nat,rt=k∧k<ns.length∧s.f k=true)):RR ns rt s (.leaf false) ⟨s.f,s.c,true⟩
 |line (k:Nat) (n:RN) (s:RS) (h:ns[k]? =some n) (hf:s.f k=false) (hl:n.g.ln=none):RR ns (k:Int) s (.leaf false) ⟨amu s.f k,s.c+1,true⟩
 |node (k:Nat) (n:RN) (l:LnQ) (s s2 s3:RS) (x y:Tr) (h:ns[k]? =some n) (hf:s.f k=false) (hl:n.g.ln=some l) (h1:RR ns n.l ⟨amu s.f k,s.c+1,s.b⟩ x s2) (h2:RR ns n.r s2 y s3):RR ns (k:Int) s (.node l x y) s3
theorem RR.mono{ns:List RN}{rt:Int}{s s':RS}{t:Tr}(h:RR ns rt s t s'):s.c≤s'.c:=by
 induction h with
 |leaf=>exact aM _
 |bad=>exact aM _
 |line=>exact Nat.le_succ _
 |node k n l s s2 s3 x y h hf hl h1 h2 i1 i2=>simp only at i1;omega
theorem akO{G:Gh}{q:Rat}{v:Value}(h:Is G (fp_ q) v): ∃p,v= .pointer p:=by
 rcases an1.1 h with⟨_,h⟩|⟨_,h⟩
 ·exact⟨_,h⟩
 ·obtain⟨b,m,h,_⟩:=ahY.1 h;exact⟨_,h⟩
theorem aB8{G:Gh}{l:LnQ}{v:Value}(h:Is G (eLn l) v): ∃n1 d1 p1 n2 d2 p2 n3 d3 p3,v= .agg ⟨[.int .i64 n1, .int .i64 d1, .pointer p1, .int .i64 n2, .int .i64 d2, .pointer p2, .int .i64 n3, .int .i64 d3, .pointer p3]⟩:=by
 obtain⟨m,rfl,g⟩:=abF.1 h
 clear h
 obtain⟨v1,m,rfl,h1,h⟩:=aab.1 g
 obtain⟨v2,m,rfl,h2,h⟩:=aab.1 h
 obtain⟨v3,m,rfl,h3,h⟩:=aab.1 h
 obtain⟨v4,m,rfl,h4,h⟩:=aab.1 h
 obtain⟨v5,m,rfl,h5,h⟩:=aab.1 h
 obtain⟨v6,m,rfl,h6,h⟩:=aab.1 h
 obtain⟨v7,m,rfl,h7,h⟩:=aab.1 h
 obtain⟨v8,m,rfl,h8,h⟩:=aab.1 h
 obtain⟨v9,m,rfl,h9,h⟩:=aab.1 h
 rw[aaG] at h;subst h
 obtain⟨_,rfl⟩:=akO h3
 obtain⟨_,rfl⟩:=akO h6
 obtain⟨_,rfl⟩:=akO h9
 rw[aaP.1 h1,aaP.1 h2,aaP.1 h4,aaP.1 h5,aaP.1 h7,aaP.1 h8]
 exact⟨_,_,_,_,_,_,_,_,_,rfl⟩
theorem axw{G:Gh}{o:Option LnQ}{v:Value}(h:Is G (lnR o) v): ∃n1 d1 p1 n2 d2 p2 n3 d3 p3,v= .tuple #[.agg ⟨[.int .i64 n1, .int .i64 d1, .pointer p1, .int .i64 n2, .int .i64 d2, .pointer p2, .int .i64 n3, .int .i64 d3, .pointer p3]⟩, .bool o.isSome]∧
  ∀l,o=some l→Is G (eLn l) (.agg ⟨[.int .i64 n1, .int .i64 d1, .pointer p1, .int .i64 n2, .int .i64 d2, .pointer p2, .int .i64 n3, .int .i64 d3, .pointer p3]⟩):=by
 cases o with
 |some l=>
  obtain⟨m,rfl,g⟩:=adL.1 h
  obtain⟨v1,m,rfl,h1,h⟩:=aab.1 g
  obtain⟨v2,m,rfl,h2,h⟩:=aab.1 h
  rw[aaG] at h;subst h
  obtain⟨n1,d1,p1,n2,d2,p2,n3,d3,p3,rfl⟩:=aB8 h1
  rw[aaP.1 h2]
  exact⟨n1,d1,p1,n2,d2,p2,n3,d3,p3,rfl,fun k e=>by cases e;exact h1⟩
 |none=>
  obtain⟨m,rfl,g⟩:=adL.1 h
  obtain⟨v1,m,rfl,h1,h⟩:=aab.1 g
  obtain⟨v2,m,rfl,h2,h⟩:=aab.1 h
  rw[aaG] at h;subst h
  clear g h
  obtain⟨m,rfl,g⟩:=abF.1 h1
  obtain⟨w1,m,rfl,k1,h⟩:=aab.1 g
  obtain⟨w2,m,rfl,k2,h⟩:=aab.1 h
  obtain⟨w3,m,rfl,k3,h⟩:=aab.1 h
  obtain⟨w4,m,rfl,k4,h⟩:=aab.1 h
  obtain⟨w5,m,rfl,k5,h⟩:=aab.1 h
  obtain⟨w6,m,rfl,k6,h⟩:=aab.1 h
  obtain⟨w7,m,rfl,k7,h⟩:=aab.1 h
  obtain⟨w8,m,rfl,k8,h⟩:=aab.1 h
  obtain⟨w9,m,rfl,k9,h⟩:=aab.1 h
  rw[aaG] at h;subst h
  rw[aaP.1 k1,aaP.1 k2,aaP.1 k3,aaP.1 k4,aaP.1 k5,aaP.1 k6,aaP.1 k7,aaP.1 k8,aaP.1 k9]
  rw[aaP.1 h2]
  exact⟨_,_,_,_,_,_,_,_,_,rfl,fun k e=>by cases e⟩
theorem aBq{G:Gh}{n:RN}{v:Value}(h:Is G n.d v): ∃x1 x2 x3:SV,v= .agg ⟨[.bool n.g.na, .slice x1.a x1.n x1.c, .bool n.g.nb, .slice x2.a x2.n x2.c, .bool n.g.nc, .slice x3.a x3.n x3.c, .int .i64 n.l, .int .i64 n.r]⟩∧
  Is G n.g.d (.agg ⟨[.bool n.g.na, .slice x1.a x1.n x1.c, .bool n.g.nb, .slice x2.a x2.n x2.c, .bool n.g.nc, .slice x3.a x3.n x3.c]⟩):=by
 obtain⟨m,rfl,g⟩:=abF.1 h
 clear h
 obtain⟨v1,m,rfl,h1,h⟩:=aab.1 g
 obtain⟨v2,m,rfl,h2,h⟩:=aab.1 h
 obtain⟨v3,m,rfl,h3,h⟩:=aab.1 h
 obtain⟨v4,m,rfl,h4,h⟩:=aab.1 h
 obtain⟨v5,m,rfl,h5,h⟩:=aab.1 h
 obtain⟨v6,m,rfl,h6,h⟩:=aab.1 h
 obtain⟨v7,m,rfl,h7,h⟩:=aab.1 h
 obtain⟨v8,m,rfl,h8,h⟩:=aab.1 h
 rw[aaG] at h;subst h
 obtain⟨_,x1,_,rfl,_,_⟩:=adm.1 (id h2)
 obtain⟨_,x2,_,rfl,_,_⟩:=adm.1 (id h4)
 obtain⟨_,x3,_,rfl,_,_⟩:=adm.1 (id h6)
 cases aaP.1 h1;cases aaP.1 h3;cases aaP.1 h5;cases aaP.1 h7;cases aaP.1 h8
 exact⟨x1,x2,x3,rfl,abF.2 ⟨_,rfl, .cons h1 (.cons h2 (.cons h3 (.cons h4 (.cons h5 (.cons h6 .nil)))))⟩⟩
theorem afs{G:Gh}{t:Tr}{v:Value}(h:Is G (eU t) v): ∃p,v= .pointer p:=by
 obtain⟨b,m,h,_⟩:=ahY.1 h;exact⟨_,h⟩
theorem PF.fn0{P:Program}{f:FuncId}{ds:List DV}{r:DV}(h: ∀{GB:Gh},PF GB P f ds r){G:Gh}{vs:List Value}(hv:IsLs G ds vs):Fn P f vs G (fun v G'=>Is G' r v):=h (GB:=G) G vs (GLe.refl G) hv
abbrev aFE (x:SV) (ns:List RN) (A:Gh):Prop:= ∃es,aeZ A 8 x es∧IsLs A (ns.map RN.d) es
theorem ayV{A:Gh}{ns:List RN}{x:SV}(hx:aFE x ns A)(hs: ∀n∈ns,n.g.sm)(hn:ns.length≤1000000){rt:Int}{s s':RS}{t:Tr}(h:RR ns rt s t s'): ∀{G:Gh} {rb sb:Nat} {lo lo2:Bool},[GL A G]→s'.c≤1000000→
  FnM prog 148 [.pointer (some ⟨rb,0,none⟩), .int .i64 rt] [⟨rb,[.slice x.a x.n x.c, .slice (some ⟨sb,0,none⟩) ns.length ns.length, .int .i64 s.c, .bool s.b],228,lo⟩,⟨sb,afU ns.length s.f,4,lo2⟩] G
   (fun v css G'=> ∃p,v= .pointer p∧Is G' (eU t) (.pointer p)∧css=[[.slice x.a x.n x.c, .slice (some ⟨sb,0,none⟩) ns.length ns.length, .int .i64 s'.c, .bool s'.b],afU ns.length s'.f]):=by
 obtain⟨es,hx,hes⟩:=hx
 have hel:=hes.len
 rw[aJ] at hel
 have hlen:=hx.len
 rw[hel] at hlen
 obtain⟨xa,xn,xc⟩:=x
 simp only[] at hlen
 subst hlen
 induction h with
 |leaf bb s=>
  intro G rb sb lo lo2 _ hc
  refine FnM.intro func148 J J ntmps148 rfl ?_
  intro C _ _
  show St C _ _ [⟨rb,_,_,false⟩,⟨sb,_,_,false⟩] _ _
  cases bb
  case true=>
   refine sR<|sa J J<|zE<|aaj<|aas<|sR<|sm J J<|sy (ab6 J J) rfl<|sm J J<|ss J J J J<|ss J J J J<|?_
   refine sy (ac9 J J) rfl<|sa J J<|zE<|abX rfl<|sR<|sm J J<|sy (ab6 J J) rfl<|?_
   refine sc (zC J J (PF.fn0 (afg (b:=true)) (.cons (aaP.2 rfl) .nil)) rfl ?_)
   rintro _ G1 _ hp
   obtain⟨p,rfl⟩:=afs hp
   refine sa J J<|zE<|aaI<|?_
   exact ac8 (css:=[_,_]) (.tmp rfl .nil) rfl _ (List.Perm.refl _) (List.Sublist.refl _) ⟨p,rfl,hp,rfl⟩
  refine sR<|sa J J<|zE<|aaj<|aas<|sR<|sm J J<|sy (ab6 J J) rfl<|sm J J<|syg J J (aaS rfl) rfl<|syg J J (ab6 J J) rfl<|?_
  refine sy (abz J J) rfl<|sa J J<|zE<|abX rfl<|sR<|sm J J<|sy (ab6 J J) rfl<|?_
  refine sc (zC J J (PF.fn0 (afg (b:=false)) (.cons (aaP.2 rfl) .nil)) rfl ?_)
  rintro _ G1 _ hp
  obtain⟨p,rfl⟩:=afs hp
  refine sa J J<|zE<|aaI<|?_
  exact ac8 (css:=[_,_]) (.tmp rfl .nil) rfl _ (List.Perm.refl _) (List.Sublist.refl _) ⟨p,rfl,hp,rfl⟩
 |bad rt s h1 h2 h=>
  intro G rb sb lo lo2 _ hc
  refine FnM.intro func148 J J ntmps148 rfl ?_
  intro C _ _
  show St C _ [(0, .pointer (some ⟨rb,0,none⟩)),(1, .int .i64 rt)] [⟨rb,[.slice xa ns.length xc, .slice (some ⟨sb,0,none⟩) ns.length ns.length, .int .i64 s.c, .bool s.b],_,false⟩,⟨sb,afU ns.length s.f,_,false⟩] _ _
  refine sR<|sa J J<|zE<|aaj<|aas<|sR<|sm J J<|sy (ab6 J J) rfl<|sm J J<|?_
  refine ace 12 rfl (fun hg=>absurd hg (by omega)) (fun hg=>?_)
  refine syg J J (aaS rfl) rfl<|syg J J (ab6 J J) rfl<|sy (abz J J) rfl<|sa J J<|zE<|?_
  refine aaL rfl (fun hc=>absurd hc (by omega)) (fun _=>?_)
  refine sR<|sm J J<|sy (acn J J) rfl<|sm J J<|?_
  refine ace 22 rfl (fun hg=>?_) (fun hg=>?_)
  ·refine ss J J J J<|ss J J J J<|ss J J J J<|ss J J J J<|ss J J J J<|ss J J J J<|ss J J J J<|sy (ac9 J J) rfl<|sm J J<|ss J J J J<|ss J J J J<|?_
   refine ss J J J J<|ss J J J J<|ss J J J J<|ss J J J J<|ss J J J J<|sy (ac9 J J) rfl<|sa J J<|zE<|abX rfl<|aaj<|?_
   refine aal<|sm J J<|sn J J<|sf J J<|?_
   refine sc (abA J J J (.hd ..) (nb rfl) J J ?_)
   refine zE<|sR<|?_
   refine sc (zC J J (PF.fn0 (afg (b:=false)) (.cons (aaP.2 rfl) .nil)) rfl ?_)
   rintro _ G1 _ hp
   obtain⟨p,rfl⟩:=afs hp
   refine sa J J<|zE<|aaI<|?_
   exact ac8 (css:=[_,_]) (.tmp rfl .nil) rfl _ (List.Perm.refl _) (List.Sublist.refl _) ⟨p,rfl,hp,rfl⟩
  refine syg J J (aaS rfl) rfl<|syg J J (aaS rfl) rfl<|syg J J (aaH rfl) rfl<|syg J J (aaU rfl) rfl<|syg J J (aaF J J) rfl<|syg J J (aeh rfl) rfl<|syg J J (ahL J J) rfl<|sy (abz J J) rfl<|sm J J<|?_
  refine ace 31 rfl (fun hg=>?_) (fun hg=>?_)
  ·refine ss J J J J<|ss J J J J<|ss J J J J<|ss J J J J<|ss J J J J<|ss J J J J<|ss J J J J<|?_
   refine sy (ac9 J J) rfl<|sa J J<|zE<|abX rfl<|sR<|sm J J<|sn J J<|sf J J<|?_
   refine sc (abA J J J (.hd ..) (nb rfl) J J ?_)
   refine zE<|sR<|?_
   refine sc (zC J J (PF.fn0 (afg (b:=false)) (.cons (aaP.2 rfl) .nil)) rfl ?_)
   rintro _ G1 _ hp
   obtain⟨p,rfl⟩:=afs hp
   refine sa J J<|zE<|aaI<|?_
   exact ac8 (css:=[_,_]) (.tmp rfl .nil) rfl _ (List.Perm.refl _) (List.Sublist.refl _) ⟨p,rfl,hp,rfl⟩
  obtain⟨k,rfl,hk,hf⟩: ∃k:Nat,rt=k∧k<ns.length∧s.f k=true:=by
   rcases h with h|h|h
   ·omega
   ·exact absurd h hg
   ·exact h
  refine syg J J (aaS rfl) rfl<|syg J J (aaH rfl) rfl<|syg J J (aaU rfl) rfl<|syg J J (aaF J J) rfl<|syg J J (aaS rfl) rfl<|syg J J (aa7 J J (by omega) (by omega)) rfl<|?_
  refine syg J J (aaF (v:= .bool true) rfl (by rw[aL,gW];exact ahd hk hf)) rfl<|sy (abz J J) rfl<|sa J J<|zE<|abX rfl<|?_
  refine sR<|sm J J<|sn J J<|sf J J<|?_
  refine sc (abA J J J (.hd ..) (nb rfl) J J ?_)
  refine zE<|sR<|?_
  refine sc (zC J J (PF.fn0 (afg (b:=false)) (.cons (aaP.2 rfl) .nil)) rfl ?_)
  rintro _ G1 _ hp
  obtain⟨p,rfl⟩:=afs hp
  refine sa J J<|zE<|aaI<|?_
  exact ac8 (css:=[_,_]) (.tmp rfl .nil) rfl _ (List.Perm.refl _) (List.Sublist.refl _) ⟨p,rfl,hp,rfl⟩
 |line base n s h0 hfb hl=>
  intro G rb sb lo lo2 _ hc
  have hbn:base<ns.length:=(bQ.1 h0).1
  simp only at hc
  obtain⟨z,hzi,hz⟩:=hes.get (i:=base) (d:=n.d) (by rw[dR,h0];rfl)
  obtain⟨x1,x2,x3,rfl,hzg⟩:=aBq hz
  refine FnM.intro func148 J J ntmps148 rfl ?_
  intro C _ _
  show St C _ [(0, .pointer (some ⟨rb,0,none⟩)),(1, .int .i64 (base:Int))] [⟨rb,[.slice xa ns.length xc, .slice (some ⟨sb,0,none⟩) ns.length ns.length, .int .i64 s.c, .bool s.b],_,false⟩,⟨sb,afU ns.length s.f,_,false⟩] _ _
  refine sR<|sa J J<|zE<|aaj<|aas<|sR<|sm J J<|sy (ab6 J J) rfl<|sm J J<|?_
  refine ace 12 rfl (fun hg=>absurd hg (by omega)) (fun hg=>?_)
  refine syg J J (aaS rfl) rfl<|syg J J (ab6 J J) rfl<|sy (abz J J) rfl<|sa J J<|zE<|?_
  refine aaL rfl (fun hc=>absurd hc (by omega)) (fun _=>?_)
  refine sR<|sm J J<|sy (acn J J) rfl<|sm J J<|?_
  refine ace 22 rfl (fun hg=>absurd hg (by omega)) (fun hg=>?_)
  refine syg J J (aaS rfl) rfl<|syg J J (aaS rfl) rfl<|syg J J (aaH rfl) rfl<|syg J J (aaU rfl) rfl<|syg J J (aaF J J) rfl<|syg J J (aeh rfl) rfl<|syg J J (ahL J J) rfl<|sy (abz J J) rfl<|sm J J<|?_
  refine ace 31 rfl (fun hg=>absurd hg (by omega)) (fun hg=>?_)
  refine syg J J (aaS rfl) rfl<|syg J J (aaH rfl) rfl<|syg J J (aaU rfl) rfl<|syg J J (aaF J J) rfl<|syg J J (aaS rfl) rfl<|syg J J (aa7 J J (by omega) (by omega)) rfl<|?_
  refine syg J J (aaF (v:= .bool false) rfl (by rw[aL,gW];exact ahd hbn hfb)) rfl<|sy (abz J J) rfl<|sa J J<|zE<|adp rfl<|zK<|?_
  refine sR<|sm J J<|sn J J<|sf J J<|aq2 J J J<|sm J J<|sy (aa7 J J (by omega) (by omega)) rfl<|?_
  refine sc (acI J J (.tl _ _ _ _ _ _ _ _ (.hd ..)) (by rw[aje,aL,gW];exact hbn) J J ?_)
  rw[aL,gW,anf]
  refine zE<|sR<|sm J J<|sn J J<|sf J J<|aq2 J J J<|sy (aaq J J) rfl<|sn J J<|sf J J<|?_
  refine sc (abA J J J (by repeat (first|exact .hd .. |apply agk.tl)) (nb rfl) J J ?_)
  rw[show(s.c:Int)+1=((s.c+1:Nat):Int) by omega]
  refine zE<|sR<|sm J J<|sn J J<|sf J J<|aq2 J J J<|sm J J<|sy (aAx (z:=⟨xa,ns.length,xc⟩) hx J J (by omega) (by show(base:Int)<(ns.length:Int);omega)) rfl<|?_
  rw[aL]
  refine sy (ayw (i:=base) hx rfl (by rw[hel];exact hbn) hzi) rfl<|?_
  refine sc (ads rfl ?_)
  intro b5
  refine sc (afm J J J (by repeat (first|exact .hd .. |apply agk.tl)) rfl (nb rfl) J J ?_)
  refine zE<|sR<|sf J J<|slo J J J<|?_
  refine sc (zC J J (PF.fn0 (aua (hs n (bX h0))) (.cons (hzg.up GL.le) .nil)) rfl ?_)
  rintro _ G6 _ hw
  rw[hl] at hw
  obtain⟨n1,d1,p1,n2,d2,p2,n3,d3,p3,rfl,hw⟩:=axw hw
  refine sm J J<|sx J J J<|sx J J J<|?_
  refine sc (ads rfl ?_)
  intro b6
  refine sc (afm J J J (by repeat (first|exact .hd .. |apply agk.tl)) rfl (nb rfl) J J ?_)
  refine sa J J<|zE<|aaj<|sR<|sm J J<|sy (ahO rfl) rfl<|zE<|abX rfl<|?_
  refine sR<|sm J J<|sn J J<|sf J J<|?_
  refine sc (abA J J J (by repeat (first|exact .hd .. |apply agk.tl)) (nb rfl) J J ?_)
  refine zE<|sR<|?_
  refine sc (zC J J (PF.fn0 (afg (b:=false)) (.cons (aaP.2 rfl) .nil)) rfl ?_)
  rintro _ G7 _ hp
  obtain⟨p,rfl⟩:=afs hp
  refine sa J J<|zE<|aaI<|?_
  exact ac8 (css:=[_,_]) (.tmp rfl .nil) rfl _ (iN (l₁:=[_,_]) (l₂:=[_,_])) (.cons_cons _ (.cons_cons _ (kL _))) ⟨p,rfl,hp,rfl⟩
 |node base n l s s2 s3 tx ty h0 hfb hl h1 h2 ih1 ih2=>
  intro G rb sb lo lo2 _ hc
  have hbn:base<ns.length:=(bQ.1 h0).1
  have hm1:=h1.mono
  have hm2:=h2.mono
  simp only at hm1
  obtain⟨z,hzi,hz⟩:=hes.get (i:=base) (d:=n.d) (by rw[dR,h0];rfl)
  obtain⟨x1,x2,x3,rfl,hzg⟩:=aBq hz
  refine FnM.intro func148 J J ntmps148 rfl ?_
  intro C _ _
  show St C _ [(0, .pointer (some ⟨rb,0,none⟩)),(1, .int .i64 (base:Int))] [⟨rb,[.slice xa ns.length xc, .slice (some ⟨sb,0,none⟩) ns.length ns.length, .int .i64 s.c, .bool s.b],_,false⟩,⟨sb,afU ns.length s.f,_,false⟩] _ _
  refine sR<|sa J J<|zE<|aaj<|aas<|sR<|sm J J<|sy (ab6 J J) rfl<|sm J J<|?_
  refine ace 12 rfl (fun hg=>absurd hg (by omega)) (fun hg=>?_)
  refine syg J J (aaS rfl) rfl<|syg J J (ab6 J J) rfl<|sy (abz J J) rfl<|sa J J<|zE<|?_
  refine aaL rfl (fun hc=>absurd hc (by omega)) (fun _=>?_)
  refine sR<|sm J J<|sy (acn J J) rfl<|sm J J<|?_
  refine ace 22 rfl (fun hg=>absurd hg (by omega)) (fun hg=>?_)
  refine syg J J (aaS rfl) rfl<|syg J J (aaS rfl) rfl<|syg J J (aaH rfl) rfl<|syg J J (aaU rfl) rfl<|syg J J (aaF J J) rfl<|syg J J (aeh rfl) rfl<|syg J J (ahL J J) rfl<|sy (abz J J) rfl<|sm J J<|?_
  refine ace 31 rfl (fun hg=>absurd hg (by omega)) (fun hg=>?_)
  refine syg J J (aaS rfl) rfl<|syg J J (aaH rfl) rfl<|syg J J (aaU rfl) rfl<|syg J J (aaF J J) rfl<|syg J J (aaS rfl) rfl<|syg J J (aa7 J J (by omega) (by omega)) rfl<|?_
  refine syg J J (aaF (v:= .bool false) rfl (by rw[aL,gW];exact ahd hbn hfb)) rfl<|sy (abz J J) rfl<|sa J J<|zE<|adp rfl<|zK<|?_
  refine sR<|sm J J<|sn J J<|sf J J<|aq2 J J J<|sm J J<|sy (aa7 J J (by omega) (by omega)) rfl<|?_
  refine sc (acI J J (.tl _ _ _ _ _ _ _ _ (.hd ..)) (by rw[aje,aL,gW];exact hbn) J J ?_)
  rw[aL,gW,anf]
  refine zE<|sR<|sm J J<|sn J J<|sf J J<|aq2 J J J<|sy (aaq J J) rfl<|sn J J<|sf J J<|?_
  refine sc (abA J J J (by repeat (first|exact .hd .. |apply agk.tl)) (nb rfl) J J ?_)
  rw[show(s.c:Int)+1=((s.c+1:Nat):Int) by omega]
  refine zE<|sR<|sm J J<|sn J J<|sf J J<|aq2 J J J<|sm J J<|sy (aAx (z:=⟨xa,ns.length,xc⟩) hx J J (by omega) (by show(base:Int)<(ns.length:Int);omega)) rfl<|?_
  rw[aL]
  refine sy (ayw (i:=base) hx rfl (by rw[hel];exact hbn) hzi) rfl<|?_
  refine sc (ads rfl ?_)
  intro b5
  refine sc (afm J J J (by repeat (first|exact .hd .. |apply agk.tl)) rfl (nb rfl) J J ?_)
  refine zE<|sR<|sf J J<|slo J J J<|?_
  refine sc (zC J J (PF.fn0 (aua (hs n (bX h0))) (.cons (hzg.up GL.le) .nil)) rfl ?_)
  rintro _ G6 _ hw
  rw[hl] at hw
  obtain⟨n1,d1,p1,n2,d2,p2,n3,d3,p3,rfl,hw'⟩:=axw hw
  replace hw:=hw' l rfl
  refine sm J J<|sx J J J<|sx J J J<|?_
  refine sc (ads rfl ?_)
  intro b6
  refine sc (afm J J J (by repeat (first|exact .hd .. |apply agk.tl)) rfl (nb rfl) J J ?_)
  refine sa J J<|zE<|aaj<|sR<|sm J J<|sy (ahO rfl) rfl<|zE<|adp rfl<|zK<|?_
  refine sR<|sm J J<|sf J J<|aq2 J J J<|?_
  have hrp:=ih1 (G:=G6) (rb:=rb) (sb:=sb) (lo:=false) (lo2:=false) (by omega)
  refine sc (aie J J (iN (l₁:=[_,_]) (l₂:=[_,_])) hrp rfl ?_)
  rintro _ css G7 _ _ ⟨q1,rfl,hp1,rfl⟩
  show St C _ _ [⟨rb,[.slice xa ns.length xc, .slice (some ⟨sb,0,none⟩) ns.length ns.length, .int .i64 s2.c, .bool s2.b],228,false⟩,⟨sb,afU ns.length s2.f,4,false⟩,⟨b6,[.int .i64 n1, .int .i64 d1, .pointer p1, .int .i64 n2, .int .i64 d2, .pointer p2, .int .i64 n3, .int .i64 d3, .pointer p3],181,true⟩,⟨b5,[.bool n.g.na, .slice x1.a x1.n x1.c, .bool n.g.nb, .slice x2.a x2.n x2.c, .bool n.g.nc, .slice x3.a x3.n x3.c, .int .i64 n.l, .int .i64 n.r],135,true⟩] _ _
  refine sa J J<|zE<|aaj<|?_
  refine drS [⟨b6,[.int .i64 n1, .int .i64 d1, .pointer p1, .int .i64 n2, .int .i64 d2, .pointer p2, .int .i64 n3, .int .i64 d3, .pointer p3],181,true⟩,⟨b5,[.bool n.g.na, .slice x1.a x1.n x1.c, .bool n.g.nb, .slice x2.a x2.n x2.c, .bool n.g.nc, .slice x3.a x3.n x3.c, .int .i64 n.l, .int .i64 n.r],135,true⟩] (fun _=>false) [(0,true),(1,true),(2,true),(3,true),(4,true),(5,false),(6,false),(7,true)] follows (by kernel_rfl)<|?_
  refine dL J J J J<|dM J J J<|dM J J J<|dF J J J<|dL1 J J J J<|?_
  have hrp:=ih2 (G:=G7) (rb:=rb) (sb:=sb) (lo:=false) (lo2:=false) hc
  refine dc J J (aie J J (M:=[_,_]) (rest:=[_,_]) (List.Perm.refl _) hrp rfl ?_)
  rintro _ css G8 _ _ ⟨q2,rfl,hp2,rfl⟩
  show St C _ _ [⟨rb,[.slice xa ns.length xc, .slice (some ⟨sb,0,none⟩) ns.length ns.length, .int .i64 s3.c, .bool s3.b],228,false⟩,⟨sb,afU ns.length s3.f,4,false⟩,⟨b6,[.int .i64 n1, .int .i64 d1, .pointer p1, .int .i64 n2, .int .i64 d2, .pointer p2, .int .i64 n3, .int .i64 d3, .pointer p3],181,true⟩,⟨b5,[.bool n.g.na, .slice x1.a x1.n x1.c, .bool n.g.nb, .slice x2.a x2.n x2.c, .bool n.g.nc, .slice x3.a x3.n x3.c, .int .i64 n.l, .int .i64 n.r],135,true⟩] _ _
  refine anN<|?_
  refine dc J J (zC J J (PF.fn0 (arJ (l:=l) (x:=tx) (y:=ty)) (.cons (hw.up GL.le) (.cons (hp1.up GL.le) (.cons hp2 .nil)))) rfl ?_)
  rintro _ G9 _ hp
  obtain⟨p,rfl⟩:=afs hp
  refine anN<|dA J J J<|dn<|aaI<|?_
  exact ac8 (css:=[_,_]) (.tmp rfl .nil) rfl _ (List.Perm.refl _) (.cons_cons _ (.cons_cons _ (kL _))) ⟨p,rfl,hp,rfl⟩
def rs0:RS:=⟨fun _=>false,0,false⟩
def ofD(ns:List RN)(t:Tr)(s:RS):DV:=if s.b=false∧s.c=ns.length then .tp [eU t,vB true] else .tp [.v (.pointer none),vB false]
def eRT(rt:Int)(ns:List RN):DV:= .ag [vI rt, .sl (ns.map RN.d)]
theorem aGi{ns:List RN}{rt:Int}{t:Tr}{s:RS}(hs: ∀n∈ns,n.g.sm)(hn:ns.length≤65536)(h:RR ns rt rs0 t s)(hc:s.c≤1000000):PF GB prog 74 [eRT rt ns] (ofD ns t s):=by
 intro G vs _ hv
 obtain⟨v0,m,rfl,h0,hm⟩:=aab.1 hv
 rw[aaG] at hm;subst hm
 obtain⟨m,rfl,g⟩:=abF.1 h0
 obtain⟨v1,m,rfl,h1,hm⟩:=aab.1 g
 obtain⟨v2,m,rfl,h2,hm⟩:=aab.1 hm
 rw[aaG] at hm;subst hm
 obtain⟨s0,x,es,rfl,hsl,hes⟩:=adm.1 h2
 rw[aaP.1 h1]
 have hel:=hes.len
 rw[aJ] at hel
 have hlen:=hsl.len
 rw[hel] at hlen
 have hx:aFE x ns G:=by
  refine⟨es,?_,hes⟩
  rcases afd (s:=8) hsl hes (fun d hd=>by obtain⟨n,_,rfl⟩:=bL.1 hd;exact⟨rfl,rfl⟩) with e|e
  ·exact⟨hsl.len,hsl.cap, .inl e⟩
  ·rw[e] at hsl;exact hsl
 obtain⟨xa,xn,xc⟩:=x
 simp only[] at hlen
 subst hlen
 show Fn _ _ [.agg ⟨[.int .i64 rt, .slice xa ns.length xc]⟩] _ _
 refine Fn.intro func74 J J ntmps74 rfl ?_
 intro C _ _
 refine sR<|?_
 refine sc (as3 J J ?_)
 intro b1
 refine sa J J<|sa J J<|zE<|aaj<|sR<|sf J J<|aq2 J J J<|ac7 J J<|sy (af4 J J) rfl<|zE<|?_
 refine aaL rfl (fun hc=>absurd hc (by omega)) (fun _=>?_)
 refine zK<|aaj<|dr (fun _=>false) [(0,true),(1,true),(2,true),(3,true),(4,true),(5,false),(6,true),(7,false),(8,true)] follows (by kernel_rfl)<|dF J J J<|?_
 refine dL1 J J J J<|dF J J J<|dL1 J J J J<|dy rfl (fun _=>aeh rfl) J J<|?_
 refine dc J J (aeO J J (by omega) (by omega) (by omega) (by rfl) rfl ?_)
 intro b2
 rw[aL,aor]
 refine anN<|dy rfl (fun _=>ah7 rfl) J J<|?_
 refine dc J J (as3 J J ?_)
 intro b3
 refine anN<|dA J J J<|dn<|sR<|sm J J<|sf J J<|aq2 J J J<|?_
 have hrp:=ayV hx hs (by omega) h (G:=G) (rb:=b3) (sb:=b2) (lo:=true) (lo2:=true) hc
 refine sc (aie J J (M:=[_,_]) (rest:=[_]) (List.Perm.refl _) hrp rfl ?_)
 rintro _ css G4 _ _ ⟨p,rfl,hp,rfl⟩
 show St C _ _ [⟨b3,[.slice xa ns.length xc, .slice (some ⟨b2,0,none⟩) ns.length ns.length, .int .i64 s.c, .bool s.b],228,true⟩,⟨b2,afU ns.length s.f,4,true⟩,⟨b1,[.int .i64 rt, .slice xa ns.length xc],42,true⟩] _ _
 refine sa J J<|zE<|aaj<|aaj<|dr (fun _=>false) [(0,true),(1,true),(2,true),(3,true),(4,true),(5,true),(6,true),(7,true),(8,true),(9,true),(10,true),(11,true),(12,true),(13,true)] follows (by kernel_rfl)<|?_
 obtain⟨sf_,sc_,sb_⟩:=s
 cases sb_
 case true=>
  refine dM J J J<|dy rfl (fun _=>aaH rfl) J J<|dF J J J<|dL1 J J J J<|dM J J J<|?_
  refine dys J J J J J J<|dys J J J J J J<|dys J J J J J J<|dys J J J J J J<|dys J J J J J J<|dys J J J J J J<|?_
  refine dys J J J J J J<|dys J J J J J J<|dy rfl (fun _=>ac9 J J) J J<|dn<|abX rfl<|?_
  refine sR<|sa J J<|sa J J<|zE<|aaI<|?_
  refine zD (.tmp rfl (.tmp rfl .nil)) ?_
  rw[ofD,if_neg (fun e=>by cases e.1)]
  exact adL.2 ⟨_,rfl, .cons (aaP.2 rfl) (.cons (aaP.2 rfl) .nil)⟩
 refine dM J J J<|dy rfl (fun _=>aaH rfl) J J<|dF J J J<|dL1 J J J J<|dM J J J<|?_
 refine dyg J J J J (fun _=>aaS rfl) rfl<|dyg J J J J (fun _=>aaH rfl) rfl<|dyg J J J J (fun _=>aaU rfl) rfl<|dyg J J J J (fun _=>aaF J J) rfl<|?_
 refine dyg J J J J (fun _=>aaU rfl) rfl<|dyg J J J J (fun _=>aaF J J) rfl<|dyg J J J J (fun _=>aeh rfl) rfl<|dyg J J J J (fun _=>ahK J J) rfl<|?_
 refine dy rfl (fun _=>abz J J) J J<|dn<|?_
 refine aaL rfl (fun hc=>?_) (fun hc=>?_) -- slot 35
 ·refine sR<|sa J J<|sa J J<|zE<|aaI<|?_
  refine zD (.tmp rfl (.tmp rfl .nil)) ?_
  rw[ofD,if_neg (fun e=>hc (by have:=e.2;simp only at this;omega))]
  exact adL.2 ⟨_,rfl, .cons (aaP.2 rfl) (.cons (aaP.2 rfl) .nil)⟩
 refine zK<|sR<|sm J J<|sa J J<|sa J J<|zE<|aaI<|?_
 refine zD (.tmp rfl (.tmp rfl .nil)) ?_
 rw[ofD,if_pos ⟨rfl,by have h9:=hc;simp at h9;show sc_=_;omega⟩]
 exact adL.2 ⟨_,rfl, .cons hp (.cons (aaP.2 rfl) .nil)⟩
end Go.Sx
end
