import Derived.Test.YtmbbejdimfkkcaaGreatDoorMo11
import Derived.WalkKit
import Derived.LaidEql
import Derived.Stop.Asserts
import Derived.RowKitTokens
set_option linter.all false
set_option maxHeartbeats 2000000
set_option maxRecDepth 100000
section
namespace Go.Sx
open Go Go.Proofs Tryz
variable {GB:Gh}
def axm{es:List Int}{i:Nat}(h:i<es.length):(es.map vI)[(i:Int).toNat]? =some (vI (es.getD i 0)):=by simp[h]
def SG{es:List Int}{i:Nat}(h:i<es.length:=by omega):qc (es.drop i)=if es.getD i 0≠0 then es.getD i 0 else qc (es.drop (i+1)):=by
 rw[bK h,qc,aV,aZ h];rfl
def aMT{es:List Int}(hn:es.length<=1000000):PF GB prog 299 [.sl (es.map vI)] (vI (qc es)):=by
 have hel:(es.map vI).length=es.length:=by simp
 refine fn (fu:=⟨15⟩) func299 J J ntmps299 J J (fun C=>?_);refine aj 7 (.d (vI (es.length:Nat))) J (by rw[hel]<;>rfl)<|gx J<|lp (X:=Nat) (fun i=>[(8, .d (vI (i:Nat)))]) (fun i=>[]) (fun i=>i<=es.length/\qc es=qc (es.drop i)) (fun i=>es.length-i) 0 J ⟨aN _,J⟩ (fun _=>J) (fun i hk=>?_);obtain⟨h1,h2⟩:=hk;refine br J J J (fun hc9=>?_) (fun hc9=>?_)
 .
  refine ix _ J (axm we) J<|br J J J (fun hc14=>?_) (fun hc14=>?_)
  .
   exact rz J (by rw[h2,SG,if_pos hc14];rfl)
  .
   exact at_ (i+1) ⟨⟨we,by rw[h2,SG,if_neg hc14]⟩,we⟩
 .
  exact rz J (by rw[h2,jQ we];rfl)
def Ic(l m:aa):Int:=qc [bE l.a m.a,bE l.b m.b,bE l.c m.c]
def aAr(l m:aa):Ic l m=0↔l=m:=by
 unfold Ic qc qc qc qc;have ha:=vG (l.a:Rat) m.a;have hb:=vG (l.b:Rat) m.b;have hc:=vG (l.c:Rat) m.c;rw[oK] at ha hb hc;constructor
 .intro h
  repeat' (split at h<;>try contradiction)
  all_goals exact aa.ext'
 .rintro rfl
  rw[if_neg (by simp[ha.2 J]),if_neg (by simp[hb.2 J]),if_neg (by simp[hc.2 J])]
def Yu{l m:aa}[hl:LB l][hm:LB m]:PF GB prog 290 [de l,de m] (vI (Ic l m)):=by
 refine fn func290 J J ntmps290 J J (fun C=>?_);refine cl J (yx (p:=(l.a:Rat)) (q:=(m.a:Rat))) J<|cl J (yx (p:=(l.b:Rat)) (q:=(m.b:Rat))) J<|cl J (yx (p:=(l.c:Rat)) (q:=(m.c:Rat))) J<|rf J J<|cl J (aMT (es:=[bE l.a m.a,bE l.b m.b,bE l.c m.c]) (nb J)) J<|rz J J
def aA0{l m:aa}[hl:LB l][hm:LB m]:PF GB prog 276 [de l,de m] (vB (decide (l=m))):=by
 refine fn func276 J J ntmps276 J J (fun C=>?_);refine cl J (Yu (l:=l) (m:=m)) J<|rz J (by show DV.v (.bool (decide _))= .v (.bool _);congr 2;exact decide_eq_decide.2 (aAr l m))
def aHM{l:aa}[hl:LB l]:PF GB prog 224 [de l] (de l.rev):=by
 refine fn func224 J J ntmps224 J J (fun C=>?_);refine cl J (qg (q:=(l.a:Rat))) J<|cl J (qg (q:=(l.b:Rat))) J<|cl J (qg (q:=(l.c:Rat))) J<|rz J (by unfold de aa.rev;simp only[gW];rfl)
def aHI{l:aa}[hl:LB l]:PF GB prog 107 [de l] (eL l):=by
 refine fn func107 J J ntmps107 J J (fun C=>?_);refine cl J (uF (q:=(l.a:Rat))) J<|cl J (uF (q:=(l.b:Rat))) J<|cl J (uF (q:=(l.c:Rat))) J<|rz J J
theorem oms{p:Prop}(h:p:=by unfold ah.half;(repeat' split)<;>first|rfl|(exfalso;omega)):p:=h
def U5{p:ah}{i:Nat}[hp:aD p i](hi:i<=10000000:=by decide):PF GB prog 279 [eZ p] (vI p.half):=by
 refine fn func279 J J ntmps279 J J (fun C=>?_);refine cl J (nv (q:=p.y) we) J<|cs 10 J J J (fun hg10=>?_) (fun hg10=>?_)
 .
  exact rz J oms
 .
  refine cs 13 J J J (fun hg13=>?_) (fun hg13=>?_)
  .
   refine cl J (nv (q:=p.x) we) J<|br J J J (fun hc7=>?_) (fun hc7=>?_)
   .
    exact rz J oms
   .
    refine cs 23 J J J (fun hg23=>?_) (fun hg23=>?_)
    .
     exact rz J oms
    .
     refine cl J (nv (q:=p.x) we) J<|br J J J (fun hc20=>?_) (fun hc20=>?_)
     .
      exact rz J oms
     .
      exact rz J oms
  .
   refine cs 23 J J J (fun hg23=>?_) (fun hg23=>?_)
   .
    exact rz J oms
   .
    refine cl J (nv (q:=p.x) we) J<|br J J J (fun hc20=>?_) (fun hc20=>?_)
    .
     exact rz J oms
    .
     exact rz J oms
def aE1{u v:ah}{i j:Nat}[hp:aD u i][hq:aD v j](hi:i<=10000000:=by decide)(hj:j<=10000000:=by decide):PF GB prog 251 [eZ u,eZ v] (vI (gr u v)):=by
 refine fn func251 J J ntmps251 J J (fun C=>?_);refine cl J (U5 (p:=u) hi) J<|cl J (U5 (p:=v) hj) J<|br J J J (fun hc11=>?_) (fun hc11=>?_)
 .
  exact rz J (by unfold gr;rw[if_pos hc11];rfl)
 .
  refine br J J J (fun hc15=>?_) (fun hc15=>?_)
  .
   exact rz J (by unfold gr;rw[if_neg hc11,if_pos hc15];rfl)
  .
   refine cl J (FA (p:=u) (q:=v) we we) J<|cl (fu:=⟨0⟩) J (nv (q:=u.cross v) we) J<|?_;have hs:=Int.sign_trichotomy (u.cross v).num;refine gx J<|rz J (by unfold gr;rw[if_neg hc11,if_neg hc15];rfl)
def Zg{m:Int}:fA (dg m.natAbs)/\(decide (m<0)=true->0<(dg m.natAbs).length):=⟨(gh _).2.2,fun h=>by
 have:0<m.natAbs:=by have:=of_decide_eq_true h;omega
 exact vH.2 this⟩
def Gb{m:Int}{i:Nat}[h:BI m i](hi:i<=1000000000:=by decide):PF GB prog 215 [eI m] (.v (.bool true)):=(azn (neg:=decide (m<0)) (ds:=dg m.natAbs) (gh _).2.1 (by have:=ju (a:=m.natAbs) hi;omega)).to (by unfold vB;rw[decide_eq_true Zg])
def N9{l:aa}(h:l.ok):rgcd (rgcd (l.a:Rat) (l.b:Rat)) (l.c:Rat)=((1:Int):Rat):=by
 rw[Mx,Mx];have:=h.2;simp only[fT];rw[this];rfl
instance BQ.rgcd (p q:Rat) (i j:Nat) [h:BQ p i] [k:BQ q j]:BQ (rgcd p q) (i+j+(i+j)):=by
 unfold Sx.rgcd;refine Df (jR (mG p) (mG q)) ?_ ?_
 .rw[fT]
  have h1:=lI h.hn k.hd;have h2:=lI k.hn h.hd;rw[lJ j i] at h2;exact Qj h1 h2
 .have h1:=lI h.hd k.hd
  have:2^(i+j)<=2^(i+j+(i+j)):=bR oma we;omega
theorem okq{p:Prop}(h:p:=by first|rfl|(show some (decide _)=some false;rw[decide_eq_false (fun e=>ho.1 ⟨ha,cM.1 e⟩)])):p:=h
theorem okN{p:Prop}(h:p:=by show some (!decide _)=some false;rw[N9 ho,decide_eq_true J];rfl):p:=h
def aJV{l:aa}[hl:LB l](ho:l.ok):PF GB prog 157 [eL l] (.tp [de l,vB true]):=by
 refine fn func157 J J ntmps157 J J (fun C=>?_);refine cl (fu:=⟨0⟩) J (Gb (m:=l.a)) J<|cv J J J<|cl (fu:=⟨0⟩) J (Gb (m:=l.b)) J<|cv J J J<|cl (fu:=⟨0⟩) J (Gb (m:=l.c)) J<|cv J J J<|cl J (KD (m:=l.a)) J<|cl J (KD (m:=l.b)) J<|cl J (KD (m:=l.c)) J<|cl (fu:=⟨0⟩) J (Dj (q:=(l.a:Rat))) J<|jP (fu2:=⟨4⟩) J J J J (fun hg35=>?_) (fun hg35=>?_)
 .
  have ha:l.a=0:=cM.1 hg35;refine cl (fu:=⟨1⟩) J (Dj (q:=(l.b:Rat))) J<|cv J okq J<|cl J (vU (p:=(l.a:Rat)) (q:=(l.b:Rat))) J<|cl J (vU (p:=rgcd l.a l.b) (q:=(l.c:Rat))) J<|cl J (yw (m:=1)) J<|cl (fu:=⟨0⟩) J (Fh (p:=rgcd (rgcd l.a l.b) l.c) (q:=((1:Int):Rat))) J<|cv J okN J<|rz J J
 .
  refine cv J okq J<|cl J (vU (p:=(l.a:Rat)) (q:=(l.b:Rat))) J<|cl J (vU (p:=rgcd l.a l.b) (q:=(l.c:Rat))) J<|cl J (yw (m:=1)) J<|cl (fu:=⟨0⟩) J (Fh (p:=rgcd (rgcd l.a l.b) l.c) (q:=((1:Int):Rat))) J<|cv J okN J<|rz J J
def dq(f:bD):DV:= .ag [vI (dP (f.l.a:Rat)),vI (dO (f.l.a:Rat)),dC (f.l.a:Rat),vI (dP (f.l.b:Rat)),vI (dO (f.l.b:Rat)),dC (f.l.b:Rat),vI (dP (f.l.c:Rat)),vI (dO (f.l.c:Rat)),dC (f.l.c:Rat),vI (dP f.v.lo),vI (dO f.v.lo),dC f.v.lo,vI (dP f.v.hi),vI (dO f.v.hi),dC f.v.hi, .v (.bool f.v.nl), .v (.bool f.v.nh)]
structure tH (v:ar):Prop where
 z:ir v
 lo:BQ v.lo 1200
 hi:BQ v.hi 1200
structure R3 (s:bD):Prop where
 lb:LB s.l
 ok:s.l.ok
 v:tH s.v
abbrev eE (c:ao):Prop:= ∀s∈c,R3 s
def uC{α:Type}(f:α->DV)(l:List α):(l.map f).length=l.length:=by simp
def tH.all:tH ar.all:=⟨⟨fun _=>J,fun _=>J⟩,BQ.z1.mono oma,BQ.z1.mono oma⟩
def tH.cut{l m:aa}{v:ar}[LB l][LB m](hn:l.Ne)(h:tH v):tH (l.cutV v m):=by
 by_cases h0:crossI l m=0
 .rw[(B6 (v:=v) h0).1];exact h
 .obtain⟨u1,_,u3,u4,u5⟩:=I7 (v:=v) hn h.z h.lo h.hi h0
  rw[u1];exact⟨u3,u4,u5⟩
def K6(o:Option ar):ar:=o.getD ⟨0,0,false,false⟩
def aIO(G:Gh)(y:Value)(k:Is G (.tp [.ag [vI 0,vI 0, .v (.pointer none),vI 0,vI 0, .v (.pointer none), .v (.bool false), .v (.bool false)], .v (.bool false)]) y):Is G (.tp [eW (K6 none),vB false]) y:=by
 obtain⟨m,rfl,g⟩:=mm.1 k;exact mm.2 ⟨m,J,Um (fun y hy=>by
  obtain⟨l,rfl,g⟩:=eH.1 hy;exact eH.2 ⟨l,J,El (Lx [vI 0,vI 0, .v (.pointer none)] g)⟩) g⟩
def cp{α:Type}{f:α->DV}{l:List α}{i:Nat}{s:α}(h:l[i]? =some s):(l.map f)[(i:Int).toNat]? =some (f s):=by simp[h]
def Gr{α:Type}{l:List α}{k:Nat}{s:α}(h:l[k]? =some s):l.drop k=s::l.drop (k+1):=by
 obtain⟨h1,h2⟩:=aR.1 h;rw[bK h1,h2]
def OP{l:aa}{c:ao}{v:ar}{k:Nat}{s:bD}(h:c[k]? =some s):n9 l (c.drop k) v=if l.cutB v s.l then n9 l (c.drop (k+1)) (l.cutV v s.l) else none:=by
 rw[Gr h];rfl
def JA{l:aa}{c:ao}{k:Nat}{s:bD}(h:c[k]? =some s):pj l (c.drop k)=if py l s≠0 then py l s else if s.l=l then 1 else pj l (c.drop (k+1)):=by
 rw[Gr h];rfl
instance BQ.sample (v:ar) [h1:BQ v.lo 1200] [h2:BQ v.hi 1200]:BQ v.sample 2500:=by
 unfold ar.sample;split
 .exact BQ.mono (k:=1) ⟨oma,oma⟩
 .split
  .exact BQ.mono (inferInstance:BQ (v.hi-((1:Int):Rat)) _)
  .split
   .exact BQ.mono (inferInstance:BQ (v.lo+((1:Int):Rat)) _)
   .exact BQ.mono (inferInstance:BQ ((v.lo+v.hi)*mkRat 1 2) _)
def OD{c:ao}{l:aa}[hl:LB l](hlo:l.ok)(hc:eE c)(hn:c.length<=1000000):PF GB prog 246 [.sl (c.map dq),de l] (.tp [eW (K6 (kw c l)),vB (kw c l).isSome]):=by
 have hm:=uC dq c;refine fn func246 J J ntmps246 J J (fun C=>?_);refine cl (fu:=⟨10⟩) J aKL J<|aj 12 (.d (vI (c.length:Nat))) J (by rw[uC]<;>rfl)<|gx J<|lp (X:=ar×Nat) (fun⟨v,k⟩=>[(13, .d (vI (k:Nat))),(6, .ov 6 0)]) (fun⟨v,k⟩=>[(6,some (.o 207 [.d (vI (dP v.lo)), .d (vI (dO v.lo)), .d (dC v.lo), .d (vI (dP v.hi)), .d (vI (dO v.hi)), .d (dC v.hi), .d (.v (.bool v.nl)), .d (.v (.bool v.nh))] true))]) (fun⟨v,k⟩=>k<=c.length/\tH v/\n9 l (c.drop k) v=kw c l) (fun⟨v,k⟩=>c.length-k) (ar.all,0) J ⟨aN _, .all,J⟩ (fun _=>J) (fun⟨v,k⟩ hk=>?_);dsimp only at hk⊢;obtain⟨h1,h2,h3⟩:=hk;haveI:=h2.lo;haveI:=h2.hi;refine br J J J (fun hc14=>?_) (fun hc14=>?_)
 .
  obtain⟨s,hs0⟩: ∃s,c[k]? =some s:=⟨_,aZ we⟩;have hs:=hc s (aK hs0);haveI:=hs.lb;refine ix _ J (cp hs0) J<|cl (fu:=⟨0⟩) J (O0 (l:=l) (m:=s.l) (v:=v)) J<|?_;generalize hw:l.cutV v s.l=w;generalize hb:l.cutB v s.l=b;refine gx J<|bb J J J (fun hc26=>?_) (fun hc26=>?_)
  .
   exact kg J (by rw[<-h3,OP hs0,hb,if_neg ozi];exact aIO)
  .
   exact at_ (w,k+1) (by dsimp only;exact⟨⟨we,hw▸h2.cut hlo.1,by rw[<-h3,OP hs0,hb,hw,if_pos ozi]⟩,we⟩)
 .
  exact rz J (by rw[<-h3,jQ we];rfl)
def aDG{c:ao}{l:aa}[hl:LB l](hlo:l.ok)(hc:eE c)(hn:c.length<=1000000):PF GB prog 247 [.sl (c.map dq),de l] (vI (yi c l)):=by
 have hm:=uC dq c;refine fn func247 J J ntmps247 J J (fun C=>?_);refine cl J (OD (c:=c) (l:=l) hlo hc hn) J<|bb (fu2:=⟨7⟩) J J J (fun hc16=>?_) (fun hc16=>?_)
 .
  exact rz J (by unfold yi;rw[if_pos hc16];rfl)
 .
  have hp:yi c l=pj l c:=by unfold yi;rw[if_neg (by simp[hc16])]
  refine aj 18 (.d (vI (c.length:Nat))) J (by rw[uC]<;>rfl)<|gx J<|lp (X:=Nat) (fun k=>[(19, .d (vI (k:Nat)))]) (fun k=>[]) (fun k=>k<=c.length/\pj l (c.drop k)=pj l c) (fun k=>c.length-k) 0 J ⟨aN _,J⟩ (fun _=>J) (fun k hk=>?_);obtain⟨h1,h2⟩:=hk;refine br J J J (fun hc20=>?_) (fun hc20=>?_)
  .
   obtain⟨s,hs0⟩: ∃s,c[k]? =some s:=⟨_,aZ we⟩;have hs:=hc s (aK hs0);haveI:=hs.lb;haveI:=hs.v.lo;haveI:=hs.v.hi;haveI:=BQ.sample s.v;refine ix _ J (cp hs0) J<|cl (fu:=⟨0⟩) J (NT (v:=s.v)) J<|?_;generalize ht:s.v.sample=t at*;refine gx J<|cl J (VB (l:=s.l) (t:=t)) J<|cl J (aFW (l:=l) (p:=s.l.at t)) J<|br J J J (fun hc32=>?_) (fun hc32=>?_)
   .
    have hsd:py l s=(l.value (s.l.at t)).num.sign:=by unfold py;rw[ht]
    exact rz J (by rw[hp,<-h2,JA hs0,hsd,if_pos hc32];rfl)
   .
    refine cl J (aA0 (l:=s.l) (m:=l)) J<|bd J J J (fun hc37=>?_) (fun hc37=>?_)
    .
     have hsd:py l s=(l.value (s.l.at t)).num.sign:=by unfold py;rw[ht]
     exact rz J (by rw[hp,<-h2,JA hs0,hsd,if_neg hc32,if_pos hc37];rfl)
    .
     have hsd:py l s=(l.value (s.l.at t)).num.sign:=by unfold py;rw[ht]
     exact at_ (k+1) ⟨⟨we,by rw[<-h2,JA hs0,hsd,if_neg hc32,if_neg hc37]⟩,we⟩
  .
   exact rz J (by rw[hp,<-h2,jQ we];rfl)
def X9{vs rest:List Value}(h: ∀v∈vs,(aO v).length=17){i:Nat}(hi:i<=vs.length):cF (aI vs++rest) (i*17) ((vs.length-i)*17)=some (aI (vs.drop i)):=by
 have hl:=fp vs h;have hd:(aI (vs.drop i)).length=(vs.length-i)*17:=by
  rw[fp (s:=17) _ (fun v hv=>h v (iZ hv)),gM]
 rw[mi _ _ _ okQ];congr 1;rw[lU we,F' vs i h hi,gT we,bM we]
def auG{vs rest vcs:List Value}(h: ∀v∈vs,(aO v).length=17)(hv:vcs.length=17){i:Nat}(hi:i<vs.length)(hr:17<=rest.length):
  cH (cH (aI vs++rest) ((i+1)*17) (aI (vs.drop i))) (i*17) vcs=aI (vs.take i)++vcs++aI (vs.drop i)++rest.drop 17:=by
 have hl:=fp vs h;have hd:(aI (vs.drop i)).length=(vs.length-i)*17:=by
  rw[fp (s:=17) _ (fun v hv=>h v (iZ hv)),gM]
 have ht:(aI (vs.take i)).length=i*17:=by
  rw[fp (s:=17) _ (fun v hv=>h v (eK hv)),bL,kW we]
 rw[rO (aI (vs.drop i)) (aI vs++rest) _ oky];rw[rO vcs _ _ (by simp only[aY,bL,gM];omega)];have e1:(aI vs++rest).drop ((i+1)*17+(aI (vs.drop i)).length)=rest.drop 17:=by
  rw[hd,show(i+1)*17+(vs.length-i)*17=(aI vs).length+17 by omega,nU,iN we,kV];congr 1;omega
 have e2:((aI vs++rest).take ((i+1)*17)++aI (vs.drop i)++rest.drop 17).take (i*17)=aI (vs.take i):=by
  rw[dT,gT (by simp only[bL,aY];omega),List.take_take,kW we,gT we,JM vs i h we]
 have e3:((aI vs++rest).take ((i+1)*17)++aI (vs.drop i)++rest.drop 17).drop (i*17+vcs.length)=aI (vs.drop i)++rest.drop 17:=by
  rw[hv,dT,show i*17+17=((aI vs++rest).take ((i+1)*17)).length by simp only[bL,aY];omega,List.drop_left]
 rw[e1,e2,e3];simp[dT]
def aug{vs rest vcs:List Value}(h: ∀v∈vs,(aO v).length=17)(hv:vcs.length=17)(hr:17<=rest.length):cH (aI vs++rest) (vs.length*17) vcs=aI vs++vcs++rest.drop 17:=by
 have hl:=fp vs h;rw[rO _ _ _ okQ,hv,<-hl,List.take_left,nU];simp
def amJ{G:Gh}{b bv cap i c2:Nat}{vs rest vcs r2:List Value}{lo lo2:Bool}(hvs: ∀v∈vs,(aO v).length=17)(hfl: ∀v∈vs,∀c∈aO v,flat c=true)(hv:vcs.length=17)(hvf: ∀c∈vcs,flat c=true)
  (hcap:vs.length*17+rest.length=cap*17)(hroom:vs.length+1<=cap)(hi:i<=vs.length)(hb:vs.length<=1125899906842624):
  kD prog 252 [.slice (some ⟨b,0,none⟩) vs.length cap, .int .i64 i, .slice (some ⟨bv,0,none⟩) 1 c2] [⟨b,aI vs++rest,209,lo⟩,⟨bv,vcs++r2,209,lo2⟩] G
   (fun u css _=>u= .slice (some ⟨b,0,none⟩) (vs.length+1) cap/\css=[aI (vs.take i)++vcs++aI (vs.drop i)++rest.drop 17,vcs++r2]):=by
 have hL:(aI vs++rest).length=cap*17:=by rw[aY,fp vs hvs];exact hcap
 have hr:17<=rest.length:=by omega
 have hD:(aI (vs.drop i)).length=(vs.length-i)*17:=by
  rw[fp (s:=17) _ (fun v hv=>hvs v (iZ hv)),gM]
 have hDf: ∀c∈aI (vs.drop i),flat c=true:=fun c hc=>by
  obtain⟨l,hl,hcl⟩:=List.mem_flatten.1 hc;obtain⟨v,hv,rfl⟩:=aU.1 hl;exact hfl v (iZ hv) c hcl
 have hvt:cF (vcs++r2) 0 (1*17)=some vcs:=by rw[mi _ _ _ oky,iS,gT we,bM we]
 refine kD.intro func252 J J ntmps252 J ?_;intro C _ _;show St C _ _ [⟨b,aI vs++rest,209,false⟩,⟨bv,vcs++r2,209,false⟩] _ _;refine azS (fun hne=>?_);simp only[] at hne;refine sR<|sa J J<|zE<|sR<|sm J J<|sm J J<|sy (Lo J J) J<|zE<|sR<|?_;refine sm J J<|uB J J<|sa J J<|zE<|fw<|sR<|sm J J<|sy (mn J J) J<|zE<|s5 J<|?_;refine zK<|sR<|sm J J<|uB J J<|sa J J<|zE<|fw<|sR<|sm J J<|sm J J<|sy (mn J J) J<|zE<|?_;refine xj J (fun hc=>?_) (fun hc=>?_) -- slot 22
 .have hin:i=vs.length:=by omega
  subst hin;refine sR<|sm J J<|sm J J<|?_;refine sc (Qm (s:=17) (m:=1) (ys:=vcs) J J (.hd ..) hL (Ao inferInstance hvt) we hvf hroom J ?_);refine sa J J<|zE<|lD<|?_;refine t6 (css:=[cH (aI vs++rest) (vs.length*17) vcs,vcs++r2]) (.tmp J .nil) J _ (List.Perm.refl _) (List.Sublist.refl _) ⟨J,?_⟩;rw[aug hvs hv hr,cN,fL];simp[aI]
 have hin:i<vs.length:=by omega
 have hn1:((vs.length:Int)+((1:Nat):Int)).toNat=vs.length+1:=by omega
 have ht1:((i:Int)+((1:Nat):Int)).toNat=i+1:=by omega
 refine zK<|fw<|sR<|sm J J<|sm J J<|sy (Aa J J) J<|sm J J<|?_;refine sy (aH6 J) J<|sy (CV J J) J<|zE<|?_;refine xj J (fun hc2=>?_) (fun hc2=>?_) -- slot 31
 .exact absurd hc2 we
 refine zK<|sR<|sm J J<|sm J J<|sm J J<|sy (Aa J J) J<|sy (Hl J J) J<|?_;rw[hn1];refine sa J J<|zE<|fw<|sR<|sm J J<|sm J J<|sm J J<|sm J J<|sy (Aa J J) J<|sy (D8 J J) J<|?_;refine sy (aqP (tS:=133) (tR:=4) func280 omd omd omd omd J J (Ne.symm hne) (fun h=>by rw[h] at hL;simp at hL;omega)) J<|?_;refine sy (uc J) J<|zE<|uz J<|?_;refine fw<|dr0 (b:=b) (fun _=>false) [(0,true),(1,true),(2,true),(3,true),(4,true),(5,true),(6,true),(7,true),(8,false)] follows (.hd ..) omd<|dM J J J<|?_;refine dM J J J<|dM J J J<|dy J (fun _=>Aa J J we we) J J<|dy J (fun _=>D8 J J) J J<|?_;refine dM J J J<|dM J J J<|dy J (fun _=>D8 J J) J J<|?_;rw[ht1,cK,fX,fX];refine dc J J (PH (s:=17) (m:=vs.length-i) (ys:=aI (vs.drop i)) J J (by show min _ _=_;omega) (Ao inferInstance (X9 hvs hi)) hDf (by rw[hD,hL];omega) (.hd ..) J ?_);refine mA<|dn<|sR<|sm J J<|sm J J<|sy (D8 J J) J<|sm J J<|?_;rw[cK,fX];refine sc (PH (s:=17) (m:=1) (ys:=vcs) J J (by show min _ _=_;omega) (Ao inferInstance hvt) hvf (by rw[Da,hL,hv];omega) (.hd ..) J ?_);refine zE<|sR<|sm J J<|sa J J<|zE<|lD<|?_;refine t6 (css:=[cH (cH (aI vs++rest) ((i+1)*17) (aI (vs.drop i))) (i*17) vcs,vcs++r2]) (.tmp J .nil) J _ (List.Perm.refl _) (List.Sublist.refl _) ⟨J,?_⟩;rw[auG hvs hv hin hr]
def kD.toO{P:Program}{f:FuncId}{vs:List Value}{M:List aA}{G:Gh}{K:Value->List (List Value)->Gh->Prop}{K':Value->List aA->Gh->Prop}(h:kD P f vs M G K)(hk: ∀v css G',b7 G G'->css.length=M.length->K v css G'-> ∃o,o.Sublist (k8 (asB M) css)/\K' v o G'):iD P f vs M G K':=
 ⟨h.able,fun w hw=>(h.run w hw).mono fun _ _ ⟨v,css,G',he,hl,hh,hK⟩=>let⟨o,h1,h2⟩:=hk v css G' hh.gle hl hK;⟨v,o,G',he,hh.drop h1,h2⟩⟩
def Ns(c:ao):cO 17 (c.map dq):=fun d hd=>by
 obtain⟨f,_,rfl⟩:=aU.1 hd;exact⟨rfl,rfl⟩
def OL{G:Gh}{s:Nat}{ds:List DV}{vs:List Value}(hk:cO s ds)(h:IsLs G ds vs): ∀v∈vs,∀c∈aO v,flat c=true:=fun v hv=>by
 obtain⟨d,hd,h3⟩:=h.all v hv;exact(h3.cells (hk d hd).1).2
def ZX{c:ao}{x:bD}{i cap:Nat}(hi:i<=c.length)(hc:c.length+1<=cap)(hn:c.length<=1000000):PI GB prog 252 (i:Nat) 17 209 209 (c.map dq) (dq x) cap ((c.take i++x::c.drop i).map dq):=by
 intro G w w2 B B2 _ hB hcap hB2;obtain⟨vs,q1,q2,q3,_⟩:=hB;obtain⟨us,u1,u2,u3,_⟩:=hB2;dsimp only at q1 q2 q3 u1 u2 u3;have hl:=q2.len;rw[aX] at hl;obtain⟨v,m,rfl,hv,hm⟩:=bA.1 u2
 cases fh.1 hm
 rcases q1 with⟨_,e,_⟩|⟨b,rest,lo,e,rfl,h5,h6,h7⟩
 .rw[e] at hcap;simp at hcap;omega
 rcases u1 with⟨h,_⟩|⟨bv,r2,lo2,e2,rfl,h8,h9,h10⟩
 .cases h
 have hx:(aO v).length=17:=u3 v aQ;have hxf:=OL (s:=17) (ds:=[dq x]) (fun d hd=>by rw[aT.1 hd];exact⟨J,J⟩) u2 v aQ;have key:=amJ (G:=G) (b:=b) (bv:=bv) (cap:=w.c) (i:=i) (c2:=w2.c) (vs:=vs) (rest:=rest) (vcs:=aO v) (r2:=r2) (lo:=lo) (lo2:=lo2) q3 (OL (Ns c) q2) hx hxf (by rw[<-h5];exact h6) we we we;rw[e,e2];rw[xw];refine key.toO fun u css G' hg hl2 ⟨k1,k2⟩=>?_;subst k1 k2;have hall: ∀u∈vs.take i++v::vs.drop i,(aO u).length=17:=fun u hu=>by
  rcases bZ.1 hu with hu|hu
  .exact q3 u (eK hu)
  .rcases aW.1 hu with rfl|hu
   .exact hx
   .exact q3 u (iZ hu)
 have hlen:(vs.take i++v::vs.drop i).length=vs.length+1:=by
  rw[aY,aS,bL,gM];omega
 refine⟨[⟨b,aI (vs.take i)++aO v++aI (vs.drop i)++rest.drop 17,209,false⟩], .cons_cons _ (jM _),⟨some ⟨b,0,none⟩,vs.length+1,w.c⟩,J,vs.take i++v::vs.drop i, .inr ⟨b,rest.drop 17,false,by rw[hlen],?_,fp _ hall,?_,?_⟩,?_,hall,fun h=>by cases h⟩
 .rw[pq];simp[aI]
 .rw[fp _ hall,hlen,gM]
  rw[h5] at h6;have:=bW 17 (show vs.length+1<=w.c by omega);simp only[dS] at this⊢;omega
 .rw[hlen];show vs.length+1<=w.c;omega
 .rw[aL,bY,iT,iL]
  exact((q2.take i).up hg).app (.cons (hv.up hg) ((q2.drop i).up hg))
def Us{s:bD}{l:aa}[hs:LB s.l][hl:LB l]:PF GB prog 250 [dq s,de l] (vI (gr s.l.dir l.dir)):=by
 refine fn func250 J J ntmps250 J J (fun C=>?_);refine cl J (z7 (l:=s.l)) J<|cl J (z7 (l:=l)) J<|cl J (aE1 (u:=s.l.dir) (v:=l.dir)) J<|rz J J
def Dd(c:ao)(l:aa)(i:Nat):Bool:=match c[i]? with
 |some s=>decide (gr s.l.dir l.dir=0)
 |none=>false
def Ye(i j:Nat):((i:Int)+(j:Int)).fdiv (2^min (1:Int).toNat IntKind.u64.bits)=((i+j)/2:Nat):=by
 rw[show(2:Int)^min (1:Int).toNat IntKind.u64.bits=((2:Nat):Int) from J,kM _ oma];omega
def aDX{c:ao}{l:aa}{k:Nat}{s:bD}(h:c[k]? =some s):jq c l k=decide (gr s.l.dir l.dir<0):=by unfold jq;rw[h]
def aLK{c:ao}{l:aa}{k:Nat}{s:bD}(h:c[k]? =some s):Dd c l k=decide (gr s.l.dir l.dir=0):=by unfold Dd;rw[h]
def Y4{c:ao}{l:aa}{k:Nat}(h: ¬k<c.length):Dd c l k=false:=by unfold Dd;rw[fK we]
def aLb{p:Nat->Bool}{i j:Nat}(h:i<j)(hp:p ((i+j)/2)=true):gm p i j=gm p ((i+j)/2+1) j:=by rw[gm,dif_pos h,if_pos hp]
def aLU{p:Nat->Bool}{i j:Nat}(h:i<j)(hp: ¬p ((i+j)/2)=true):gm p i j=gm p i ((i+j)/2):=by rw[gm,dif_pos h,if_neg hp]
def RS{p:Nat->Bool}{i j:Nat}(h: ¬i<j:=by omega):gm p i j=i:=by rw[gm,dif_neg h]
theorem omu{p:Prop}(h:p:=by rw[hm]<;>rfl):p:=h
def aKF{c:ao}{l:aa}[hl:LB l](hc:eE c)(hn:c.length<=1000000):PF GB prog 249 [.sl (c.map dq),de l, .v (.func (.func 250) #[] #[])] (.tp [vI (gm (jq c l) 0 c.length:Nat),vB (Dd c l (gm (jq c l) 0 c.length))]):=by
 have hm:=uC dq c;refine fn (fu:=⟨11⟩) func249 J J ntmps249 J J (fun C=>?_);refine aj 13 (.d (vI (c.length:Nat))) J omu<|gx J<|lp (X:=Nat×Nat) (fun⟨i,j⟩=>[(9, .d (vI (i:Nat))),(10, .d (vI (j:Nat)))]) (fun⟨i,j⟩=>[]) (fun⟨i,j⟩=>i<=j/\j<=c.length/\gm (jq c l) i j=gm (jq c l) 0 c.length) (fun⟨i,j⟩=>j-i) (0,c.length) J ⟨aN _,bV _,J⟩ (fun _=>J) (fun⟨i,j⟩ hk=>?_);dsimp only at hk⊢;obtain⟨h1,h2,h3⟩:=hk;refine br (fu1:=⟨10⟩) (fu2:=⟨11⟩) J J J (fun hc17=>?_) (fun hc17=>?_)
 .
  obtain⟨s,hs0⟩: ∃s,c[(i+j)/2]? =some s:=⟨_,aZ we⟩;haveI:=(hc s (aK hs0)).lb;have hang:=aDX (l:=l) hs0;refine aj 22 (.d (.v (.int .u64 ((i+j)/2:Nat)))) J (by rw[Ye])<|gx J<|ix _ J (cp hs0) J<|cl J (Us (s:=s) (l:=l)) J<|br J J J (fun hc31=>?_) (fun hc31=>?_)
  .
   exact at_ ((i+j)/2+1,j) (by dsimp only;exact⟨⟨we,h2,by rw[<-h3,aLb (i:=i) (j:=j) we (by rw[hang];exact decide_eq_true hc31)]⟩,we⟩)
  .
   exact at_ (i,(i+j)/2) (by dsimp only;exact⟨⟨we,we,by rw[<-h3,aLU (i:=i) (j:=j) we (by rw[hang,decide_eq_false hc31];exact Bool.false_ne_true)]⟩,we⟩)
 .
  refine jP (v2:=fun hg39=>by simp only[ak];kernel_rfl) J J J J (fun hg39=>?_) (fun hg39=>?_)
  .
   have he:=RS (p:=jq c l) (i:=i) (j:=j);obtain⟨s,hs0⟩: ∃s,c[i]? =some s:=⟨_,aZ we⟩;haveI:=(hc s (aK hs0)).lb;refine ix _ J (cp hs0) J<|cl J (Us (s:=s) (l:=l)) J<|rz J (by rw[<-h3,he,aLK hs0];rfl)
  .
   have he:=RS (p:=jq c l) (i:=i) (j:=j);exact rz J (by rw[<-h3,he,Y4 we];rfl)
def OC{l:aa}[LB l](hlo:l.ok): ∀{c:ao} {v w:ar},eE c->tH v->n9 l c v=some w->tH w
 |[],v,w,_,hv,h=>by cases h;exact hv
 |s::t,v,w,hc,hv,h=>by
  haveI:=(hc s aQ).lb;simp only[n9] at h;split at h
  .exact OC hlo (fun x hx=>hc x (aJ _ hx)) (hv.cut hlo.1) h
  .cases h
def E8{l:aa}[LB l]: ∀{c:ao},eE c->eE (eu l c)
 |[],_,s,h=>by cases h
 |a::t,hc,s,h=>by
  have ha:=hc a aQ;haveI:=ha.lb;have ht:=E8 (l:=l) (fun x hx=>hc x (aJ _ hx));unfold eu at h;split at h
  .rcases aW.1 h with rfl|h
   .exact⟨ha.lb,ha.ok,ha.v.cut ha.ok.1⟩
   .exact ht s h
  .exact ht s h
def sG{l:aa}[hl:LB l](hlo:l.ok){c:ao}(hc:eE c):eE (bG c l):=by
 unfold bG;split
 .rename_i v hv
  intro s hs;unfold lA at hs;rcases bZ.1 hs with h|h
  .exact E8 hc s (eK h)
  .rcases aW.1 h with rfl|h
   .exact⟨hl,hlo,OC hlo hc .all hv⟩
   .exact E8 hc s (iZ h)
 .exact hc
def PK{l:aa}{c:ao}{k:Nat}{s:bD}(h:c[k]? =some s):eu l (c.drop k)=if s.l.cutB s.v l then⟨s.l,s.l.cutV s.v l⟩::eu l (c.drop (k+1)) else eu l (c.drop (k+1)):=by
 rw[Gr h];rfl
theorem omO{p:Prop}(h:p:=by rw[aL];rfl):p:=h
def Js{c:ao}{l:aa}[hl:LB l](hlo:l.ok)(hc:eE c)(hn:c.length<=100000):PF GB prog 189 [.sl (c.map dq),de l] (.tp [.sl ((bG c l).map dq),vB (cw c l)]):=by
 have hm:=uC dq c;refine fn func189 J J ntmps189 J J (fun C=>?_);refine cl J (OD (c:=c) (l:=l) hlo hc we) J<|bb (fu2:=⟨6⟩) J J J (fun hc22=>?_) (fun hc22=>?_)
 .
  have hp:kw c l=none:=by simpa using hc22
  refine cl J (aDG (c:=c) (l:=l) hlo hc we) J<|rz J (by unfold bG cw;rw[hp];rfl)
 .
  obtain⟨v,hv⟩: ∃v,kw c l=some v:=rZ.1 (by simpa using hc22);have hvd:K6 (kw c l)=v:=by rw[hv];rfl
  rw[hvd];refine aj 29 (.d (vI (c.length:Nat))) J omu<|gx J<|mkc (fu:=⟨8⟩) (c.length+1) J J J<|aj 33 (.d (vI (c.length:Nat))) J omu<|gx J<|lp (X:=ao×Nat) (fun⟨o,k⟩=>[(34, .d (vI (k:Nat))),(8, .rw 31)]) (fun⟨o,k⟩=>[(31,some (.c 209 17 (o.map dq) (c.length+1)))]) (fun⟨o,k⟩=>k<=c.length/\o.length<=k/\o++eu l (c.drop k)=eu l c) (fun⟨o,k⟩=>c.length-k) ([],0) J ⟨aN _,bV _,J⟩ (fun _=>J) (fun⟨o,k⟩ hk=>?_);dsimp only at hk⊢;obtain⟨h1,h2,h3⟩:=hk;have hmo:=uC dq o;refine br J J J (fun hc35=>?_) (fun hc35=>?_)
  .
   obtain⟨s,hs0⟩: ∃s,c[k]? =some s:=⟨_,aZ we⟩;have hs:=hc s (aK hs0);haveI:=hs.lb;haveI:=hs.v.lo;haveI:=hs.v.hi;refine ix _ J (cp hs0) J<|cl (fu:=⟨0⟩) J (O0 (l:=s.l) (m:=l) (v:=s.v)) J<|?_;generalize hw:s.l.cutV s.v l=w;generalize hb:s.l.cutB s.v l=b;refine gx J<|bb J J J (fun hc47=>?_) (fun hc47=>?_)
   .
    refine rf J J<|apc ((o++[bD.mk s.l w]).map dq) J omO (Ns [bD.mk s.l w]) (by rw[hmo];simp;omega) J<|ek 54 31 J<|at_ (o++[bD.mk s.l w],k+1) (by dsimp only;exact⟨⟨we,by simp;omega,by rw[<-h3,PK hs0,hb,if_pos hc47,hw,dT];rfl⟩,we⟩)
   .
    exact at_ (o,k+1) (by dsimp only;exact⟨⟨we,we,by rw[<-h3,PK hs0,hb,if_neg (by simp[hc47])]⟩,we⟩)
  .
   obtain rfl:k=c.length:=by omega
   have ho:o=eu l c:=by rw[<-h3,fL];simp[eu]
   subst ho;have hbl:=(HH (jq (eu l c) l) (eu l c).length 0 (eu l c).length we we).2;refine cL J (aKF (c:=eu l c) (l:=l) (E8 hc) we) J J<|ro J J<|ci ((lA (eu l c) l v).map dq) J (ZX (c:=eu l c) (x:=⟨l,v⟩) (i:=gm (jq (eu l c) l) 0 (eu l c).length) (cap:=c.length+1) hbl we we) J J<|gw 68 J<|rz J (by unfold bG cw;rw[hv];rfl)
def J4{c:ao}{l:aa}[hl:LB l](hlo:l.ok)(hc:eE c)(hn:c.length<=100000:=by omega):PF GB prog 165 [.sl (c.map dq),de l] (.tp [.sl ((bG c l).map dq), .sl ((bG c l.rev).map dq),vB (cw c l),vB (cw c l.rev)]):=by
 refine fn func165 J J ntmps165 J J (fun C=>?_);refine cl J (Js (c:=c) (l:=l) hlo hc hn) J<|cl J (aHM (l:=l)) J<|cl J (Js (c:=c) (l:=l.rev) hlo.rev hc hn) J<|rz J J
def cU:Tr->List DV
 | .leaf b=>[vI 0,vI 0, .v (.pointer none),vI 0,vI 0, .v (.pointer none),vI 0,vI 0, .v (.pointer none), .v (.pointer none), .v (.pointer none), .v (.bool b)]
 | .node l x y=>[vI (dP (l.a:Rat)),vI (dO (l.a:Rat)),dC (l.a:Rat),vI (dP (l.b:Rat)),vI (dO (l.b:Rat)),dC (l.b:Rat),vI (dP (l.c:Rat)),vI (dO (l.c:Rat)),dC (l.c:Rat), .pt (cU x), .pt (cU y), .v (.bool false)]
def eU(t:Tr):DV:= .pt (cU t)
def sA{b:Bool}:PF GB prog 66 [.v (.bool b)] (eU (.leaf b)):=by
 refine fn func66 J J ntmps66 J J (fun C=>?_);refine gw 5 J<|rz J J
def Bo{l:aa}{x y:Tr}:PF GB prog 108 [de l,eU x,eU y] (eU (.node l x y)):=by
 refine fn func108 J J ntmps108 J J (fun C=>?_);refine gw 11 J<|rz J J
def p6{b:Bool}:PF GB prog 106 [eU (.leaf b)] (.v (.bool true)):=by
 refine fn func106 J J ntmps106 J J (fun C=>?_);exact rz J J
def s8{l:aa}{x y:Tr}:PF GB prog 106 [eU (.node l x y)] (.v (.bool false)):=by
 refine fn func106 J J ntmps106 J J (fun C=>?_);exact rz J J
def Y6{l l1:aa}{x y u:Tr}:PF GB prog 166 [de l,eU (.node l1 x y),eU u] (eU (.node l (.node l1 x y) u)):=by
 refine fn func166 J J ntmps166 J J (fun C=>?_);refine cl (fu:=⟨0⟩) J s8 J<|cv J J J<|cl J Bo J<|rz J J
def XJ{l l1:aa}{x y:Tr}{p:Bool}:PF GB prog 166 [de l,eU (.leaf p),eU (.node l1 x y)] (eU (.node l (.leaf p) (.node l1 x y))):=by
 refine fn func166 J J ntmps166 J J (fun C=>?_);refine cl (fu:=⟨0⟩) J p6 J<|d7 J J J<|cl (fu:=⟨1⟩) J s8 J<|cv J J J<|cl J Bo J<|rz J J
def ZG{l:aa}{p q:Bool}:PF GB prog 166 [de l,eU (.leaf p),eU (.leaf q)] (eU (Tr.joinQ l (.leaf p) (.leaf q))):=by
 refine fn func166 J J ntmps166 J J (fun C=>?_);refine cl (fu:=⟨0⟩) J p6 J<|d7 J J J<|cl (fu:=⟨1⟩) J p6 J<|d7 J J J<|bb J J J (fun hc23=>?_) (fun hc23=>?_)
 .
  exact rz J (by rw[show Tr.joinQ l (.leaf p) (.leaf q)= .leaf p by simp[Tr.joinQ,Tr.isLeaf,Tr.code,hc23]];rfl)
 .
  refine cl J Bo J<|rz J (by rw[show Tr.joinQ l (.leaf p) (.leaf q)= .node l (.leaf p) (.leaf q) by simp[Tr.joinQ,Tr.isLeaf,Tr.code,hc23]];rfl)
def Vi{l:aa}: ∀{x y:Tr},PF GB prog 166 [de l,eU x,eU y] (eU (Tr.joinQ l x y))
 | .leaf _, .leaf _=>ZG
 | .leaf _, .node .. =>XJ
 | .node ..,_=>Y6
def YE{b:Bool}:PF GB prog 60 [eU (.leaf b)] (vI (Tr.depth (.leaf b):Nat)):=by
 refine fn func60 J J ntmps60 J J (fun C=>?_);refine cl (fu:=⟨0⟩) J p6 J<|ld 4 J<|gx J<|rz J J
def apT{l:aa}{x y:Tr}(hd:(Tr.node l x y).depth<=1000000)(ihx:PF GB prog 60 [eU x] (vI (Tr.depth x:Nat)))(ihy:PF GB prog 60 [eU y] (vI (Tr.depth y:Nat))):PF GB prog 60 [eU (.node l x y)] (vI (Tr.depth (.node l x y):Nat)):=by
 have hdp:(Tr.node l x y).depth=1+max x.depth y.depth:=J;have hdx:=pT x.depth y.depth;have hdy:=pX x.depth y.depth;refine fn func60 J J ntmps60 J J (fun C=>?_);refine cl (fu:=⟨0⟩) J s8 J<|th 4 J<|gx J<|cl J ihx J<|cl (hv:=by simp only[ak];exact⟨we,omd⟩) J ihy J<|rz J (by show DV.v (.int _ _)= .v (.int _ _);congr 2;split<;>omega)
def AJ: ∀{t:Tr},t.depth<=1000000->PF GB prog 60 [eU t] (vI (Tr.depth t:Nat))
 | .leaf _,_=>YE
 | .node l x y,h=>apT h (AJ (by have:=pT x.depth y.depth;have:(Tr.node l x y).depth=1+max x.depth y.depth:=J;omega)) (AJ (by have:=pX x.depth y.depth;have:(Tr.node l x y).depth=1+max x.depth y.depth:=J;omega))
def aku{b:Bool}{c:ao}:PF GB prog 110 [eU (.leaf b), .sl (c.map dq)] (eU (Tr.restrict (.leaf b) c)):=by
 refine fn func110 J J ntmps110 J J (fun C=>?_);refine cl (fu:=⟨0⟩) J p6 J<|ld 10 J<|gx J<|rz J J
def Zf{l:aa}{x y:Tr}{c:ao}(hl:LB l)(hlo:l.ok)(hc:eE c)(hn:c.length+(Tr.node l x y).depth<=100000)(ihx: ∀{c:ao},eE c->c.length+x.depth<=100000->PF GB prog 110 [eU x, .sl (c.map dq)] (eU (Tr.restrict x c)))(ihy: ∀{c:ao},eE c->c.length+y.depth<=100000->PF GB prog 110 [eU y, .sl (c.map dq)] (eU (Tr.restrict y c))):PF GB prog 110 [eU (.node l x y), .sl (c.map dq)] (eU (Tr.restrict (.node l x y) c)):=by
 have hdp:(Tr.node l x y).depth=1+max x.depth y.depth:=J;have hdx:=pT x.depth y.depth;have hdy:=pX x.depth y.depth;have hca:=vf c l;have hcb:=vf c l.rev;refine fn func110 J J ntmps110 J J (fun C=>?_);refine cl (fu:=⟨0⟩) J s8 J<|th 10 J<|gx J<|cl J (J4 (c:=c) (l:=l) hlo hc) J<|bb J J J (fun hc23=>?_) (fun hc23=>?_)
 .
  refine cl J (ihx hc we) J<|rz J (by rw[Tr.restrict,if_pos hc23];rfl)
 .
  refine bb J J J (fun hc32=>?_) (fun hc32=>?_)
  .
   refine cl J (ihy hc we) J<|rz J (by rw[Tr.restrict,if_neg (by simp[hc23]),if_pos hc32];rfl)
  .
   refine cl J (ihx (c:=bG c l) (sG hlo hc) we) J<|cl J (ihy (c:=bG c l.rev) (sG hlo.rev hc) we) J<|cl J Vi J<|rz J (by rw[Tr.restrict,if_neg (by simp[hc23]),if_neg (by simp[hc32])];rfl)
def pg: ∀{t:Tr} {c:ao},t.all LB->t.all aa.ok->eE c->c.length+t.depth<=100000->PF GB prog 110 [eU t, .sl (c.map dq)] (eU (Tr.restrict t c))
 | .leaf _,_,_,_,_,_=>aku
 | .node l x y,c,hb,ho,hc,hn=>Zf hb.1 ho.1 hc hn (fun h1 h2=>pg hb.2.1 ho.2.1 h1 h2) (fun h1 h2=>pg hb.2.2 ho.2.2 h1 h2)
def PS{t:Tr}(hb:t.all LB)(ho:t.all aa.ok)(hd:t.depth<=100000:=by omega):PF GB prog 61 [eU t] (eU (t.restrict [])):=by
 refine fn func61 J J ntmps61 J J (fun C=>?_);refine cl J (pg (t:=t) (c:=[]) hb ho (fun s h=>by cases h) (by simpa using hd)) J<|rz J J
def Tr.compl:Tr->Tr
 | .leaf b=> .leaf !b
 | .node l x y=> .node l x.compl y.compl
def Tr.chooseQ(op:Int)(b:Bool)(t:Tr)(c:ao):Tr:=
 if op=1\/op=2 then(if b=decide (op=1) then .leaf b else t.restrict c)
 else if op=3/\b=false then .leaf false
 else if b then(t.restrict c).compl else t.restrict c
def Tr.mergeQ(op:Int):Tr->Tr->ao->Tr
 | .leaf b,u,c=>u.chooseQ op b c
 | .node l x y,u,c=>if !cw c l.rev then x.mergeQ op u c else if !cw c l then y.mergeQ op u c else joinQ l (x.mergeQ op u (bG c l)) (y.mergeQ op u (bG c l.rev))
def Wx{b:Bool}:PF GB prog 58 [eU (.leaf b)] (eU (Tr.compl (.leaf b))):=by
 refine fn func58 J J ntmps58 J J (fun C=>?_);refine cl (fu:=⟨0⟩) J p6 J<|ld 4 J<|gx J<|cl J sA J<|rz J J
def Z6{l:aa}{x y:Tr}(ihx:PF GB prog 58 [eU x] (eU (Tr.compl x)))(ihy:PF GB prog 58 [eU y] (eU (Tr.compl y))):PF GB prog 58 [eU (.node l x y)] (eU (Tr.compl (.node l x y))):=by
 refine fn func58 J J ntmps58 J J (fun C=>?_);refine cl (fu:=⟨0⟩) J s8 J<|th 4 J<|gx J<|cl J ihx J<|cl J ihy J<|cl J (Bo (l:=l) (x:=x.compl) (y:=y.compl)) J<|rz J J
def vN: ∀{t:Tr},PF GB prog 58 [eU t] (eU (Tr.compl t))
 | .leaf _=>Wx
 | .node _ _ _=>Z6 vN vN
theorem omp{p:Prop}(h:p:=by unfold Tr.chooseQ;simp_all [fy]<;>omega):p:=h
def aBr{op:Int}{b:Bool}{t:Tr}{c:ao}(hb:t.all LB)(ho:t.all aa.ok)(hc:eE c)(hn:c.length+t.depth<=100000):PF GB prog 253 [vI op, .v (.bool b),eU t, .sl (c.map dq)] (eU (t.chooseQ op b c)):=by
 refine fn func253 J J ntmps253 J J (fun C=>?_);refine br J J J (fun hc10=>?_) (fun hc10=>?_)
 .
  refine br J J J (fun hc10=>?_) (fun hc10=>?_)
  .
   refine bb J J J (fun hc18=>?_) (fun hc18=>?_)
   .
    refine cl J sA J<|rz J omp
   .
    refine cl J (pg ome ome ome we) J<|rz J omp
  .
   refine br J J J (fun hc13=>?_) (fun hc13=>?_)
   .
    refine bb J J J (fun hc22=>?_) (fun hc22=>?_)
    .
     refine cl J sA J<|rz J omp
    .
     refine bb J J J (fun hc24=>?_) (fun hc24=>?_)
     .
      refine cl J (pg ome ome ome we) J<|cl J (vN (t:=t.restrict c)) J<|rz J omp
     .
      refine cl J (pg ome ome ome we) J<|rz J omp
   .
    refine bb J J J (fun hc24=>?_) (fun hc24=>?_)
    .
     refine cl J (pg ome ome ome we) J<|cl J (vN (t:=t.restrict c)) J<|rz J omp
    .
     refine cl J (pg ome ome ome we) J<|rz J omp
 .
  refine br J J J (fun hc10=>?_) (fun hc10=>?_)
  .
   refine bb J J J (fun hc18=>?_) (fun hc18=>?_)
   .
    refine cl J sA J<|rz J omp
   .
    refine cl J (pg ome ome ome we) J<|rz J omp
  .
   refine br J J J (fun hc13=>?_) (fun hc13=>?_)
   .
    refine bb J J J (fun hc22=>?_) (fun hc22=>?_)
    .
     refine cl J sA J<|rz J omp
    .
     refine bb J J J (fun hc24=>?_) (fun hc24=>?_)
     .
      refine cl J (pg ome ome ome we) J<|cl J (vN (t:=t.restrict c)) J<|rz J omp
     .
      refine cl J (pg ome ome ome we) J<|rz J omp
   .
    refine bb J J J (fun hc24=>?_) (fun hc24=>?_)
    .
     refine cl J (pg ome ome ome we) J<|cl J (vN (t:=t.restrict c)) J<|rz J omp
    .
     refine cl J (pg ome ome ome we) J<|rz J omp
def Wz{b:Bool}{op:Int}{u:Tr}{c:ao}(hbu:u.all LB)(hou:u.all aa.ok)(hc:eE c)(hn:c.length+u.depth<=100000):PF GB prog 190 [vI op,eU (.leaf b),eU u, .sl (c.map dq)] (eU (Tr.mergeQ op (.leaf b) u c)):=by
 refine fn func190 J J ntmps190 J J (fun C=>?_);refine cl (fu:=⟨0⟩) J p6 J<|ld 14 J<|gx J<|cl J (aBr (t:=u) hbu hou hc hn) J<|rz J J
def YV{l:aa}{x y:Tr}{op:Int}{u:Tr}{c:ao}(hl:LB l)(hlo:l.ok)(hc:eE c)(hn:c.length+(Tr.node l x y).depth+u.depth<=100000)(ihx: ∀{c:ao},eE c->c.length+x.depth+u.depth<=100000->PF GB prog 190 [vI op,eU x,eU u, .sl (c.map dq)] (eU (Tr.mergeQ op x u c)))(ihy: ∀{c:ao},eE c->c.length+y.depth+u.depth<=100000->PF GB prog 190 [vI op,eU y,eU u, .sl (c.map dq)] (eU (Tr.mergeQ op y u c))):PF GB prog 190 [vI op,eU (.node l x y),eU u, .sl (c.map dq)] (eU (Tr.mergeQ op (.node l x y) u c)):=by
 have hdp:(Tr.node l x y).depth=1+max x.depth y.depth:=J;have hdx:=pT x.depth y.depth;have hdy:=pX x.depth y.depth;have hca:=vf c l;have hcb:=vf c l.rev;refine fn func190 J J ntmps190 J J (fun C=>?_);refine cl (fu:=⟨0⟩) J s8 J<|th 14 J<|gx J<|cl J (J4 (c:=c) (l:=l) hlo hc) J<|bb J J J (fun hc34=>?_) (fun hc34=>?_)
 .
  refine cl J (ihx hc we) J<|rz J (by rw[Tr.mergeQ,if_pos hc34];rfl)
 .
  refine bb J J J (fun hc45=>?_) (fun hc45=>?_)
  .
   refine cl J (ihy hc we) J<|rz J (by rw[Tr.mergeQ,if_neg (by simp[hc34]),if_pos hc45];rfl)
  .
   refine cl J (ihx (c:=bG c l) (sG hlo hc) we) J<|cl J (ihy (c:=bG c l.rev) (sG hlo.rev hc) we) J<|cl J Vi J<|rz J (by rw[Tr.mergeQ,if_neg (by simp[hc34]),if_neg (by simp[hc45])];rfl)
def J8{op:Int}{u:Tr}(hbu:u.all LB)(hou:u.all aa.ok): ∀{t:Tr} {c:ao},t.all LB->t.all aa.ok->eE c->c.length+t.depth+u.depth<=100000->PF GB prog 190 [vI op,eU t,eU u, .sl (c.map dq)] (eU (Tr.mergeQ op t u c))
 | .leaf _,_,_,_,hc,hn=>Wz hbu hou hc (by simp only[Tr.depth] at hn;omega)
 | .node l x y,c,hb,ho,hc,hn=>YV hb.1 ho.1 hc hn (fun h1 h2=>J8 hbu hou hb.2.1 ho.2.1 h1 h2) (fun h1 h2=>J8 hbu hou hb.2.2 ho.2.2 h1 h2)
def uH(n:Bool)(ds:List Nat):Prop:=fA ds/\(n=true->0<ds.length)
instance (n:Bool) (ds:List Nat):Decidable (uH n ds):=inferInstanceAs (Decidable (_/\_))
structure RL where
 na:Bool
 da:List Nat
 nb:Bool
 db:List Nat
 nc:Bool
 dc:List Nat
def RL.d(r:RL):DV:= .ag [.v (.bool r.na),d6 r.da, .v (.bool r.nb),d6 r.db, .v (.bool r.nc),d6 r.dc]
def qE(n:Bool)(ds:List Nat):Int:=if n then-(dv ds:Int) else dv ds
def RL.l(r:RL):aa:=⟨qE r.na r.da,qE r.nb r.db,qE r.nc r.dc⟩
def RL.nm(r:RL):Prop:=uH r.na r.da/\uH r.nb r.db/\uH r.nc r.dc
instance (l:aa):Decidable l.ok:=inferInstanceAs (Decidable (_/\_))
instance (r:RL):Decidable r.nm:=inferInstanceAs (Decidable (_/\_/\_))
structure RL.sm (r:RL):Prop where
 a:bH r.da/\r.da.length<=3
 b:bH r.db/\r.db.length<=3
 c:bH r.dc/\r.dc.length<=3
def WB(n:Bool)(ds:List Nat):(qE n ds).natAbs=dv ds:=by unfold qE;cases n<;>simp
theorem RL.lb{r:RL}(s:r.sm):LB r.l:=by
 have key: ∀(n:Bool) (ds:List Nat),bH ds/\ds.length<=3->(qE n ds).natAbs<2^96:=fun n ds h=>by
  rw[WB];refine cS (m6 h.1) ?_;rw[show(2:Nat)^96=4294967296^3 by decide];exact bR oma h.2
 exact⟨key _ _ s.a,key _ _ s.b,key _ _ s.c⟩
def uO(n:Nat)(f:Nat->Bool):List Value:=(List.range n).map fun j=> .bool (f j)
def BH(f:Nat->Bool)(i:Nat):Nat->Bool:=fun j=>f j||Nat.beq j i
def U7(n:Nat)(f:Nat->Bool):(uO n f).length=n:=by simp[uO]
def IF{n i:Nat}{f:Nat->Bool}{b:Bool}(h:i<n)(hf:f i=b):(uO n f)[i]? =some (.bool b):=by simp[uO,h,hf]
def WI{f:Nat->Bool}{i j:Nat}(e:j≠i):BH f i j=f j:=by
 unfold BH
 cases hb:Nat.beq j i with
 |false=>rw[Bool.or_false]
 |true=>exact absurd (bX hb) e
def aF3{f:Nat->Bool}{i:Nat}:BH f i i=true:=by
 unfold BH;rw[oY,sM]
def azm(n i:Nat)(f:Nat->Bool):(uO n f).set i (.bool true)=uO n (BH f i):=by
 apply mX;intro j;rw[qZ];simp only[uO,aX,jY,cJ];by_cases hj:j<n
 .rw[qR hj]
  simp only[lR];by_cases e:i=j
  .subst e;simp[hj,aF3]
  .rw[WI (fun h=>e h.symm)];simp[e]
 .rw[fK okm]
  by_cases e:i=j
  .subst e;simp[hj]
  .simp[e]
def N8(n:Nat):dH (.bool false) n=uO n (fun _=>false):=by
 apply mX;intro j;by_cases hj:j<n
 .rw[IF hj J]
  unfold dH;rw[KB (aO (.bool false)) n j (by simpa[aO] using hj)];simp[aO,Nat.mod_one]
 .rw[fK (by rw[pA];simp[aO];omega),fK (by rw[U7];omega)]
structure RN where
 g:RL
 l:Int
 r:Int
def RN.d(n:RN):DV:= .ag [.v (.bool n.g.na),d6 n.g.da, .v (.bool n.g.nb),d6 n.g.db, .v (.bool n.g.nc),d6 n.g.dc, .v (.int .i64 n.l), .v (.int .i64 n.r)]
def Bq{G:Gh}{q:Rat}{v:Value}(h:Is G (dC q) v): ∃p,v= .pointer p:=by
 rcases ug.1 h with⟨_,h⟩|⟨_,h⟩
 .exact⟨_,h⟩
 .obtain⟨b,m,h,_⟩:=mF.1 h;exact⟨_,h⟩
def aJG{G:Gh}{l:aa}{v:Value}(h:Is G (de l) v): ∃n1 d1 p1 n2 d2 p2 n3 d3 p3,v= .agg ⟨[.int .i64 n1, .int .i64 d1, .pointer p1, .int .i64 n2, .int .i64 d2, .pointer p2, .int .i64 n3, .int .i64 d3, .pointer p3]⟩:=by
 obtain⟨m,rfl,g⟩:=eH.1 h;clear h;obtain⟨v1,m,rfl,h1,h⟩:=bA.1 g;obtain⟨v2,m,rfl,h2,h⟩:=bA.1 h;obtain⟨v3,m,rfl,h3,h⟩:=bA.1 h;obtain⟨v4,m,rfl,h4,h⟩:=bA.1 h;obtain⟨v5,m,rfl,h5,h⟩:=bA.1 h;obtain⟨v6,m,rfl,h6,h⟩:=bA.1 h;obtain⟨v7,m,rfl,h7,h⟩:=bA.1 h;obtain⟨v8,m,rfl,h8,h⟩:=bA.1 h;obtain⟨v9,m,rfl,h9,h⟩:=bA.1 h;rw[fh] at h;subst h;obtain⟨_,rfl⟩:=Bq h3;obtain⟨_,rfl⟩:=Bq h6;obtain⟨_,rfl⟩:=Bq h9;rw[aP.1 h1,aP.1 h2,aP.1 h4,aP.1 h5,aP.1 h7,aP.1 h8];exact⟨_,_,_,_,_,_,_,_,_,J⟩
def aLf{G:Gh}{n:RN}{v:Value}(h:Is G n.d v): ∃x1 x2 x3:SV,v= .agg ⟨[.bool n.g.na, .slice x1.a x1.n x1.c, .bool n.g.nb, .slice x2.a x2.n x2.c, .bool n.g.nc, .slice x3.a x3.n x3.c, .int .i64 n.l, .int .i64 n.r]⟩/\
  Is G n.g.d (.agg ⟨[.bool n.g.na, .slice x1.a x1.n x1.c, .bool n.g.nb, .slice x2.a x2.n x2.c, .bool n.g.nc, .slice x3.a x3.n x3.c]⟩):=by
 obtain⟨m,rfl,g⟩:=eH.1 h;clear h;obtain⟨v1,m,rfl,h1,h⟩:=bA.1 g;obtain⟨v2,m,rfl,h2,h⟩:=bA.1 h;obtain⟨v3,m,rfl,h3,h⟩:=bA.1 h;obtain⟨v4,m,rfl,h4,h⟩:=bA.1 h;obtain⟨v5,m,rfl,h5,h⟩:=bA.1 h;obtain⟨v6,m,rfl,h6,h⟩:=bA.1 h;obtain⟨v7,m,rfl,h7,h⟩:=bA.1 h;obtain⟨v8,m,rfl,h8,h⟩:=bA.1 h;rw[fh] at h;subst h;obtain⟨_,x1,_,rfl,_,_⟩:=ie.1 (id h2);obtain⟨_,x2,_,rfl,_,_⟩:=ie.1 (id h4);obtain⟨_,x3,_,rfl,_,_⟩:=ie.1 (id h6)
 cases aP.1 h1;cases aP.1 h3;cases aP.1 h5;cases aP.1 h7;cases aP.1 h8
 exact⟨x1,x2,x3,J,eH.2 ⟨_,J, .cons h1 (.cons h2 (.cons h3 (.cons h4 (.cons h5 (.cons h6 .nil)))))⟩⟩
def yh{G:Gh}{t:Tr}{v:Value}(h:Is G (eU t) v): ∃p,v= .pointer p:=by
 obtain⟨b,m,h,_⟩:=mF.1 h;exact⟨_,h⟩
def PF.fn0{P:Program}{f:FuncId}{ds:List DV}{r:DV}(h: ∀{GB:Gh},PF GB P f ds r){G:Gh}{vs:List Value}(hv:IsLs G ds vs):Fn P f vs G (fun v G'=>Is G' r v):=h (GB:=G) G vs (b7.refl G) hv
def eRT(rt:Int)(ns:List RN):DV:= .ag [vI rt, .sl (ns.map RN.d)]
def TR{G:Gh}{l:aa}{x y:Tr}{m:List Value}(h:IsLs G (cU (.node l x y)) m): ∃n1 d1 p1 n2 d2 p2 n3 d3 p3 q r,m=[.int .i64 n1, .int .i64 d1, .pointer p1, .int .i64 n2, .int .i64 d2, .pointer p2, .int .i64 n3, .int .i64 d3, .pointer p3, .pointer q, .pointer r, .bool false]/\
  Is G (de l) (.agg ⟨[.int .i64 n1, .int .i64 d1, .pointer p1, .int .i64 n2, .int .i64 d2, .pointer p2, .int .i64 n3, .int .i64 d3, .pointer p3]⟩)/\Is G (eU x) (.pointer q)/\Is G (eU y) (.pointer r):=by
 obtain⟨v1,m,rfl,h1,h⟩:=bA.1 h;obtain⟨v2,m,rfl,h2,h⟩:=bA.1 h;obtain⟨v3,m,rfl,h3,h⟩:=bA.1 h;obtain⟨v4,m,rfl,h4,h⟩:=bA.1 h;obtain⟨v5,m,rfl,h5,h⟩:=bA.1 h;obtain⟨v6,m,rfl,h6,h⟩:=bA.1 h;obtain⟨v7,m,rfl,h7,h⟩:=bA.1 h;obtain⟨v8,m,rfl,h8,h⟩:=bA.1 h;obtain⟨v9,m,rfl,h9,h⟩:=bA.1 h;obtain⟨va,m,rfl,ha,h⟩:=bA.1 h;obtain⟨vb,m,rfl,hb,h⟩:=bA.1 h;obtain⟨vc,m,rfl,hc,h⟩:=bA.1 h;rw[fh] at h;subst h;obtain⟨_,rfl⟩:=Bq h3;obtain⟨_,rfl⟩:=Bq h6;obtain⟨_,rfl⟩:=Bq h9;obtain⟨_,rfl⟩:=yh ha;obtain⟨_,rfl⟩:=yh hb
 cases aP.1 h1;cases aP.1 h2;cases aP.1 h4;cases aP.1 h5;cases aP.1 h7;cases aP.1 h8;cases aP.1 hc
 exact⟨_,_,_,_,_,_,_,_,_,_,_,J,eH.2 ⟨_,J, .cons h1 (.cons h2 (.cons h3 (.cons h4 (.cons h5 (.cons h6 (.cons h7 (.cons h8 (.cons h9 .nil))))))))⟩,ha,hb⟩
def aEa{G:Gh}{b:Bool}{m:List Value}(h:IsLs G (cU (.leaf b)) m):m=[.int .i64 0, .int .i64 0, .pointer none, .int .i64 0, .int .i64 0, .pointer none, .int .i64 0, .int .i64 0, .pointer none, .pointer none, .pointer none, .bool b]:=by
 obtain⟨v1,m,rfl,h1,h⟩:=bA.1 h;obtain⟨v2,m,rfl,h2,h⟩:=bA.1 h;obtain⟨v3,m,rfl,h3,h⟩:=bA.1 h;obtain⟨v4,m,rfl,h4,h⟩:=bA.1 h;obtain⟨v5,m,rfl,h5,h⟩:=bA.1 h;obtain⟨v6,m,rfl,h6,h⟩:=bA.1 h;obtain⟨v7,m,rfl,h7,h⟩:=bA.1 h;obtain⟨v8,m,rfl,h8,h⟩:=bA.1 h;obtain⟨v9,m,rfl,h9,h⟩:=bA.1 h;obtain⟨va,m,rfl,ha,h⟩:=bA.1 h;obtain⟨vb,m,rfl,hb,h⟩:=bA.1 h;obtain⟨vc,m,rfl,hc,h⟩:=bA.1 h;rw[fh] at h;subst h
 cases aP.1 h1;cases aP.1 h2;cases aP.1 h3;cases aP.1 h4;cases aP.1 h5;cases aP.1 h6;cases aP.1 h7;cases aP.1 h8;cases aP.1 h9;cases aP.1 ha;cases aP.1 hb;cases aP.1 hc
 rfl
theorem okF{p:Prop}(h:p:=by rw[aX];omega):p:=h
theorem okS{p:Prop}(h:p:=by rfl):p:=h
def Ma: ∀{t:Tr} {A A2 G:Gh} {p:Option Addr} {ob wb:Nat} {lo lo2:Bool} {x:SV} {zs:List ND} {ns:List NQ} {B:List aA},Is A (eU t) (.pointer p)->t.all LB->[GL A G]->[GL A2 G]->iI 8 94 x (zs.map ND.val) B->iB (r8 96 A2) zs ns->zs.length+t.size<=1000000->
  iD prog 105 [.pointer p, .pointer (some ⟨ob,0,none⟩), .pointer (some ⟨wb,0,none⟩)] (⟨ob,[.int .i64 0, .slice x.a x.n x.c],31,lo⟩::⟨wb,[pk ob wb],188,lo2⟩::B) G
   (fun v own' G'=> ∃x' zs' B',v= .int .i64 (t.num zs.length)/\own'=⟨ob,[.int .i64 0, .slice x'.a x'.n x'.c],31,false⟩::⟨wb,[pk ob wb],188,false⟩::B'/\iI 8 94 x' (zs'.map ND.val) B'/\iB (r8 96 G') zs' (ns++t.wr zs.length))
 | .leaf bb,A,A2,G,p,ob,wb,lo,lo2,x,zs,ns,B,h,_,_,_,hB,hz,hle=>by
  obtain⟨n,m,e,hg,hm⟩:=mF.1 (id h)
  cases e
  cases aEa hm
  have hG:ub A n _:=⟨hg⟩;have hz':iB (r8 96 G) zs (ns++[]):=by rw[fR];exact hz.imp fun _ _ h=>h.up
  refine iD.intro func105 J J ntmps105 J ?_;intro C _ _;show St C _ _ (⟨ob,[.int .i64 0, .slice x.a x.n x.c],31,false⟩::⟨wb,[pk ob wb],188,false⟩::asB B) _ _;refine sR<|sa J J<|zE<|fw<|sR<|sm J J<|?_;refine sc (zC J J (PF.fn0 p6 (.cons (h.up GL.le) .nil)) J ?_);rintro _ G1 _ hv
  cases aP.1 hv
  refine zE<|uz J<|?_;refine fw<|sR<|sm J J<|sn J J<|sf J J<|aM2 J J J<|zE<|?_
  cases bb
  case true=>
   refine uz J<|sR<|sa J J<|zE<|lD<|?_;exact y4 (.tmp J .nil) _ _ (List.Perm.refl _) (List.Sublist.refl _) ⟨x,zs,_,J,J,hB.asB,hz'.imp fun _ _ h=>h.up⟩
  refine s5 J<|zK<|sR<|sa J J<|zE<|lD<|?_;exact y4 (.tmp J .nil) _ _ (List.Perm.refl _) (List.Sublist.refl _) ⟨x,zs,_,J,J,hB.asB,hz'.imp fun _ _ h=>h.up⟩
 | .node l s u,A,A2,G,p,ob,wb,lo,lo2,x,zs,ns,B,h,hall,_,_,hB,hz,hle=>by
  obtain⟨hlb,hall1,hall2⟩:=id hall;haveI:LB l:=hlb;obtain⟨n,m,e,hg,hm⟩:=mF.1 (id h)
  cases e
  obtain⟨n1,d1,p1,n2,d2,p2,n3,d3,p3,q,r,rfl,hzl,hs,hu⟩:=TR hm;have hG:ub A n _:=⟨hg⟩;have hxn:=hB.len;have hzn:=hz.len;simp only[Tr.size] at hle;obtain⟨xa,xn,xc⟩:=x;rw[aX] at hxn;simp only[] at hxn;subst hxn;refine iD.intro func105 J J ntmps105 J ?_;intro C _ _;show St C _ _ (⟨ob,[.int .i64 0, .slice xa zs.length xc],31,false⟩::⟨wb,[pk ob wb],188,false⟩::asB B) _ _;replace hB:=hB.asB;generalize asB B=B at hB;refine sR<|sa J J<|zE<|fw<|sR<|sm J J<|?_;refine sc (zC J J (PF.fn0 s8 (.cons (h.up GL.le) .nil)) J ?_);rintro _ G1 _ hv
  cases aP.1 hv
  refine zE<|s5 J<|?_;refine zK<|sR<|sf J J<|ol J J J<|uB J J<|sa J J<|zE<|fw<|?_;refine wk [⟨ob,[.int .i64 0, .slice xa zs.length xc],31,false⟩] (fun i=>Nat.beq i 11) [(0,true),(1,true),(2,true),(3,true),(4,true),(5,true),(6,false),(7,true),(8,false),(9,false),(10,true),(11,false)] follows omd<|?_;refine dF J J J<|q6 J J J J<|dM J J J<|dy J (fun _=>og J) J J<|?_;refine dF J J J<|dy J (fun _=>GH J vo J) J J<|?_;refine dc J J (zC J J (PF.fn0 (aHI (l:=l)) (.cons (hzl.up GL.le) .nil)) J ?_);rintro _ G2 _ hv;obtain⟨ia,ib,ic,rfl,hia,hib,hic⟩:=aH2 hlb.bl hv;refine mA<|dy J (fun _=>yp J) J J<|?_;refine dc J J (Pi J okS okS oma oma J ?_);intro b3;refine mA<|?_;refine dc J J (Zj (v:=ND.val ⟨ia,ib,ic,0,0⟩) (vs:=zs.map ND.val) [_,_,_] rfl hB J J (Ao inferInstance J) J (ND.flat [⟨ia,ib,ic,0,0⟩] _ aQ) oma okF J J ?_);intro x1 B1 hB1;rw[show zs.map ND.val++[ND.val ⟨ia,ib,ic,0,0⟩]=(zs++[(⟨ia,ib,ic,0,0⟩:ND)]).map ND.val by simp] at hB1;show St C _ _ (⟨b3,_,_,true⟩::⟨ob,[.int .i64 0, .slice xa zs.length xc],31,false⟩::⟨wb,[pk ob wb],188,false⟩::B1) _ _;refine mA<|dF J J J<|?_;refine dc J J (A9 (cs':=[.int .i64 0, .slice x1.a x1.n x1.c]) J J J (.tl _ _ _ _ _ _ _ _ (.hd ..)) (nb J) J J ?_);refine X8 J<|dn<|?_;refine Rk _ (nV _ _) ?_;have hz1:iB (r8 96 G2) (zs++[(⟨ia,ib,ic,0,0⟩:ND)]) (ns++[⟨l,0,0⟩]):=(hz.imp fun _ _ h=>h.up).app (.cons ⟨hia,hib,hic,J,J⟩ .nil);refine fw<|wk [⟨wb,[pk ob wb],188,false⟩] (fun _=>false) [(0,true),(1,true),(2,true),(3,true),(4,true),(5,false),(6,true)] follows omd<|?_
  refine q6 J J J J<|dM J J J<|dy J (fun _=>og J) J J<|dF J J J<|dy J (fun _=>tA J vo J) J J<|?_;refine dc J J (CM (c1:=[]) (M:=_::_::B1) (rest:=[]) J J (by rw[fR]) (Ma (lo:=false) (lo2:=false) hs hall1 hB1 hz1 omq) J ?_);rintro _ _ G3 fl _ hf _ ⟨x2,TY,B2,rfl,rfl,hB2,hz2⟩;have e1:fl ob=false:=hf _ aQ J;have e2:fl wb=false:=hf _ (aJ _ aQ) J;replace hB2:=hB2.relo fl;refine Ki (own':=⟨ob,[.int .i64 0, .slice x2.a x2.n x2.c],31,false⟩::⟨wb,[pk ob wb],188,false⟩::B2.map (relo fl)) (by simp only[bY,relo,e1,e2,fR]) ?_;generalize B2.map (relo fl)=B2 at hB2;have hl2:=hz2.len;simp only[aY,Tr.wr_len,eY] at hl2;refine mA<|dA J J J<|dn<|fw<|wk [⟨wb,[pk ob wb],188,false⟩] (fun _=>false) [(0,true),(1,true),(2,true),(3,true),(4,true),(5,false),(6,true)] follows omd<|?_;refine q6 J J J J<|dM J J J<|dy J (fun _=>og J) J J<|dF J J J<|dy J (fun _=>tA J vo J) J J<|?_;refine dc J J (CM (c1:=[]) (M:=_::_::B2) (rest:=[]) J J (by rw[fR]) (Ma (lo:=false) (lo2:=false) hu hall2 hB2 hz2 we) J ?_);rintro _ _ G4 fl _ hf _ ⟨x3,Br,B3,rfl,rfl,hB3,hz3⟩;have e3:fl ob=false:=hf _ aQ J;have e4:fl wb=false:=hf _ (aJ _ aQ) J;replace hB3:=hB3.relo fl;refine Ki (own':=⟨ob,[.int .i64 0, .slice x3.a x3.n x3.c],31,false⟩::⟨wb,[pk ob wb],188,false⟩::B3.map (relo fl)) (by simp only[bY,relo,e3,e4,fR]) ?_;generalize B3.map (relo fl)=B3 at hB3;have hl3:=hz3.len;simp only[aY,Tr.wr_len,eY] at hl3;have hn3:zs.length<Br.length:=by omega
  rcases hB3 with⟨h1,_,_⟩|⟨nb,rest,lo3,hx3,rfl,hf1,hf2,hf3⟩
  .have:=congrArg List.length h1;rw[aX,eX] at this;omega
  obtain⟨x3a,x3n,x3c⟩:=x3;simp only[SV.mk.injEq] at hx3;obtain⟨rfl,rfl,_⟩:=hx3;rw[aX] at hf3;have hzz:ns.length=zs.length:=hzn.symm;obtain⟨zn,hzn1,hzn2⟩:=hz3.get (i:=zs.length) (b:=⟨l,0,0⟩) (by rw[dT,dT,<-hzz,jN (bV _),qK];rfl);obtain⟨_,hzn3⟩:=aR.1 hzn1;have hL1:(zs++[(⟨ia,ib,ic,0,0⟩:ND)]).length=zs.length+1:=by simp
  have hL2:TY.length=zs.length+1+s.size:=by omega
  rw[hL1] at hz3;rw[hL1,hL2];rw[hL2] at hz3;refine mA<|dA J J J<|dn<|?_;refine fw<|wk [⟨ob,[.int .i64 0, .slice (some ⟨nb,0,none⟩) (Br.map ND.val).length x3c],31,false⟩] (fun _=>false) [(0,true),(1,true),(2,true),(3,true),(4,true),(5,true),(6,true),(7,true),(8,true),(9,true),(10,false),(11,true),(12,true),(13,false)] follows omd<|?_;refine dF J J J<|q6 J J J J<|dM J J J<|dF J J J<|?_;refine q6 J J J J<|dM J J J<|dM J J J<|dM J J J<|dy J (fun _=>wc J J we okF) J J<|?_;refine dF J J J<|?_;refine dc J J (vD J J (.tl _ _ _ _ _ _ _ _ (.tl _ _ _ _ _ _ _ _ (.hd ..))) (by rw[aY,hf1,aX,cK];omega) J J ?_);rw[cK,Tx Br rest zs.length 6 _ {zn with l:=s.num (zs.length+1)} hn3 oma (by rw[hzn3];rfl)];refine mA<|dy J (fun _=>wc J J we okF) J J<|dF J J J<|?_;refine dc J J (vD J J (.tl _ _ _ _ _ _ _ _ (.tl _ _ _ _ _ _ _ _ (.hd ..))) (by rw[aY,fp (s:=8) _ (ND.len8 _),aX,bJ,cK];omega) J J ?_);rw[cK,Tx (Br.set zs.length _) rest zs.length 7 _ {zn with l:=s.num (zs.length+1),r:=u.num (zs.length+1+s.size)} (by rw[bJ];exact hn3) oma (by rw[List.getElem_set_self];rfl)];refine mA<|dn<|sR<|sm J J<|sa J J<|zE<|lD<|?_;have hfin:=hz3.set (a:={zn with l:=s.num (zs.length+1),r:=u.num (zs.length+1+s.size)}) (b:=⟨l,s.num (zs.length+1),u.num (zs.length+1+s.size)⟩) ⟨hzn2.a,hzn2.b,hzn2.c,J,J⟩ zs.length;have hns:(ns++[(⟨l,0,0⟩:NQ)]++s.wr (zs.length+1)++u.wr (zs.length+1+s.size)).set zs.length ⟨l,s.num (zs.length+1),u.num (zs.length+1+s.size)⟩=ns++(Tr.node l s u).wr zs.length:=by
   rw[dT,dT,nN _ _ we,hzz,qK];simp[Tr.wr]
  rw[hns] at hfin;refine y4 (.tmp J .nil) _ _ (List.Perm.refl _) (List.Sublist.refl _) ⟨⟨some ⟨nb,0,none⟩,(Br.map ND.val).length,x3c⟩,_,_,J,J,?_,hfin⟩;refine .inr ⟨nb,rest,lo3,omc,by rw[List.set_set],?_,?_,?_⟩
  .rw[fp (s:=8) _ (ND.len8 _)]
  .rw[fp (s:=8) _ (ND.len8 _),aX,bJ];rw[hf1,aX] at hf2;exact hf2
  .rw[aX,bJ];exact hf3
def aLy{t:Tr}(hb:t.all LB)(hs:t.size<=1000000):PF GB prog 57 [eU t] (eA t):=by
 intro G vs _ hv;obtain⟨v0,m,rfl,h,hm⟩:=bA.1 hv;rw[fh] at hm;subst hm;obtain⟨p,rfl⟩:=yh h;refine Fn.intro func57 J J ntmps57 J ?_;intro C _ hC;refine sR<|?_;refine sc (vL J ?_);intro b1;refine zE<|sR<|?_;refine sc (vL J ?_);intro b2;refine zE<|sR<|?_;refine sc (vL J ?_);intro b3;refine zE<|sR<|sy (L1 J J) J<|?_;refine sc (A9 (cs':=[pk b2 b3]) J J J (.hd ..) (nb J) J J ?_);refine zE<|sR<|ol J J J<|sm J J<|?_;refine sc (CM (c1:=[]) (M:=[⟨b2,[.int .i64 0, .slice none 0 0],31,true⟩,⟨b3,[pk b2 b3],188,true⟩]) (rest:=[⟨b1,[.int .i64 0, .slice none 0 0],31,true⟩]) J J (List.Perm.swap ..) (Ma (A:=G) (A2:=G) (x:=⟨none,0,0⟩) (zs:=[]) (ns:=[]) (B:=[]) h hb (iI.nil ..) .nil (by simpa using hs)) J ?_);rintro _ _ G4 fl _ _ hf ⟨x,zs,B,rfl,rfl,hB,hz⟩;have e1:=hf omc b2;have e2:=hf omc b3;replace hB:=hB.relo fl;refine Ki (own':=⟨b2,[.int .i64 0, .slice x.a x.n x.c],31,true⟩::⟨b3,[pk b2 b3],188,true⟩::(B.map (relo fl)++[⟨b1,[.int .i64 0, .slice none 0 0],31,true⟩])) (by simp only[bY,relo,e1,e2,gL]) ?_;generalize B.map (relo fl)=B at hB;refine Dx (⟨b2,[.int .i64 0, .slice x.a x.n x.c],31,true⟩::⟨b3,[pk b2 b3],188,true⟩::⟨b1,[.int .i64 0, .slice none 0 0],31,true⟩::B) ((jK (l₁:=B) (l₂:=[_])).cons _ |>.cons _) ?_;refine sf J J<|?_;refine sc (A9 (cs':=[.int .i64 (t.num 0), .slice x.a x.n x.c]) J J J (.hd ..) (nb J) J J ?_);refine zE<|sR<|EN J J J<|?_;refine sc (E9 (cs':=[.int .i64 (t.num 0), .slice x.a x.n x.c]) J J J (.tl _ _ _ _ _ _ _ _ (.tl _ _ _ _ _ _ _ _ (.hd ..))) J (nb J) J J ?_)
 refine zE<|?_;refine ZH (L:=[_,_,_]) hC hB (ND.len8 _) ?_;intro G5 _ hsl;show St C _ _ [⟨b2,_,_,true⟩,⟨b3,_,_,true⟩,⟨b1,[.int .i64 (t.num 0), .slice x.a x.n x.c],31,true⟩] _ _;refine lD<|?_;exact zD (.agg J ii ii J .nil) (aHv (k:=96) ⟨zs,hsl,by rw[kV] at hz;exact hz.imp fun _ _ h=>h.up⟩)
def Tr.pre:Tr->List Tr
 | .leaf b=>[.leaf b]
 | .node l x y=> .node l x y::(x.pre++y.pre)
structure Te (f:FuncId) (c2:List Value) (σ:Type) (step:σ->Tr->σ) (ok:σ->Tr->Prop) (Inv:σ->List aA->Gh->Prop):Prop where
 up: ∀{s B G G'},b7 G G'->Inv s B G->Inv s B G'
 re: ∀{s B G} (fl:Nat->Bool),Inv s B G->Inv s (B.map (relo fl)) G
 go: ∀{s t p B G},ok s t->Inv s B G->Is G (eU t) (.pointer p)->iD prog f (.pointer p::c2) B G (fun _ B' G'=>Inv (step s t) B' G')
section
variable {P:Program} {C:aH} {n:Nat} {fr:Fr} {own:List aA} {G:Gh}
def IA{fn:Func}{K:Value->List aA->Gh->Prop}{vs:List Value}(hr:ku P fr own fn.results.toList vs)(own2 own3:List aA)(hp:own.Perm own2)(hs:own3.Sublist own2)(hk:K (pf vs) own3 G):St C n fr own G (fC C P fn (sF C K) .normal):=
 fun a w rl hmk=>⟨rl.df.trans hmk,_,uA hr rl.fr rl.h,_,own3,G,J,(rl.h.perm hp).drop hs,hk⟩
end
def zd{σ:Type}(step:σ->Tr->σ)(ok:σ->Tr->Prop):σ->List Tr->Prop
 |_,[]=>True
 |s,t::ts=>ok s t/\zd step ok (step s t) ts
structure EX (σ:Type) where
 ts:List Tr
 vs:List Value
 rest:List Value
 b:Nat
 cap:Nat
 lo:Bool
 s:σ
 B:List aA
def tk(t:Tr):Nat:=2*t.size+1
def Wd(ts:List Tr):ts.length<=(ts.map tk).sum:=by
 induction ts with
 |nil=>exact bV _
 |cons t ts ih=>simp only[aS,bY,nY,tk];omega
def rP(ts:List Tr):List Tr:=ts.reverse.flatMap Tr.pre
structure EI (A:Gh) {σ:Type} (step:σ->Tr->σ) (ok:σ->Tr->Prop) (Inv:σ->List aA->Gh->Prop) (N:Nat) (fin:σ) (x:EX σ) (G:Gh):Prop where
 rel:iB (fun v t=> ∃p,v= .pointer p/\Is A (eU t) (.pointer p)) x.vs x.ts
 cap:x.vs.length+x.rest.length=x.cap
 inv:Inv x.s x.B G
 mu:(x.ts.map tk).sum<=N
 okf:zd step ok x.s (rP x.ts)
 fin:(rP x.ts).foldl step x.s=fin
def JL{α β:Type}{R:α->β->Prop}{v:α}{t:β}: ∀{vs:List α} {ts:List β},iB R (vs++[v]) (ts++[t])->iB R vs ts/\R v t
 |[],[], .cons h .nil=>⟨.nil,h⟩
 |[],_::b, .cons _ h=>by cases b<;>cases h
 |_::a,[], .cons _ h=>by cases a<;>cases h
 |_::_,_::_, .cons h k=>⟨.cons h (JL k).1,(JL k).2⟩
theorem okx{p:Prop}(h:p:=by simp only[aS];omega):p:=h
def aHH{f:FuncId}{c2:List Value}{σ:Type}{step:σ->Tr->σ}{ok:σ->Tr->Prop}{Inv:σ->List aA->Gh->Prop}(V:Te f c2 σ step ok Inv){t:Tr}{p:Option Addr}{s:σ}{B:List aA}{G:Gh}
  (h:Is G (eU t) (.pointer p))(hI:Inv s B G)(hok:zd step ok s t.pre)(hs:t.size<=1000000000000):
  iD prog 254 [.pointer p, .func (.func f) #[] ⟨c2⟩] B G (fun _ B' G'=>Inv (t.pre.foldl step s) B' G'):=by
 refine iD.intro func254 J J ntmps254 J ?_;intro C _ _;refine sR<|sm J J<|?_;refine sc (Pi J okS okS oma oma J ?_);intro b1;refine sa J J<|zE<|yf<|?_;refine Ts (X:=EX σ) (fun x=>[(4, .slice (some ⟨x.b,0,none⟩) x.vs.length x.cap),(1, .func (.func f) #[] ⟨c2⟩)]) (fun x=>⟨x.b,x.vs++x.rest,81,x.lo⟩::x.B) (EI G step ok Inv (tk t) (t.pre.foldl step s)) (fun x=>(x.ts.map tk).sum)
  ⟨[t],[.pointer p],[],b1,1,true,s,asB B⟩ ⟨.cons ⟨p,J,h⟩ .nil,J,V.re (fun _=>false) hI,omc,by simpa[rP] using hok,by simp[rP]⟩ (.cons J (.cons J .nil)) J ?_
 rintro ⟨ts,vs,rest,b,cap,lo,s1,B1⟩ Gx _ ⟨hrel,hcap,hinv,hmu,hokf,hfin⟩;simp only at hrel hcap hinv hmu hokf hfin;have hln:=hrel.len;have hlt:=Wd ts;unfold tk at hmu hlt;refine fw<|sR<|sm J J<|uB J J<|sy (CV J J) J<|zE<|?_;refine Ou J (fun hc=>?_) (fun hc=>?_)
 .refine Pu<|Gc<|Gc<|RP<|?_
  refine IA .nil _ _ (List.Perm.refl _) (nV _ _) ?_;obtain rfl:ts=[]:=by
   cases ts with
   |nil=>rfl
   |cons a l=>simp only[aS] at hln;exfalso;apply hc;show(0:Int)<(vs.length:Int);omega
  have:s1=t.pre.foldl step s:=hfin;rw[<-this];exact hinv
 refine zK<|?_;obtain⟨vs,v,rfl⟩: ∃vs' v',vs=vs'++[v']:=by
  rcases oQ vs with e|⟨a,b,e⟩
  .subst e;simp at hc
  .exact⟨a,b,by rw[e,oZ]⟩
 obtain⟨ts,u,rfl⟩: ∃vs' v',ts=vs'++[v']:=by
  rcases oQ ts with e|⟨a,b,e⟩
  .subst e;simp at hln
  .exact⟨a,b,by rw[e,oZ]⟩
 obtain⟨hrel1,q,rfl,hq⟩:=JL hrel;have hl1:(vs++[Value.pointer q]).length=vs.length+1:=by simp
 have hst:rP (ts++[u])=u.pre++rP ts:=by simp[rP]
 rw[hst] at hokf hfin;simp only[aL,tL,bY,iU,nY,List.sum_nil,gV,aY,eY] at hmu hlt hln hcap;refine aBH [(4,Value.slice (some ⟨b,0,none⟩) (vs.length+1:Nat) cap),(1, .func (.func f) #[] ⟨c2⟩)] (.cons (by show some (Value.slice _ (vs++[Value.pointer q]).length _)=_;rw[hl1]) (.cons J .nil)) ?_;refine yf<|sR<|sm J J<|uB J J<|sy (aAO J J) J<|sa J J<|zE<|sR<|sm J J<|?_;rw[show((vs.length+1:Nat):Int)-1=(vs.length:Nat) by omega];refine sm J J<|sy (wc J J) J<|?_;refine sy (pp (v:=Value.pointer q) J (by rw[cK,jT,dT,jN (bV _),qK];rfl)) J<|sa J J<|zE<|sR<|sm J J<|sm J J<|sy (Hl J J) J<|?_;rw[cK];refine sa J J<|zE<|sR<|sm J J<|sm J J<|?_;have hokq:ok s1 u/\zd step ok (step s1 u) (u.pre.tail++rP ts):=by cases u<;>exact hokf
 refine sc (CM (c1:=[]) (M:=B1) (rest:=[⟨b,vs++[Value.pointer q]++rest,81,lo⟩]) J J (jK (l₁:=[_])) (V.go hokq.1 hinv (hq.up GL.le)) J ?_);rintro _ B2 G2 fl _ _ _ hinv2;replace hinv2:=V.re fl hinv2;refine Dx (⟨b,vs++Value.pointer q::rest,81,lo⟩::B2.map (relo fl)) (by rw[dT];exact(jK (l₂:=[_]))) ?_;generalize B2.map (relo fl)=B2 at*;refine zE<|sR<|sm J J<|?_
 cases u with
 |leaf bb=>
  refine sc (zC J J (PF.fn0 p6 (.cons (hq.up GL.le) .nil)) J ?_);rintro _ G3 _ hv
  cases aP.1 hv
  refine sy (uc J) J<|zE<|s5 J<|zK<|?_;exact KN ⟨ts,vs,Value.pointer q::rest,b,cap,lo,step s1 (.leaf bb),B2⟩ ⟨hrel1,by simp only[aS];omega,V.up GL.le hinv2,by simp only;unfold tk;omega,hokq.2,hfin⟩ (by simp only[aL,tL,bY,iU,nY,List.sum_nil];unfold tk;omega) (.cons J (.cons J .nil)) J
 |node l x y=>
  obtain⟨nbk,m,e,hg,hm⟩:=mF.1 (id hq)
  cases e
  obtain⟨n1,d1,p1,n2,d2,p2,n3,d3,p3,q1,q2,rfl,_,hx,hy⟩:=TR hm;have hgg:ub G nbk _:=⟨hg⟩;refine sc (zC J J (PF.fn0 s8 (.cons (hq.up GL.le) .nil)) J ?_);rintro _ G3 _ hv
  cases aP.1 hv
  refine sy (uc J) J<|zE<|uz J<|?_;refine wk [] (fun _=>false) [(0,true),(1,true),(2,true),(3,true),(4,true),(5,true),(6,true),(7,true),(8,true),(9,false),(10,false),(11,true)] follows omd<|dM J J J<|?_;refine dM J J J<|dy J (fun _=>og J) J J<|dF J J J<|dy J (fun _=>tA J vo J) J J<|?_;refine dM J J J<|dy J (fun _=>og J) J J<|dF J J J<|dy J (fun _=>tA J vo J) J J<|?_;refine dc J J (U9 okS okS okS okS J ?_);intro b3;refine mA<|?_;refine dc J J (JU (m:=2) (xs:=vs) (ys:=[Value.pointer q2,Value.pointer q1]) (rest:=Value.pointer (some ⟨nbk,0,none⟩)::rest) J J (.tl _ _ _ _ (.hd ..)) we okx we (Ao inferInstance J) J (by simp[Sx.flat]) oma we okS J ?_);intro b4 lo4 cap4 rest4 h1 h2;refine mA<|dA J J J<|dn<|?_;have hsz:(Tr.node l x y).size=1+x.size+y.size:=J;refine Rk (⟨b4,vs++[Value.pointer q2,Value.pointer q1]++rest4,81,lo4⟩::B2) (.cons_cons _ (nV _ _)) ?_;have hs2:rP (ts++[y,x])=x.pre++y.pre++rP ts:=by simp[rP]
  refine KN ⟨ts++[y,x],vs++[Value.pointer q2,Value.pointer q1],rest4,b4,cap4,lo4,step s1 (.node l x y),B2⟩ ⟨hrel1.app (.cons ⟨_,J,hy⟩ (.cons ⟨_,J,hx⟩ .nil)),by simp only[aY,aS,eX];omega,V.up GL.le hinv2,?_,?_,?_⟩ ?_ (.cons (by show some (Value.slice _ (vs.length+2) _)=some (Value.slice _ (vs++[_,_]).length _);rw[aY];rfl) (.cons J .nil)) J
  .simp only[aL,tL,bY,iU,nY,List.sum_nil];unfold tk;omega
  .simp only;rw[hs2];exact hokq.2
  .simp only;rw[hs2];exact hfin
  .simp only[aL,tL,bY,iU,nY,List.sum_nil];unfold tk;omega
def YY{P:Program}{C:aH}{n:Nat}{fr:Fr}{own:List aA}{G:Gh}{Φ:Act->World->Prop}{dst:Option Nat}{ty':TypeId}{pos:String}{af:Array Edge}{gd:Option (Nat×Bool)}{f:FuncId}{fo:Operand}{args:Array Operand}{tys:Array TypeId}{vs:List Value}{M rest:List aA}{K:Value->List aA->Gh->Prop}(ho:aE fr fo=some (.func (.func f) #[] #[]))(hv:fI fr args.toList=some vs)
  (hp:own.Perm (M++rest))(hF:iD P f vs M G K)(hd:co n dst=true)
  (h: ∀v own1 (G':Gh) (fl:Nat->Bool),[GE G G']->(∀m∈M,m.lo=false->fl m.b=false)->((∀m∈M,m.lo=true)-> ∀b,fl b=true)->K v own1 G'->St C n (put fr dst v) (own1.map (relo fl)++rest) G' Φ):
  Ch P C n fr own G ⟨dst, .call ⟨.value fo,args,tys⟩,ty',pos,af,gd⟩ Φ:=
 CM (c1:=[]) (c2:=[]) ho hv hp ozs hd h
def szI(nbk:Nat)(s:Nat)(B:List aA)(_:Gh):Prop:= ∃lo,B=[⟨nbk,[.int .i64 s],3,lo⟩]
def uP(s:Nat):Tr->Nat
 | .leaf _=>s
 | .node .. =>s+1
def aAZ(nbk:Nat):Te 255 [.pointer (some ⟨nbk,0,none⟩)] Nat uP (fun s _=>s<1000000000000) (szI nbk) where
 up:=fun _ h=>h
 re:=fun{s B G} fl h=>by obtain⟨lo,rfl⟩:=h;exact⟨_,rfl⟩
 go:=by
  intro s t p B G hs hI ht;obtain⟨lo,rfl⟩:=hI;refine iD.intro func255 J J ntmps255 J ?_;intro C _ _;show St C _ _ [⟨nbk,_,_,false⟩] _ _
  cases t with
  |node l x y=>
   refine sR<|sm J J<|?_;refine sc (zC J J (PF.fn0 s8 (.cons ht .nil)) J ?_);rintro _ G1 _ hv
   cases aP.1 hv
   refine sy (uc J) J<|zE<|uz J<|Fa<|ol J J J<|sy (Aa J J) J<|?_;refine sc (A9 J J J (.hd ..) (nb J) J J ?_);refine zE<|?_;exact IA .nil _ _ (List.Perm.refl _) (List.Sublist.refl _) ⟨false,by show [_]=[_];rfl⟩
  |leaf b=>
   refine sR<|sm J J<|?_;refine sc (zC J J (PF.fn0 p6 (.cons ht .nil)) J ?_);rintro _ G1 _ hv
   cases aP.1 hv
   refine sy (uc J) J<|zE<|s5 J<|zK<|?_;exact IA .nil _ _ (List.Perm.refl _) (List.Sublist.refl _) ⟨false,J⟩
def JG: ∀(t:Tr) (s:Nat),t.pre.foldl uP s=s+t.size
 | .leaf _,s=>rfl
 | .node l x y,s=>by
  simp only[Tr.pre,iQ,mV,uP,JG x,JG y,Tr.size];omega
def MY: ∀(t:Tr) (s:Nat) (L:List Tr),s+t.size<1000000000000->(∀s',s'=s+t.size->zd uP (fun s _=>s<1000000000000) s' L)->zd uP (fun s _=>s<1000000000000) s (t.pre++L)
 | .leaf _,s,L,h,k=>⟨by simp only[Tr.size] at h;omega,k _ J⟩
 | .node l x y,s,L,h,k=>by
  simp only[Tr.size] at h k;simp only[Tr.pre,gL,dT];exact⟨we,MY x _ _ (by simp only[uP];omega) fun s1 e1=>MY y _ _ (by subst e1;simp only[uP];omega) fun s2 e2=>k _ (by subst e1 e2;simp only[uP];omega)⟩
def aHe{t:Tr}(hs:t.size<1000000000000):PF GB prog 191 [eU t] (vI (t.size:Nat)):=by
 intro G vs _ hv;obtain⟨v0,m,rfl,h,hm⟩:=bA.1 hv;rw[fh] at hm;subst hm;obtain⟨p,rfl⟩:=yh h;refine Fn.intro func191 J J ntmps191 J ?_;intro C _ _;refine sR<|sa J J<|zE<|sR<|?_;refine sc (vL J ?_);intro b1;refine sc (A9 J J J (.hd ..) (nb J) J J ?_);refine zE<|sR<|sm J J<|sy (L1 J J) J<|?_;have hok:zd uP (fun s _=>s<1000000000000) 0 t.pre:=by
  have:=MY t 0 [] we (fun _ _=>trivial);rwa [fR] at this
 refine sc (YY (M:=[⟨b1,[.int .i64 0],3,true⟩]) (rest:=[]) J J (List.Perm.refl _) (aHH (aAZ b1) h ⟨true,J⟩ hok we) J ?_);rintro _ B G2 fl _ _ _ ⟨lo,rfl⟩;rw[JG,fX];show St C _ _ [⟨b1,[.int .i64 t.size],3,_⟩] _ _;refine zE<|sR<|ol J J J<|sa J J<|zE<|lD<|?_;exact zD (.tmp J .nil) (aP.2 J)

end Go.Sx
end
section
namespace Go.Sx
open Go Go.Proofs Go.RowKit Go.Extern.Stop Go.Stop Go.Extern
def VV(a:Addr):DV:= .v (.iface 384 (.pointer (some a)))
end Go.Sx
end
section
namespace Go.Sx
open Go Go.Proofs Tryz
section
variable {GB:Gh} {C:aH} {n:Nat} {Q0:Exit->Act->World->Prop} {fr fr':aF} {own own':bh} {cf cf':Cf} {vc:List Prop}
def NW(fr:aF)(cf:Cf):Option Nat:=match di fr cf with
 |some ⟨_, .load t (.global g),_,_,_,_⟩=>(match eo tt t with
  |some i=>match i.ag with
   |some none=>some g
   |_=>none
  |none=>none)
 |_=>none
def gl[fu:Fu]{g:Nat}{v:Value}(h:NW fr cf=some g)(hg:GB g=some [v])(hgo:c6 tt n fu.n fr own cf (.d (.v v)) [] []=⟨vc,fr',own',cf'⟩)(k:av prog GB C n Q0 fr' own' cf')
  (hv:autoParam (ak vc) cL._auto_1):av prog GB C n Q0 fr own cf:=by
 unfold NW at h;split at h<;>try (cases h;done)
 rename_i hh;split at h<;>try (cases h;done)
 rename_i i hT;split at h<;>cases h;rename_i ha;haveI:=ye (fi _ _ hT) ha;refine us (f:= .d (.v v)) hh (b9.yd fun ρ G ov a w r=>⟨v,(aP (G:=G)).2 J,?_⟩) hgo hv k;haveI:ub G g [v]:=⟨r.gb _ _ hg⟩;exact tA (b:=g) (off:=0) J vo J
def Ry{d:Nat}{f:FX}{x:DV}(hl:bi fr d=some f)(e:ki f=some x){Φ:Act->World->Prop}(h:SX GB C n (bi ((d, .d x)::fr)) (bC own) Φ):SX GB C n (bi fr) (bC own) Φ:=oq (g:= .d x) hl (fun _ _ _ k=>mI k e) h
def N7(d:Nat){f:FX}(x:DV){e:Exit}{K:List Kt}(hl:bi fr d=some f)(e1:ki f=some x)(k:av prog GB C n Q0 ((d, .d x)::fr) own (.ex e K)):av prog GB C n Q0 fr own (.ex e K):=Ry hl e1 k
def Nd(d:Nat){f:FX}(x:DV){c:Code}{K:List Kt}(hl:bi fr d=some f)(e1:ki f=some x)(k:av prog GB C n Q0 ((d, .d x)::fr) own (.code c K)):av prog GB C n Q0 fr own (.code c K):=Ry hl e1 k
def X'{nm0 nm:Nat}{B1 B2:Option Bk}:bC (oF (oF own nm0 B1) nm B2)=upB (upB (bC own) [(nm0,B1)]) [(nm,B2)]:=by
 funext j;rw[Cm];simp only[upB];rw[Cm]
def Wj{nm0 nm k:Nat}(hnm:Nat.blt nm 2000000=true){ty0:TypeId}{cs:List FX}{lo:Bool}(hb:bC own nm0=some (.o ty0 cs lo))(hk:cs[k]? =some .nl)(hne:nm0≠nm){Φ:Act->World->Prop}{ty s:Nat}(hf:kE [nm] none (bi fr) (bC own))
  (h:SX GB C n (bi fr) (bC (oF (oF own nm0 (some (.o ty0 (cs.set k (.rw nm)) lo))) nm (some (.b ty s [] true)))) Φ):SX GB C n (bi fr) (bC own) Φ:=by
 refine⟨fun ρ G ov a w r=>?_⟩;obtain⟨f1,f2⟩:=hf nm aQ;rw[X'] at h;refine h.run (fun k=>if k=nm then⟨none,0,0⟩ else ρ k) G ov a w ⟨r.gb,r.h,r.sz,r.df,fun k f e=>?_,fun m B e=>?_,fun m m' B B' e e' hne=>?_,fun m p h1 h2 e=>by
  have:nm<2000000:=by simpa[lV] using hnm
  show(if m=nm then(⟨none,0,0⟩:SV) else ρ m).a=_;rw[if_neg we];exact r.fxd m p h1 h2 e⟩
 .obtain⟨v,h1,h2⟩:=r.fx k f e
  exact⟨v,h1,h2.ren fun m hm=>wl _ fun hc=>f1 k f omc e (by rw[hm,hc])⟩
 .simp only[upB] at e
  by_cases hm:m=nm
  .subst hm;simp only[if_true] at e;cases e
   exact⟨[],⟨[],by simp only[if_true];exact .inl ⟨J,J,J⟩, .nil,omc,fun _ o ho=>by cases ho⟩,fun o ho=>by cases ho⟩
  .simp only[hm,if_false] at e
   by_cases hm0:m=nm0
   .subst hm0;simp only[if_true] at e;cases e
    obtain⟨os,h1,h2⟩:=r.bx m _ hb;have h1':mc (fun k=>if k=nm then⟨none,0,0⟩ else ρ k) G m (.o ty0 cs lo) os:=h1.ren (if_neg hm) fun q hq=>wl _ fun hc=>f2 m _ hm hb ozb;obtain⟨b,ms,k1,k2,k3⟩:=h1';refine⟨os,⟨b,ms,k1,k2,?_⟩,h2⟩;obtain⟨y,e1,e2⟩:=k3.get hk;have:=k3.set (f:= .rw nm) (y:=y) k (by show y=_;simp only[if_true];exact e2);rwa [show ms.set k y=ms by apply mX;intro j;rw[qZ];split<;>(try rfl);rename_i hj;subst hj;split<;>simp_all] at this
   .simp only[hm0,if_false] at e
    obtain⟨os,h1,h2⟩:=r.bx m B e;exact⟨os,h1.ren (if_neg hm) fun q hq=>wl _ fun hc=>f2 m B hm e ozb,h2⟩
 .intro b hbb hb'
  have key: ∀q B,upB (upB (bC own) [(nm0,some (.o ty0 (cs.set k (.rw nm)) lo))]) [(nm,some (.b ty s [] true))] q=some B->q≠nm-> ∃B0,bC own q=some B0:=fun q B eq hq=>by
   simp only[upB,hq,if_false] at eq;by_cases hq0:q=nm0
   .subst hq0;exact⟨_,hb⟩
   .simp only[hq0,if_false] at eq;exact⟨_,eq⟩
  by_cases hm:m=nm
  .simp[hm] at hbb
  .by_cases hm':m'=nm
   .simp[hm'] at hb'
   .obtain⟨B0,g0⟩:=key m B e hm
    obtain⟨B1,g1⟩:=key m' B' e' hm';simp only[hm,hm',if_false] at hbb hb';exact r.dj m m' B0 B1 g0 g1 hne b hbb hb'
def JB(nm0 k nm ty s:Nat){ty0:TypeId}{cs:List FX}{lo:Bool}{own1:bh}{c:Code}{K:List Kt}(hb:bC own nm0=some (.o ty0 cs lo))(hk:cs[k]? =some .nl)(hf:vv [nm] none fr own=true)(hne:Nat.beq nm0 nm=false)
  (ho:oF (oF own nm0 (some (.o ty0 (cs.set k (.rw nm)) lo))) nm (some (.b ty s [] true))=own1)(h:av prog GB C n Q0 fr own1 (.code c K))(hnm:Nat.blt nm 2000000=true:=by rfl):av prog GB C n Q0 fr own (.code c K):=by
 subst ho;exact Wj hnm hb hk (fun e=>by subst e;rw[oY] at hne;cases hne) (Ck hf) h
def VT{ρ:NE}{G:Gh}: ∀{a b:List FX} {m:List Value},dB ρ G (a++b) m-> ∃m1 m2,m=m1++m2/\dB ρ G a m1/\dB ρ G b m2
 |[],b,m,h=>⟨[],m,J,J,h⟩
 |f::t,b,m,⟨y,n,e,h1,h2⟩=>by
  obtain⟨m1,m2,rfl,k1,k2⟩:=VT h2;exact⟨y::m1,m2,e,⟨y,m1,J,h1,k1⟩,k2⟩
end
end Go.Sx
end
