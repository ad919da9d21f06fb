/- Part 12 of a proof. -/
import Derived.Test.YtfccecinjmbfhaaGreatDoorMb11
set_option linter.unusedSimpArgs false
set_option maxHeartbeats 4000000
set_option maxRecDepth 100000
set_option linter.unusedVariables false
section
namespace Go.Sx
open Go Go.Proofs Tryz
variable {GB:Gh}
class LB (l:LnQ):Prop where bl:BL l 96
instance LB.a (l:LnQ) [h:LB l]:BI l.a 96:=⟨h.bl.a⟩
instance LB.b (l:LnQ) [h:LB l]:BI l.b 96:=⟨h.bl.b⟩
instance LB.c (l:LnQ) [h:LB l]:BI l.c 96:=⟨h.bl.c⟩
class BPt (p:PtQ) (k:outParam Nat):Prop where
 x:BQ p.x k
 y:BQ p.y k
instance BPt.ix (p:PtQ) (k:Nat) [h:BPt p k]:BQ p.x k:=h.x
instance BPt.iy (p:PtQ) (k:Nat) [h:BPt p k]:BQ p.y k:=h.y
instance BPt.dir (l:LnQ) [LB l]:BPt l.dir 97:=⟨inferInstanceAs (BQ (l.b:Rat) 97),inferInstanceAs (BQ (-(l.a:Rat)) 97)⟩
instance BQ.dot (p q:PtQ) (i j:Nat) [BPt p i] [BPt q j]:BQ (p.dot q) (i+j+(i+j)+1):=inferInstanceAs (BQ (p.x*q.x+p.y*q.y) _)
instance BQ.cross (p q:PtQ) (i j:Nat) [BPt p i] [BPt q j]:BQ (p.cross q) (i+j+(i+j)+1):=inferInstanceAs (BQ (p.x*q.y-p.y*q.x) _)
instance BPt.mov (p q:PtQ) (c:Rat) (i j k:Nat) [BPt p i] [BPt q j] [BQ c k]:BPt (acu p q c) (i+(k+j)+1):=⟨inferInstanceAs (BQ (p.x+c*q.x) _),inferInstanceAs (BQ (p.y+c*q.y) _)⟩
instance BQ.value (l:LnQ) (p:PtQ) (i:Nat) [LB l] [BPt p i]:BQ (l.value p) (96+1+i+(96+1+i)+1+(96+1)+1):=inferInstanceAs (BQ ((l.a:Rat)*p.x+(l.b:Rat)*p.y+(l.c:Rat)) _)
theorem aBv{l:LnQ}(h:l.Ne):l.dir.dot l.dir≠0:=by have:=amC h;grind
theorem ahd{l:LnQ}:PF GB prog 131 [eL l] (eP l.dir):=by
 refine fn func131 J J ntmps131 J J (fun C=>?_)
 refine cl rfl ako rfl<|cl rfl ako rfl<|cl rfl alI rfl<|?_
 exact rz J J
theorem aAx{p q:PtQ}{i j:Nat}[hp:BPt p i][hq:BPt q j](hi:i≤200000:=by decide)(hj:j≤200000:=by decide):PF GB prog 287 [eP p,eP q] (eQ (p.dot q)):=by
 refine fn func287 J J ntmps287 J J (fun C=>?_)
 refine cl rfl (abn (by omega) (by omega)) rfl<|cl rfl (abn (by omega) (by omega)) rfl<|cl rfl (aeN (by omega) (by omega)) rfl<|?_
 exact rz J J
theorem aha{p q:PtQ}{i j:Nat}[hp:BPt p i][hq:BPt q j](hi:i≤200000:=by decide)(hj:j≤200000:=by decide):PF GB prog 80 [eP p,eP q] (eQ (p.cross q)):=by
 refine fn func80 J J ntmps80 J J (fun C=>?_)
 refine cl rfl (abn (by omega) (by omega)) rfl<|cl rfl (abn (by omega) (by omega)) rfl<|cl rfl (alt (by omega) (by omega)) rfl<|?_
 exact rz J J
theorem afQ{p q:PtQ}{c:Rat}{i j k:Nat}[hp:BPt p i][hq:BPt q j][hc:BQ c k](hi:i≤200000:=by decide)(hj:j≤200000:=by decide)(hk:k≤200000:=by decide):PF GB prog 21 [eP p,eQ c,eP q] (eP (acu p q c)):=by
 refine fn func21 J J ntmps21 J J (fun C=>?_)
 refine cl rfl (abn (by omega) (by omega)) rfl<|cl rfl (aeN (by omega) (by omega)) rfl<|cl rfl (abn (by omega) (by omega)) rfl<|cl rfl (aeN (by omega) (by omega)) rfl<|?_
 exact rz J J
theorem akS{l:LnQ}{p:PtQ}{i:Nat}[hl:LB l][hp:BPt p i](hi:i≤400000:=by decide):PF GB prog 282 [eL l,eP p] (eQ (l.value p)):=by
 refine fn func282 J J ntmps282 J J (fun C=>?_)
 refine cl rfl (ako (z:=l.a)) rfl<|cl rfl (abn (by omega) (by omega)) rfl<|cl rfl (ako (z:=l.b)) rfl<|cl rfl (abn (by omega) (by omega)) rfl<|?_
 refine cl rfl (aeN (by omega) (by omega)) rfl<|cl rfl (ako (z:=l.c)) rfl<|cl rfl (aeN (by omega) (by omega)) rfl<|?_
 exact rz J J
theorem aoP{l:LnQ}{p:PtQ}{i:Nat}[hl:LB l][hp:BPt p i](hi:i≤400000:=by decide):PF GB prog 280 [eL l,eP p] (vI (l.value p).num.sign):=by
 refine fn func280 J J ntmps280 J J (fun C=>?_)
 refine cl rfl (akS hi) rfl<|cl rfl q_S rfl<|?_
 exact rz J J
theorem atT{l:LnQ}[hl:LB l](hn:l.Ne):PF GB prog 281 [eL l] (eP l.base):=by
 refine fn func281 J J ntmps281 J J (fun C=>?_)
 refine cl rfl ahd rfl<|cl rfl (ako (z:=l.c)) rfl<|cl rfl aAx rfl<|cl rfl (ajX (aBv hn)) rfl<|cl rfl alI rfl<|cl rfl (ako (z:=l.a)) rfl<|?_
 refine cl rfl abn rfl<|cl rfl (ako (z:=l.b)) rfl<|cl rfl abn rfl<|?_
 exact rz rfl (by rw[←ap3];rfl)
instance BPt.base (l:LnQ) [LB l]:BPt l.base 900:=by
 rw[←ap3]
 constructor
 ·exact BQ.mono (inferInstance:BQ (-((l.c:Rat)/l.dir.dot l.dir)*(l.a:Rat)) _) (by decide)
 ·exact BQ.mono (inferInstance:BQ (-((l.c:Rat)/l.dir.dot l.dir)*(l.b:Rat)) _) (by decide)
theorem aFx{l:LnQ}{t:Rat}{k:Nat}[hl:LB l][ht:BQ t k](hn:l.Ne)(hk:k≤200000:=by decide):PF GB prog 241 [eL l,eQ t] (eP (l.at t)):=by
 refine fn func241 J J ntmps241 J J (fun C=>?_)
 refine cl rfl (atT hn) rfl<|cl rfl ahd rfl<|cl rfl (afQ (by decide) (by decide) hk) rfl<|?_
 exact rz rfl (by rw[←af6];rfl)
theorem ak5{l:LnQ}{p:PtQ}{k:Nat}[hl:LB l][hp:BPt p k](hn:l.Ne)(hk:k≤200000:=by decide):PF GB prog 247 [eL l,eP p] (eQ (abp l p)):=by
 refine fn func247 J J ntmps247 J J (fun C=>?_)
 refine cl rfl ahd rfl<|cl rfl (aAx (by omega) (by decide)) rfl<|cl rfl (aAx (by omega) (by decide)) rfl<|cl rfl (ajX (aBv hn) (by omega) (by decide)) rfl<|?_
 exact rz J J
instance BI.crossI (l m:LnQ) [LB l] [LB m]:BI (crossI l m) 385:=inferInstanceAs (BI (l.a*m.b-m.a*l.b) 385)
instance BI.meetX (l m:LnQ) [LB l] [LB m]:BI (meetX l m) 385:=inferInstanceAs (BI (l.b*m.c-m.b*l.c) 385)
instance BI.meetY (l m:LnQ) [LB l] [LB m]:BI (meetY l m) 385:=inferInstanceAs (BI (m.a*l.c-l.a*m.c) 385)
instance BPt.imeet (l m:LnQ) [LB l] [LB m]:BPt (abH l m) 772:=by
 unfold abH
 split
 ·exact⟨BQ.mono (k:=1) ⟨by decide,by decide⟩ (by decide),BQ.mono (k:=1) ⟨by decide,by decide⟩ (by decide)⟩
 ·exact⟨inferInstanceAs (BQ ((meetX l m:Rat)/(crossI l m:Rat)) 772),inferInstanceAs (BQ ((meetY l m:Rat)/(crossI l m:Rat)) 772)⟩
theorem aj6(l m:LnQ):(((l.a:Rat)*(m.b:Rat)-(m.a:Rat)*(l.b:Rat)).num.sign=0)↔crossI l m=0:=by
 rw[abN,←aea]
 exact cR
theorem aoI{l m:LnQ}(h:crossI l m≠0):(l.a:Rat)*(m.b:Rat)-(m.a:Rat)*(l.b:Rat)≠0:=by
 rw[←aea]
 exact fun e=>h (cR.1 e)
theorem as0{l m:LnQ}[hl:LB l][hm:LB m]:PF GB prog 137 [eL l,eL m] (.tp [eP (abH l m),vB (decide (crossI l m≠0))]):=by
 refine fn func137 J J ntmps137 J J (fun C=>?_)
 refine cl rfl (ako (z:=l.a)) rfl<|cl rfl (ako (z:=m.b)) rfl<|cl rfl abn rfl<|cl rfl (ako (z:=m.a)) rfl<|cl rfl (ako (z:=l.b)) rfl<|?_
 refine cl rfl abn rfl<|cl rfl alt rfl<|cl rfl q_S rfl<|?_
 refine br J J J (fun hc26=>?_) (fun hc26=>?_)
 ·
  have hcr:=(aj6 l m).1 hc26
  exact rz rfl (by unfold abH;rw[if_pos hcr,decide_eq_false (fun e=>e hcr)];show DV.tp [.ag [_, .sl [], .sl [],_, .sl [], .sl []],_]= .tp [eP ⟨0,0⟩,_];unfold eP dD;simp only[show(0:Rat).num=0 from rfl,show(0:Rat).den=1 from rfl,jS,ac6];rfl)
 ·
  have hcr:crossI l m≠0:=fun e=>hc26 ((aj6 l m).2 e)
  refine cl rfl (ako (z:=l.b)) rfl<|cl rfl (ako (z:=m.c)) rfl<|cl rfl abn rfl<|cl rfl (ako (z:=m.b)) rfl<|cl rfl (ako (z:=l.c)) rfl<|?_
  refine cl rfl abn rfl<|cl rfl alt rfl<|cl rfl (ako (z:=m.a)) rfl<|cl rfl (ako (z:=l.c)) rfl<|cl rfl abn rfl<|cl rfl (ako (z:=l.a)) rfl<|?_
  refine cl rfl (ako (z:=m.c)) rfl<|cl rfl abn rfl<|cl rfl alt rfl<|cl rfl (ajX (aoI hcr)) rfl<|cl rfl (ajX (aoI hcr)) rfl<|?_
  exact rz rfl (by unfold abH;rw[if_neg hcr,decide_eq_true hcr,akk,ajO,aea];rfl)
def aiW(l m:LnQ):Int:=if(l.a-m.a).sign≠0 then(l.a-m.a).sign else if(l.b-m.b).sign≠0 then(l.b-m.b).sign else(l.c-m.c).sign
theorem agt(l m:LnQ):aiW l m=0↔l=m:=by
 unfold aiW
 constructor
 ·intro h
  split at h
  ·contradiction
  ·split at h
   ·contradiction
   ·rename_i h1 h2
    have a1:=iU.1 (Decidable.not_not.1 h1)
    have a2:=iU.1 (Decidable.not_not.1 h2)
    have a3:=iU.1 h
    exact LnQ.ext' (by omega) (by omega) (by omega)
 ·rintro rfl
  simp
theorem apJ{l m:LnQ}[hl:LB l][hm:LB m]:PF GB prog 195 [eL l,eL m] (vI (aiW l m)):=by
 refine fn func195 J J ntmps195 J J (fun C=>?_)
 refine cl rfl (ahe (a:=l.a) (b:=m.a)) rfl<|?_
 refine br J J J (fun hc13=>?_) (fun hc13=>?_)
 ·
  exact rz rfl (by show vI _=_;unfold aiW;rw[if_pos hc13])
 ·
  refine cl rfl (ahe (a:=l.b) (b:=m.b)) rfl<|?_
  refine br J J J (fun hc21=>?_) (fun hc21=>?_)
  ·
   exact rz rfl (by show vI _=_;unfold aiW;rw[if_neg hc13,if_pos hc21])
  ·
   refine cl rfl (ahe (a:=l.c) (b:=m.c)) rfl<|?_
   exact rz rfl (by show vI _=_;unfold aiW;rw[if_neg hc13,if_neg hc21])
theorem axY{v:PtQ}:PF GB prog 285 [eP v] (vI v.half):=by
 refine fn func285 J J ntmps285 J J (fun C=>?_)
 refine cl rfl (q_S (q:=v.x)) rfl<|cl rfl (q_S (q:=v.y)) rfl<|?_
 refine cs 13 J J J (fun hg13=>?_) (fun hg13=>?_)
 ·
  refine br J J J (fun hc16=>?_) (fun hc16=>?_)
  ·
   exact rz rfl (by show vI _=vI _;unfold PtQ.half;generalize v.x.num.sign=sx at*;generalize v.y.num.sign=sy at*;congr 1;(repeat' split)<;>omega)
  ·
   refine cs 19 J J J (fun hg19=>?_) (fun hg19=>?_)
   ·
    exact rz rfl (by show vI _=vI _;unfold PtQ.half;generalize v.x.num.sign=sx at*;generalize v.y.num.sign=sy at*;congr 1;(repeat' split)<;>omega)
   ·
    refine cs 22 J J J (fun hg22=>?_) (fun hg22=>?_)
    ·
     refine br J J J (fun hc26=>?_) (fun hc26=>?_)
     ·
      exact rz rfl (by show vI _=vI _;unfold PtQ.half;generalize v.x.num.sign=sx at*;generalize v.y.num.sign=sy at*;congr 1;(repeat' split)<;>omega)
     ·
      exact rz rfl (by show vI _=vI _;unfold PtQ.half;generalize v.x.num.sign=sx at*;generalize v.y.num.sign=sy at*;congr 1;(repeat' split)<;>omega)
    ·
     exact rz rfl (by show vI _=vI _;unfold PtQ.half;generalize v.x.num.sign=sx at*;generalize v.y.num.sign=sy at*;congr 1;(repeat' split)<;>omega)
 ·
  refine cs 19 J J J (fun hg19=>?_) (fun hg19=>?_)
  ·
   exact rz rfl (by show vI _=vI _;unfold PtQ.half;generalize v.x.num.sign=sx at*;generalize v.y.num.sign=sy at*;congr 1;(repeat' split)<;>omega)
  ·
   refine cs 22 J J J (fun hg22=>?_) (fun hg22=>?_)
   ·
    refine br J J J (fun hc26=>?_) (fun hc26=>?_)
    ·
     exact rz rfl (by show vI _=vI _;unfold PtQ.half;generalize v.x.num.sign=sx at*;generalize v.y.num.sign=sy at*;congr 1;(repeat' split)<;>omega)
    ·
     exact rz rfl (by show vI _=vI _;unfold PtQ.half;generalize v.x.num.sign=sx at*;generalize v.y.num.sign=sy at*;congr 1;(repeat' split)<;>omega)
   ·
    exact rz rfl (by show vI _=vI _;unfold PtQ.half;generalize v.x.num.sign=sx at*;generalize v.y.num.sign=sy at*;congr 1;(repeat' split)<;>omega)
theorem aCN(z:Int): -1≤z.sign∧z.sign≤1:=by
 rcases pM z 0 with h|h|h
 ·rw[fJ h];omega
 ·rw[h];decide
 ·rw[gK h];omega
theorem ayY{u v:PtQ}{i j:Nat}[hu:BPt u i][hv:BPt v j](hi:i≤200000:=by decide)(hj:j≤200000:=by decide):PF GB prog 243 [eP u,eP v] (vI (aa5 u v)):=by
 refine fn func243 J J ntmps243 J J (fun C=>?_)
 refine cl rfl (axY (v:=u)) rfl<|cl rfl (axY (v:=v)) rfl<|?_
 refine br J J J (fun hc13=>?_) (fun hc13=>?_)
 ·
  refine br J J J (fun hc16=>?_) (fun hc16=>?_)
  ·
   exact rz rfl (by show vI _=vI _;unfold aa5;rw[if_pos hc16])
  ·
   exact rz rfl (by show vI _=vI _;unfold aa5;rw[if_neg hc16,if_pos (by omega)])
 ·
  refine cl rfl (aha hi hj) rfl<|cl (hv:=by simp only[aah];exact(by have:=aCN (u.cross v).num;omega)) rfl q_S rfl<|?_
  exact rz rfl (by show vI _=vI _;unfold aa5;rw[if_neg (by omega),if_neg (by omega)])
instance BQ.i1:BQ (((1:Int):Rat)) 2:=⟨by decide,by decide⟩
def eV(v:IvQ):DV:= .ag [.v (.bool (decide (v.lo.num<0))),dN v.lo.num.natAbs,dD v.lo.den, .v (.bool (decide (v.hi.num<0))),dN v.hi.num.natAbs,dD v.hi.den, .v (.bool v.nl), .v (.bool v.nh)]
theorem aBs:eV IvQ.all= .ag [.v (.bool false), .sl [], .sl [], .v (.bool false), .sl [], .sl [], .v (.bool true), .v (.bool true)]:=by
 unfold eV IvQ.all dD
 simp only[show(0:Rat).num=0 from rfl,show(0:Rat).den=1 from rfl,jS,ac6];rfl
theorem ar4:eQ 0= .ag [.v (.bool false), .sl [], .sl []]:=by
 unfold eQ dD
 simp only[show(0:Rat).num=0 from rfl,show(0:Rat).den=1 from rfl,jS,ac6];rfl
def abA(v:IvQ):Rat:=if v.nl=true∧v.nh=true then 0 else if v.nl=true then v.hi-1 else if v.nh=true then v.lo+1 else(v.lo+v.hi)/2
theorem axZ:PF GB prog 279 [] (eV IvQ.all):=by
 refine fn func279 J J ntmps279 J J (fun C=>?_)
 exact rz rfl (by rw[aBs];rfl)
theorem av7{v:IvQ}{i:Nat}[hl:BQ v.lo i][hh:BQ v.hi i](hi:i≤100000:=by decide):PF GB prog 242 [eV v] (eQ (abA v)):=by
 refine fn func242 J J ntmps242 J J (fun C=>?_)
 refine csb 6 J J J (fun hg6=>?_) (fun hg6=>?_)
 ·
  refine bb J J J (fun hc3=>?_) (fun hc3=>?_)
  ·
   exact rz rfl (by unfold abA;rw[if_pos ⟨hg6,hc3⟩,ar4];rfl)
  ·
   refine bb J J J (fun hc11=>?_) (fun hc11=>?_)
   ·
    refine cl rfl (ale (n:=1) (by decide) (by decide)) rfl<|cl rfl (alt (a:=v.hi) (b:=((1:Int):Rat)) (by omega) (by decide)) rfl<|?_
    exact rz rfl (by unfold abA;rw[if_neg (by simp[hc3]),if_pos hc11];rfl)
   ·
    refine bb J J J (fun hc18=>?_) (fun hc18=>?_)
    ·
     refine cl rfl (ale (n:=1) (by decide) (by decide)) rfl<|cl rfl (aeN (a:=v.lo) (b:=((1:Int):Rat)) (by omega) (by decide)) rfl<|?_
     exact rz rfl (by simp[hg6] at hc11)
    ·
     refine cl rfl (azd (a:=v.lo) (b:=v.hi) (by omega) (by omega)) rfl<|?_
     exact rz rfl (by simp[hg6] at hc11)
 ·
  refine bb J J J (fun hc11=>?_) (fun hc11=>?_)
  ·
   refine cl rfl (ale (n:=1) (by decide) (by decide)) rfl<|cl rfl (alt (a:=v.hi) (b:=((1:Int):Rat)) (by omega) (by decide)) rfl<|?_
   exact rz rfl (by simp[hg6] at hc11)
  ·
   refine bb J J J (fun hc18=>?_) (fun hc18=>?_)
   ·
    refine cl rfl (ale (n:=1) (by decide) (by decide)) rfl<|cl rfl (aeN (a:=v.lo) (b:=((1:Int):Rat)) (by omega) (by decide)) rfl<|?_
    exact rz rfl (by unfold abA;rw[if_neg (by simp[hg6]),if_neg (by simp[hg6]),if_pos hc18];rfl)
   ·
    refine cl rfl (azd (a:=v.lo) (b:=v.hi) (by omega) (by omega)) rfl<|?_
    exact rz rfl (by unfold abA;rw[if_neg (by simp[hg6]),if_neg (by simp[hg6]),if_neg (by simp[hc18])];rfl)
theorem BQ.of_fracI{q:Rat}{n D:Int}{i:Nat}(hd:0<D.natAbs)(h:q*((D.natAbs:Nat):Rat)=(n:Rat))(hn:BI n i)(hD:BI D i):BQ q i:=BQ.of_frac hd h hn.h hD.h
theorem apm{m:Int}{i j:Nat}(h:BI m i)(hij:i≤j):BI m j:=⟨cM h.h (bK (by decide) hij)⟩
theorem ah0{l m:LnQ}[LB l][LB m](hn:l.Ne)(h:crossI l m≠0):BQ (abp l (abH l m)) 1200:=by
 have e:=aqE hn h
 have hA:BI (crossI l m*(l.a*l.a+l.b*l.b)) _:=inferInstance
 have hB:BI (meetX l m*l.b-meetY l m*l.a) _:=inferInstance
 have hne:crossI l m*(l.a*l.a+l.b*l.b)≠0:=by
  intro q
  rcases rJ.1 q with q|q
  ·exact h q
  ·have h1:=amC hn
   simp only[LnQ.dir,PtQ.dot] at h1
   have h2:((l.a*l.a+l.b*l.b:Int):Rat)=((0:Int):Rat):=by rw[q]
   rw[pK,cV,cV] at h2
   have h3:((0:Int):Rat)=0:=rfl
   rw[h3] at h2
   grind
 have hA':=apm (j:=1200) hA (by decide)
 have hB':=apm (j:=1200) hB (by decide)
 generalize crossI l m*(l.a*l.a+l.b*l.b)=D at*
 generalize meetX l m*l.b-meetY l m*l.a=M at*
 by_cases hD:0<D
 ·refine BQ.of_fracI (n:=M) (D:=D) (by omega) ?_ hB' hA'
  rw[←e]
  congr 1
  have:((D.natAbs:Nat):Int)=D:=by omega
  rw[←this];rfl
 ·refine BQ.of_fracI (n:= -M) (D:=D) (by omega) ?_ (BI.neg M 1200 (h:=hB')) hA'
  rw[pY,←e]
  have:((D.natAbs:Nat):Rat)= -(D:Rat):=by
   have h1:((D.natAbs:Nat):Int)= -D:=by omega
   rw[←pY,←h1];rfl
  rw[this];grind
theorem ax5(k:Rat):k.num.sign≤0↔ ¬0<k:=by rw[←ac7];omega
theorem awm{w:IvQ}(h1: ¬w.nl=true)(h2: ¬w.nh=true)(h3:0≤abc w.lo w.hi):w.empty=true:=by
 unfold IvQ.empty
 simp[h1,h2,h3]
theorem anl{w:IvQ}(h:w.nl=true):w.empty=false:=by unfold IvQ.empty;simp[h]
theorem amq{w:IvQ}(h:w.nh=true):w.empty=false:=by unfold IvQ.empty;simp[h]
theorem alZ{w:IvQ}(h: ¬0≤abc w.lo w.hi):w.empty=false:=by unfold IvQ.empty;simp[h]
def aca(l:LnQ):List LnQ→IvQ→IvQ×Bool
 |[],v=>(v,true)
 |m::t,v=>if m=l then aca l t v else if l.cutB v m=true then aca l t (l.cutV v m) else(l.cutV v m,false)
theorem adw{l:LnQ}: ∀{c:List LnQ} {v:IvQ},(aca l c v).2=(ab3 l c v).isSome
 |[],v=>rfl
 |m::t,v=>by
  rw[aca,ahg]
  split
  ·exact adw
  ·split
   ·exact adw
   ·rfl
structure Stp (l:LnQ) (c:List LnQ) (k:Nat) (v:IvQ):Prop where
 le:k≤c.length
 p:ab3 l (c.drop k) v=ab3 l c IvQ.all
 e:aca l (c.drop k) v=aca l c IvQ.all
 z:IvZ v
 lo:BQ v.lo 1200
 hi:BQ v.hi 1200
theorem Stp.skip{l:LnQ}{c:List LnQ}{k:Nat}{v:IvQ}(h:Stp l c k v)(hk:k<c.length)(e:c[k]=l):Stp l c (k+1) v:=
 ⟨hk,by have:=h.p;rw[bQ hk,ahg,if_pos e] at this;exact this,by have:=h.e;rw[bQ hk,aca,if_pos e] at this;exact this,h.z,h.lo,h.hi⟩
theorem Stp.cut{l:LnQ}{c:List LnQ}{k:Nat}{v w:IvQ}(h:Stp l c k v)(hk:k<c.length)(e:c[k]≠l)(hb:l.cutB v c[k]=true)(hw:l.cutV v c[k]=w)(z:IvZ w)(lo:BQ w.lo 1200)(hi:BQ w.hi 1200):Stp l c (k+1) w:=
 ⟨hk,by have:=h.p;rw[bQ hk,ahg,if_neg e,if_pos hb,hw] at this;exact this,by have:=h.e;rw[bQ hk,aca,if_neg e,if_pos hb,hw] at this;exact this,z,lo,hi⟩
theorem Stp.no{l:LnQ}{c:List LnQ}{k:Nat}{v w:IvQ}(h:Stp l c k v)(hk:k<c.length)(e:c[k]≠l)(hb:l.cutB v c[k]=false)(hw:l.cutV v c[k]=w):aca l c IvQ.all=(w,false):=by
 rw[←h.e,bQ hk,aca,if_neg e,if_neg (by rw[hb];decide),hw]
theorem Stp.yes{l:LnQ}{c:List LnQ}{k:Nat}{v:IvQ}(h:Stp l c k v)(hk:c.length≤k):aca l c IvQ.all=(v,true):=by
 rw[←h.e,iM hk];rfl
theorem Stp.all{l:LnQ}{c:List LnQ}:Stp l c 0 IvQ.all:=⟨aR _,by rw[hJ],by rw[hJ],IvZ.all,BQ.mono (k:=1) ⟨by decide,by decide⟩ (by decide),BQ.mono (k:=1) ⟨by decide,by decide⟩ (by decide)⟩
theorem arI{v:IvQ}{t:Rat}(h:v.nl=true∨0<abc t v.lo):(⟨t,v.hi,false,v.nh⟩:IvQ)=ahO v t:=by unfold ahO;rw[if_pos h]
theorem azL{v:IvQ}{t:Rat}(h: ¬v.nl=true)(h2: ¬0<abc t v.lo):v=ahO v t:=by unfold ahO;rw[if_neg (fun e=>e.elim h h2)]
theorem asY{v:IvQ}{t:Rat}(h:v.nh=true∨abc t v.hi<0):(⟨v.lo,t,v.nl,false⟩:IvQ)=ahQ v t:=by unfold ahQ;rw[if_pos h]
theorem aAh{v:IvQ}{t:Rat}(h: ¬v.nh=true)(h2: ¬abc t v.hi<0):v=ahQ v t:=by unfold ahQ;rw[if_neg (fun e=>e.elim h h2)]
def aqm(l m:LnQ)(v:IvQ):IvQ:=if 0<(m.dir.cross l.dir).num.sign then ahO v (abp l (abH l m)) else ahQ v (abp l (abH l m))
theorem aix{l m:LnQ}{v:IvQ}[LB l][LB m](hn:l.Ne)(hz:IvZ v)(hlo:BQ v.lo 1200)(hhi:BQ v.hi 1200)(h0:crossI l m≠0):l.cutV v m=aqm l m v∧l.cutB v m=!(aqm l m v).empty∧IvZ (aqm l m v)∧BQ (aqm l m v).lo 1200∧BQ (aqm l m v).hi 1200:=by
 have hb:=ah0 (l:=l) (m:=m) hn h0
 unfold aqm
 split
 ·rename_i h
  obtain⟨_,h1,h2⟩:=aye hn hz ((ac7 _).1 h)
  refine⟨h1,h2,hz.lo' _,?_⟩
  unfold ahO;split
  ·exact⟨hb,hhi⟩
  ·exact⟨hlo,hhi⟩
 ·rename_i h
  obtain⟨h1,h2⟩:=aAa hn hz h0 (fun e=>h ((ac7 _).2 e))
  refine⟨h1,h2,hz.hi' _,?_⟩
  unfold ahQ;split
  ·exact⟨hlo,hb⟩
  ·exact⟨hlo,hhi⟩
theorem aig{l:LnQ}[LB l](hn:l.Ne): ∀{c:List LnQ} {v:IvQ},(∀m∈c,LB m)→IvZ v→BQ v.lo 1200→BQ v.hi 1200→BQ (aca l c v).1.lo 1200∧BQ (aca l c v).1.hi 1200
 |[],v,_,_,h1,h2=>⟨h1,h2⟩
 |m::t,v,hc,hz,h1,h2=>by
  haveI:=hc m aZ
  have hw:IvZ (l.cutV v m)∧BQ (l.cutV v m).lo 1200∧BQ (l.cutV v m).hi 1200:=by
   by_cases h0:crossI l m=0
   ·rw[(agS (v:=v) h0).1];exact⟨hz,h1,h2⟩
   ·obtain⟨u1,_,u3,u4,u5⟩:=aix (v:=v) hn hz h1 h2 h0
    rw[u1];exact⟨u3,u4,u5⟩
  have hc':=fun m hm=>hc m (aK _ hm)
  rw[aca]
  split
  ·exact aig hn hc' hz h1 h2
  ·split
   ·exact aig hn hc' hw.1 hw.2.1 hw.2.2
   ·exact hw.2
theorem aw6{c:List LnQ}{i:Nat}(hc: ∀m∈c,LB m)(hok: ∀m∈c,m.ok)(hn:c.length≤1000)(hi:i<c.length):PF GB prog 239 [.sl (c.map eL),vI (i:Nat)] (.tp [eV (aca (c[i]'hi) c IvQ.all).1,vB (aca (c[i]'hi) c IvQ.all).2]):=by
 have hcl:=aeB c
 obtain⟨l,hl⟩: ∃l,l=c[i]:=⟨_,rfl⟩
 rw[←hl]
 haveI hlb:LB l:=hl▸hc _ (bM hi)
 have hlo:l.ok:=hl▸hok _ (bM hi)
 refine fn func239 J J ntmps239 J J (fun C=>?_)
 refine ix (fu:=⟨1⟩) _ rfl (aeI hi) rfl<|?_
 refine eqF 16 (.d (eL l)) rfl (by rw[hl];rfl) ?_
 refine gx rfl<|cl (fu:=⟨9⟩) rfl axZ rfl<|?_
 refine eqF 19 (.d (vI (c.length:Nat))) rfl (by rw[hcl];rfl) ?_
 refine gx rfl<|?_
 refine lp (X:=IvQ×Nat) (fun⟨v,k⟩=>[(20, .d (vI (k:Nat))),(19, .d (vI (c.length:Nat))),(18, .d (.sl (c.map eL))),(1, .d (vI (i:Nat))),(6, .ov 6 0),(7, .ov 7 0),(4, .ov 4 0)]) (fun⟨v,k⟩=>[(7,some (.o 233 [.d ((.v (.bool (decide (v.lo.num<0))))), .d (dN v.lo.num.natAbs), .d (dD v.lo.den), .d ((.v (.bool (decide (v.hi.num<0))))), .d (dN v.hi.num.natAbs), .d (dD v.hi.den), .d ((.v (.bool v.nl))), .d ((.v (.bool v.nh)))] true)),(6,some (.o 109 [.d ((.v (.bool (decide (l.a<0))))), .d (dN l.a.natAbs), .d ((.v (.bool (decide (l.b<0))))), .d (dN l.b.natAbs), .d ((.v (.bool (decide (l.c<0))))), .d (dN l.c.natAbs)] true)),(4,some (.o 233 [.ff, .nl, .nl, .ff, .nl, .nl, .ff, .ff] true))]) (fun⟨v,k⟩=>Stp l c k v) (fun⟨v,k⟩=>c.length-k) ⟨IvQ.all,0⟩ rfl Stp.all (fun _=>rfl) (fun⟨v,k⟩ hk=>?_)
 try dsimp only at hk⊢
 have hS:=hk
 refine br J J J (fun hc21=>?_) (fun hc21=>?_)
 ·
  have hk:k<c.length:=by omega
  obtain⟨m,hm⟩: ∃m,m=c[k]:=⟨_,rfl⟩
  haveI hmb:LB m:=hm▸hc _ (bM hk)
  have hmo:m.ok:=hm▸hok _ (bM hk)
  refine ix (fu:=⟨1⟩) _ rfl (aeI hk) rfl<|?_
  refine eqF 24 (.d (eL m)) rfl (by rw[hm];rfl) ?_
  refine gx rfl<|?_
  refine cs 28 J J J (fun hg28=>?_) (fun hg28=>?_)
  ·
   have hinv:Stp l c (k+1) v:=hS.skip hk (by rw[hl];congr 1;omega)
   exact at_ ⟨v,k+1⟩ (by dsimp only;exact⟨hinv,(by omega)⟩)
  ·
   refine cl rfl (apJ (l:=l) (m:=m)) rfl<|?_
   refine br J J J (fun hc33=>?_) (fun hc33=>?_)
   ·
    have hinv:Stp l c (k+1) v:=hS.skip hk (by rw[←hm,(agt l m).1 hc33])
    exact at_ ⟨v,k+1⟩ (by dsimp only;exact⟨hinv,(by omega)⟩)
   ·
    have hne:c[k]≠l:=fun e=>hc33 ((agt l m).2 (by rw[hm,e]))
    refine cl (fu:=⟨13⟩) rfl (as0 (l:=l) (m:=m)) rfl<|?_
    refine eqF 41 (.d (.v (.bool (decide (crossI l m=0))))) rfl (by simp) ?_
    refine gx rfl<|?_
    refine bd J J J (fun hc41=>?_) (fun hc41=>?_)
    ·
     refine cl rfl (atT hlo.ne) rfl<|cl rfl (aoP (l:=m) (p:=l.base)) rfl<|?_
     refine br J J J (fun hc46=>?_) (fun hc46=>?_)
     ·
      have hno:=hS.no (w:=v) hk hne (by have:=(agS (v:=v) hc41).2;rw[←hm];cases hb:l.cutB v m with|false=>rfl|true=>exact absurd (this.1 hb) ((ax5 _).1 hc46)) (by rw[←hm];exact(agS (v:=v) hc41).1)
      exact rz rfl (by rw[hno];rfl)
     ·
      have hinv:Stp l c (k+1) v:=by have:=agS (v:=v) hc41;exact hS.cut hk hne (by rw[←hm];exact this.2.2 (by have:=mt (ax5 (m.value l.base)).2 hc46;exact Decidable.not_not.1 this)) (by rw[←hm];exact this.1) hS.z hS.lo hS.hi
      exact at_ ⟨v,k+1⟩ (by dsimp only;exact⟨hinv,(by omega)⟩)
    ·
     obtain⟨u1,u2,u3,u4,u5⟩:=aix (v:=v) hlo.ne hS.z hS.lo hS.hi hc41
     haveI htb:=ah0 hlo.ne hc41
     haveI hvl:=hS.lo
     haveI hvh:=hS.hi
     refine cl (fu:=⟨0⟩) rfl (ak5 (l:=l) (p:=abH l m) hlo.ne) rfl<|?_
     obtain⟨t,ht⟩: ∃t,t=abp l (abH l m):=⟨_,rfl⟩
     refine eqF 50 (.d (eQ t)) rfl (by rw[ht]) ?_
     rw[←ht] at htb
     refine gx (fu:=⟨5⟩) rfl<|?_
     refine mg (X:=IvQ) (fun w=>[(20, .d (vI (k:Nat))),(19, .d (vI (c.length:Nat))),(18, .d (.sl (c.map eL))),(1, .d (vI (i:Nat))),(6, .ov 6 0),(7, .ov 7 0),(4, .ov 4 0)]) (fun w=>[(7,some (.o 233 [.d ((.v (.bool (decide (w.lo.num<0))))), .d (dN w.lo.num.natAbs), .d (dD w.lo.den), .d ((.v (.bool (decide (w.hi.num<0))))), .d (dN w.hi.num.natAbs), .d (dD w.hi.den), .d ((.v (.bool w.nl))), .d ((.v (.bool w.nh)))] true)),(6,some (.o 109 [.d ((.v (.bool (decide (l.a<0))))), .d (dN l.a.natAbs), .d ((.v (.bool (decide (l.b<0))))), .d (dN l.b.natAbs), .d ((.v (.bool (decide (l.c<0))))), .d (dN l.c.natAbs)] true)),(4,some (.o 233 [.ff, .nl, .nl, .ff, .nl, .nl, .ff, .ff] true))]) (fun w=>w=aqm l m v) [20,19,18,1,6,7,4] [7,6,4] rfl ?_ (fun _=>rfl) (fun w hw=>?_)
     ·
      refine gx rfl<|cl rfl (ahd (l:=m)) rfl<|cl rfl (ahd (l:=l)) rfl<|cl rfl (aha (p:=m.dir) (q:=l.dir)) rfl<|cl rfl (q_S (q:=m.dir.cross l.dir)) rfl<|?_
      refine br J J J (fun hc57=>?_) (fun hc57=>?_)
      ·
       refine csb 60 J J J (fun hg60=>?_) (fun hg60=>?_)
       ·
        refine dpE 7 J J J ?_
        exact at_ ⟨t,v.hi,false,v.nh⟩ (by unfold aqm;rw[if_pos hc57,←ht];exact arI (.inl hg60))
       ·
        refine cl rfl (q_C (a:=t) (b:=v.lo)) rfl<|?_
        refine br J J J (fun hc66=>?_) (fun hc66=>?_)
        ·
         refine dpE 7 J J J ?_
         exact at_ ⟨t,v.hi,false,v.nh⟩ (by unfold aqm;rw[if_pos hc57,←ht];exact arI (.inr hc66))
        ·
         exact at_ v (by unfold aqm;rw[if_pos hc57,←ht];exact azL (by simp[hg60]) hc66)
      ·
       refine csb 72 J J J (fun hg72=>?_) (fun hg72=>?_)
       ·
        refine dpE 7 J J J ?_
        exact at_ ⟨v.lo,t,v.nl,false⟩ (by unfold aqm;rw[if_neg hc57,←ht];exact asY (.inl hg72))
       ·
        refine cl rfl (q_C (a:=t) (b:=v.hi)) rfl<|?_
        refine br J J J (fun hc78=>?_) (fun hc78=>?_)
        ·
         refine dpE 7 J J J ?_
         exact at_ ⟨v.lo,t,v.nl,false⟩ (by unfold aqm;rw[if_neg hc57,←ht];exact asY (.inr hc78))
        ·
         exact at_ v (by unfold aqm;rw[if_neg hc57,←ht];exact aAh (by simp[hg72]) hc78)
     ·
      rw[←hw] at u1 u2 u3 u4 u5
      haveI:=u4
      haveI:=u5
      refine csb 85 J J J (fun hg85=>?_) (fun hg85=>?_)
      ·
       refine csb 90 J J J (fun hg90=>?_) (fun hg90=>?_)
       ·
        refine cl rfl (q_C (a:=w.lo) (b:=w.hi)) rfl<|?_
        refine br J J J (fun hc97=>?_) (fun hc97=>?_)
        ·
         have hno:=hS.no (w:=w) hk hne (by rw[←hm,u2,awm (by simpa using hg85) (by simpa using hg90) hc97];rfl) (by rw[←hm,u1])
         exact rz rfl (by rw[hno];rfl)
        ·
         have hinv:Stp l c (k+1) w:=hS.cut hk hne (by rw[←hm,u2,alZ hc97];rfl) (by rw[←hm,u1]) u3 u4 u5
         exact at_ ⟨w,k+1⟩ (by dsimp only;exact⟨hinv,(by omega)⟩)
       ·
        have hinv:Stp l c (k+1) w:=hS.cut hk hne (by rw[←hm,u2,amq (by simpa using hg90)];rfl) (by rw[←hm,u1]) u3 u4 u5
        exact at_ ⟨w,k+1⟩ (by dsimp only;exact⟨hinv,(by omega)⟩)
      ·
       have hinv:Stp l c (k+1) w:=hS.cut hk hne (by rw[←hm,u2,anl (by simpa using hg85)];rfl) (by rw[←hm,u1]) u3 u4 u5
       exact at_ ⟨w,k+1⟩ (by dsimp only;exact⟨hinv,(by omega)⟩)
 ·
  exact rz rfl (by rw[hS.yes (by omega)];rfl)
def eLn(l:LnQ):DV:= .ag [vI (fn_ (l.a:Rat)),vI (fd_ (l.a:Rat)),fp_ (l.a:Rat),vI (fn_ (l.b:Rat)),vI (fd_ (l.b:Rat)),fp_ (l.b:Rat),vI (fn_ (l.c:Rat)),vI (fd_ (l.c:Rat)),fp_ (l.c:Rat)]
def eZ(p:PtQ):DV:= .ag [vI (fn_ p.x),vI (fd_ p.x),fp_ p.x,vI (fn_ p.y),vI (fd_ p.y),fp_ p.y]
def eW(v:IvQ):DV:= .ag [vI (fn_ v.lo),vI (fd_ v.lo),fp_ v.lo,vI (fn_ v.hi),vI (fd_ v.hi),fp_ v.hi, .v (.bool v.nl), .v (.bool v.nh)]
theorem avZ{G:Gh}{t:List DV}{vs:List Value}(h:IsLs G (vI 0::vI 0:: .v (.pointer none)::t) vs):IsLs G (vI (fn_ 0)::vI (fd_ 0)::fp_ 0::t) vs:=by
 obtain⟨y1,l1,rfl,k1,g1⟩:=aac.1 h
 obtain⟨y2,l2,rfl,k2,g2⟩:=aac.1 g1
 obtain⟨y3,l3,rfl,k3,g3⟩:=aac.1 g2
 have e:decide (Big 0)=false:=decide_eq_false fun h=>atE h rfl
 exact .cons k1 (.cons k2 (.cons (aoo.2 (.inl ⟨e,aa2.1 k3⟩)) g3))
theorem asb{G:Gh}(a:List DV){t:List DV}{vs:List Value}(h:IsLs G (a++vI 0::vI 0:: .v (.pointer none)::t) vs):IsLs G (a++vI (fn_ 0)::vI (fd_ 0)::fp_ 0::t) vs:=by
 obtain⟨x,y,rfl,h1,h2⟩:=h.unapp
 exact h1.app (avZ h2)
theorem aBO(G:Gh)(y:Value)(k:Is G (.ag [vI 0,vI 0, .v (.pointer none),vI 0,vI 0, .v (.pointer none), .v (.bool true), .v (.bool true)]) y):Is G (eW IvQ.all) y:=by
 obtain⟨l,rfl,g⟩:=acn.1 k
 exact acn.2 ⟨l,rfl,avZ (asb [vI 0,vI 0, .v (.pointer none)] g)⟩
def orI:List Int→Int
 |[]=>0
 |a::t=>if a≠0 then a else orI t
theorem BPt.nor(l:LnQ)[LB l]:BPt l.nor 97:=⟨inferInstanceAs (BQ (l.a:Rat) 97),inferInstanceAs (BQ (l.b:Rat) 97)⟩
attribute [instance] BPt.nor
instance BPt.scale (p:PtQ) (c:Rat) (i k:Nat) [BPt p i] [BQ c k]:BPt (p.scale c) (i+k):=⟨inferInstanceAs (BQ (p.x*c) _),inferInstanceAs (BQ (p.y*c) _)⟩
instance BPt.add (p q:PtQ) (i j:Nat) [BPt p i] [BPt q j]:BPt (p.add q) (i+j+1):=⟨inferInstanceAs (BQ (p.x+q.x) _),inferInstanceAs (BQ (p.y+q.y) _)⟩
instance LB.revA (l:LnQ) [h:LB l]:LB l.rev:=⟨⟨by rw[show l.rev.a= -l.a from rfl,jT];exact h.bl.a,by rw[show l.rev.b= -l.b from rfl,jT];exact h.bl.b,by rw[show l.rev.c= -l.c from rfl,jT];exact h.bl.c⟩⟩
theorem aD6:PF GB prog 297 [] (eW IvQ.all):=by
 refine fn func297 J J ntmps297 J J (fun C=>?_)
 exact rzI rfl aBO
theorem am6{l:LnQ}:PF GB prog 219 [eLn l] (eZ l.nor):=by
 refine fn func219 J J ntmps219 J J (fun C=>?_)
 exact rz J J
theorem ajV{l:LnQ}[hl:LB l]:PF GB prog 161 [eLn l] (eZ l.dir):=by
 refine fn func161 J J ntmps161 J J (fun C=>?_)
 refine cl rfl (ahM (q:=(l.a:Rat))) rfl<|?_
 exact rz J J
theorem aq6{p q:PtQ}{i j:Nat}[hp:BPt p i][hq:BPt q j](hi:i≤40000000:=by decide)(hj:j≤40000000:=by decide):PF GB prog 238 [eZ p,eZ q] (eF (p.dot q)):=by
 refine fn func238 J J ntmps238 J J (fun C=>?_)
 refine cl rfl (aeO (p:=p.x) (q:=q.x) (by omega) (by omega)) rfl<|cl rfl (aeO (p:=p.y) (q:=q.y) (by omega) (by omega)) rfl<|cl rfl (agO (p:=p.x*q.x) (q:=p.y*q.y) (by omega) (by omega)) rfl<|?_
 exact rz J J
theorem alF{p q:PtQ}{i j:Nat}[hp:BPt p i][hq:BPt q j](hi:i≤40000000:=by decide)(hj:j≤40000000:=by decide):PF GB prog 155 [eZ p,eZ q] (eF (p.cross q)):=by
 refine fn func155 J J ntmps155 J J (fun C=>?_)
 refine cl rfl (aeO (p:=p.x) (q:=q.y) (by omega) (by omega)) rfl<|cl rfl (aeO (p:=p.y) (q:=q.x) (by omega) (by omega)) rfl<|cl rfl (ahL (p:=p.x*q.y) (q:=p.y*q.x) (by omega) (by omega)) rfl<|?_
 exact rz J J
theorem aif{p:PtQ}{c:Rat}{i j:Nat}[hp:BPt p i][hc:BQ c j](hi:i≤40000000:=by decide)(hj:j≤40000000:=by decide):PF GB prog 73 [eZ p,eF c] (eZ (p.scale c)):=by
 refine fn func73 J J ntmps73 J J (fun C=>?_)
 refine cl rfl (aeO (p:=p.x) (q:=c) (by omega) (by omega)) rfl<|cl rfl (aeO (p:=p.y) (q:=c) (by omega) (by omega)) rfl<|?_
 exact rz J J
theorem apw{p q:PtQ}{i j:Nat}[hp:BPt p i][hq:BPt q j](hi:i≤40000000:=by decide)(hj:j≤40000000:=by decide):PF GB prog 72 [eZ p,eZ q] (eZ (p.add q)):=by
 refine fn func72 J J ntmps72 J J (fun C=>?_)
 refine cl rfl (agO (by omega) (by omega)) rfl<|cl rfl (agO (by omega) (by omega)) rfl<|?_
 exact rz J J
theorem ari{l:LnQ}[hl:LB l]:PF GB prog 301 [eLn l] (eZ l.base):=by
 refine fn func301 J J ntmps301 J J (fun C=>?_)
 refine cl rfl am6 rfl<|cl rfl (ahM (q:=(l.c:Rat))) rfl<|cl rfl (aq6 (p:=l.nor) (q:=l.nor)) rfl<|cl rfl (aky (p:= -(l.c:Rat)) (q:=l.nor.dot l.nor)) rfl<|?_
 refine cl rfl (aif (p:=l.nor)) rfl<|?_
 exact rz J J
theorem aqe{l:LnQ}{p:PtQ}{i:Nat}[hl:LB l][hp:BPt p i](hi:i≤10000000:=by decide):PF GB prog 278 [eLn l,eZ p] (eF (l.value p)):=by
 refine fn func278 J J ntmps278 J J (fun C=>?_)
 refine cl rfl (am6 (l:=l)) rfl<|cl rfl (aq6 (p:=l.nor) (q:=p) (by omega) (by omega)) rfl<|cl rfl (agO (p:=l.nor.dot p) (q:=(l.c:Rat)) (by omega) (by omega)) rfl<|?_
 exact rz J J
theorem az6{l:LnQ}{p:PtQ}{i:Nat}[hl:LB l][hp:BPt p i](hi:i≤10000000:=by decide):PF GB prog 235 [eLn l,eZ p] (vI (l.value p).num.sign):=by
 refine fn func235 J J ntmps235 J J (fun C=>?_)
 refine cl rfl (aqe (l:=l) (p:=p) hi) rfl<|cl rfl (ac5 (q:=l.value p) (by omega)) rfl<|?_
 exact rz J J
theorem aEf{l:LnQ}{t:Rat}{i:Nat}[hl:LB l][ht:BQ t i](hi:i≤10000000:=by decide):PF GB prog 298 [eLn l,eF t] (eZ (l.at t)):=by
 refine fn func298 J J ntmps298 J J (fun C=>?_)
 refine cl rfl (ari (l:=l)) rfl<|cl rfl (ajV (l:=l)) rfl<|cl rfl (aif (p:=l.dir) (c:=t) (by omega) (by omega)) rfl<|cl rfl (apw (p:=l.base) (q:=l.dir.scale t) (by omega) (by omega)) rfl<|?_
 exact rz J J
theorem ayT{v:IvQ}{i j:Nat}[h1:BQ v.lo i][h2:BQ v.hi j](hi:i≤40000000:=by decide)(hj:j≤40000000:=by decide):PF GB prog 317 [eW v] (vB v.empty):=by
 refine fn func317 J J ntmps317 J J (fun C=>?_)
 refine csb 6 J J J (fun hg6=>?_) (fun hg6=>?_)
 ·
  refine csb 11 J J J (fun hg11=>?_) (fun hg11=>?_)
  ·
   refine cl rfl (aiJ (p:=v.lo) (q:=v.hi) (by omega) (by omega)) rfl<|?_
   exact rz rfl (by unfold IvQ.empty;simp_all [vB,ajM])
  ·
   exact rz rfl (by unfold IvQ.empty;simp_all [vB,ajM])
 ·
  exact rz rfl (by unfold IvQ.empty;simp_all [vB,ajM])
instance IvQ.meet_lo (v w:IvQ) (i j:Nat) [h1:BQ v.lo i] [h3:BQ w.lo j]:BQ (v.meet w).lo (i+j):=by
 have a:=h1.mono (lW i j)
 have b:=h3.mono (Nat.le_add_left j i)
 unfold IvQ.meet;dsimp only;(repeat' split)<;>assumption
instance IvQ.meet_hi (v w:IvQ) (i j:Nat) [h1:BQ v.hi i] [h3:BQ w.hi j]:BQ (v.meet w).hi (i+j):=by
 have a:=h1.mono (lW i j)
 have b:=h3.mono (Nat.le_add_left j i)
 unfold IvQ.meet;dsimp only;(repeat' split)<;>assumption
theorem axV{v w:IvQ}{i j:Nat}[h1:BQ v.lo i][h2:BQ v.hi i][h3:BQ w.lo j][h4:BQ w.hi j](hi:i≤10000000:=by decide)(hj:j≤10000000:=by decide):PF GB prog 302 [eW v,eW w] (.tp [eW (v.meet w),vB (!(v.meet w).empty)]):=by
 refine fn (fu:=⟨16⟩) func302 J J ntmps302 J J (fun C=>?_)
 refine mg (fu:=⟨1⟩) (X:=Unit) (fun _=>[(6, .ov 6 0)]) (fun _=>[(6,some (.o 274 [.d (vI (fn_ (v.meet w).lo)), .d (vI (fd_ (v.meet w).lo)), .d (fp_ (v.meet w).lo), .d (vI (fn_ v.hi)), .d (vI (fd_ v.hi)), .d (fp_ v.hi), .d (.v (.bool (v.nl&&w.nl))), .d (.v (.bool (v.nh)))] true))]) (fun _=>True) [6] [6] rfl ?_ (fun _=>rfl) (fun _ _=>?_)
 ·
  refine gx rfl<|?_
  refine bb (v1:=fun hc8=>by simp only[aah];kernel_rfl) J J J (fun hc8=>?_) (fun hc8=>?_)
  ·
   have em:(v.meet w).lo=w.lo:=by unfold IvQ.meet;simp_all
   have eb:(v.nl&&w.nl)=w.nl:=by simp_all
   exact at_ () trivial (hO:=⟨by rw[em,eb]<;>rfl,by repeat (first|exact trivial|refine And.intro rfl ?_)⟩)
  ·
   refine bb J J J (fun hc17=>?_) (fun hc17=>?_)
   ·
    refine cl rfl (aC3 (p:=v.lo) (q:=w.lo) (by omega) (by omega)) rfl<|?_
    have em:(v.meet w).lo=(if v.lo<w.lo then w.lo else v.lo):=by unfold IvQ.meet;simp_all
    have eb:(v.nl&&w.nl)=v.nl:=by simp_all
    exact at_ () trivial (hO:=⟨by rw[em,eb]<;>rfl,by repeat (first|exact trivial|refine And.intro rfl ?_)⟩)
   ·
    have em:(v.meet w).lo=v.lo:=by unfold IvQ.meet;simp_all
    have eb:(v.nl&&w.nl)=v.nl:=by simp_all
    exact at_ () trivial (hO:=⟨by rw[em,eb]<;>rfl,by repeat (first|exact trivial|refine And.intro rfl ?_)⟩)
 ·
  refine mg (X:=Unit) (fun _=>[(6, .ov 6 0)]) (fun _=>[(6,some (.o 274 [.d (vI (fn_ (v.meet w).lo)), .d (vI (fd_ (v.meet w).lo)), .d (fp_ (v.meet w).lo), .d (vI (fn_ (v.meet w).hi)), .d (vI (fd_ (v.meet w).hi)), .d (fp_ (v.meet w).hi), .d (.v (.bool (v.nl&&w.nl))), .d (.v (.bool (v.nh&&w.nh)))] true))]) (fun _=>True) [6] [6] rfl ?_ (fun _=>rfl) (fun _ _=>?_)
  ·
   refine gx rfl<|?_
   refine bb (v1:=fun hc27=>by simp only[aah];kernel_rfl) J J J (fun hc27=>?_) (fun hc27=>?_)
   ·
    have em:(v.meet w).hi=w.hi:=by unfold IvQ.meet;simp_all
    have eb:(v.nh&&w.nh)=w.nh:=by simp_all
    exact at_ () trivial (hO:=⟨by rw[em,eb]<;>rfl,by repeat (first|exact trivial|refine And.intro rfl ?_)⟩)
   ·
    refine bb J J J (fun hc36=>?_) (fun hc36=>?_)
    ·
     refine cl rfl (aC0 (p:=v.hi) (q:=w.hi) (by omega) (by omega)) rfl<|?_
     have em:(v.meet w).hi=(if w.hi<v.hi then w.hi else v.hi):=by unfold IvQ.meet;simp_all
     have eb:(v.nh&&w.nh)=v.nh:=by simp_all
     exact at_ () trivial (hO:=⟨by rw[em,eb]<;>rfl,by repeat (first|exact trivial|refine And.intro rfl ?_)⟩)
    ·
     have em:(v.meet w).hi=v.hi:=by unfold IvQ.meet;simp_all
     have eb:(v.nh&&w.nh)=v.nh:=by simp_all
     exact at_ () trivial (hO:=⟨by rw[em,eb]<;>rfl,by repeat (first|exact trivial|refine And.intro rfl ?_)⟩)
  ·
   refine cl rfl (ayT (v:=v.meet w) (i:=i+j) (j:=i+j) (by omega) (by omega)) rfl<|?_
   exact rz J J
theorem BQ.z1:BQ (0:Rat) 1:=⟨by decide,by decide⟩
theorem awP{v:IvQ}{t:Rat}{i j:Nat}[h1:BQ v.lo i][h2:BQ v.hi i][h3:BQ t j](hi:i≤10000000:=by decide)(hj:j≤9999999:=by decide):PF GB prog 302 [eW v, .ag [vI (fn_ t),vI (fd_ t),fp_ t,vI 0,vI 0, .v (.pointer none), .v (.bool false), .v (.bool true)]] (.tp [eW (v.meet ⟨t,0,false,true⟩),vB (!(v.meet ⟨t,0,false,true⟩).empty)]):=
 (axV (v:=v) (w:=⟨t,0,false,true⟩) (j:=j+1) (h3:=h3.mono (by omega)) (h4:=BQ.z1.mono (by omega)) hi (by omega)).ofI fun G vs hv=>asz (fun y hy=>by
  obtain⟨l,rfl,g⟩:=acn.1 hy
  exact acn.2 ⟨l,rfl,asb [_,_,_] g⟩) hv
theorem awo{v:IvQ}{t:Rat}{i j:Nat}[h1:BQ v.lo i][h2:BQ v.hi i][h3:BQ t j](hi:i≤10000000:=by decide)(hj:j≤9999999:=by decide):PF GB prog 302 [eW v, .ag [vI 0,vI 0, .v (.pointer none),vI (fn_ t),vI (fd_ t),fp_ t, .v (.bool true), .v (.bool false)]] (.tp [eW (v.meet ⟨0,t,true,false⟩),vB (!(v.meet ⟨0,t,true,false⟩).empty)]):=
 (axV (v:=v) (w:=⟨0,t,true,false⟩) (j:=j+1) (h4:=h3.mono (by omega)) (h3:=BQ.z1.mono (by omega)) hi (by omega)).ofI fun G vs hv=>asz (fun y hy=>by
  obtain⟨l,rfl,g⟩:=acn.1 hy
  exact acn.2 ⟨l,rfl,avZ g⟩) hv
instance BQ.cutK (l m:LnQ) [LB l] [LB m]:BQ (l.cutK m) 400:=BQ.mono (inferInstance:BQ (m.nor.dot l.dir) _) (by decide)
instance BQ.cutC (l m:LnQ) [LB l] [LB m]:BQ (l.cutC m) 2500:=BQ.mono (inferInstance:BQ (m.value l.base) _) (by decide)
theorem aCl{l m:LnQ}{v:IvQ}{i:Nat}[hl:LB l][hm:LB m][h1:BQ v.lo i][h2:BQ v.hi i](hi:i≤10000000:=by decide):PF GB prog 268 [eLn l,eW v,eLn m] (.tp [eW (l.cutV v m),vB (l.cutB v m)]):=by
 refine fn func268 J J ntmps268 J J (fun C=>?_)
 refine cl rfl (am6 (l:=m)) rfl<|cl rfl (ajV (l:=l)) rfl<|cl rfl (aq6 (p:=m.nor) (q:=l.dir)) rfl<|cl rfl (ari (l:=l)) rfl<|?_
 refine cl rfl (aqe (l:=m) (p:=l.base)) rfl<|cl rfl (ac5 (q:=l.cutK m)) rfl<|?_
 refine br J J J (fun hc21=>?_) (fun hc21=>?_)
 ·
  refine cl rfl (ac5 (q:=l.cutC m)) rfl<|?_
  exact rz rfl (by unfold LnQ.cutV LnQ.cutB;rw[if_pos hc21,if_pos hc21];rfl)
 ·
  refine br J J J (fun hc27=>?_) (fun hc27=>?_)
  ·
   refine cl rfl (aky (p:=l.cutC m) (q:=l.cutK m)) rfl<|cl rfl (ahM (q:=l.cutC m/l.cutK m)) rfl<|cl rfl (awP (v:=v) (t:= -(l.cutC m/l.cutK m)) hi) rfl<|?_
   exact rz rfl (by unfold LnQ.cutB LnQ.cutV;rw[if_neg hc21,if_neg hc21,if_pos hc27];rfl)
  ·
   refine cl rfl (aky (p:=l.cutC m) (q:=l.cutK m)) rfl<|cl rfl (ahM (q:=l.cutC m/l.cutK m)) rfl<|cl rfl (awo (v:=v) (t:= -(l.cutC m/l.cutK m)) hi) rfl<|?_
   exact rz rfl (by unfold LnQ.cutB LnQ.cutV;rw[if_neg hc21,if_neg hc21,if_neg hc27];rfl)
theorem awT{v:IvQ}{i:Nat}[h1:BQ v.lo i][h2:BQ v.hi i](hi:i≤10000000:=by decide):PF GB prog 299 [eW v] (eF v.sample):=by
 refine fn func299 J J ntmps299 J J (fun C=>?_)
 refine csb 6 J J J (fun hg6=>?_) (fun hg6=>?_)
 ·
  refine bb J J J (fun hc3=>?_) (fun hc3=>?_)
  ·
   exact rzI rfl (by unfold IvQ.sample;rw[hg6,hc3];exact aDC)
  ·
   refine bb J J J (fun hc11=>?_) (fun hc11=>?_)
   ·
    refine cl rfl (aip (m:=1) (by decide)) rfl<|cl rfl (ahL (p:=v.hi) (q:=((1:Int):Rat)) (by omega) (by decide)) rfl<|?_
    exact rz rfl (by unfold IvQ.sample;simp_all [ajM]<;>rfl)
   ·
    refine bb J J J (fun hc18=>?_) (fun hc18=>?_)
    ·
     refine cl rfl (aip (m:=1) (by decide)) rfl<|cl rfl (agO (p:=v.lo) (q:=((1:Int):Rat)) (by omega) (by decide)) rfl<|?_
     exact rz rfl (by unfold IvQ.sample;simp_all [ajM]<;>rfl)
    ·
     refine cl rfl (agO (p:=v.lo) (q:=v.hi) (by omega) (by omega)) rfl<|cl rfl (auq (q:=v.lo+v.hi) (by omega)) rfl<|?_
     exact rz rfl (by unfold IvQ.sample;simp_all [ajM]<;>rfl)
 ·
  refine bb J J J (fun hc11=>?_) (fun hc11=>?_)
  ·
   refine cl rfl (aip (m:=1) (by decide)) rfl<|cl rfl (ahL (p:=v.hi) (q:=((1:Int):Rat)) (by omega) (by decide)) rfl<|?_
   exact rz rfl (by unfold IvQ.sample;simp_all [ajM]<;>rfl)
  ·
   refine bb J J J (fun hc18=>?_) (fun hc18=>?_)
   ·
    refine cl rfl (aip (m:=1) (by decide)) rfl<|cl rfl (agO (p:=v.lo) (q:=((1:Int):Rat)) (by omega) (by decide)) rfl<|?_
    exact rz rfl (by unfold IvQ.sample;simp_all [ajM]<;>rfl)
   ·
    refine cl rfl (agO (p:=v.lo) (q:=v.hi) (by omega) (by omega)) rfl<|cl rfl (auq (q:=v.lo+v.hi) (by omega)) rfl<|?_
    exact rz rfl (by unfold IvQ.sample;simp_all [ajM]<;>rfl)
instance BQ.i1':BQ (1:Rat) 2:=⟨by decide,by decide⟩
instance BQ.i2':BQ (2:Rat) 2:=⟨by decide,by decide⟩
theorem amY{v:IvQ}{i:Nat}[BQ v.lo i][BQ v.hi i]:BQ (abA v) (i+i+5):=by
 unfold abA
 split
 ·exact BQ.mono (k:=1) ⟨by decide,by decide⟩ (by omega)
 ·split
  ·exact BQ.mono (inferInstance:BQ (v.hi-1) _) (by omega)
  ·split
   ·exact BQ.mono (inferInstance:BQ (v.lo+1) _) (by omega)
   ·exact BQ.mono (inferInstance:BQ ((v.lo+v.hi)/2) _) (by omega)
instance BPt.at (l:LnQ) (t:Rat) (k:Nat) [LB l] [BQ t k]:BPt (l.at t) (900+(k+97)+1):=by
 rw[←af6];infer_instance
theorem auo{q:Rat}(h: ¬q.num.sign=0):q≠0:=fun e=>h ((abN q).2 e)
def ag3(d:PtQ):PtQ:=⟨-d.y,d.x⟩
instance BPt.turn (d:PtQ) (k:Nat) [BPt d k]:BPt (ag3 d) k:=⟨inferInstanceAs (BQ (-d.y) k),inferInstanceAs (BQ d.x k)⟩
def akT(p v:PtQ)(m:LnQ):Rat:= -(m.value p/(m.value (acu p v ((1:Int):Rat))-m.value p))
def ab6(p v:PtQ)(m:LnQ)(s:Rat):Rat:=if(m.value (acu p v ((1:Int):Rat))-m.value p).num.sign=0 then s else if(m.value p).num.sign=0 then s else if 0<(akT p v m).num.sign then(if abc (akT p v m/2) s<0 then akT p v m/2 else s) else s
def afZ(p v:PtQ):List LnQ→Rat→Rat
 |[],s=>s
 |m::t,s=>afZ p v t (ab6 p v m s)
def aqW(c:List LnQ)(p v:PtQ):PtQ:=acu p v (afZ p v c ((1:Int):Rat))
theorem aeb{c:List LnQ}{p v:PtQ}{k:Nat}{s s' r:Rat}{m:LnQ}(h:afZ p v (c.drop k) s=r)(hk:k<c.length)(hm:m=c[k])(e:ab6 p v m s=s'):afZ p v (c.drop (k+1)) s'=r:=by
 rw[bQ hk] at h
 rw[←h,afZ,←hm,e]
theorem aDj{c:List LnQ}{p v:PtQ}(hc: ∀m∈c,LB m)(hn:c.length≤1000)(hp:BPt p 4500)(hv:BPt v 97):PF GB prog 240 [.sl (c.map eL),eP p,eP v] (eP (aqW c p v)):=by
 have hcl:=aeB c
 refine fn func240 J J ntmps240 J J (fun C=>?_)
 refine cl (fu:=⟨9⟩) rfl (ale (n:=1) (by decide) (by decide)) rfl<|?_
 refine eqF 14 (.d (vI (c.length:Nat))) rfl (by rw[hcl];rfl) ?_
 refine gx rfl<|?_
 refine lp (X:=Rat×Nat) (fun⟨s,k⟩=>[(15, .d (vI (k:Nat))),(14, .d (vI (c.length:Nat))),(13, .d (.sl (c.map eL))),(4, .ov 4 0),(5, .ov 5 0),(7, .ov 7 0),(6, .ov 6 0)]) (fun⟨s,k⟩=>[(7,some (.o 52 [.d ((.v (.bool (decide (s.num<0))))), .d (dN s.num.natAbs), .d (dD s.den)] true)),(6,some (.o 54 [.ff, .nl, .nl, .ff, .nl, .nl] true)),(5,some (.o 54 [.d ((.v (.bool (decide (v.x.num<0))))), .d (dN v.x.num.natAbs), .d (dD v.x.den), .d ((.v (.bool (decide (v.y.num<0))))), .d (dN v.y.num.natAbs), .d (dD v.y.den)] true)),(4,some (.o 54 [.d ((.v (.bool (decide (p.x.num<0))))), .d (dN p.x.num.natAbs), .d (dD p.x.den), .d ((.v (.bool (decide (p.y.num<0))))), .d (dN p.y.num.natAbs), .d (dD p.y.den)] true))]) (fun⟨s,k⟩=>k≤c.length∧BQ s 60000∧afZ p v (c.drop k) s=afZ p v c ((1:Int):Rat)) (fun⟨s,k⟩=>c.length-k) ⟨((1:Int):Rat),0⟩ rfl ⟨aR _,BQ.i1.mono (by decide),rfl⟩ (fun _=>rfl) (fun⟨s,k⟩ hk=>?_)
 try dsimp only at hk⊢
 obtain⟨hle,hsb,hns⟩:=hk
 refine br J J J (fun hc16=>?_) (fun hc16=>?_)
 ·
  have hk:k<c.length:=by omega
  obtain⟨m,hm⟩: ∃m,m=c[k]:=⟨_,rfl⟩
  haveI hmb:LB m:=hm▸hc _ (bM hk)
  have hinv:=hsb
  refine ix (fu:=⟨1⟩) _ rfl (aeI hk) rfl<|?_
  refine eqF 18 (.d (eL m)) rfl (by rw[hm];rfl) ?_
  refine gx rfl<|cl rfl (ale (n:=1) (by decide) (by decide)) rfl<|cl rfl (afQ (p:=p) (q:=v) (c:=((1:Int):Rat))) rfl<|cl rfl (akS (l:=m) (p:=acu p v ((1:Int):Rat))) rfl<|?_
  refine cl rfl (akS (l:=m) (p:=p)) rfl<|cl rfl (alt (a:=m.value (acu p v ((1:Int):Rat))) (b:=m.value p)) rfl<|cl rfl (q_S (q:=m.value (acu p v ((1:Int):Rat))-m.value p)) rfl<|?_
  refine cs 32 J J J (fun hg32=>?_) (fun hg32=>?_)
  ·
   exact at_ ⟨s,k+1⟩ (by dsimp only;exact⟨⟨by omega,hinv,(aeb hns hk hm (by unfold ab6;rw[if_pos hg32]))⟩,(by omega)⟩)
  ·
   refine cl rfl (aoP (l:=m) (p:=p)) rfl<|?_
   refine br J J J (fun hc37=>?_) (fun hc37=>?_)
   ·
    exact at_ ⟨s,k+1⟩ (by dsimp only;exact⟨⟨by omega,hinv,(aeb hns hk hm (by unfold ab6;rw[if_neg hg32,if_pos hc37]))⟩,(by omega)⟩)
   ·
    refine cl rfl (akS (l:=m) (p:=p)) rfl<|cl rfl (ajX (a:=m.value p) (b:=m.value (acu p v ((1:Int):Rat))-m.value p) (auo hg32)) rfl<|?_
    refine cl rfl (alI (q:=m.value p/(m.value (acu p v ((1:Int):Rat))-m.value p))) rfl<|cl (fu:=⟨0⟩) rfl (q_S (q:= -(m.value p/(m.value (acu p v ((1:Int):Rat))-m.value p)))) rfl<|?_
    refine csS (v2:=fun hg46=>by simp only[aah];exact⟨by kernel_rfl,by omega⟩) J J J J (fun hg46=>?_) (fun hg46=>?_)
    ·
     refine cl rfl (asj (a:= -(m.value p/(m.value (acu p v ((1:Int):Rat))-m.value p)))) rfl<|cl rfl (q_C (a:= -(m.value p/(m.value (acu p v ((1:Int):Rat))-m.value p))/2) (b:=s)) rfl<|?_
     refine br J J J (fun hc53=>?_) (fun hc53=>?_)
     ·
      obtain⟨t,ht⟩: ∃t,t= -(m.value p/(m.value (acu p v ((1:Int):Rat))-m.value p)):=⟨_,rfl⟩
      haveI htb:BQ t 45000:=ht▸BQ.mono inferInstance (by decide)
      have hinv:BQ (t/2) 60000:=BQ.mono inferInstance (by decide)
      rw[←ht]
      refine cl rfl (asj (a:=t)) rfl<|?_
      exact at_ ⟨t/2,k+1⟩ (by dsimp only;exact⟨⟨by omega,hinv,(aeb hns hk hm (by unfold ab6;rw[if_neg hg32,if_neg hc37,show akT p v m=t from ht.symm,if_pos (by rw[ht];exact hg46),if_pos (by rw[ht];exact hc53)]))⟩,(by omega)⟩)
     ·
      exact at_ ⟨s,k+1⟩ (by dsimp only;exact⟨⟨by omega,hinv,(aeb hns hk hm (by unfold ab6;rw[if_neg hg32,if_neg hc37,if_pos (show 0<(akT p v m).num.sign from hg46),if_neg (show¬abc (akT p v m/2) s<0 from hc53)]))⟩,(by omega)⟩)
    ·
     exact at_ ⟨s,k+1⟩ (by dsimp only;exact⟨⟨by omega,hinv,(aeb hns hk hm (by unfold ab6;rw[if_neg hg32,if_neg hc37,if_neg (show¬0<(akT p v m).num.sign from hg46)]))⟩,(by omega)⟩)
 ·
  refine cl rfl (afQ (p:=p) (q:=v) (c:=s)) rfl<|?_
  exact rz rfl (by unfold aqW;rw[←hns,iM (by omega)];rfl)
def ab0(c:List LnQ):List LnQ→PtQ
 |[]=>⟨0,0⟩
 |m::t=>if(aca m c IvQ.all).2=true then aqW c (m.at (abA (aca m c IvQ.all).1)) (ag3 m.dir) else ab0 c t
theorem aqH{c:List LnQ}{k:Nat}{m:LnQ}(h:ab0 c (c.drop k)=ab0 c c)(hk:k<c.length)(hm:m=c[k])(e:(aca m c IvQ.all).2=true):ab0 c c=aqW c (m.at (abA (aca m c IvQ.all).1)) (ag3 m.dir):=by
 rw[←h,bQ hk,ab0,←hm,if_pos e]
theorem arT{c:List LnQ}{k:Nat}{m:LnQ}(h:ab0 c (c.drop k)=ab0 c c)(hk:k<c.length)(hm:m=c[k])(e: ¬(aca m c IvQ.all).2=true):ab0 c (c.drop (k+1))=ab0 c c:=by
 rw[←h,bQ hk,ab0,←hm,if_neg e]
theorem arj{c:List LnQ}{m:LnQ}(h:m∈c)(h2:(ab3 m c IvQ.all).isSome=true):abZ c=true:=by
 unfold abZ;rw[gU,jL];exact .inr ⟨m,h,h2⟩
theorem atZ{c:List LnQ}(h:c=[]):abZ c=true:=by subst h;rfl
theorem avn{c:List LnQ}(h:c≠[])(h2: ∀m∈c,(ab3 m c IvQ.all).isSome=false):abZ c=false:=by
 rw[←lU];unfold abZ;rw[gU,jL,List.isEmpty_iff]
 rintro (e|⟨m,h3,h4⟩)
 ·exact h e
 ·rw[h2 m h3] at h4;exact absurd h4 (by decide)
theorem alq:eP ⟨0,0⟩= .ag [.v (.bool false), .sl [], .sl [], .v (.bool false), .sl [], .sl []]:=by
 unfold eP dD
 simp only[show(0:Rat).num=0 from rfl,show(0:Rat).den=1 from rfl,jS,ac6];rfl
theorem an2{c:List LnQ}(hc: ∀m∈c,LB m)(hok: ∀m∈c,m.ok)(hn:c.length≤1000):PF GB prog 182 [.sl (c.map eL)] (.tp [eP (ab0 c c),vB (abZ c)]):=by
 have hcl:=aeB c
 refine fn func182 J J ntmps182 J J (fun C=>?_)
 refine br (fu2:=⟨7⟩) J J J (fun hc11=>?_) (fun hc11=>?_)
 ·
  exact rz rfl (by rw[bY (l:=c) (by omega),atZ rfl];show _=DV.tp [eP ⟨0,0⟩,_];rw[alq];rfl)
 ·
  refine eqF 14 (.d (vI (c.length:Nat))) rfl (by rw[hcl];rfl) ?_
  refine gx rfl<|?_
  refine lp (X:=Nat) (fun k=>[(15, .d (vI (k:Nat))),(14, .d (vI (c.length:Nat))),(13, .d (.sl (c.map eL))),(0, .d (.sl (c.map eL))),(2, .ov 2 0)]) (fun k=>[(2,some (.o 54 [.ff, .nl, .nl, .ff, .nl, .nl] true))]) (fun k=>k≤c.length∧(∀m∈c.take k,(ab3 m c IvQ.all).isSome=false)∧ab0 c (c.drop k)=ab0 c c) (fun k=>c.length-k) 0 rfl ⟨aR _,fun m hm=>absurd hm (by simp),rfl⟩ (fun _=>rfl) (fun k hk=>?_)
  obtain⟨hle,hno,hip⟩:=hk
  refine br J J J (fun hc16=>?_) (fun hc16=>?_)
  ·
   have hk:k<c.length:=by omega
   obtain⟨m,hm⟩: ∃m,m=c[k]:=⟨_,rfl⟩
   haveI hmb:LB m:=hm▸hc _ (bM hk)
   have hmo:m.ok:=hm▸hok _ (bM hk)
   refine ix (fu:=⟨1⟩) _ rfl (aeI hk) rfl<|?_
   refine eqF 19 (.d (eL m)) rfl (by rw[hm];rfl) ?_
   refine gx rfl<|cl (fu:=⟨0⟩) rfl (aw6 hc hok hn hk) rfl<|?_
   refine eqF 23 (.d (.tp [eV (aca m c IvQ.all).1,vB (aca m c IvQ.all).2])) rfl (by rw[hm]) ?_
   refine gx rfl<|?_
   refine bb J J J (fun hc26=>?_) (fun hc26=>?_)
   ·
    have hbd:=aig (v:=IvQ.all) hmo.ne hc IvZ.all (BQ.mono (k:=1) ⟨by decide,by decide⟩ (by decide)) (BQ.mono (k:=1) ⟨by decide,by decide⟩ (by decide))
    obtain⟨s,hs⟩: ∃s,s=(aca m c IvQ.all).1:=⟨_,rfl⟩
    rw[←hs] at hbd
    haveI:=hbd.1
    haveI:=hbd.2
    haveI hsb:=amY (v:=s) (i:=1200)
    have hpt:BPt (m.at (abA s)) 4500:=by have:=BPt.at m (abA s) (1200+1200+5);exact⟨this.x.mono (by decide),this.y.mono (by decide)⟩
    have hin:abZ c=true:=arj (hm▸bM hk) (by rw[←adw];exact hc26)
    have hpn:=aqH hip hk hm hc26
    rw[←hs] at hpn⊢
    refine cl rfl (ahd (l:=m)) rfl<|cl rfl (av7 (v:=s)) rfl<|cl rfl (aFx (l:=m) (t:=abA s) hmo.ne) rfl<|cl rfl (alI (q:=m.dir.y)) rfl<|?_
    refine cl rfl (aDj (p:=m.at (abA s)) (v:=ag3 m.dir) hc hn (hpt) inferInstance) rfl<|?_
    exact rz rfl (by rw[hin,hpn];rfl)
   ·
    exact at_ (k+1) ⟨⟨by omega,atu hno hk (by rw[←hm,←adw];exact hc26),arT hip hk hm (by rw[hc26];decide)⟩,(by omega)⟩
  ·
   exact rz rfl (by rw[avn (fun e=>hc11 (by rw[e];rfl)) (fun m hm=>hno m (by rw[aV (by omega)];exact hm)),←hip,iM (by omega)];show _=DV.tp [eP ⟨0,0⟩,_];rw[alq];rfl)
theorem arg{es:List Int}{i:Nat}(h:i<es.length):(es.map vI)[(i:Int).toNat]? =some (vI (es.getD i 0)):=by simp[h]
theorem ao0{es:List Int}{i:Nat}(h:i<es.length):orI (es.drop i)=if es.getD i 0≠0 then es.getD i 0 else orI (es.drop (i+1)):=by
 rw[bQ h,orI,aX,aQ h];rfl
theorem aFN{es:List Int}(hn:es.length≤1000000):PF GB prog 324 [.sl (es.map vI)] (vI (orI es)):=by
 have hel:(es.map vI).length=es.length:=by simp
 refine fn (fu:=⟨15⟩) func324 J J ntmps324 J J (fun C=>?_)
 refine eqF 7 (.d (vI (es.length:Nat))) rfl (by rw[hel]<;>rfl) ?_
 refine gx rfl<|?_
 refine lp (X:=Nat) (fun i=>[(8, .d (vI (i:Nat)))]) (fun i=>[]) (fun i=>i≤es.length∧orI es=orI (es.drop i)) (fun i=>es.length-i) 0 rfl ⟨aR _,rfl⟩ (fun _=>rfl) (fun i hk=>?_)
 obtain⟨h1,h2⟩:=hk
 refine br J J J (fun hc9=>?_) (fun hc9=>?_)
 ·
  refine ix _ rfl (arg (by omega)) rfl<|?_
  refine br J J J (fun hc14=>?_) (fun hc14=>?_)
  ·
   exact rz rfl (by rw[h2,ao0 (by omega),if_pos hc14];rfl)
  ·
   exact at_ (i+1) ⟨⟨by omega,by rw[h2,ao0 (by omega),if_neg hc14]⟩,(by omega)⟩
 ·
  exact rz rfl (by rw[h2,dW (by omega)];rfl)
def lcq(l m:LnQ):Int:=orI [abc l.a m.a,abc l.b m.b,abc l.c m.c]
theorem av8(l m:LnQ):lcq l m=0↔l=m:=by
 unfold lcq orI orI orI orI
 have ha:=aeA (l.a:Rat) m.a
 have hb:=aeA (l.b:Rat) m.b
 have hc:=aeA (l.c:Rat) m.c
 rw[mZ] at ha hb hc
 constructor
 ·intro h
  repeat' (split at h<;>try contradiction)
  all_goals exact LnQ.ext' (by omega) (by omega) (by omega)
 ·rintro rfl
  rw[if_neg (by simp[ha.2 rfl]),if_neg (by simp[hb.2 rfl]),if_neg (by simp[hc.2 rfl])]
theorem aCr{l m:LnQ}[hl:LB l][hm:LB m]:PF GB prog 316 [eLn l,eLn m] (vI (lcq l m)):=by
 refine fn func316 J J ntmps316 J J (fun C=>?_)
 refine cl rfl (aiJ (p:=(l.a:Rat)) (q:=(m.a:Rat))) rfl<|cl rfl (aiJ (p:=(l.b:Rat)) (q:=(m.b:Rat))) rfl<|cl rfl (aiJ (p:=(l.c:Rat)) (q:=(m.c:Rat))) rfl<|?_
 refine rf J J<|cl rfl (aFN (es:=[abc l.a m.a,abc l.b m.b,abc l.c m.c]) (nb rfl)) rfl<|?_
 exact rz J J
theorem avz{l m:LnQ}[hl:LB l][hm:LB m]:PF GB prog 300 [eLn l,eLn m] (vB (decide (l=m))):=by
 refine fn func300 J J ntmps300 J J (fun C=>?_)
 refine cl rfl (aCr (l:=l) (m:=m)) rfl<|?_
 exact rz rfl (by show DV.v (.bool (decide _))= .v (.bool _);congr 2;exact decide_eq_decide.2 (av8 l m))
theorem aBS{l:LnQ}[hl:LB l]:PF GB prog 286 [eLn l] (eLn l.rev):=by
 refine fn func286 J J ntmps286 J J (fun C=>?_)
 refine cl rfl (ahM (q:=(l.a:Rat))) rfl<|cl rfl (ahM (q:=(l.b:Rat))) rfl<|cl rfl (ahM (q:=(l.c:Rat))) rfl<|?_
 exact rz rfl (by unfold eLn LnQ.rev;simp only[pY];rfl)
theorem axv{p:PtQ}{i:Nat}[hp:BPt p i](hi:i≤10000000:=by decide):PF GB prog 277 [eZ p] (vI p.half):=by
 refine fn func277 J J ntmps277 J J (fun C=>?_)
 refine cl rfl (ac5 (q:=p.y) (by omega)) rfl<|?_
 refine cs 10 J J J (fun hg10=>?_) (fun hg10=>?_)
 ·
  exact rz rfl (by unfold PtQ.half;(repeat' split)<;>first|rfl|(exfalso;omega))
 ·
  refine cs 13 J J J (fun hg13=>?_) (fun hg13=>?_)
  ·
   refine cl rfl (ac5 (q:=p.x) (by omega)) rfl<|?_
   refine br J J J (fun hc7=>?_) (fun hc7=>?_)
   ·
    exact rz rfl (by unfold PtQ.half;(repeat' split)<;>first|rfl|(exfalso;omega))
   ·
    refine cs 23 J J J (fun hg23=>?_) (fun hg23=>?_)
    ·
     exact rz rfl (by unfold PtQ.half;(repeat' split)<;>first|rfl|(exfalso;omega))
    ·
     refine cl rfl (ac5 (q:=p.x) (by omega)) rfl<|?_
     refine br J J J (fun hc20=>?_) (fun hc20=>?_)
     ·
      exact rz rfl (by unfold PtQ.half;(repeat' split)<;>first|rfl|(exfalso;omega))
     ·
      exact rz rfl (by unfold PtQ.half;(repeat' split)<;>first|rfl|(exfalso;omega))
  ·
   refine cs 23 J J J (fun hg23=>?_) (fun hg23=>?_)
   ·
    exact rz rfl (by unfold PtQ.half;(repeat' split)<;>first|rfl|(exfalso;omega))
   ·
    refine cl rfl (ac5 (q:=p.x) (by omega)) rfl<|?_
    refine br J J J (fun hc20=>?_) (fun hc20=>?_)
    ·
     exact rz rfl (by unfold PtQ.half;(repeat' split)<;>first|rfl|(exfalso;omega))
    ·
     exact rz rfl (by unfold PtQ.half;(repeat' split)<;>first|rfl|(exfalso;omega))
theorem azT{u v:PtQ}{i j:Nat}[hp:BPt u i][hq:BPt v j](hi:i≤10000000:=by decide)(hj:j≤10000000:=by decide):PF GB prog 232 [eZ u,eZ v] (vI (aa5 u v)):=by
 refine fn func232 J J ntmps232 J J (fun C=>?_)
 refine cl rfl (axv (p:=u) hi) rfl<|cl rfl (axv (p:=v) hj) rfl<|?_
 refine br J J J (fun hc11=>?_) (fun hc11=>?_)
 ·
  exact rz rfl (by unfold aa5;rw[if_pos hc11];rfl)
 ·
  refine br J J J (fun hc15=>?_) (fun hc15=>?_)
  ·
   exact rz rfl (by unfold aa5;rw[if_neg hc11,if_pos hc15];rfl)
  ·
   refine cl rfl (alF (p:=u) (q:=v) (by omega) (by omega)) rfl<|cl (fu:=⟨0⟩) rfl (ac5 (q:=u.cross v) (by omega)) rfl<|?_
   have hs:=rU (u.cross v).num
   refine gx rfl<|?_
   exact rz rfl (by unfold aa5;rw[if_neg hc11,if_neg hc15];rfl)
theorem aBI{m:Int}:Nrm (dg m.natAbs)∧(decide (m<0)=true→0<(dg m.natAbs).length):=⟨(aaE _).2.2,fun h=>by
 have:0<m.natAbs:=by have:=of_decide_eq_true h;omega
 exact ahv.2 this⟩
theorem ab4{m:Int}{i:Nat}[h:BI m i](hi:i≤1000000000:=by decide):PF GB prog 262 [eI m] (.v (.bool true)):=(amF (neg:=decide (m<0)) (ds:=dg m.natAbs) (aaE _).2.1 (by have:=agM (a:=m.natAbs) hi;omega)).to (by unfold vB;rw[decide_eq_true aBI])
theorem aFr{l:LnQ}(h:l.ok):rgcd (rgcd (l.a:Rat) (l.b:Rat)) (l.c:Rat)=((1:Int):Rat):=by
 rw[agG,agG]
 have:=h.2
 simp only[iR];rw[this];rfl
instance BQ.rgcd (p q:Rat) (i j:Nat) [h:BQ p i] [k:BQ q j]:BQ (rgcd p q) (i+j+(i+j)):=by
 unfold Sx.rgcd
 refine agh (jK (abF p) (abF q)) ?_ ?_
 ·rw[iR]
  have h1:=abi h.hn k.hd
  have h2:=abi k.hn h.hd
  rw[jX j i] at h2
  exact anH h1 h2
 ·have h1:=abi h.hd k.hd
  have:2^(i+j)≤2^(i+j+(i+j)):=bK (by decide) (by omega)
  omega
theorem aCx{l:LnQ}[hl:LB l](ho:l.ok):PF GB prog 222 [eL l] (.tp [eLn l,vB true]):=by
 refine fn func222 J J ntmps222 J J (fun C=>?_)
 refine cl (fu:=⟨0⟩) rfl (ab4 (m:=l.a)) rfl<|knF J J J<|cl (fu:=⟨0⟩) rfl (ab4 (m:=l.b)) rfl<|knF J J J<|cl (fu:=⟨0⟩) rfl (ab4 (m:=l.c)) rfl<|?_
 refine knF J J J<|cl rfl (aey (m:=l.a)) rfl<|cl rfl (aey (m:=l.b)) rfl<|cl rfl (aey (m:=l.c)) rfl<|cl (fu:=⟨0⟩) rfl (ai9 (q:=(l.a:Rat))) rfl<|?_
 refine csS (fu2:=⟨4⟩) J J J J (fun hg35=>?_) (fun hg35=>?_)
 ·
  have ha:l.a=0:=cR.1 hg35
  refine cl (fu:=⟨1⟩) rfl (ai9 (q:=(l.b:Rat))) rfl<|knF rfl (by first|rfl|(show some (decide _)=some false;rw[decide_eq_false (fun e=>ho.1 ⟨ha,cR.1 e⟩)])) rfl<|?_
  refine cl rfl (ahH (p:=(l.a:Rat)) (q:=(l.b:Rat))) rfl<|cl rfl (ahH (p:=rgcd l.a l.b) (q:=(l.c:Rat))) rfl<|cl rfl (aip (m:=1) (by decide)) rfl<|?_
  refine cl (fu:=⟨0⟩) rfl (aid (p:=rgcd (rgcd l.a l.b) l.c) (q:=((1:Int):Rat))) rfl<|knF rfl (by show some (!decide _)=some false;rw[aFr ho,decide_eq_true rfl];rfl) rfl<|?_
  exact rz J J
 ·
  refine knF rfl (by first|rfl|(show some (decide _)=some false;rw[decide_eq_false (fun e=>ho.1 ⟨ha,cR.1 e⟩)])) rfl<|cl rfl (ahH (p:=(l.a:Rat)) (q:=(l.b:Rat))) rfl<|?_
  refine cl rfl (ahH (p:=rgcd l.a l.b) (q:=(l.c:Rat))) rfl<|cl rfl (aip (m:=1) (by decide)) rfl<|cl (fu:=⟨0⟩) rfl (aid (p:=rgcd (rgcd l.a l.b) l.c) (q:=((1:Int):Rat))) rfl<|?_
  refine knF rfl (by show some (!decide _)=some false;rw[aFr ho,decide_eq_true rfl];rfl) rfl<|?_
  exact rz J J
def eFr(f:FrQ):DV:= .ag [vI (fn_ (f.l.a:Rat)),vI (fd_ (f.l.a:Rat)),fp_ (f.l.a:Rat),vI (fn_ (f.l.b:Rat)),vI (fd_ (f.l.b:Rat)),fp_ (f.l.b:Rat),vI (fn_ (f.l.c:Rat)),vI (fd_ (f.l.c:Rat)),fp_ (f.l.c:Rat),vI (fn_ f.v.lo),vI (fd_ f.v.lo),fp_ f.v.lo,vI (fn_ f.v.hi),vI (fd_ f.v.hi),fp_ f.v.hi, .v (.bool f.v.nl), .v (.bool f.v.nh)]
structure awx (v:IvQ):Prop where
 z:IvZ v
 lo:BQ v.lo 1200
 hi:BQ v.hi 1200
structure aFI (s:FrQ):Prop where
 lb:LB s.l
 ok:s.l.ok
 v:awx s.v
abbrev abI (c:aag):Prop:= ∀s∈c,aFI s
theorem af0{α:Type}(f:α→DV)(l:List α):(l.map f).length=l.length:=by simp
theorem awx.all:awx IvQ.all:=⟨⟨fun _=>rfl,fun _=>rfl⟩,BQ.z1.mono (by decide),BQ.z1.mono (by decide)⟩
theorem awx.cut{l m:LnQ}{v:IvQ}[LB l][LB m](hn:l.Ne)(h:awx v):awx (l.cutV v m):=by
 by_cases h0:crossI l m=0
 ·rw[(agS (v:=v) h0).1];exact h
 ·obtain⟨u1,_,u3,u4,u5⟩:=aix (v:=v) hn h.z h.lo h.hi h0
  rw[u1];exact⟨u3,u4,u5⟩
def ivD(o:Option IvQ):IvQ:=o.getD ⟨0,0,false,false⟩
theorem aCJ(G:Gh)(y:Value)(k:Is G (.tp [.ag [vI 0,vI 0, .v (.pointer none),vI 0,vI 0, .v (.pointer none), .v (.bool false), .v (.bool false)], .v (.bool false)]) y):Is G (.tp [eW (ivD none),vB false]) y:=by
 obtain⟨m,rfl,g⟩:=ad1.1 k
 exact ad1.2 ⟨m,rfl,aA2 (fun y hy=>by
  obtain⟨l,rfl,g⟩:=acn.1 hy
  exact acn.2 ⟨l,rfl,avZ (asb [vI 0,vI 0, .v (.pointer none)] g)⟩) g⟩
theorem aak{α:Type}{f:α→DV}{l:List α}{i:Nat}{s:α}(h:l[i]? =some s):(l.map f)[(i:Int).toNat]? =some (f s):=by simp[h]
theorem ajv{α:Type}{l:List α}{k:Nat}{s:α}(h:l[k]? =some s):l.drop k=s::l.drop (k+1):=by
 obtain⟨h1,h2⟩:=bJ.1 h
 rw[bQ h1,h2]
theorem apX{l:LnQ}{c:aag}{v:IvQ}{k:Nat}{s:FrQ}(h:c[k]? =some s):agL l (c.drop k) v=if l.cutB v s.l then agL l (c.drop (k+1)) (l.cutV v s.l) else none:=by
 rw[ajv h];rfl
theorem aim{l:LnQ}{c:aag}{k:Nat}{s:FrQ}(h:c[k]? =some s):ad8 l (c.drop k)=if ael l s≠0 then ael l s else if s.l=l then 1 else ad8 l (c.drop (k+1)):=by
 rw[ajv h];rfl
instance BQ.sample (v:IvQ) [h1:BQ v.lo 1200] [h2:BQ v.hi 1200]:BQ v.sample 2500:=by
 unfold IvQ.sample
 split
 ·exact BQ.z1.mono (by decide)
 ·split
  ·exact BQ.mono (inferInstance:BQ (v.hi-((1:Int):Rat)) _) (by decide)
  ·split
   ·exact BQ.mono (inferInstance:BQ (v.lo+((1:Int):Rat)) _) (by decide)
   ·exact BQ.mono (inferInstance:BQ ((v.lo+v.hi)*mkRat 1 2) _) (by decide)
theorem axd{c:aag}{l:LnQ}[hl:LB l](hlo:l.ok)(hc:abI c)(hn:c.length≤1000000):PF GB prog 266 [.sl (c.map eFr),eLn l] (.tp [eW (ivD (aeW c l)),vB (aeW c l).isSome]):=by
 have hm:=af0 eFr c
 refine fn func266 J J ntmps266 J J (fun C=>?_)
 refine cl (fu:=⟨10⟩) rfl aD6 rfl<|?_
 refine eqF 12 (.d (vI (c.length:Nat))) rfl (by rw[af0]<;>rfl) ?_
 refine gx rfl<|?_
 refine lp (X:=IvQ×Nat) (fun⟨v,k⟩=>[(13, .d (vI (k:Nat))),(6, .ov 6 0)]) (fun⟨v,k⟩=>[(6,some (.o 274 [.d (vI (fn_ v.lo)), .d (vI (fd_ v.lo)), .d (fp_ v.lo), .d (vI (fn_ v.hi)), .d (vI (fd_ v.hi)), .d (fp_ v.hi), .d (.v (.bool v.nl)), .d (.v (.bool v.nh))] true))]) (fun⟨v,k⟩=>k≤c.length∧awx v∧agL l (c.drop k) v=aeW c l) (fun⟨v,k⟩=>c.length-k) (IvQ.all,0) rfl ⟨aR _, .all,rfl⟩ (fun _=>rfl) (fun⟨v,k⟩ hk=>?_)
 dsimp only at hk⊢
 obtain⟨h1,h2,h3⟩:=hk
 haveI:=h2.lo
 haveI:=h2.hi
 refine br J J J (fun hc14=>?_) (fun hc14=>?_)
 ·
  obtain⟨s,hs0⟩: ∃s,c[k]? =some s:=⟨_,aQ (by omega)⟩
  have hs:=hc s (aM hs0)
  haveI:=hs.lb
  refine ix _ rfl (aak hs0) rfl<|cl (fu:=⟨0⟩) rfl (aCl (l:=l) (m:=s.l) (v:=v)) rfl<|?_
  generalize hw:l.cutV v s.l=w
  generalize hb:l.cutB v s.l=b
  refine gx rfl<|?_
  refine bb J J J (fun hc26=>?_) (fun hc26=>?_)
  ·
   exact rzI rfl (by rw[←h3,apX hs0,hb,if_neg (by simpa using hc26)];exact aCJ)
  ·
   exact at_ (w,k+1) (by dsimp only;exact⟨⟨by omega,hw▸h2.cut hlo.1,by rw[←h3,apX hs0,hb,hw,if_pos (by simpa using hc26)]⟩,(by omega)⟩)
 ·
  exact rz rfl (by rw[←h3,dW (by omega)];rfl)
theorem azR{c:aag}{l:LnQ}[hl:LB l](hlo:l.ok)(hc:abI c)(hn:c.length≤1000000):PF GB prog 267 [.sl (c.map eFr),eLn l] (vI (aii c l)):=by
 have hm:=af0 eFr c
 refine fn func267 J J ntmps267 J J (fun C=>?_)
 refine cl rfl (axd (c:=c) (l:=l) hlo hc hn) rfl<|?_
 refine bb (fu2:=⟨7⟩) J J J (fun hc16=>?_) (fun hc16=>?_)
 ·
  exact rz rfl (by unfold aii;rw[if_pos hc16];rfl)
 ·
  have hp:aii c l=ad8 l c:=by unfold aii;rw[if_neg (by simp[hc16])]
  refine eqF 18 (.d (vI (c.length:Nat))) rfl (by rw[af0]<;>rfl) ?_
  refine gx rfl<|?_
  refine lp (X:=Nat) (fun k=>[(19, .d (vI (k:Nat)))]) (fun k=>[]) (fun k=>k≤c.length∧ad8 l (c.drop k)=ad8 l c) (fun k=>c.length-k) 0 rfl ⟨aR _,rfl⟩ (fun _=>rfl) (fun k hk=>?_)
  obtain⟨h1,h2⟩:=hk
  refine br J J J (fun hc20=>?_) (fun hc20=>?_)
  ·
   obtain⟨s,hs0⟩: ∃s,c[k]? =some s:=⟨_,aQ (by omega)⟩
   have hs:=hc s (aM hs0)
   haveI:=hs.lb
   haveI:=hs.v.lo
   haveI:=hs.v.hi
   haveI:=BQ.sample s.v
   refine ix _ rfl (aak hs0) rfl<|cl (fu:=⟨0⟩) rfl (awT (v:=s.v)) rfl<|?_
   generalize ht:s.v.sample=t at*
   refine gx rfl<|cl rfl (aEf (l:=s.l) (t:=t)) rfl<|cl rfl (az6 (l:=l) (p:=s.l.at t)) rfl<|?_
   refine br J J J (fun hc32=>?_) (fun hc32=>?_)
   ·
    have hsd:ael l s=(l.value (s.l.at t)).num.sign:=by unfold ael;rw[ht]
    exact rz rfl (by rw[hp,←h2,aim hs0,hsd,if_pos hc32];rfl)
   ·
    refine cl rfl (avz (l:=s.l) (m:=l)) rfl<|?_
    refine bd J J J (fun hc37=>?_) (fun hc37=>?_)
    ·
     have hsd:ael l s=(l.value (s.l.at t)).num.sign:=by unfold ael;rw[ht]
     exact rz rfl (by rw[hp,←h2,aim hs0,hsd,if_neg hc32,if_pos hc37];rfl)
    ·
     have hsd:ael l s=(l.value (s.l.at t)).num.sign:=by unfold ael;rw[ht]
     exact at_ (k+1) ⟨⟨by omega,by rw[←h2,aim hs0,hsd,if_neg hc32,if_neg hc37]⟩,(by omega)⟩
  ·
   exact rz rfl (by rw[hp,←h2,dW (by omega)];rfl)
theorem amf{vs rest:List Value}(h: ∀v∈vs,(aaf v).length=17){i:Nat}(hi:i≤vs.length):aaX (aai vs++rest) (i*17) ((vs.length-i)*17)=some (aai (vs.drop i)):=by
 have hl:=aav vs h
 have hd:(aai (vs.drop i)).length=(vs.length-i)*17:=by
  rw[aav (s:=17) _ (fun v hv=>h v (fU hv)),fM]
 rw[abG _ _ _ (by simp only[aW];omega)]
 congr 1
 rw[jV (by omega),afw vs i h hi,eM (by omega),aV (by omega)]
theorem aqF{vs rest vcs:List Value}(h: ∀v∈vs,(aaf v).length=17)(hv:vcs.length=17){i:Nat}(hi:i<vs.length)(hr:17≤rest.length):
  ovw (ovw (aai vs++rest) ((i+1)*17) (aai (vs.drop i))) (i*17) vcs=aai (vs.take i)++vcs++aai (vs.drop i)++rest.drop 17:=by
 have hl:=aav vs h
 have hd:(aai (vs.drop i)).length=(vs.length-i)*17:=by
  rw[aav (s:=17) _ (fun v hv=>h v (fU hv)),fM]
 have ht:(aai (vs.take i)).length=i*17:=by
  rw[aav (s:=17) _ (fun v hv=>h v (eJ hv)),cK,gT (by omega)]
 rw[acA (aai (vs.drop i)) (aai vs++rest) _ (by rw[aW];omega)]
 rw[acA vcs _ _ (by simp only[aW,cK,fM];omega)]
 have e1:(aai vs++rest).drop ((i+1)*17+(aai (vs.drop i)).length)=rest.drop 17:=by
  rw[hd,show(i+1)*17+(vs.length-i)*17=(aai vs).length+17 by omega,lV,iM (by omega),lQ]
  congr 1
  omega
 have e2:((aai vs++rest).take ((i+1)*17)++aai (vs.drop i)++rest.drop 17).take (i*17)=aai (vs.take i):=by
  rw[fL,eM (by simp only[cK,aW];omega),List.take_take,gT (by omega),eM (by omega),agV vs i h (by omega)]
 have e3:((aai vs++rest).take ((i+1)*17)++aai (vs.drop i)++rest.drop 17).drop (i*17+vcs.length)=aai (vs.drop i)++rest.drop 17:=by
  rw[hv,fL,show i*17+17=((aai vs++rest).take ((i+1)*17)).length by simp only[cK,aW];omega,List.drop_left]
 rw[e1,e2,e3]
 simp[fL]
theorem aqC{vs rest vcs:List Value}(h: ∀v∈vs,(aaf v).length=17)(hv:vcs.length=17)(hr:17≤rest.length):ovw (aai vs++rest) (vs.length*17) vcs=aai vs++vcs++rest.drop 17:=by
 have hl:=aav vs h
 rw[acA _ _ _ (by simp only[aW];omega),hv,←hl,List.take_left,lV]
 simp
theorem alw{G:Gh}{b bv cap i c2:Nat}{vs rest vcs r2:List Value}{lo lo2:Bool}(hvs: ∀v∈vs,(aaf v).length=17)(hfl: ∀v∈vs,∀c∈aaf v,flat c=true)(hv:vcs.length=17)(hvf: ∀c∈vcs,flat c=true)
  (hcap:vs.length*17+rest.length=cap*17)(hroom:vs.length+1≤cap)(hi:i≤vs.length)(hb:vs.length≤1125899906842624):
  FnM prog 271 [.slice (some ⟨b,0,none⟩) vs.length cap, .int .i64 i, .slice (some ⟨bv,0,none⟩) 1 c2] [⟨b,aai vs++rest,276,lo⟩,⟨bv,vcs++r2,276,lo2⟩] G
   (fun u css _=>u= .slice (some ⟨b,0,none⟩) (vs.length+1) cap∧css=[aai (vs.take i)++vcs++aai (vs.drop i)++rest.drop 17,vcs++r2]):=by
 have hL:(aai vs++rest).length=cap*17:=by rw[aW,aav vs hvs];exact hcap
 have hr:17≤rest.length:=by omega
 have hD:(aai (vs.drop i)).length=(vs.length-i)*17:=by
  rw[aav (s:=17) _ (fun v hv=>hvs v (fU hv)),fM]
 have hDf: ∀c∈aai (vs.drop i),flat c=true:=fun c hc=>by
  obtain⟨l,hl,hcl⟩:=List.mem_flatten.1 hc
  obtain⟨v,hv,rfl⟩:=bW.1 hl
  exact hfl v (fU hv) c hcl
 have hvt:aaX (vcs++r2) 0 (1*17)=some vcs:=by rw[abG _ _ _ (by rw[aW];omega),hJ,eM (by omega),aV (by omega)]
 refine FnM.intro func271 J J ntmps271 rfl ?_
 intro C _ _
 show St C _ _ [⟨b,aai vs++rest,276,false⟩,⟨bv,vcs++r2,276,false⟩] _ _
 refine avF (fun hne=>?_)
 simp only[] at hne
 refine sR<|sa J J<|zE<|sR<|sm J J<|sm J J<|sy (afX J J (by omega) (by omega)) rfl<|zE<|sR<|?_
 refine sm J J<|ac9 J J<|sa J J<|zE<|aaj<|sR<|sm J J<|sy (abV J J) rfl<|zE<|agJ rfl<|?_
 refine zK<|sR<|sm J J<|ac9 J J<|sa J J<|zE<|aaj<|sR<|sm J J<|sm J J<|sy (abV J J) rfl<|zE<|?_
 refine aaG rfl (fun hc=>?_) (fun hc=>?_) -- slot 22
 ·have hin:i=vs.length:=by omega
  subst hin
  refine sR<|sm J J<|sm J J<|?_
  refine sc (afP (s:=17) (m:=1) (ys:=vcs) J J (.hd ..) hL (ajB inferInstance hvt) (by omega) hvf hroom rfl ?_)
  refine sa J J<|zE<|aaK<|?_
  refine acV (css:=[ovw (aai vs++rest) (vs.length*17) vcs,vcs++r2]) (.tmp rfl .nil) rfl _ (List.Perm.refl _) (List.Sublist.refl _) ⟨rfl,?_⟩
  rw[aqC hvs hv hr,fV,dS]
  simp[aai]
 have hin:i<vs.length:=by omega
 have hn1:((vs.length:Int)+((1:Nat):Int)).toNat=vs.length+1:=by omega
 have ht1:((i:Int)+((1:Nat):Int)).toNat=i+1:=by omega
 refine zK<|aaj<|sR<|sm J J<|sm J J<|sy (aar J J) rfl<|sm J J<|?_
 refine sy (aCP rfl) rfl<|sy (agE J J) rfl<|zE<|?_
 refine aaG rfl (fun hc2=>?_) (fun hc2=>?_) -- slot 31
 ·exact absurd hc2 (by omega)
 refine zK<|sR<|sm J J<|sm J J<|sm J J<|sy (aar J J) rfl<|sy (adE J J (by omega) (by omega)) rfl<|?_
 rw[hn1]
 refine sa J J<|zE<|aaj<|sR<|sm J J<|sm J J<|sm J J<|sm J J<|sy (aar J J) rfl<|sy (adO J J (by omega) (by omega) (by omega)) rfl<|?_
 refine sy (aom (tS:=177) (tR:=4) func303 (by kernel_rfl) (by kernel_rfl) (by kernel_rfl) (by kernel_rfl) J J (Ne.symm hne) (fun h=>by rw[h] at hL;simp at hL;omega)) rfl<|?_
 refine sy (aqc rfl) rfl<|zE<|acU rfl<|?_
 refine aaj<|dr0 (b:=b) (fun _=>false) [(0,true),(1,true),(2,true),(3,true),(4,true),(5,true),(6,true),(7,true),(8,false)] follows (.hd ..) (by kernel_rfl)<|dM J J J<|?_
 refine dM J J J<|dM J J J<|dy rfl (fun _=>aar J J (by omega) (by omega)) J J<|dy rfl (fun _=>adO J J (by omega) (by omega) (by omega)) J J<|?_
 refine dM J J J<|dM J J J<|dy rfl (fun _=>adO J J (by omega) (by omega) (by omega)) J J<|?_
 rw[ht1,bZ,eY,eY]
 refine dc J J (arx (s:=17) (m:=vs.length-i) (ys:=aai (vs.drop i)) J J (by show min _ _=_;omega) (ajB inferInstance (amf hvs hi)) hDf (by rw[hD,hL];omega) (.hd ..) rfl ?_)
 refine az8<|dn<|sR<|sm J J<|sm J J<|sy (adO J J (by omega) (by omega) (by omega)) rfl<|sm J J<|?_
 rw[bZ,eY]
 refine sc (arx (s:=17) (m:=1) (ys:=vcs) J J (by show min _ _=_;omega) (ajB inferInstance hvt) hvf (by rw[aji,hL,hv];omega) (.hd ..) rfl ?_)
 refine zE<|sR<|sm J J<|sa J J<|zE<|aaK<|?_
 refine acV (css:=[ovw (ovw (aai vs++rest) ((i+1)*17) (aai (vs.drop i))) (i*17) vcs,vcs++r2]) (.tmp rfl .nil) rfl _ (List.Perm.refl _) (List.Sublist.refl _) ⟨rfl,?_⟩
 rw[aqF hvs hv hin hr]
theorem FnM.toO{P:Program}{f:FuncId}{vs:List Value}{M:List Own}{G:Gh}{K:Value→List (List Value)→Gh→Prop}{K':Value→List Own→Gh→Prop}(h:FnM P f vs M G K)(hk: ∀v css G',GLe G G'→css.length=M.length→K v css G'→ ∃o,o.Sublist (aeP (asB M) css)∧K' v o G'):FnO P f vs M G K':=
 ⟨h.able,fun w hw=>(h.run w hw).mono fun _ _ ⟨v,css,G',he,hl,hh,hK⟩=>let⟨o,h1,h2⟩:=hk v css G' hh.gle hl hK;⟨v,o,G',he,hh.drop h1,h2⟩⟩
theorem aCL(c:aag):acI 17 (c.map eFr):=fun d hd=>by
 obtain⟨f,_,rfl⟩:=bW.1 hd;exact⟨rfl,rfl⟩
theorem ao6{G:Gh}{s:Nat}{ds:List DV}{vs:List Value}(hk:acI s ds)(h:IsLs G ds vs): ∀v∈vs,∀c∈aaf v,flat c=true:=fun v hv=>by
 obtain⟨d,hd,h3⟩:=h.all v hv
 exact(h3.cells (hk d hd).1).2
theorem awz{c:aag}{x:FrQ}{i cap:Nat}(hi:i≤c.length)(hc:c.length+1≤cap)(hn:c.length≤1000000):PI GB prog 271 (i:Nat) 17 276 276 (c.map eFr) (eFr x) cap ((c.take i++x::c.drop i).map eFr):=by
 intro G w w2 B B2 _ hB hcap hB2
 obtain⟨vs,q1,q2,q3,_⟩:=hB
 obtain⟨us,u1,u2,u3,_⟩:=hB2
 dsimp only at q1 q2 q3 u1 u2 u3
 have hl:=q2.len
 rw[aJ] at hl
 obtain⟨v,m,rfl,hv,hm⟩:=aac.1 u2
 cases aaM.1 hm
 rcases q1 with⟨_,e,_⟩|⟨b,rest,lo,e,rfl,h5,h6,h7⟩
 ·rw[e] at hcap;simp at hcap;omega
 rcases u1 with⟨h,_⟩|⟨bv,r2,lo2,e2,rfl,h8,h9,h10⟩
 ·cases h
 have hx:(aaf v).length=17:=u3 v aZ
 have hxf:=ao6 (s:=17) (ds:=[eFr x]) (fun d hd=>by rw[aY.1 hd];exact⟨rfl,rfl⟩) u2 v aZ
 have key:=alw (G:=G) (b:=b) (bv:=bv) (cap:=w.c) (i:=i) (c2:=w2.c) (vs:=vs) (rest:=rest) (vcs:=aaf v) (r2:=r2) (lo:=lo) (lo2:=lo2) q3 (ao6 (aCL c) q2) hx hxf (by rw[←h5];exact h6) (by omega) (by omega) (by omega)
 rw[e,e2]
 rw[aiu]
 refine key.toO fun u css G' hg hl2 ⟨k1,k2⟩=>?_
 subst k1 k2
 have hall: ∀u∈vs.take i++v::vs.drop i,(aaf u).length=17:=fun u hu=>by
  rcases bS.1 hu with hu|hu
  ·exact q3 u (eJ hu)
  ·rcases aS.1 hu with rfl|hu
   ·exact hx
   ·exact q3 u (fU hu)
 have hlen:(vs.take i++v::vs.drop i).length=vs.length+1:=by
  rw[aW,bU,cK,fM];omega
 refine⟨[⟨b,aai (vs.take i)++aaf v++aai (vs.drop i)++rest.drop 17,276,false⟩], .cons_cons _ (kW _),⟨some ⟨b,0,none⟩,vs.length+1,w.c⟩,rfl,vs.take i++v::vs.drop i, .inr ⟨b,rest.drop 17,false,by rw[hlen],?_,aav _ hall,?_,?_⟩,?_,hall,fun h=>by cases h⟩
 ·rw[ac1];simp[aai]
 ·rw[aav _ hall,hlen,fM]
  rw[h5] at h6
  have:=bV 17 (show vs.length+1≤w.c by omega)
  simp only[cY] at this⊢;omega
 ·rw[hlen];show vs.length+1≤w.c;omega
 ·rw[aN,cZ,gX,iZ]
  exact((q2.take i).up hg).app (.cons (hv.up hg) ((q2.drop i).up hg))
theorem arO{s:FrQ}{l:LnQ}[hs:LB s.l][hl:LB l]:PF GB prog 270 [eFr s,eLn l] (vI (aa5 s.l.dir l.dir)):=by
 refine fn func270 J J ntmps270 J J (fun C=>?_)
 refine cl rfl (ajV (l:=s.l)) rfl<|cl rfl (ajV (l:=l)) rfl<|cl rfl (azT (u:=s.l.dir) (v:=l.dir)) rfl<|?_
 exact rz J J
def bsB(c:aag)(l:LnQ)(i:Nat):Bool:=match c[i]? with
 |some s=>decide (aa5 s.l.dir l.dir=0)
 |none=>false
theorem auQ(i j:Nat):((i:Int)+(j:Int)).fdiv (2^min (1:Int).toNat IntKind.u64.bits)=((i+j)/2:Nat):=by
 rw[show(2:Int)^min (1:Int).toNat IntKind.u64.bits=((2:Nat):Int) from rfl,fT _ (by decide)];omega
theorem azp{c:aag}{l:LnQ}{k:Nat}{s:FrQ}(h:c[k]? =some s):aeg c l k=decide (aa5 s.l.dir l.dir<0):=by unfold aeg;rw[h]
theorem aDY{c:aag}{l:LnQ}{k:Nat}{s:FrQ}(h:c[k]? =some s):bsB c l k=decide (aa5 s.l.dir l.dir=0):=by unfold bsB;rw[h]
theorem aEj{c:aag}{l:LnQ}{k:Nat}(h: ¬k<c.length):bsB c l k=false:=by unfold bsB;rw[dX (by omega)]
theorem aEZ{p:Nat→Bool}{i j:Nat}(h:i<j)(hp:p ((i+j)/2)=true):bsq p i j=bsq p ((i+j)/2+1) j:=by rw[bsq,dif_pos h,if_pos hp]
theorem aEG{p:Nat→Bool}{i j:Nat}(h:i<j)(hp: ¬p ((i+j)/2)=true):bsq p i j=bsq p i ((i+j)/2):=by rw[bsq,dif_pos h,if_neg hp]
theorem aA8{p:Nat→Bool}{i j:Nat}(h: ¬i<j):bsq p i j=i:=by rw[bsq,dif_neg h]
theorem aEc{c:aag}{l:LnQ}[hl:LB l](hc:abI c)(hn:c.length≤1000000):PF GB prog 269 [.sl (c.map eFr),eLn l, .v (.func (.func 270) #[] #[])] (.tp [vI (bsq (aeg c l) 0 c.length:Nat),vB (bsB c l (bsq (aeg c l) 0 c.length))]):=by
 have hm:=af0 eFr c
 refine fn (fu:=⟨11⟩) func269 J J ntmps269 J J (fun C=>?_)
 refine eqF 13 (.d (vI (c.length:Nat))) rfl (by rw[hm]<;>rfl) ?_
 refine gx rfl<|?_
 refine lp (X:=Nat×Nat) (fun⟨i,j⟩=>[(9, .d (vI (i:Nat))),(10, .d (vI (j:Nat)))]) (fun⟨i,j⟩=>[]) (fun⟨i,j⟩=>i≤j∧j≤c.length∧bsq (aeg c l) i j=bsq (aeg c l) 0 c.length) (fun⟨i,j⟩=>j-i) (0,c.length) rfl ⟨aR _,aL _,rfl⟩ (fun _=>rfl) (fun⟨i,j⟩ hk=>?_)
 dsimp only at hk⊢
 obtain⟨h1,h2,h3⟩:=hk
 refine br (fu1:=⟨10⟩) (fu2:=⟨11⟩) J J J (fun hc17=>?_) (fun hc17=>?_)
 ·
  obtain⟨s,hs0⟩: ∃s,c[(i+j)/2]? =some s:=⟨_,aQ (by omega)⟩
  haveI:=(hc s (aM hs0)).lb
  have hang:=azp (l:=l) hs0
  refine eqF 22 (.d (.v (.int .u64 ((i+j)/2:Nat)))) rfl (by rw[auQ]) ?_
  refine gx rfl<|ix _ rfl (aak hs0) rfl<|cl rfl (arO (s:=s) (l:=l)) rfl<|?_
  refine br J J J (fun hc31=>?_) (fun hc31=>?_)
  ·
   exact at_ ((i+j)/2+1,j) (by dsimp only;exact⟨⟨by omega,h2,by rw[←h3,aEZ (i:=i) (j:=j) (by omega) (by rw[hang];exact decide_eq_true hc31)]⟩,(by omega)⟩)
  ·
   exact at_ (i,(i+j)/2) (by dsimp only;exact⟨⟨by omega,by omega,by rw[←h3,aEG (i:=i) (j:=j) (by omega) (by rw[hang,decide_eq_false hc31];exact Bool.false_ne_true)]⟩,(by omega)⟩)
 ·
  refine csS (v2:=fun hg39=>by simp only[aah];kernel_rfl) J J J J (fun hg39=>?_) (fun hg39=>?_)
  ·
   have he:=aA8 (p:=aeg c l) (i:=i) (j:=j) (by omega)
   obtain⟨s,hs0⟩: ∃s,c[i]? =some s:=⟨_,aQ (by omega)⟩
   haveI:=(hc s (aM hs0)).lb
   refine ix _ rfl (aak hs0) rfl<|cl rfl (arO (s:=s) (l:=l)) rfl<|?_
   exact rz rfl (by rw[←h3,he,aDY hs0];rfl)
  ·
   have he:=aA8 (p:=aeg c l) (i:=i) (j:=j) (by omega)
   exact rz rfl (by rw[←h3,he,aEj (by omega)];rfl)
theorem ar3{l:LnQ}[LB l](hlo:l.ok): ∀{c:aag} {v w:IvQ},abI c→awx v→agL l c v=some w→awx w
 |[],v,w,_,hv,h=>by cases h;exact hv
 |s::t,v,w,hc,hv,h=>by
  haveI:=(hc s aZ).lb
  simp only[agL] at h
  split at h
  ·exact ar3 hlo (fun x hx=>hc x (aK _ hx)) (hv.cut hlo.1) h
  ·cases h
theorem akQ{l:LnQ}[LB l]: ∀{c:aag},abI c→abI (abM l c)
 |[],_,s,h=>by cases h
 |a::t,hc,s,h=>by
  have ha:=hc a aZ
  haveI:=ha.lb
  have ht:=akQ (l:=l) (fun x hx=>hc x (aK _ hx))
  unfold abM at h
  split at h
  ·rcases aS.1 h with rfl|h
   ·exact⟨ha.lb,ha.ok,ha.v.cut ha.ok.1⟩
   ·exact ht s h
  ·exact ht s h
theorem afV{l:LnQ}[hl:LB l](hlo:l.ok){c:aag}(hc:abI c):abI (aaN c l):=by
 unfold aaN
 split
 ·rename_i v hv
  intro s hs
  unfold aoz at hs
  rcases bS.1 hs with h|h
  ·exact akQ hc s (eJ h)
  ·rcases aS.1 h with rfl|h
   ·exact⟨hl,hlo,ar3 hlo hc .all hv⟩
   ·exact akQ hc s (fU h)
 ·exact hc
theorem ao8{l:LnQ}{c:aag}{k:Nat}{s:FrQ}(h:c[k]? =some s):abM l (c.drop k)=if s.l.cutB s.v l then⟨s.l,s.l.cutV s.v l⟩::abM l (c.drop (k+1)) else abM l (c.drop (k+1)):=by
 rw[ajv h];rfl
theorem axK{c:aag}{l:LnQ}[hl:LB l](hlo:l.ok)(hc:abI c)(hn:c.length≤100000):PF GB prog 223 [.sl (c.map eFr),eLn l] (.tp [.sl ((aaN c l).map eFr),vB (abo c l)]):=by
 have hm:=af0 eFr c
 refine fn func223 J J ntmps223 J J (fun C=>?_)
 refine cl rfl (axd (c:=c) (l:=l) hlo hc (by omega)) rfl<|?_
 refine bb (fu2:=⟨6⟩) J J J (fun hc22=>?_) (fun hc22=>?_)
 ·
  have hp:aeW c l=none:=by simpa using hc22
  refine cl rfl (azR (c:=c) (l:=l) hlo hc (by omega)) rfl<|?_
  exact rz rfl (by unfold aaN abo;rw[hp];rfl)
 ·
  obtain⟨v,hv⟩: ∃v,aeW c l=some v:=pQ.1 (by simpa using hc22)
  have hvd:ivD (aeW c l)=v:=by rw[hv];rfl
  rw[hvd]
  refine eqF 29 (.d (vI (c.length:Nat))) rfl (by rw[hm]<;>rfl) ?_
  refine gx rfl<|mkc (fu:=⟨8⟩) (c.length+1) J J J<|?_
  refine eqF 33 (.d (vI (c.length:Nat))) rfl (by rw[hm]<;>rfl) ?_
  refine gx rfl<|?_
  refine lp (X:=aag×Nat) (fun⟨o,k⟩=>[(34, .d (vI (k:Nat))),(8, .rw 31)]) (fun⟨o,k⟩=>[(31,some (.c 276 17 (o.map eFr) (c.length+1)))]) (fun⟨o,k⟩=>k≤c.length∧o.length≤k∧o++abM l (c.drop k)=abM l c) (fun⟨o,k⟩=>c.length-k) ([],0) rfl ⟨aR _,aL _,rfl⟩ (fun _=>rfl) (fun⟨o,k⟩ hk=>?_)
  dsimp only at hk⊢
  obtain⟨h1,h2,h3⟩:=hk
  have hmo:=af0 eFr o
  refine br J J J (fun hc35=>?_) (fun hc35=>?_)
  ·
   obtain⟨s,hs0⟩: ∃s,c[k]? =some s:=⟨_,aQ (by omega)⟩
   have hs:=hc s (aM hs0)
   haveI:=hs.lb
   haveI:=hs.v.lo
   haveI:=hs.v.hi
   refine ix _ rfl (aak hs0) rfl<|cl (fu:=⟨0⟩) rfl (aCl (l:=s.l) (m:=l) (v:=s.v)) rfl<|?_
   generalize hw:s.l.cutV s.v l=w
   generalize hb:s.l.cutB s.v l=b
   refine gx rfl<|?_
   refine bb J J J (fun hc47=>?_) (fun hc47=>?_)
   ·
    refine rf J J<|apc ((o++[FrQ.mk s.l w]).map eFr) rfl (by rw[aN];rfl) (aCL [FrQ.mk s.l w]) (by rw[hmo];simp;omega) rfl<|?_
    refine rnE 54 31 rfl ?_
    exact at_ (o++[FrQ.mk s.l w],k+1) (by dsimp only;exact⟨⟨by omega,by simp;omega,by rw[←h3,ao8 hs0,hb,if_pos hc47,hw,fL];rfl⟩,(by omega)⟩)
   ·
    exact at_ (o,k+1) (by dsimp only;exact⟨⟨by omega,by omega,by rw[←h3,ao8 hs0,hb,if_neg (by simp[hc47])]⟩,(by omega)⟩)
  ·
   obtain rfl:k=c.length:=by omega
   have ho:o=abM l c:=by rw[←h3,dS];simp[abM]
   subst ho
   have hbl:=(apv (aeg (abM l c) l) (abM l c).length 0 (abM l c).length (by omega) (by omega)).2
   refine cL rfl (aEc (c:=abM l c) (l:=l) (akQ hc) (by omega)) J J<|ro J J<|ci ((aoz (abM l c) l v).map eFr) rfl (awz (c:=abM l c) (x:=⟨l,v⟩) (i:=bsq (aeg (abM l c) l) 0 (abM l c).length) (cap:=c.length+1) hbl (by omega) (by omega)) J J<|?_
   refine fzE 68 rfl ?_
   exact rz rfl (by unfold aaN abo;rw[hv];rfl)
theorem apT{c:aag}{l:LnQ}[hl:LB l](hlo:l.ok)(hc:abI c)(hn:c.length≤100000):PF GB prog 245 [.sl (c.map eFr),eLn l] (.tp [.sl ((aaN c l).map eFr), .sl ((aaN c l.rev).map eFr),vB (abo c l),vB (abo c l.rev)]):=by
 refine fn func245 J J ntmps245 J J (fun C=>?_)
 refine cl rfl (axK (c:=c) (l:=l) hlo hc hn) rfl<|cl rfl (aBS (l:=l)) rfl<|cl rfl (axK (c:=c) (l:=l.rev) hlo.rev hc hn) rfl<|?_
 exact rz J J
end Go.Sx
end
