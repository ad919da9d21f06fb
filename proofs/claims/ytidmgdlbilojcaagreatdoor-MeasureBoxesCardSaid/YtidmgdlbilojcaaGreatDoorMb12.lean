import Derived.Test.YtidmgdlbilojcaaGreatDoorMb11
set_option linter.all false
set_option maxHeartbeats 4000000
set_option maxRecDepth 100000
section
namespace Go.Sx
open Go Go.Proofs Tryz
variable {GB:Gh}
class LB (l:aa):Prop where bl:BL l 96
instance LB.a (l:aa) [h:LB l]:BI l.a 96:=⟨h.bl.a⟩
instance LB.b (l:aa) [h:LB l]:BI l.b 96:=⟨h.bl.b⟩
instance LB.c (l:aa) [h:LB l]:BI l.c 96:=⟨h.bl.c⟩
class ay (p:ab) (k:outParam Nat):Prop where
 x:BQ p.x k
 y:BQ p.y k
instance ay.ix (p:ab) (k:Nat) [h:ay p k]:BQ p.x k:=h.x
instance ay.iy (p:ab) (k:Nat) [h:ay p k]:BQ p.y k:=h.y
instance ay.dir (l:aa) [LB l]:ay l.dir 97:=⟨inferInstanceAs (BQ (l.b:Rat) 97),inferInstanceAs (BQ (-(l.a:Rat)) 97)⟩
instance BQ.dot (p q:ab) (i j:Nat) [ay p i] [ay q j]:BQ (p.dot q) (i+j+(i+j)+1):=inferInstanceAs (BQ (p.x*q.x+p.y*q.y) _)
instance BQ.cross (p q:ab) (i j:Nat) [ay p i] [ay q j]:BQ (p.cross q) (i+j+(i+j)+1):=inferInstanceAs (BQ (p.x*q.y-p.y*q.x) _)
instance ay.mov (p q:ab) (c:Rat) (i j k:Nat) [ay p i] [ay q j] [BQ c k]:ay (bF p q c) (i+(k+j)+1):=⟨inferInstanceAs (BQ (p.x+c*q.x) _),inferInstanceAs (BQ (p.y+c*q.y) _)⟩
instance BQ.value (l:aa) (p:ab) (i:Nat) [LB l] [ay p i]:BQ (l.value p) (96+1+i+(96+1+i)+1+(96+1)+1):=inferInstanceAs (BQ ((l.a:Rat)*p.x+(l.b:Rat)*p.y+(l.c:Rat)) _)
def Q8{l:aa}(h:l.Ne):l.dir.dot l.dir≠0:=by have:=Bn h;grind
def vG{l:aa}:PF GB prog 206 [eL l] (eP l.dir):=by
 refine fn func206 J J ntmps206 J J (fun C=>?_);refine cl J js J<|cl J js J<|cl J wS J<|?_;exact rz J J
def Gu{p q:ab}{i j:Nat}[hp:ay p i][hq:ay q j](hi:i<=200000:=by decide)(hj:j<=200000:=by decide):PF GB prog 277 [eP p,eP q] (eQ (p.dot q)):=by
 refine fn func277 J J ntmps277 J J (fun C=>?_);refine cl J (jc (by omega) (by omega)) J<|cl J (jc (by omega) (by omega)) J<|cl J (pE (by omega) (by omega)) J<|?_;exact rz J J
def E2{p q:ab}{i j:Nat}[hp:ay p i][hq:ay q j](hi:i<=200000:=by decide)(hj:j<=200000:=by decide):PF GB prog 155 [eP p,eP q] (eQ (p.cross q)):=by
 refine fn func155 J J ntmps155 J J (fun C=>?_);refine cl J (jc (by omega) (by omega)) J<|cl J (jc (by omega) (by omega)) J<|cl J (ug (by omega) (by omega)) J<|?_;exact rz J J
def A8{p q:ab}{c:Rat}{i j k:Nat}[hp:ay p i][hq:ay q j][hc:BQ c k](hi:i<=19000000:=by decide)(hj:j<=9000000:=by decide)(hk:k<=9000000:=by decide):PF GB prog 22 [eP p,eQ c,eP q] (eP (bF p q c)):=by
 refine fn func22 J J ntmps22 J J (fun C=>?_);refine cl J (jc (by omega) (by omega)) J<|cl J (pE (by omega) (by omega)) J<|cl J (jc (by omega) (by omega)) J<|cl J (pE (by omega) (by omega)) J<|?_;exact rz J J
def D4{l:aa}{p:ab}{i:Nat}[hl:LB l][hp:ay p i](hi:i<=400000:=by decide):PF GB prog 258 [eL l,eP p] (eQ (l.value p)):=by
 refine fn func258 J J ntmps258 J J (fun C=>?_);refine cl J (js (z:=l.a)) J<|cl J (jc (by omega) (by omega)) J<|cl J (js (z:=l.b)) J<|cl J (jc (by omega) (by omega)) J<|?_;refine cl J (pE (by omega) (by omega)) J<|cl J (js (z:=l.c)) J<|cl J (pE (by omega) (by omega)) J<|?_;exact rz J J
def EF{l:aa}{p:ab}{i:Nat}[hl:LB l][hp:ay p i](hi:i<=400000:=by decide):PF GB prog 255 [eL l,eP p] (vI (l.value p).num.sign):=by
 refine fn func255 J J ntmps255 J J (fun C=>?_);refine cl J (D4 hi) J<|cl J qO J<|?_;exact rz J J
def JD{l:aa}[hl:LB l](hn:l.Ne):PF GB prog 256 [eL l] (eP l.base):=by
 refine fn func256 J J ntmps256 J J (fun C=>?_);refine cl J vG J<|cl J (js (z:=l.c)) J<|cl J Gu J<|cl J (zn (Q8 hn)) J<|cl J wS J<|cl J (js (z:=l.a)) J<|?_;refine cl J jc J<|cl J (js (z:=l.b)) J<|cl J jc J<|?_;exact rz J (by rw[<-NX];rfl)
instance ay.base (l:aa) [LB l]:ay l.base 900:=by
 rw[<-NX];constructor
 ·exact BQ.mono (inferInstance:BQ (-((l.c:Rat)/l.dir.dot l.dir)*(l.a:Rat)) _) (by decide)
 ·exact BQ.mono (inferInstance:BQ (-((l.c:Rat)/l.dir.dot l.dir)*(l.b:Rat)) _) (by decide)
def Pg{l:aa}{t:Rat}{k:Nat}[hl:LB l][ht:BQ t k](hn:l.Ne)(hk:k<=200000:=by decide):PF GB prog 208 [eL l,eQ t] (eP (l.at t)):=by
 refine fn func208 J J ntmps208 J J (fun C=>?_);refine cl J (JD hn) J<|cl J vG J<|cl J (A8 (by decide) (by decide) (by omega)) J<|?_;exact rz J (by rw[<-tL];rfl)
def EV{l:aa}{p:ab}{k:Nat}[hl:LB l][hp:ay p k](hn:l.Ne)(hk:k<=200000:=by decide):PF GB prog 235 [eL l,eP p] (eQ (gk l p)):=by
 refine fn func235 J J ntmps235 J J (fun C=>?_);refine cl J vG J<|cl J (Gu (by omega) (by decide)) J<|cl J (Gu (by omega) (by decide)) J<|cl J (zn (Q8 hn) (by omega) (by decide)) J<|?_;exact rz J J
instance BI.crossI (l m:aa) [LB l] [LB m]:BI (crossI l m) 385:=inferInstanceAs (BI (l.a*m.b-m.a*l.b) 385)
instance BI.meetX (l m:aa) [LB l] [LB m]:BI (meetX l m) 385:=inferInstanceAs (BI (l.b*m.c-m.b*l.c) 385)
instance BI.meetY (l m:aa) [LB l] [LB m]:BI (meetY l m) 385:=inferInstanceAs (BI (m.a*l.c-l.a*m.c) 385)
instance ay.imeet (l m:aa) [LB l] [LB m]:ay (d9 l m) 772:=by
 unfold d9;split
 ·exact⟨BQ.mono (k:=1) ⟨by decide,by decide⟩ (by decide),BQ.mono (k:=1) ⟨by decide,by decide⟩ (by decide)⟩
 ·exact⟨inferInstanceAs (BQ ((meetX l m:Rat)/(crossI l m:Rat)) 772),inferInstanceAs (BQ ((meetY l m:Rat)/(crossI l m:Rat)) 772)⟩
def MD(l m:aa):(((l.a:Rat)*(m.b:Rat)-(m.a:Rat)*(l.b:Rat)).num.sign=0)↔crossI l m=0:=by
 rw[ll,<-Ca];exact dV
def Qw{l m:aa}(h:crossI l m≠0):(l.a:Rat)*(m.b:Rat)-(m.a:Rat)*(l.b:Rat)≠0:=by
 rw[<-Ca];exact fun e=>h (dV.1 e)
def Ov{l m:aa}[hl:LB l][hm:LB m]:PF GB prog 254 [eL l,eL m] (.tp [eP (d9 l m),vB (decide (crossI l m≠0))]):=by
 refine fn func254 J J ntmps254 J J (fun C=>?_);refine cl J (js (z:=l.a)) J<|cl J (js (z:=m.b)) J<|cl J jc J<|cl J (js (z:=m.a)) J<|cl J (js (z:=l.b)) J<|?_;refine cl J jc J<|cl J ug J<|cl J qO J<|?_;refine br J J J (fun hc26=>?_) (fun hc26=>?_)
 .
  have hcr:=(MD l m).1 hc26;exact rz J (by unfold d9;rw[if_pos hcr,decide_eq_false (fun e=>e hcr)];show DV.tp [.ag [_, .sl [], .sl [],_, .sl [], .sl []],_]= .tp [eP ⟨0,0⟩,_];unfold eP dD;simp only[show(0:Rat).num=0 from J,show(0:Rat).den=1 from J,kN,p9];rfl)
 .
  have hcr:crossI l m≠0:=fun e=>hc26 ((MD l m).2 e);refine cl J (js (z:=l.b)) J<|cl J (js (z:=m.c)) J<|cl J jc J<|cl J (js (z:=m.b)) J<|cl J (js (z:=l.c)) J<|?_;refine cl J jc J<|cl J ug J<|cl J (js (z:=m.a)) J<|cl J (js (z:=l.c)) J<|cl J jc J<|cl J (js (z:=l.a)) J<|?_;refine cl J (js (z:=m.c)) J<|cl J jc J<|cl J ug J<|cl J (zn (Qw hcr)) J<|cl J (zn (Qw hcr)) J<|?_;exact rz J (by unfold d9;rw[if_neg hcr,decide_eq_true hcr,MO,Nu,Ca];rfl)
def i6(l m:aa):Int:=if(l.a-m.a).sign≠0 then(l.a-m.a).sign else if(l.b-m.b).sign≠0 then(l.b-m.b).sign else(l.c-m.c).sign
def Fo(l m:aa):i6 l m=0↔l=m:=by
 unfold i6;constructor
 ·intro h
  split at h
  ·contradiction
  ·split at h
   ·contradiction
   ·rename_i h1 h2
    have a1:=jU.1 (Decidable.not_not.1 h1);have a2:=jU.1 (Decidable.not_not.1 h2);have a3:=jU.1 h;exact aa.ext' (by omega) (by omega) (by omega)
 ·rintro rfl
  simp
def E8{l m:aa}[hl:LB l][hm:LB m]:PF GB prog 179 [eL l,eL m] (vI (i6 l m)):=by
 refine fn func179 J J ntmps179 J J (fun C=>?_);refine cl J (Kk (a:=l.a) (b:=m.a)) J<|?_;refine br J J J (fun hc13=>?_) (fun hc13=>?_)
 .
  exact rz J (by show vI _=_;unfold i6;rw[if_pos hc13])
 .
  refine cl J (Kk (a:=l.b) (b:=m.b)) J<|?_;refine br J J J (fun hc21=>?_) (fun hc21=>?_)
  .
   exact rz J (by show vI _=_;unfold i6;rw[if_neg hc13,if_pos hc21])
  .
   refine cl J (Kk (a:=l.c) (b:=m.c)) J<|?_;exact rz J (by show vI _=_;unfold i6;rw[if_neg hc13,if_neg hc21])
def S7{v:ab}:PF GB prog 262 [eP v] (vI v.half):=by
 refine fn func262 J J ntmps262 J J (fun C=>?_);refine cl J (qO (q:=v.x)) J<|cl J (qO (q:=v.y)) J<|?_;refine cs 13 J J J (fun hg13=>?_) (fun hg13=>?_)
 .
  refine br J J J (fun hc16=>?_) (fun hc16=>?_)
  .
   exact rz J (by show vI _=vI _;unfold ab.half;generalize v.x.num.sign=sx at*;generalize v.y.num.sign=sy at*;congr 1;(repeat' split)<;>omega)
  .
   refine cs 19 J J J (fun hg19=>?_) (fun hg19=>?_)
   .
    exact rz J (by show vI _=vI _;unfold ab.half;generalize v.x.num.sign=sx at*;generalize v.y.num.sign=sy at*;congr 1;(repeat' split)<;>omega)
   .
    refine cs 22 J J J (fun hg22=>?_) (fun hg22=>?_)
    .
     refine br J J J (fun hc26=>?_) (fun hc26=>?_)
     .
      exact rz J (by show vI _=vI _;unfold ab.half;generalize v.x.num.sign=sx at*;generalize v.y.num.sign=sy at*;congr 1;(repeat' split)<;>omega)
     .
      exact rz J (by show vI _=vI _;unfold ab.half;generalize v.x.num.sign=sx at*;generalize v.y.num.sign=sy at*;congr 1;(repeat' split)<;>omega)
    .
     exact rz J (by show vI _=vI _;unfold ab.half;generalize v.x.num.sign=sx at*;generalize v.y.num.sign=sy at*;congr 1;(repeat' split)<;>omega)
 .
  refine cs 19 J J J (fun hg19=>?_) (fun hg19=>?_)
  .
   exact rz J (by show vI _=vI _;unfold ab.half;generalize v.x.num.sign=sx at*;generalize v.y.num.sign=sy at*;congr 1;(repeat' split)<;>omega)
  .
   refine cs 22 J J J (fun hg22=>?_) (fun hg22=>?_)
   .
    refine br J J J (fun hc26=>?_) (fun hc26=>?_)
    .
     exact rz J (by show vI _=vI _;unfold ab.half;generalize v.x.num.sign=sx at*;generalize v.y.num.sign=sy at*;congr 1;(repeat' split)<;>omega)
    .
     exact rz J (by show vI _=vI _;unfold ab.half;generalize v.x.num.sign=sx at*;generalize v.y.num.sign=sy at*;congr 1;(repeat' split)<;>omega)
   .
    exact rz J (by show vI _=vI _;unfold ab.half;generalize v.x.num.sign=sx at*;generalize v.y.num.sign=sy at*;congr 1;(repeat' split)<;>omega)
def VC(z:Int): -1<=z.sign/\z.sign<=1:=by
 rcases lU z 0 with h|h|h
 ·rw[fK h];omega
 ·rw[h];decide
 ·rw[fW h];omega
def Z9{u v:ab}{i j:Nat}[hu:ay u i][hv:ay v j](hi:i<=200000:=by decide)(hj:j<=200000:=by decide):PF GB prog 210 [eP u,eP v] (vI (co u v)):=by
 refine fn func210 J J ntmps210 J J (fun C=>?_);refine cl J (S7 (v:=u)) J<|cl J (S7 (v:=v)) J<|?_;refine br J J J (fun hc13=>?_) (fun hc13=>?_)
 .
  refine br J J J (fun hc16=>?_) (fun hc16=>?_)
  .
   exact rz J (by show vI _=vI _;unfold co;rw[if_pos hc16])
  .
   exact rz J (by show vI _=vI _;unfold co;rw[if_neg hc16,if_pos (by omega)])
 .
  refine cl J (E2 hi hj) J<|cl (hv:=by simp only[ac];exact(by have:=VC (u.cross v).num;omega)) J qO J<|?_;exact rz J (by show vI _=vI _;unfold co;rw[if_neg (by omega),if_neg (by omega)])
instance BQ.i1:BQ (((1:Int):Rat)) 2:=⟨by decide,by decide⟩
def eV(v:ah):DV:= .ag [.v (.bool (decide (v.lo.num<0))),dN v.lo.num.natAbs,dD v.lo.den, .v (.bool (decide (v.hi.num<0))),dN v.hi.num.natAbs,dD v.hi.den, .v (.bool v.nl), .v (.bool v.nh)]
def Ux:eV ah.all= .ag [.v (.bool false), .sl [], .sl [], .v (.bool false), .sl [], .sl [], .v (.bool true), .v (.bool true)]:=by
 unfold eV ah.all dD;simp only[show(0:Rat).num=0 from J,show(0:Rat).den=1 from J,kN,p9];rfl
def SK:eQ 0= .ag [.v (.bool false), .sl [], .sl []]:=by
 unfold eQ dD;simp only[show(0:Rat).num=0 from J,show(0:Rat).den=1 from J,kN,p9];rfl
def jw(v:ah):Rat:=if v.nl=true/\v.nh=true then 0 else if v.nl=true then v.hi-1 else if v.nh=true then v.lo+1 else(v.lo+v.hi)/2
def Lm:PF GB prog 253 [] (eV ah.all):=by
 refine fn func253 J J ntmps253 J J (fun C=>?_);exact rz J (by rw[Ux];rfl)
def axf{v:ah}{i:Nat}[hl:BQ v.lo i][hh:BQ v.hi i](hi:i<=100000:=by decide):PF GB prog 209 [eV v] (eQ (jw v)):=by
 refine fn func209 J J ntmps209 J J (fun C=>?_);refine jd 6 J J J (fun hg6=>?_) (fun hg6=>?_)
 .
  refine bb J J J (fun hc3=>?_) (fun hc3=>?_)
  .
   exact rz J (by unfold jw;rw[if_pos ⟨hg6,hc3⟩,SK];rfl)
  .
   refine bb J J J (fun hc11=>?_) (fun hc11=>?_)
   .
    refine cl J (ku (n:=1) (by decide) (by decide)) J<|cl J (ug (a:=v.hi) (b:=((1:Int):Rat)) (by omega) (by decide)) J<|?_;exact rz J (by unfold jw;rw[if_neg (by simp[hc3]),if_pos hc11];rfl)
   .
    refine bb J J J (fun hc18=>?_) (fun hc18=>?_)
    .
     refine cl J (ku (n:=1) (by decide) (by decide)) J<|cl J (pE (a:=v.lo) (b:=((1:Int):Rat)) (by omega) (by decide)) J<|?_;exact rz J (by simp[hg6] at hc11)
    .
     refine cl J (HQ (a:=v.lo) (b:=v.hi) (by omega) (by omega)) J<|?_;exact rz J (by simp[hg6] at hc11)
 .
  refine bb J J J (fun hc11=>?_) (fun hc11=>?_)
  .
   refine cl J (ku (n:=1) (by decide) (by decide)) J<|cl J (ug (a:=v.hi) (b:=((1:Int):Rat)) (by omega) (by decide)) J<|?_;exact rz J (by simp[hg6] at hc11)
  .
   refine bb J J J (fun hc18=>?_) (fun hc18=>?_)
   .
    refine cl J (ku (n:=1) (by decide) (by decide)) J<|cl J (pE (a:=v.lo) (b:=((1:Int):Rat)) (by omega) (by decide)) J<|?_;exact rz J (by unfold jw;rw[if_neg (by simp[hg6]),if_neg (by simp[hg6]),if_pos hc18];rfl)
   .
    refine cl J (HQ (a:=v.lo) (b:=v.hi) (by omega) (by omega)) J<|?_;exact rz J (by unfold jw;rw[if_neg (by simp[hg6]),if_neg (by simp[hg6]),if_neg (by simp[hc18])];rfl)
theorem BQ.of_fracI{q:Rat}{n D:Int}{i:Nat}(hd:0<D.natAbs)(h:q*((D.natAbs:Nat):Rat)=(n:Rat))(hn:BI n i)(hD:BI D i):BQ q i:=BQ.of_frac hd h hn.h hD.h
theorem Da{m:Int}{i j:Nat}(h:BI m i)(hij:i<=j):BI m j:=⟨dW h.h (bY (by decide) hij)⟩
theorem D9{l m:aa}[LB l][LB m](hn:l.Ne)(h:crossI l m≠0):BQ (gk l (d9 l m)) 1200:=by
 have e:=VS hn h;have hA:BI (crossI l m*(l.a*l.a+l.b*l.b)) _:=inferInstance;have hB:BI (meetX l m*l.b-meetY l m*l.a) _:=inferInstance;have hne:crossI l m*(l.a*l.a+l.b*l.b)≠0:=by
  intro q;rcases sL.1 q with q|q
  ·exact h q
  ·have h1:=Bn hn
   simp only[aa.dir,ab.dot] at h1;have h2:((l.a*l.a+l.b*l.b:Int):Rat)=((0:Int):Rat):=by rw[q]
   rw[pT,cY,cY] at h2;have h3:((0:Int):Rat)=0:=J;rw[h3] at h2;grind
 have hA':=Da (j:=1200) hA (by decide);have hB':=Da (j:=1200) hB (by decide);generalize crossI l m*(l.a*l.a+l.b*l.b)=D at*;generalize meetX l m*l.b-meetY l m*l.a=M at*;by_cases hD:0<D
 ·refine BQ.of_fracI (n:=M) (D:=D) (by omega) ?_ hB' hA'
  rw[<-e];congr 1;have:((D.natAbs:Nat):Int)=D:=by omega
  rw[<-this];rfl
 ·refine BQ.of_fracI (n:= -M) (D:=D) (by omega) ?_ (BI.neg M 1200 (h:=hB')) hA'
  rw[lR,<-e];have:((D.natAbs:Nat):Rat)= -(D:Rat):=by
   have h1:((D.natAbs:Nat):Int)= -D:=by omega
   rw[<-lR,<-h1];rfl
  rw[this];grind
def QH(k:Rat):k.num.sign<=0↔ ¬0<k:=by rw[<-kH];omega
def axm{w:ah}(h1: ¬w.nl=true)(h2: ¬w.nh=true)(h3:0<=bg w.lo w.hi):w.empty=true:=by
 unfold ah.empty;simp[h1,h2,h3]
def ani{w:ah}(h:w.nl=true):w.empty=false:=by unfold ah.empty;simp[h]
def Xx{w:ah}(h:w.nh=true):w.empty=false:=by unfold ah.empty;simp[h]
def aol{w:ah}(h: ¬0<=bg w.lo w.hi):w.empty=false:=by unfold ah.empty;simp[h]
def fm(l:aa):List aa->ah->ah×Bool
 |[],v=>(v,true)
 |m::t,v=>if m=l then fm l t v else if l.cutB v m=true then fm l t (l.cutV v m) else(l.cutV v m,false)
def wg{l:aa}: ∀{c:List aa} {v:ah},(fm l c v).2=(fj l c v).isSome
 |[],v=>rfl
 |m::t,v=>by
  rw[fm,KJ];split
  ·exact wg
  ·split
   ·exact wg
   ·rfl
structure ju (l:aa) (c:List aa) (k:Nat) (v:ah):Prop where
 le:k<=c.length
 p:fj l (c.drop k) v=fj l c ah.all
 e:fm l (c.drop k) v=fm l c ah.all
 z:gH v
 lo:BQ v.lo 1200
 hi:BQ v.hi 1200
def ju.skip{l:aa}{c:List aa}{k:Nat}{v:ah}(h:ju l c k v)(hk:k<c.length)(e:c[k]=l):ju l c (k+1) v:=
 ⟨hk,by have:=h.p;rw[bZ hk,KJ,if_pos e] at this;exact this,by have:=h.e;rw[bZ hk,fm,if_pos e] at this;exact this,h.z,h.lo,h.hi⟩
def ju.cut{l:aa}{c:List aa}{k:Nat}{v w:ah}(h:ju l c k v)(hk:k<c.length)(e:c[k]≠l)(hb:l.cutB v c[k]=true)(hw:l.cutV v c[k]=w)(z:gH w)(lo:BQ w.lo 1200)(hi:BQ w.hi 1200):ju l c (k+1) w:=
 ⟨hk,by have:=h.p;rw[bZ hk,KJ,if_neg e,if_pos hb,hw] at this;exact this,by have:=h.e;rw[bZ hk,fm,if_neg e,if_pos hb,hw] at this;exact this,z,lo,hi⟩
def ju.no{l:aa}{c:List aa}{k:Nat}{v w:ah}(h:ju l c k v)(hk:k<c.length)(e:c[k]≠l)(hb:l.cutB v c[k]=false)(hw:l.cutV v c[k]=w):fm l c ah.all=(w,false):=by
 rw[<-h.e,bZ hk,fm,if_neg e,if_neg (by rw[hb];decide),hw]
def ju.yes{l:aa}{c:List aa}{k:Nat}{v:ah}(h:ju l c k v)(hk:c.length<=k):fm l c ah.all=(v,true):=by
 rw[<-h.e,kV hk];rfl
def ju.all{l:aa}{c:List aa}:ju l c 0 ah.all:=⟨bV _,by rw[iX],by rw[iX],gH.all,BQ.mono (k:=1) ⟨by decide,by decide⟩ (by decide),BQ.mono (k:=1) ⟨by decide,by decide⟩ (by decide)⟩
def Nk{v:ah}{t:Rat}(h:v.nl=true\/0<bg t v.lo):(⟨t,v.hi,false,v.nh⟩:ah)=ph v t:=by unfold ph;rw[if_pos h]
def Y2{v:ah}{t:Rat}(h: ¬v.nl=true)(h2: ¬0<bg t v.lo):v=ph v t:=by unfold ph;rw[if_neg (fun e=>e.elim h h2)]
def NS{v:ah}{t:Rat}(h:v.nh=true\/bg t v.hi<0):(⟨v.lo,t,v.nl,false⟩:ah)=pH v t:=by unfold pH;rw[if_pos h]
def Yq{v:ah}{t:Rat}(h: ¬v.nh=true)(h2: ¬bg t v.hi<0):v=pH v t:=by unfold pH;rw[if_neg (fun e=>e.elim h h2)]
def o7(l m:aa)(v:ah):ah:=if 0<(m.dir.cross l.dir).num.sign then ph v (gk l (d9 l m)) else pH v (gk l (d9 l m))
def Gp{l m:aa}{v:ah}[LB l][LB m](hn:l.Ne)(hz:gH v)(hlo:BQ v.lo 1200)(hhi:BQ v.hi 1200)(h0:crossI l m≠0):l.cutV v m=o7 l m v/\l.cutB v m=!(o7 l m v).empty/\gH (o7 l m v)/\BQ (o7 l m v).lo 1200/\BQ (o7 l m v).hi 1200:=by
 have hb:=D9 (l:=l) (m:=m) hn h0;unfold o7;split
 ·rename_i h
  obtain⟨_,h1,h2⟩:=YK hn hz ((kH _).1 h);refine⟨h1,h2,hz.lo' _,?_⟩;unfold ph;split
  ·exact⟨hb,hhi⟩
  ·exact⟨hlo,hhi⟩
 ·rename_i h
  obtain⟨h1,h2⟩:=Ya hn hz h0 (fun e=>h ((kH _).2 e));refine⟨h1,h2,hz.hi' _,?_⟩;unfold pH;split
  ·exact⟨hlo,hb⟩
  ·exact⟨hlo,hhi⟩
theorem Dc{l:aa}[LB l](hn:l.Ne): ∀{c:List aa} {v:ah},(∀m∈c,LB m)->gH v->BQ v.lo 1200->BQ v.hi 1200->BQ (fm l c v).1.lo 1200/\BQ (fm l c v).1.hi 1200
 |[],v,_,_,h1,h2=>⟨h1,h2⟩
 |m::t,v,hc,hz,h1,h2=>by
  haveI:=hc m aQ;have hw:gH (l.cutV v m)/\BQ (l.cutV v m).lo 1200/\BQ (l.cutV v m).hi 1200:=by
   by_cases h0:crossI l m=0
   ·rw[(B3 (v:=v) h0).1];exact⟨hz,h1,h2⟩
   ·obtain⟨u1,_,u3,u4,u5⟩:=Gp (v:=v) hn hz h1 h2 h0
    rw[u1];exact⟨u3,u4,u5⟩
  have hc':=fun m hm=>hc m (aJ _ hm);rw[fm];split
  ·exact Dc hn hc' hz h1 h2
  ·split
   ·exact Dc hn hc' hw.1 hw.2.1 hw.2.2
   ·exact hw.2
def QG{c:List aa}{i:Nat}(hc: ∀m∈c,LB m)(hok: ∀m∈c,m.ok)(hn:c.length<=1000)(hi:i<c.length):PF GB prog 205 [.sl (c.map eL),vI (i:Nat)] (.tp [eV (fm (c[i]'hi) c ah.all).1,vB (fm (c[i]'hi) c ah.all).2]):=by
 have hcl:=wU c;obtain⟨l,hl⟩: ∃l,l=c[i]:=⟨_,rfl⟩;rw[<-hl];haveI hlb:LB l:=hl▸hc _ (bM hi);have hlo:l.ok:=hl▸hok _ (bM hi);refine fn func205 J J ntmps205 J J (fun C=>?_);refine ix (fu:=⟨1⟩) _ J (xz hi) J<|?_;refine aj 16 (.d (eL l)) J (by rw[hl];rfl) ?_;refine gx J<|cl (fu:=⟨9⟩) J Lm J<|?_;refine aj 19 (.d (vI (c.length:Nat))) J (by rw[hcl];rfl) ?_;refine gx J<|?_;refine lp (X:=ah×Nat) (fun⟨v,k⟩=>[(20, .d (vI (k:Nat))),(19, .d (vI (c.length:Nat))),(18, .d (.sl (c.map eL))),(1, .d (vI (i:Nat))),(6, .ov 6 0),(7, .ov 7 0),(4, .ov 4 0)]) (fun⟨v,k⟩=>[(7,some (.o 223 [.d ((.v (.bool (decide (v.lo.num<0))))), .d (dN v.lo.num.natAbs), .d (dD v.lo.den), .d ((.v (.bool (decide (v.hi.num<0))))), .d (dN v.hi.num.natAbs), .d (dD v.hi.den), .d ((.v (.bool v.nl))), .d ((.v (.bool v.nh)))] true)),(6,some (.o 175 [.d ((.v (.bool (decide (l.a<0))))), .d (dN l.a.natAbs), .d ((.v (.bool (decide (l.b<0))))), .d (dN l.b.natAbs), .d ((.v (.bool (decide (l.c<0))))), .d (dN l.c.natAbs)] true)),(4,some (.o 223 [.ff, .nl, .nl, .ff, .nl, .nl, .ff, .ff] true))]) (fun⟨v,k⟩=>ju l c k v) (fun⟨v,k⟩=>c.length-k) ⟨ah.all,0⟩ J ju.all (fun _=>J) (fun⟨v,k⟩ hk=>?_)
 try dsimp only at hk⊢
 have hS:=hk;refine br J J J (fun hc21=>?_) (fun hc21=>?_)
 .
  have hk:k<c.length:=by omega
  obtain⟨m,hm⟩: ∃m,m=c[k]:=⟨_,rfl⟩;haveI hmb:LB m:=hm▸hc _ (bM hk);have hmo:m.ok:=hm▸hok _ (bM hk);refine ix (fu:=⟨1⟩) _ J (xz hk) J<|?_;refine aj 24 (.d (eL m)) J (by rw[hm];rfl) ?_;refine gx J<|?_;refine cs 28 J J J (fun hg28=>?_) (fun hg28=>?_)
  .
   have hinv:ju l c (k+1) v:=hS.skip hk (by rw[hl];congr 1;omega);exact at_ ⟨v,k+1⟩ (by dsimp only;exact⟨hinv,(by omega)⟩)
  .
   refine cl J (E8 (l:=l) (m:=m)) J<|?_;refine br J J J (fun hc33=>?_) (fun hc33=>?_)
   .
    have hinv:ju l c (k+1) v:=hS.skip hk (by rw[<-hm,(Fo l m).1 hc33]);exact at_ ⟨v,k+1⟩ (by dsimp only;exact⟨hinv,(by omega)⟩)
   .
    have hne:c[k]≠l:=fun e=>hc33 ((Fo l m).2 (by rw[hm,e]));refine cl (fu:=⟨13⟩) J (Ov (l:=l) (m:=m)) J<|?_;refine aj 41 (.d (.v (.bool (decide (crossI l m=0))))) J (by simp) ?_;refine gx J<|?_;refine bd J J J (fun hc41=>?_) (fun hc41=>?_)
    .
     refine cl J (JD hlo.ne) J<|cl J (EF (l:=m) (p:=l.base)) J<|?_;refine br J J J (fun hc46=>?_) (fun hc46=>?_)
     .
      have hno:=hS.no (w:=v) hk hne (by have:=(B3 (v:=v) hc41).2;rw[<-hm];cases hb:l.cutB v m with|false=>rfl|true=>exact absurd (this.1 hb) ((QH _).1 hc46)) (by rw[<-hm];exact(B3 (v:=v) hc41).1);exact rz J (by rw[hno];rfl)
     .
      have hinv:ju l c (k+1) v:=by have:=B3 (v:=v) hc41;exact hS.cut hk hne (by rw[<-hm];exact this.2.2 (by have:=mt (QH (m.value l.base)).2 hc46;exact Decidable.not_not.1 this)) (by rw[<-hm];exact this.1) hS.z hS.lo hS.hi
      exact at_ ⟨v,k+1⟩ (by dsimp only;exact⟨hinv,(by omega)⟩)
    .
     obtain⟨u1,u2,u3,u4,u5⟩:=Gp (v:=v) hlo.ne hS.z hS.lo hS.hi hc41;haveI htb:=D9 hlo.ne hc41;haveI hvl:=hS.lo;haveI hvh:=hS.hi;refine cl (fu:=⟨0⟩) J (EV (l:=l) (p:=d9 l m) hlo.ne) J<|?_;obtain⟨t,ht⟩: ∃t,t=gk l (d9 l m):=⟨_,rfl⟩;refine aj 50 (.d (eQ t)) J (by rw[ht]) ?_;rw[<-ht] at htb;refine gx (fu:=⟨5⟩) J<|?_;refine mg (X:=ah) (fun w=>[(20, .d (vI (k:Nat))),(19, .d (vI (c.length:Nat))),(18, .d (.sl (c.map eL))),(1, .d (vI (i:Nat))),(6, .ov 6 0),(7, .ov 7 0),(4, .ov 4 0)]) (fun w=>[(7,some (.o 223 [.d ((.v (.bool (decide (w.lo.num<0))))), .d (dN w.lo.num.natAbs), .d (dD w.lo.den), .d ((.v (.bool (decide (w.hi.num<0))))), .d (dN w.hi.num.natAbs), .d (dD w.hi.den), .d ((.v (.bool w.nl))), .d ((.v (.bool w.nh)))] true)),(6,some (.o 175 [.d ((.v (.bool (decide (l.a<0))))), .d (dN l.a.natAbs), .d ((.v (.bool (decide (l.b<0))))), .d (dN l.b.natAbs), .d ((.v (.bool (decide (l.c<0))))), .d (dN l.c.natAbs)] true)),(4,some (.o 223 [.ff, .nl, .nl, .ff, .nl, .nl, .ff, .ff] true))]) (fun w=>w=o7 l m v) [20,19,18,1,6,7,4] [7,6,4] rfl ?_ (fun _=>J) (fun w hw=>?_)
     .
      refine gx J<|cl J (vG (l:=m)) J<|cl J (vG (l:=l)) J<|cl J (E2 (p:=m.dir) (q:=l.dir)) J<|cl J (qO (q:=m.dir.cross l.dir)) J<|?_;refine br J J J (fun hc57=>?_) (fun hc57=>?_)
      .
       refine jd 60 J J J (fun hg60=>?_) (fun hg60=>?_)
       .
        refine F4 7 J J J ?_;exact at_ ⟨t,v.hi,false,v.nh⟩ (by unfold o7;rw[if_pos hc57,<-ht];exact Nk (.inl hg60))
       .
        refine cl J (jm (a:=t) (b:=v.lo)) J<|?_;refine br J J J (fun hc66=>?_) (fun hc66=>?_)
        .
         refine F4 7 J J J ?_;exact at_ ⟨t,v.hi,false,v.nh⟩ (by unfold o7;rw[if_pos hc57,<-ht];exact Nk (.inr hc66))
        .
         exact at_ v (by unfold o7;rw[if_pos hc57,<-ht];exact Y2 (by simp[hg60]) hc66)
      .
       refine jd 72 J J J (fun hg72=>?_) (fun hg72=>?_)
       .
        refine F4 7 J J J ?_;exact at_ ⟨v.lo,t,v.nl,false⟩ (by unfold o7;rw[if_neg hc57,<-ht];exact NS (.inl hg72))
       .
        refine cl J (jm (a:=t) (b:=v.hi)) J<|?_;refine br J J J (fun hc78=>?_) (fun hc78=>?_)
        .
         refine F4 7 J J J ?_;exact at_ ⟨v.lo,t,v.nl,false⟩ (by unfold o7;rw[if_neg hc57,<-ht];exact NS (.inr hc78))
        .
         exact at_ v (by unfold o7;rw[if_neg hc57,<-ht];exact Yq (by simp[hg72]) hc78)
     .
      rw[<-hw] at u1 u2 u3 u4 u5;haveI:=u4;haveI:=u5;refine jd 85 J J J (fun hg85=>?_) (fun hg85=>?_)
      .
       refine jd 90 J J J (fun hg90=>?_) (fun hg90=>?_)
       .
        refine cl J (jm (a:=w.lo) (b:=w.hi)) J<|?_;refine br J J J (fun hc97=>?_) (fun hc97=>?_)
        .
         have hno:=hS.no (w:=w) hk hne (by rw[<-hm,u2,axm (by simpa using hg85) (by simpa using hg90) hc97];rfl) (by rw[<-hm,u1]);exact rz J (by rw[hno];rfl)
        .
         have hinv:ju l c (k+1) w:=hS.cut hk hne (by rw[<-hm,u2,aol hc97];rfl) (by rw[<-hm,u1]) u3 u4 u5;exact at_ ⟨w,k+1⟩ (by dsimp only;exact⟨hinv,(by omega)⟩)
       .
        have hinv:ju l c (k+1) w:=hS.cut hk hne (by rw[<-hm,u2,Xx (by simpa using hg90)];rfl) (by rw[<-hm,u1]) u3 u4 u5;exact at_ ⟨w,k+1⟩ (by dsimp only;exact⟨hinv,(by omega)⟩)
      .
       have hinv:ju l c (k+1) w:=hS.cut hk hne (by rw[<-hm,u2,ani (by simpa using hg85)];rfl) (by rw[<-hm,u1]) u3 u4 u5;exact at_ ⟨w,k+1⟩ (by dsimp only;exact⟨hinv,(by omega)⟩)
 .
  exact rz J (by rw[hS.yes (by omega)];rfl)
def gi(l:aa):DV:= .ag [vI (ce (l.a:Rat)),vI (b9 (l.a:Rat)),cg (l.a:Rat),vI (ce (l.b:Rat)),vI (b9 (l.b:Rat)),cg (l.b:Rat),vI (ce (l.c:Rat)),vI (b9 (l.c:Rat)),cg (l.c:Rat)]
def eZ(p:ab):DV:= .ag [vI (ce p.x),vI (b9 p.x),cg p.x,vI (ce p.y),vI (b9 p.y),cg p.y]
def eW(v:ah):DV:= .ag [vI (ce v.lo),vI (b9 v.lo),cg v.lo,vI (ce v.hi),vI (b9 v.hi),cg v.hi, .v (.bool v.nl), .v (.bool v.nh)]
def DY{G:Gh}{t:List DV}{vs:List Value}(h:IsLs G (vI 0::vI 0:: .v (.pointer none)::t) vs):IsLs G (vI (ce 0)::vI (b9 0)::cg 0::t) vs:=by
 obtain⟨y1,l1,rfl,k1,g1⟩:=bh.1 h;obtain⟨y2,l2,rfl,k2,g2⟩:=bh.1 g1;obtain⟨y3,l3,rfl,k3,g3⟩:=bh.1 g2;have e:decide (jv 0)=false:=decide_eq_false fun h=>IL h J;exact .cons k1 (.cons k2 (.cons (wk.2 (.inl ⟨e,aI.1 k3⟩)) g3))
def Gg{G:Gh}(a:List DV){t:List DV}{vs:List Value}(h:IsLs G (a++vI 0::vI 0:: .v (.pointer none)::t) vs):IsLs G (a++vI (ce 0)::vI (b9 0)::cg 0::t) vs:=by
 obtain⟨x,y,rfl,h1,h2⟩:=h.unapp;exact h1.app (DY h2)
def aEN(G:Gh)(y:Value)(k:Is G (.ag [vI 0,vI 0, .v (.pointer none),vI 0,vI 0, .v (.pointer none), .v (.bool true), .v (.bool true)]) y):Is G (eW ah.all) y:=by
 obtain⟨l,rfl,g⟩:=d6.1 k;exact d6.2 ⟨l,J,DY (Gg [vI 0,vI 0, .v (.pointer none)] g)⟩
def pO:List Int->Int
 |[]=>0
 |a::t=>if a≠0 then a else pO t
theorem ay.nor(l:aa)[LB l]:ay l.nor 97:=⟨inferInstanceAs (BQ (l.a:Rat) 97),inferInstanceAs (BQ (l.b:Rat) 97)⟩
attribute [instance] ay.nor
instance ay.scale (p:ab) (c:Rat) (i k:Nat) [ay p i] [BQ c k]:ay (p.scale c) (i+k):=⟨inferInstanceAs (BQ (p.x*c) _),inferInstanceAs (BQ (p.y*c) _)⟩
instance ay.add (p q:ab) (i j:Nat) [ay p i] [ay q j]:ay (p.add q) (i+j+1):=⟨inferInstanceAs (BQ (p.x+q.x) _),inferInstanceAs (BQ (p.y+q.y) _)⟩
instance LB.revA (l:aa) [h:LB l]:LB l.rev:=⟨⟨by rw[show l.rev.a= -l.a from J,iJ];exact h.bl.a,by rw[show l.rev.b= -l.b from J,iJ];exact h.bl.b,by rw[show l.rev.c= -l.c from J,iJ];exact h.bl.c⟩⟩
def ZX:PF GB prog 266 [] (eW ah.all):=by
 refine fn func266 J J ntmps266 J J (fun C=>?_);exact jo J aEN
def yl{l:aa}:PF GB prog 194 [gi l] (eZ l.nor):=by
 refine fn func194 J J ntmps194 J J (fun C=>?_);exact rz J J
def xk{l:aa}[hl:LB l]:PF GB prog 143 [gi l] (eZ l.dir):=by
 refine fn func143 J J ntmps143 J J (fun C=>?_);refine cl J (qt (q:=(l.a:Rat))) J<|?_;exact rz J J
def Es{p q:ab}{i j:Nat}[hp:ay p i][hq:ay q j](hi:i<=40000000:=by decide)(hj:j<=40000000:=by decide):PF GB prog 195 [eZ p,eZ q] (eF (p.dot q)):=by
 refine fn func195 J J ntmps195 J J (fun C=>?_);refine cl J (gt (p:=p.x) (q:=q.x) (by omega) (by omega)) J<|cl J (gt (p:=p.y) (q:=q.y) (by omega) (by omega)) J<|cl J (kh (p:=p.x*q.x) (q:=p.y*q.y) (by omega) (by omega)) J<|?_;exact rz J J
def Bo{p q:ab}{i j:Nat}[hp:ay p i][hq:ay q j](hi:i<=40000000:=by decide)(hj:j<=40000000:=by decide):PF GB prog 144 [eZ p,eZ q] (eF (p.cross q)):=by
 refine fn func144 J J ntmps144 J J (fun C=>?_);refine cl J (gt (p:=p.x) (q:=q.y) (by omega) (by omega)) J<|cl J (gt (p:=p.y) (q:=q.x) (by omega) (by omega)) J<|cl J (u7 (p:=p.x*q.y) (q:=p.y*q.x) (by omega) (by omega)) J<|?_;exact rz J J
def Aw{p:ab}{c:Rat}{i j:Nat}[hp:ay p i][hc:BQ c j](hi:i<=40000000:=by decide)(hj:j<=40000000:=by decide):PF GB prog 74 [eZ p,eF c] (eZ (p.scale c)):=by
 refine fn func74 J J ntmps74 J J (fun C=>?_);refine cl J (gt (p:=p.x) (q:=c) (by omega) (by omega)) J<|cl J (gt (p:=p.y) (q:=c) (by omega) (by omega)) J<|?_;exact rz J J
def Ce{p q:ab}{i j:Nat}[hp:ay p i][hq:ay q j](hi:i<=40000000:=by decide)(hj:j<=40000000:=by decide):PF GB prog 73 [eZ p,eZ q] (eZ (p.add q)):=by
 refine fn func73 J J ntmps73 J J (fun C=>?_);refine cl J (kh (by omega) (by omega)) J<|cl J (kh (by omega) (by omega)) J<|?_;exact rz J J
def Q3{l:aa}[hl:LB l]:PF GB prog 270 [gi l] (eZ l.base):=by
 refine fn func270 J J ntmps270 J J (fun C=>?_);refine cl J yl J<|cl J (qt (q:=(l.c:Rat))) J<|cl J (Es (p:=l.nor) (q:=l.nor)) J<|cl J (Ap (p:= -(l.c:Rat)) (q:=l.nor.dot l.nor)) J<|?_;refine cl J (Aw (p:=l.nor)) J<|?_;exact rz J J
def K8{l:aa}{p:ab}{i:Nat}[hl:LB l][hp:ay p i](hi:i<=10000000:=by decide):PF GB prog 248 [gi l,eZ p] (eF (l.value p)):=by
 refine fn func248 J J ntmps248 J J (fun C=>?_);refine cl J (yl (l:=l)) J<|cl J (Es (p:=l.nor) (q:=p) (by omega) (by omega)) J<|cl J (kh (p:=l.nor.dot p) (q:=(l.c:Rat)) (by omega) (by omega)) J<|?_;exact rz J J
def A6{l:aa}{p:ab}{i:Nat}[hl:LB l][hp:ay p i](hi:i<=10000000:=by decide):PF GB prog 191 [gi l,eZ p] (vI (l.value p).num.sign):=by
 refine fn func191 J J ntmps191 J J (fun C=>?_);refine cl J (K8 (l:=l) (p:=p) hi) J<|cl J (nF (q:=l.value p) (by omega)) J<|?_;exact rz J J
def Uh{l:aa}{t:Rat}{i:Nat}[hl:LB l][ht:BQ t i](hi:i<=10000000:=by decide):PF GB prog 267 [gi l,eF t] (eZ (l.at t)):=by
 refine fn func267 J J ntmps267 J J (fun C=>?_);refine cl J (Q3 (l:=l)) J<|cl J (xk (l:=l)) J<|cl J (Aw (p:=l.dir) (c:=t) (by omega) (by omega)) J<|cl J (Ce (p:=l.base) (q:=l.dir.scale t) (by omega) (by omega)) J<|?_;exact rz J J
def YL{v:ah}{i j:Nat}[h1:BQ v.lo i][h2:BQ v.hi j](hi:i<=40000000:=by decide)(hj:j<=40000000:=by decide):PF GB prog 296 [eW v] (vB v.empty):=by
 refine fn func296 J J ntmps296 J J (fun C=>?_);refine jd 6 J J J (fun hg6=>?_) (fun hg6=>?_)
 .
  refine jd 11 J J J (fun hg11=>?_) (fun hg11=>?_)
  .
   refine cl J (xp (p:=v.lo) (q:=v.hi) (by omega) (by omega)) J<|?_;exact rz J (by unfold ah.empty;simp_all [vB,jj])
  .
   exact rz J (by unfold ah.empty;simp_all [vB,jj])
 .
  exact rz J (by unfold ah.empty;simp_all [vB,jj])
instance ah.meet_lo (v w:ah) (i j:Nat) [h1:BQ v.lo i] [h3:BQ w.lo j]:BQ (v.meet w).lo (i+j):=by
 have a:=h1.mono (nV i j);have b:=h3.mono (Nat.le_add_left j i);unfold ah.meet;dsimp only;(repeat' split)<;>assumption
instance ah.meet_hi (v w:ah) (i j:Nat) [h1:BQ v.hi i] [h3:BQ w.hi j]:BQ (v.meet w).hi (i+j):=by
 have a:=h1.mono (nV i j);have b:=h3.mono (Nat.le_add_left j i);unfold ah.meet;dsimp only;(repeat' split)<;>assumption
def Te{v w:ah}{i j:Nat}[h1:BQ v.lo i][h2:BQ v.hi i][h3:BQ w.lo j][h4:BQ w.hi j](hi:i<=10000000:=by decide)(hj:j<=10000000:=by decide):PF GB prog 271 [eW v,eW w] (.tp [eW (v.meet w),vB (!(v.meet w).empty)]):=by
 refine fn (fu:=⟨16⟩) func271 J J ntmps271 J J (fun C=>?_);refine mg (fu:=⟨1⟩) (X:=Unit) (fun _=>[(6, .ov 6 0)]) (fun _=>[(6,some (.o 199 [.d (vI (ce (v.meet w).lo)), .d (vI (b9 (v.meet w).lo)), .d (cg (v.meet w).lo), .d (vI (ce v.hi)), .d (vI (b9 v.hi)), .d (cg v.hi), .d (.v (.bool (v.nl&&w.nl))), .d (.v (.bool (v.nh)))] true))]) (fun _=>True) [6] [6] rfl ?_ (fun _=>J) (fun _ _=>?_)
 .
  refine gx J<|?_;refine bb (v1:=fun hc8=>by simp only[ac];kernel_rfl) J J J (fun hc8=>?_) (fun hc8=>?_)
  .
   have em:(v.meet w).lo=w.lo:=by unfold ah.meet;simp_all
   have eb:(v.nl&&w.nl)=w.nl:=by simp_all
   exact at_ () trivial (hO:=⟨by rw[em,eb]<;>rfl,by repeat (first|exact trivial|refine And.intro J ?_)⟩)
  .
   refine bb J J J (fun hc17=>?_) (fun hc17=>?_)
   .
    refine cl J (Hv (p:=v.lo) (q:=w.lo) (by omega) (by omega)) J<|?_;have em:(v.meet w).lo=(if v.lo<w.lo then w.lo else v.lo):=by unfold ah.meet;simp_all
    have eb:(v.nl&&w.nl)=v.nl:=by simp_all
    exact at_ () trivial (hO:=⟨by rw[em,eb]<;>rfl,by repeat (first|exact trivial|refine And.intro J ?_)⟩)
   .
    have em:(v.meet w).lo=v.lo:=by unfold ah.meet;simp_all
    have eb:(v.nl&&w.nl)=v.nl:=by simp_all
    exact at_ () trivial (hO:=⟨by rw[em,eb]<;>rfl,by repeat (first|exact trivial|refine And.intro J ?_)⟩)
 .
  refine mg (X:=Unit) (fun _=>[(6, .ov 6 0)]) (fun _=>[(6,some (.o 199 [.d (vI (ce (v.meet w).lo)), .d (vI (b9 (v.meet w).lo)), .d (cg (v.meet w).lo), .d (vI (ce (v.meet w).hi)), .d (vI (b9 (v.meet w).hi)), .d (cg (v.meet w).hi), .d (.v (.bool (v.nl&&w.nl))), .d (.v (.bool (v.nh&&w.nh)))] true))]) (fun _=>True) [6] [6] rfl ?_ (fun _=>J) (fun _ _=>?_)
  .
   refine gx J<|?_;refine bb (v1:=fun hc27=>by simp only[ac];kernel_rfl) J J J (fun hc27=>?_) (fun hc27=>?_)
   .
    have em:(v.meet w).hi=w.hi:=by unfold ah.meet;simp_all
    have eb:(v.nh&&w.nh)=w.nh:=by simp_all
    exact at_ () trivial (hO:=⟨by rw[em,eb]<;>rfl,by repeat (first|exact trivial|refine And.intro J ?_)⟩)
   .
    refine bb J J J (fun hc36=>?_) (fun hc36=>?_)
    .
     refine cl J (IE (p:=v.hi) (q:=w.hi) (by omega) (by omega)) J<|?_;have em:(v.meet w).hi=(if w.hi<v.hi then w.hi else v.hi):=by unfold ah.meet;simp_all
     have eb:(v.nh&&w.nh)=v.nh:=by simp_all
     exact at_ () trivial (hO:=⟨by rw[em,eb]<;>rfl,by repeat (first|exact trivial|refine And.intro J ?_)⟩)
    .
     have em:(v.meet w).hi=v.hi:=by unfold ah.meet;simp_all
     have eb:(v.nh&&w.nh)=v.nh:=by simp_all
     exact at_ () trivial (hO:=⟨by rw[em,eb]<;>rfl,by repeat (first|exact trivial|refine And.intro J ?_)⟩)
  .
   refine cl J (YL (v:=v.meet w) (i:=i+j) (j:=i+j) (by omega) (by omega)) J<|?_;exact rz J J
theorem BQ.z1:BQ (0:Rat) 1:=⟨by decide,by decide⟩
def axo{v:ah}{t:Rat}{i j:Nat}[h1:BQ v.lo i][h2:BQ v.hi i][h3:BQ t j](hi:i<=10000000:=by decide)(hj:j<=9999999:=by decide):PF GB prog 271 [eW v, .ag [vI (ce t),vI (b9 t),cg t,vI 0,vI 0, .v (.pointer none), .v (.bool false), .v (.bool true)]] (.tp [eW (v.meet ⟨t,0,false,true⟩),vB (!(v.meet ⟨t,0,false,true⟩).empty)]):=
 (Te (v:=v) (w:=⟨t,0,false,true⟩) (j:=j+1) (h3:=h3.mono (by omega)) (h4:=BQ.z1.mono (by omega)) hi (by omega)).ofI fun G vs hv=>Ij (fun y hy=>by
  obtain⟨l,rfl,g⟩:=d6.1 hy;exact d6.2 ⟨l,J,Gg [_,_,_] g⟩) hv
def Zr{v:ah}{t:Rat}{i j:Nat}[h1:BQ v.lo i][h2:BQ v.hi i][h3:BQ t j](hi:i<=10000000:=by decide)(hj:j<=9999999:=by decide):PF GB prog 271 [eW v, .ag [vI 0,vI 0, .v (.pointer none),vI (ce t),vI (b9 t),cg t, .v (.bool true), .v (.bool false)]] (.tp [eW (v.meet ⟨0,t,true,false⟩),vB (!(v.meet ⟨0,t,true,false⟩).empty)]):=
 (Te (v:=v) (w:=⟨0,t,true,false⟩) (j:=j+1) (h4:=h3.mono (by omega)) (h3:=BQ.z1.mono (by omega)) hi (by omega)).ofI fun G vs hv=>Ij (fun y hy=>by
  obtain⟨l,rfl,g⟩:=d6.1 hy;exact d6.2 ⟨l,J,DY g⟩) hv
instance BQ.cutK (l m:aa) [LB l] [LB m]:BQ (l.cutK m) 400:=BQ.mono (inferInstance:BQ (m.nor.dot l.dir) _) (by decide)
instance BQ.cutC (l m:aa) [LB l] [LB m]:BQ (l.cutC m) 2500:=BQ.mono (inferInstance:BQ (m.value l.base) _) (by decide)
def OK{l m:aa}{v:ah}{i:Nat}[hl:LB l][hm:LB m][h1:BQ v.lo i][h2:BQ v.hi i](hi:i<=10000000:=by decide):PF GB prog 227 [gi l,eW v,gi m] (.tp [eW (l.cutV v m),vB (l.cutB v m)]):=by
 refine fn func227 J J ntmps227 J J (fun C=>?_);refine cl J (yl (l:=m)) J<|cl J (xk (l:=l)) J<|cl J (Es (p:=m.nor) (q:=l.dir)) J<|cl J (Q3 (l:=l)) J<|?_;refine cl J (K8 (l:=m) (p:=l.base)) J<|cl J (nF (q:=l.cutK m)) J<|?_;refine br J J J (fun hc21=>?_) (fun hc21=>?_)
 .
  refine cl J (nF (q:=l.cutC m)) J<|?_;exact rz J (by unfold aa.cutV aa.cutB;rw[if_pos hc21,if_pos hc21];rfl)
 .
  refine br J J J (fun hc27=>?_) (fun hc27=>?_)
  .
   refine cl J (Ap (p:=l.cutC m) (q:=l.cutK m)) J<|cl J (qt (q:=l.cutC m/l.cutK m)) J<|cl J (axo (v:=v) (t:= -(l.cutC m/l.cutK m)) hi) J<|?_;exact rz J (by unfold aa.cutB aa.cutV;rw[if_neg hc21,if_neg hc21,if_pos hc27];rfl)
  .
   refine cl J (Ap (p:=l.cutC m) (q:=l.cutK m)) J<|cl J (qt (q:=l.cutC m/l.cutK m)) J<|cl J (Zr (v:=v) (t:= -(l.cutC m/l.cutK m)) hi) J<|?_;exact rz J (by unfold aa.cutB aa.cutV;rw[if_neg hc21,if_neg hc21,if_neg hc27];rfl)
def ZO{v:ah}{i:Nat}[h1:BQ v.lo i][h2:BQ v.hi i](hi:i<=10000000:=by decide):PF GB prog 268 [eW v] (eF v.sample):=by
 refine fn func268 J J ntmps268 J J (fun C=>?_);refine jd 6 J J J (fun hg6=>?_) (fun hg6=>?_)
 .
  refine bb J J J (fun hc3=>?_) (fun hc3=>?_)
  .
   exact jo J (by unfold ah.sample;rw[hg6,hc3];exact y5)
  .
   refine bb J J J (fun hc11=>?_) (fun hc11=>?_)
   .
    refine cl J (qa (m:=1) (by decide)) J<|cl J (u7 (p:=v.hi) (q:=((1:Int):Rat)) (by omega) (by decide)) J<|?_;exact rz J (by unfold ah.sample;simp_all [jj]<;>rfl)
   .
    refine bb J J J (fun hc18=>?_) (fun hc18=>?_)
    .
     refine cl J (qa (m:=1) (by decide)) J<|cl J (kh (p:=v.lo) (q:=((1:Int):Rat)) (by omega) (by decide)) J<|?_;exact rz J (by unfold ah.sample;simp_all [jj]<;>rfl)
    .
     refine cl J (kh (p:=v.lo) (q:=v.hi) (by omega) (by omega)) J<|cl J (Jm (q:=v.lo+v.hi) (by omega)) J<|?_;exact rz J (by unfold ah.sample;simp_all [jj]<;>rfl)
 .
  refine bb J J J (fun hc11=>?_) (fun hc11=>?_)
  .
   refine cl J (qa (m:=1) (by decide)) J<|cl J (u7 (p:=v.hi) (q:=((1:Int):Rat)) (by omega) (by decide)) J<|?_;exact rz J (by unfold ah.sample;simp_all [jj]<;>rfl)
  .
   refine bb J J J (fun hc18=>?_) (fun hc18=>?_)
   .
    refine cl J (qa (m:=1) (by decide)) J<|cl J (kh (p:=v.lo) (q:=((1:Int):Rat)) (by omega) (by decide)) J<|?_;exact rz J (by unfold ah.sample;simp_all [jj]<;>rfl)
   .
    refine cl J (kh (p:=v.lo) (q:=v.hi) (by omega) (by omega)) J<|cl J (Jm (q:=v.lo+v.hi) (by omega)) J<|?_;exact rz J (by unfold ah.sample;simp_all [jj]<;>rfl)
instance BQ.i1':BQ (1:Rat) 2:=⟨by decide,by decide⟩
instance BQ.i2':BQ (2:Rat) 2:=⟨by decide,by decide⟩
theorem N3{v:ah}{i:Nat}[BQ v.lo i][BQ v.hi i]:BQ (jw v) (i+i+5):=by
 unfold jw;split
 ·exact BQ.mono (k:=1) ⟨by decide,by decide⟩ (by omega)
 ·split
  ·exact BQ.mono (inferInstance:BQ (v.hi-1) _) (by omega)
  ·split
   ·exact BQ.mono (inferInstance:BQ (v.lo+1) _) (by omega)
   ·exact BQ.mono (inferInstance:BQ ((v.lo+v.hi)/2) _) (by omega)
instance ay.at (l:aa) (t:Rat) (k:Nat) [LB l] [BQ t k]:ay (l.at t) (900+(k+97)+1):=by
 rw[<-tL];infer_instance
def UM{q:Rat}(h: ¬q.num.sign=0):q≠0:=fun e=>h ((ll q).2 e)
def jh(d:ab):ab:=⟨-d.y,d.x⟩
instance ay.turn (d:ab) (k:Nat) [ay d k]:ay (jh d) k:=⟨inferInstanceAs (BQ (-d.y) k),inferInstanceAs (BQ d.x k)⟩
def tA(p v:ab)(m:aa):Rat:= -(m.value p/(m.value (bF p v ((1:Int):Rat))-m.value p))
def ow(p v:ab)(m:aa)(s:Rat):Rat:=if(m.value (bF p v ((1:Int):Rat))-m.value p).num.sign=0 then s else if(m.value p).num.sign=0 then s else if 0<(tA p v m).num.sign then(if bg (tA p v m/2) s<0 then tA p v m/2 else s) else s
def m8(p v:ab):List aa->Rat->Rat
 |[],s=>s
 |m::t,s=>m8 p v t (ow p v m s)
def Am(c:List aa)(p v:ab):ab:=bF p v (m8 p v c ((1:Int):Rat))
def BS{c:List aa}{p v:ab}{k:Nat}{s s' r:Rat}{m:aa}(h:m8 p v (c.drop k) s=r)(hk:k<c.length)(hm:m=c[k])(e:ow p v m s=s'):m8 p v (c.drop (k+1)) s'=r:=by
 rw[bZ hk] at h;rw[<-h,m8,<-hm,e]
def Zw{c:List aa}{p v:ab}(hc: ∀m∈c,LB m)(hn:c.length<=1000)(hp:ay p 4500)(hv:ay v 97):PF GB prog 207 [.sl (c.map eL),eP p,eP v] (eP (Am c p v)):=by
 have hcl:=wU c;refine fn func207 J J ntmps207 J J (fun C=>?_);refine cl (fu:=⟨9⟩) J (ku (n:=1) (by decide) (by decide)) J<|?_;refine aj 14 (.d (vI (c.length:Nat))) J (by rw[hcl];rfl) ?_;refine gx J<|?_;refine lp (X:=Rat×Nat) (fun⟨s,k⟩=>[(15, .d (vI (k:Nat))),(14, .d (vI (c.length:Nat))),(13, .d (.sl (c.map eL))),(4, .ov 4 0),(5, .ov 5 0),(7, .ov 7 0),(6, .ov 6 0)]) (fun⟨s,k⟩=>[(7,some (.o 48 [.d ((.v (.bool (decide (s.num<0))))), .d (dN s.num.natAbs), .d (dD s.den)] true)),(6,some (.o 62 [.ff, .nl, .nl, .ff, .nl, .nl] true)),(5,some (.o 62 [.d ((.v (.bool (decide (v.x.num<0))))), .d (dN v.x.num.natAbs), .d (dD v.x.den), .d ((.v (.bool (decide (v.y.num<0))))), .d (dN v.y.num.natAbs), .d (dD v.y.den)] true)),(4,some (.o 62 [.d ((.v (.bool (decide (p.x.num<0))))), .d (dN p.x.num.natAbs), .d (dD p.x.den), .d ((.v (.bool (decide (p.y.num<0))))), .d (dN p.y.num.natAbs), .d (dD p.y.den)] true))]) (fun⟨s,k⟩=>k<=c.length/\BQ s 60000/\m8 p v (c.drop k) s=m8 p v c ((1:Int):Rat)) (fun⟨s,k⟩=>c.length-k) ⟨((1:Int):Rat),0⟩ J ⟨bV _,BQ.i1.mono (by decide),J⟩ (fun _=>J) (fun⟨s,k⟩ hk=>?_)
 try dsimp only at hk⊢
 obtain⟨hle,hsb,hns⟩:=hk;refine br J J J (fun hc16=>?_) (fun hc16=>?_)
 .
  have hk:k<c.length:=by omega
  obtain⟨m,hm⟩: ∃m,m=c[k]:=⟨_,rfl⟩;haveI hmb:LB m:=hm▸hc _ (bM hk);have hinv:=hsb;refine ix (fu:=⟨1⟩) _ J (xz hk) J<|?_;refine aj 18 (.d (eL m)) J (by rw[hm];rfl) ?_;refine gx J<|cl J (ku (n:=1) (by decide) (by decide)) J<|cl J (A8 (p:=p) (q:=v) (c:=((1:Int):Rat))) J<|cl J (D4 (l:=m) (p:=bF p v ((1:Int):Rat))) J<|?_;refine cl J (D4 (l:=m) (p:=p)) J<|cl J (ug (a:=m.value (bF p v ((1:Int):Rat))) (b:=m.value p)) J<|cl J (qO (q:=m.value (bF p v ((1:Int):Rat))-m.value p)) J<|?_;refine cs 32 J J J (fun hg32=>?_) (fun hg32=>?_)
  .
   exact at_ ⟨s,k+1⟩ (by dsimp only;exact⟨⟨by omega,hinv,(BS hns hk hm (by unfold ow;rw[if_pos hg32]))⟩,(by omega)⟩)
  .
   refine cl J (EF (l:=m) (p:=p)) J<|?_;refine br J J J (fun hc37=>?_) (fun hc37=>?_)
   .
    exact at_ ⟨s,k+1⟩ (by dsimp only;exact⟨⟨by omega,hinv,(BS hns hk hm (by unfold ow;rw[if_neg hg32,if_pos hc37]))⟩,(by omega)⟩)
   .
    refine cl J (D4 (l:=m) (p:=p)) J<|cl J (zn (a:=m.value p) (b:=m.value (bF p v ((1:Int):Rat))-m.value p) (UM hg32)) J<|?_;refine cl J (wS (q:=m.value p/(m.value (bF p v ((1:Int):Rat))-m.value p))) J<|cl (fu:=⟨0⟩) J (qO (q:= -(m.value p/(m.value (bF p v ((1:Int):Rat))-m.value p)))) J<|?_;refine ml (v2:=fun hg46=>by simp only[ac];exact⟨by kernel_rfl,by omega⟩) J J J J (fun hg46=>?_) (fun hg46=>?_)
    .
     refine cl J (H4 (a:= -(m.value p/(m.value (bF p v ((1:Int):Rat))-m.value p)))) J<|cl J (jm (a:= -(m.value p/(m.value (bF p v ((1:Int):Rat))-m.value p))/2) (b:=s)) J<|?_;refine br J J J (fun hc53=>?_) (fun hc53=>?_)
     .
      obtain⟨t,ht⟩: ∃t,t= -(m.value p/(m.value (bF p v ((1:Int):Rat))-m.value p)):=⟨_,rfl⟩;haveI htb:BQ t 45000:=ht▸BQ.mono inferInstance (by decide);have hinv:BQ (t/2) 60000:=BQ.mono inferInstance (by decide);rw[<-ht];refine cl J (H4 (a:=t)) J<|?_;exact at_ ⟨t/2,k+1⟩ (by dsimp only;exact⟨⟨by omega,hinv,(BS hns hk hm (by unfold ow;rw[if_neg hg32,if_neg hc37,show tA p v m=t from ht.symm,if_pos (by rw[ht];exact hg46),if_pos (by rw[ht];exact hc53)]))⟩,(by omega)⟩)
     .
      exact at_ ⟨s,k+1⟩ (by dsimp only;exact⟨⟨by omega,hinv,(BS hns hk hm (by unfold ow;rw[if_neg hg32,if_neg hc37,if_pos (show 0<(tA p v m).num.sign from hg46),if_neg (show¬bg (tA p v m/2) s<0 from hc53)]))⟩,(by omega)⟩)
    .
     exact at_ ⟨s,k+1⟩ (by dsimp only;exact⟨⟨by omega,hinv,(BS hns hk hm (by unfold ow;rw[if_neg hg32,if_neg hc37,if_neg (show¬0<(tA p v m).num.sign from hg46)]))⟩,(by omega)⟩)
 .
  refine cl J (A8 (p:=p) (q:=v) (c:=s)) J<|?_;exact rz J (by unfold Am;rw[<-hns,kV (by omega)];rfl)
def iC(c:List aa):List aa->ab
 |[]=>⟨0,0⟩
 |m::t=>if(fm m c ah.all).2=true then Am c (m.at (jw (fm m c ah.all).1)) (jh m.dir) else iC c t
def asJ{c:List aa}{k:Nat}{m:aa}(h:iC c (c.drop k)=iC c c)(hk:k<c.length)(hm:m=c[k])(e:(fm m c ah.all).2=true):iC c c=Am c (m.at (jw (fm m c ah.all).1)) (jh m.dir):=by
 rw[<-h,bZ hk,iC,<-hm,if_pos e]
def WD{c:List aa}{k:Nat}{m:aa}(h:iC c (c.drop k)=iC c c)(hk:k<c.length)(hm:m=c[k])(e: ¬(fm m c ah.all).2=true):iC c (c.drop (k+1))=iC c c:=by
 rw[<-h,bZ hk,iC,<-hm,if_neg e]
def atf{c:List aa}{m:aa}(h:m∈c)(h2:(fj m c ah.all).isSome=true):iO c=true:=by
 unfold iO;rw[iV,jV];exact .inr ⟨m,h,h2⟩
def atp{c:List aa}(h:c=[]):iO c=true:=by subst h;rfl
def UU{c:List aa}(h:c≠[])(h2: ∀m∈c,(fj m c ah.all).isSome=false):iO c=false:=by
 rw[<-nW];unfold iO;rw[iV,jV,List.isEmpty_iff];rintro (e|⟨m,h3,h4⟩)
 ·exact h e
 ·rw[h2 m h3] at h4;exact absurd h4 (by decide)
def LO:eP ⟨0,0⟩= .ag [.v (.bool false), .sl [], .sl [], .v (.bool false), .sl [], .sl []]:=by
 unfold eP dD;simp only[show(0:Rat).num=0 from J,show(0:Rat).den=1 from J,kN,p9];rfl
def IJ{c:List aa}(hc: ∀m∈c,LB m)(hok: ∀m∈c,m.ok)(hn:c.length<=1000):PF GB prog 150 [.sl (c.map eL)] (.tp [eP (iC c c),vB (iO c)]):=by
 have hcl:=wU c;refine fn func150 J J ntmps150 J J (fun C=>?_);refine br (fu2:=⟨7⟩) J J J (fun hc11=>?_) (fun hc11=>?_)
 .
  exact rz J (by rw[bU (l:=c) (by omega),atp J];show _=DV.tp [eP ⟨0,0⟩,_];rw[LO];rfl)
 .
  refine aj 14 (.d (vI (c.length:Nat))) J (by rw[hcl];rfl) ?_;refine gx J<|?_;refine lp (X:=Nat) (fun k=>[(15, .d (vI (k:Nat))),(14, .d (vI (c.length:Nat))),(13, .d (.sl (c.map eL))),(0, .d (.sl (c.map eL))),(2, .ov 2 0)]) (fun k=>[(2,some (.o 62 [.ff, .nl, .nl, .ff, .nl, .nl] true))]) (fun k=>k<=c.length/\(∀m∈c.take k,(fj m c ah.all).isSome=false)/\iC c (c.drop k)=iC c c) (fun k=>c.length-k) 0 J ⟨bV _,fun m hm=>absurd hm (by simp),J⟩ (fun _=>J) (fun k hk=>?_);obtain⟨hle,hno,hip⟩:=hk;refine br J J J (fun hc16=>?_) (fun hc16=>?_)
  .
   have hk:k<c.length:=by omega
   obtain⟨m,hm⟩: ∃m,m=c[k]:=⟨_,rfl⟩;haveI hmb:LB m:=hm▸hc _ (bM hk);have hmo:m.ok:=hm▸hok _ (bM hk);refine ix (fu:=⟨1⟩) _ J (xz hk) J<|?_;refine aj 19 (.d (eL m)) J (by rw[hm];rfl) ?_;refine gx J<|cl (fu:=⟨0⟩) J (QG hc hok hn hk) J<|?_;refine aj 23 (.d (.tp [eV (fm m c ah.all).1,vB (fm m c ah.all).2])) J (by rw[hm]) ?_;refine gx J<|?_;refine bb J J J (fun hc26=>?_) (fun hc26=>?_)
   .
    have hbd:=Dc (v:=ah.all) hmo.ne hc gH.all (BQ.mono (k:=1) ⟨by decide,by decide⟩ (by decide)) (BQ.mono (k:=1) ⟨by decide,by decide⟩ (by decide));obtain⟨s,hs⟩: ∃s,s=(fm m c ah.all).1:=⟨_,rfl⟩;rw[<-hs] at hbd;haveI:=hbd.1;haveI:=hbd.2;haveI hsb:=N3 (v:=s) (i:=1200);have hpt:ay (m.at (jw s)) 4500:=by have:=ay.at m (jw s) (1200+1200+5);exact⟨this.x.mono (by decide),this.y.mono (by decide)⟩
    have hin:iO c=true:=atf (hm▸bM hk) (by rw[<-wg];exact hc26);have hpn:=asJ hip hk hm hc26;rw[<-hs] at hpn⊢;refine cl J (vG (l:=m)) J<|cl J (axf (v:=s)) J<|cl J (Pg (l:=m) (t:=jw s) hmo.ne) J<|cl J (wS (q:=m.dir.y)) J<|?_;refine cl J (Zw (p:=m.at (jw s)) (v:=jh m.dir) hc hn (hpt) inferInstance) J<|?_;exact rz J (by rw[hin,hpn];rfl)
   .
    exact at_ (k+1) ⟨⟨by omega,Zx hno hk (by rw[<-hm,<-wg];exact hc26),WD hip hk hm (by rw[hc26];decide)⟩,(by omega)⟩
  .
   exact rz J (by rw[UU (fun e=>hc11 (by rw[e];rfl)) (fun m hm=>hno m (by rw[aL (by omega)];exact hm)),<-hip,kV (by omega)];show _=DV.tp [eP ⟨0,0⟩,_];rw[LO];rfl)
def XX{es:List Int}{i:Nat}(h:i<es.length):(es.map vI)[(i:Int).toNat]? =some (vI (es.getD i 0)):=by simp[h]
def Q9{es:List Int}{i:Nat}(h:i<es.length):pO (es.drop i)=if es.getD i 0≠0 then es.getD i 0 else pO (es.drop (i+1)):=by
 rw[bZ h,pO,aX,aZ h];rfl
def aI2{es:List Int}(hn:es.length<=1000000):PF GB prog 304 [.sl (es.map vI)] (vI (pO es)):=by
 have hel:(es.map vI).length=es.length:=by simp
 refine fn (fu:=⟨15⟩) func304 J J ntmps304 J J (fun C=>?_);refine aj 7 (.d (vI (es.length:Nat))) J (by rw[hel]<;>rfl) ?_;refine gx J<|?_;refine lp (X:=Nat) (fun i=>[(8, .d (vI (i:Nat)))]) (fun i=>[]) (fun i=>i<=es.length/\pO es=pO (es.drop i)) (fun i=>es.length-i) 0 J ⟨bV _,J⟩ (fun _=>J) (fun i hk=>?_);obtain⟨h1,h2⟩:=hk;refine br J J J (fun hc9=>?_) (fun hc9=>?_)
 .
  refine ix _ J (XX (by omega)) J<|?_;refine br J J J (fun hc14=>?_) (fun hc14=>?_)
  .
   exact rz J (by rw[h2,Q9 (by omega),if_pos hc14];rfl)
  .
   exact at_ (i+1) ⟨⟨by omega,by rw[h2,Q9 (by omega),if_neg hc14]⟩,(by omega)⟩
 .
  exact rz J (by rw[h2,fL (by omega)];rfl)
def Ku(l m:aa):Int:=pO [bg l.a m.a,bg l.b m.b,bg l.c m.c]
def aya(l m:aa):Ku l m=0↔l=m:=by
 unfold Ku pO pO pO pO;have ha:=tC (l.a:Rat) m.a;have hb:=tC (l.b:Rat) m.b;have hc:=tC (l.c:Rat) m.c;rw[nN] at ha hb hc;constructor
 ·intro h
  repeat' (split at h<;>try contradiction)
  all_goals exact aa.ext' (by omega) (by omega) (by omega)
 ·rintro rfl
  rw[if_neg (by simp[ha.2 J]),if_neg (by simp[hb.2 J]),if_neg (by simp[hc.2 J])]
def aE1{l m:aa}[hl:LB l][hm:LB m]:PF GB prog 295 [gi l,gi m] (vI (Ku l m)):=by
 refine fn func295 J J ntmps295 J J (fun C=>?_);refine cl J (xp (p:=(l.a:Rat)) (q:=(m.a:Rat))) J<|cl J (xp (p:=(l.b:Rat)) (q:=(m.b:Rat))) J<|cl J (xp (p:=(l.c:Rat)) (q:=(m.c:Rat))) J<|?_;refine rf J J<|cl J (aI2 (es:=[bg l.a m.a,bg l.b m.b,bg l.c m.c]) (nb J)) J<|?_;exact rz J J
def WC{l m:aa}[hl:LB l][hm:LB m]:PF GB prog 269 [gi l,gi m] (vB (decide (l=m))):=by
 refine fn func269 J J ntmps269 J J (fun C=>?_);refine cl J (aE1 (l:=l) (m:=m)) J<|?_;exact rz J (by show DV.v (.bool (decide _))= .v (.bool _);congr 2;exact decide_eq_decide.2 (aya l m))
def UC{l:aa}[hl:LB l]:PF GB prog 264 [gi l] (gi l.rev):=by
 refine fn func264 J J ntmps264 J J (fun C=>?_);refine cl J (qt (q:=(l.a:Rat))) J<|cl J (qt (q:=(l.b:Rat))) J<|cl J (qt (q:=(l.c:Rat))) J<|?_;exact rz J (by unfold gi aa.rev;simp only[lR];rfl)
def Pf{p:ab}{i:Nat}[hp:ay p i](hi:i<=10000000:=by decide):PF GB prog 247 [eZ p] (vI p.half):=by
 refine fn func247 J J ntmps247 J J (fun C=>?_);refine cl J (nF (q:=p.y) (by omega)) J<|?_;refine cs 10 J J J (fun hg10=>?_) (fun hg10=>?_)
 .
  exact rz J (by unfold ab.half;(repeat' split)<;>first|rfl|(exfalso;omega))
 .
  refine cs 13 J J J (fun hg13=>?_) (fun hg13=>?_)
  .
   refine cl J (nF (q:=p.x) (by omega)) J<|?_;refine br J J J (fun hc7=>?_) (fun hc7=>?_)
   .
    exact rz J (by unfold ab.half;(repeat' split)<;>first|rfl|(exfalso;omega))
   .
    refine cs 23 J J J (fun hg23=>?_) (fun hg23=>?_)
    .
     exact rz J (by unfold ab.half;(repeat' split)<;>first|rfl|(exfalso;omega))
    .
     refine cl J (nF (q:=p.x) (by omega)) J<|?_;refine br J J J (fun hc20=>?_) (fun hc20=>?_)
     .
      exact rz J (by unfold ab.half;(repeat' split)<;>first|rfl|(exfalso;omega))
     .
      exact rz J (by unfold ab.half;(repeat' split)<;>first|rfl|(exfalso;omega))
  .
   refine cs 23 J J J (fun hg23=>?_) (fun hg23=>?_)
   .
    exact rz J (by unfold ab.half;(repeat' split)<;>first|rfl|(exfalso;omega))
   .
    refine cl J (nF (q:=p.x) (by omega)) J<|?_;refine br J J J (fun hc20=>?_) (fun hc20=>?_)
    .
     exact rz J (by unfold ab.half;(repeat' split)<;>first|rfl|(exfalso;omega))
    .
     exact rz J (by unfold ab.half;(repeat' split)<;>first|rfl|(exfalso;omega))
def Hw{u v:ab}{i j:Nat}[hp:ay u i][hq:ay v j](hi:i<=10000000:=by decide)(hj:j<=10000000:=by decide):PF GB prog 188 [eZ u,eZ v] (vI (co u v)):=by
 refine fn func188 J J ntmps188 J J (fun C=>?_);refine cl J (Pf (p:=u) hi) J<|cl J (Pf (p:=v) hj) J<|?_;refine br J J J (fun hc11=>?_) (fun hc11=>?_)
 .
  exact rz J (by unfold co;rw[if_pos hc11];rfl)
 .
  refine br J J J (fun hc15=>?_) (fun hc15=>?_)
  .
   exact rz J (by unfold co;rw[if_neg hc11,if_pos hc15];rfl)
  .
   refine cl J (Bo (p:=u) (q:=v) (by omega) (by omega)) J<|cl (fu:=⟨0⟩) J (nF (q:=u.cross v) (by omega)) J<|?_;have hs:=tZ (u.cross v).num;refine gx J<|?_;exact rz J (by unfold co;rw[if_neg hc11,if_neg hc15];rfl)
def aDG{m:Int}:eh (dg m.natAbs)/\(decide (m<0)=true->0<(dg m.natAbs).length):=⟨(eE _).2.2,fun h=>by
 have:0<m.natAbs:=by have:=of_decide_eq_true h;omega
 exact zk.2 this⟩
def s9{m:Int}{i:Nat}[h:BI m i](hi:i<=1000000000:=by decide):PF GB prog 221 [eI m] (.v (.bool true)):=(Pe (neg:=decide (m<0)) (ds:=dg m.natAbs) (eE _).2.1 (by have:=nD (a:=m.natAbs) hi;omega)).to (by unfold vB;rw[decide_eq_true aDG])
def Lg{l:aa}(h:l.ok):rgcd (rgcd (l.a:Rat) (l.b:Rat)) (l.c:Rat)=((1:Int):Rat):=by
 rw[CG,CG];have:=h.2;simp only[iL];rw[this];rfl
instance BQ.rgcd (p q:Rat) (i j:Nat) [h:BQ p i] [k:BQ q j]:BQ (rgcd p q) (i+j+(i+j)):=by
 unfold Sx.rgcd;refine wm (gU (nv p) (nv q)) ?_ ?_
 ·rw[iL]
  have h1:=pe h.hn k.hd;have h2:=pe k.hn h.hd;rw[kZ j i] at h2;exact I2 h1 h2
 ·have h1:=pe h.hd k.hd
  have:2^(i+j)<=2^(i+j+(i+j)):=bY (by decide) (by omega);omega
def aDH{l:aa}[hl:LB l](ho:l.ok):PF GB prog 167 [eL l] (.tp [gi l,vB true]):=by
 refine fn func167 J J ntmps167 J J (fun C=>?_);refine cl (fu:=⟨0⟩) J (s9 (m:=l.a)) J<|cG J J J<|cl (fu:=⟨0⟩) J (s9 (m:=l.b)) J<|cG J J J<|cl (fu:=⟨0⟩) J (s9 (m:=l.c)) J<|?_;refine cG J J J<|cl J (tF (m:=l.a)) J<|cl J (tF (m:=l.b)) J<|cl J (tF (m:=l.c)) J<|cl (fu:=⟨0⟩) J (wV (q:=(l.a:Rat))) J<|?_;refine ml (fu2:=⟨4⟩) J J J J (fun hg35=>?_) (fun hg35=>?_)
 .
  have ha:l.a=0:=dV.1 hg35;refine cl (fu:=⟨1⟩) J (wV (q:=(l.b:Rat))) J<|cG J (by first|rfl|(show some (decide _)=some false;rw[decide_eq_false (fun e=>ho.1 ⟨ha,dV.1 e⟩)])) J<|?_;refine cl J (tj (p:=(l.a:Rat)) (q:=(l.b:Rat))) J<|cl J (tj (p:=rgcd l.a l.b) (q:=(l.c:Rat))) J<|cl J (qa (m:=1) (by decide)) J<|?_;refine cl (fu:=⟨0⟩) J (C5 (p:=rgcd (rgcd l.a l.b) l.c) (q:=((1:Int):Rat))) J<|cG J (by show some (!decide _)=some false;rw[Lg ho,decide_eq_true J];rfl) J<|?_;exact rz J J
 .
  refine cG J (by first|rfl|(show some (decide _)=some false;rw[decide_eq_false (fun e=>ho.1 ⟨ha,dV.1 e⟩)])) J<|cl J (tj (p:=(l.a:Rat)) (q:=(l.b:Rat))) J<|?_;refine cl J (tj (p:=rgcd l.a l.b) (q:=(l.c:Rat))) J<|cl J (qa (m:=1) (by decide)) J<|cl (fu:=⟨0⟩) J (C5 (p:=rgcd (rgcd l.a l.b) l.c) (q:=((1:Int):Rat))) J<|?_;refine cG J (by show some (!decide _)=some false;rw[Lg ho,decide_eq_true J];rfl) J<|?_;exact rz J J
def fq(f:ba):DV:= .ag [vI (ce (f.l.a:Rat)),vI (b9 (f.l.a:Rat)),cg (f.l.a:Rat),vI (ce (f.l.b:Rat)),vI (b9 (f.l.b:Rat)),cg (f.l.b:Rat),vI (ce (f.l.c:Rat)),vI (b9 (f.l.c:Rat)),cg (f.l.c:Rat),vI (ce f.v.lo),vI (b9 f.v.lo),cg f.v.lo,vI (ce f.v.hi),vI (b9 f.v.hi),cg f.v.hi, .v (.bool f.v.nl), .v (.bool f.v.nh)]
structure tG (v:ah):Prop where
 z:gH v
 lo:BQ v.lo 1200
 hi:BQ v.hi 1200
structure aJf (s:ba):Prop where
 lb:LB s.l
 ok:s.l.ok
 v:tG s.v
abbrev jq (c:aw):Prop:= ∀s∈c,aJf s
def ye{α:Type}(f:α->DV)(l:List α):(l.map f).length=l.length:=by simp
def tG.all:tG ah.all:=⟨⟨fun _=>J,fun _=>J⟩,BQ.z1.mono (by decide),BQ.z1.mono (by decide)⟩
def tG.cut{l m:aa}{v:ah}[LB l][LB m](hn:l.Ne)(h:tG v):tG (l.cutV v m):=by
 by_cases h0:crossI l m=0
 ·rw[(B3 (v:=v) h0).1];exact h
 ·obtain⟨u1,_,u3,u4,u5⟩:=Gp (v:=v) hn h.z h.lo h.hi h0
  rw[u1];exact⟨u3,u4,u5⟩
def JW(o:Option ah):ah:=o.getD ⟨0,0,false,false⟩
def aF6(G:Gh)(y:Value)(k:Is G (.tp [.ag [vI 0,vI 0, .v (.pointer none),vI 0,vI 0, .v (.pointer none), .v (.bool false), .v (.bool false)], .v (.bool false)]) y):Is G (.tp [eW (JW none),vB false]) y:=by
 obtain⟨m,rfl,g⟩:=iH.1 k;exact iH.2 ⟨m,J,OS (fun y hy=>by
  obtain⟨l,rfl,g⟩:=d6.1 hy;exact d6.2 ⟨l,J,DY (Gg [vI 0,vI 0, .v (.pointer none)] g)⟩) g⟩
def d8{α:Type}{f:α->DV}{l:List α}{i:Nat}{s:α}(h:l[i]? =some s):(l.map f)[(i:Int).toNat]? =some (f s):=by simp[h]
def IT{α:Type}{l:List α}{k:Nat}{s:α}(h:l[k]? =some s):l.drop k=s::l.drop (k+1):=by
 obtain⟨h1,h2⟩:=aS.1 h;rw[bZ h1,h2]
def SY{l:aa}{c:aw}{v:ah}{k:Nat}{s:ba}(h:c[k]? =some s):oe l (c.drop k) v=if l.cutB v s.l then oe l (c.drop (k+1)) (l.cutV v s.l) else none:=by
 rw[IT h];rfl
def IB{l:aa}{c:aw}{k:Nat}{s:ba}(h:c[k]? =some s):oD l (c.drop k)=if oF l s≠0 then oF l s else if s.l=l then 1 else oD l (c.drop (k+1)):=by
 rw[IT h];rfl
instance BQ.sample (v:ah) [h1:BQ v.lo 1200] [h2:BQ v.hi 1200]:BQ v.sample 2500:=by
 unfold ah.sample;split
 ·exact BQ.z1.mono (by decide)
 ·split
  ·exact BQ.mono (inferInstance:BQ (v.hi-((1:Int):Rat)) _) (by decide)
  ·split
   ·exact BQ.mono (inferInstance:BQ (v.lo+((1:Int):Rat)) _) (by decide)
   ·exact BQ.mono (inferInstance:BQ ((v.lo+v.hi)*mkRat 1 2) _) (by decide)
def S4{c:aw}{l:aa}[hl:LB l](hlo:l.ok)(hc:jq c)(hn:c.length<=1000000):PF GB prog 225 [.sl (c.map fq),gi l] (.tp [eW (JW (lC c l)),vB (lC c l).isSome]):=by
 have hm:=ye fq c;refine fn func225 J J ntmps225 J J (fun C=>?_);refine cl (fu:=⟨10⟩) J ZX J<|?_;refine aj 12 (.d (vI (c.length:Nat))) J (by rw[ye]<;>rfl) ?_;refine gx J<|?_;refine lp (X:=ah×Nat) (fun⟨v,k⟩=>[(13, .d (vI (k:Nat))),(6, .ov 6 0)]) (fun⟨v,k⟩=>[(6,some (.o 199 [.d (vI (ce v.lo)), .d (vI (b9 v.lo)), .d (cg v.lo), .d (vI (ce v.hi)), .d (vI (b9 v.hi)), .d (cg v.hi), .d (.v (.bool v.nl)), .d (.v (.bool v.nh))] true))]) (fun⟨v,k⟩=>k<=c.length/\tG v/\oe l (c.drop k) v=lC c l) (fun⟨v,k⟩=>c.length-k) (ah.all,0) J ⟨bV _, .all,J⟩ (fun _=>J) (fun⟨v,k⟩ hk=>?_);dsimp only at hk⊢;obtain⟨h1,h2,h3⟩:=hk;haveI:=h2.lo;haveI:=h2.hi;refine br J J J (fun hc14=>?_) (fun hc14=>?_)
 .
  obtain⟨s,hs0⟩: ∃s,c[k]? =some s:=⟨_,aZ (by omega)⟩;have hs:=hc s (aT hs0);haveI:=hs.lb;refine ix _ J (d8 hs0) J<|cl (fu:=⟨0⟩) J (OK (l:=l) (m:=s.l) (v:=v)) J<|?_;generalize hw:l.cutV v s.l=w;generalize hb:l.cutB v s.l=b;refine gx J<|?_;refine bb J J J (fun hc26=>?_) (fun hc26=>?_)
  .
   exact jo J (by rw[<-h3,SY hs0,hb,if_neg (by simpa using hc26)];exact aF6)
  .
   exact at_ (w,k+1) (by dsimp only;exact⟨⟨by omega,hw▸h2.cut hlo.1,by rw[<-h3,SY hs0,hb,hw,if_pos (by simpa using hc26)]⟩,(by omega)⟩)
 .
  exact rz J (by rw[<-h3,fL (by omega)];rfl)
def aC7{c:aw}{l:aa}[hl:LB l](hlo:l.ok)(hc:jq c)(hn:c.length<=1000000):PF GB prog 226 [.sl (c.map fq),gi l] (vI (xv c l)):=by
 have hm:=ye fq c;refine fn func226 J J ntmps226 J J (fun C=>?_);refine cl J (S4 (c:=c) (l:=l) hlo hc hn) J<|?_;refine bb (fu2:=⟨7⟩) J J J (fun hc16=>?_) (fun hc16=>?_)
 .
  exact rz J (by unfold xv;rw[if_pos hc16];rfl)
 .
  have hp:xv c l=oD l c:=by unfold xv;rw[if_neg (by simp[hc16])]
  refine aj 18 (.d (vI (c.length:Nat))) J (by rw[ye]<;>rfl) ?_;refine gx J<|?_;refine lp (X:=Nat) (fun k=>[(19, .d (vI (k:Nat)))]) (fun k=>[]) (fun k=>k<=c.length/\oD l (c.drop k)=oD l c) (fun k=>c.length-k) 0 J ⟨bV _,J⟩ (fun _=>J) (fun k hk=>?_);obtain⟨h1,h2⟩:=hk;refine br J J J (fun hc20=>?_) (fun hc20=>?_)
  .
   obtain⟨s,hs0⟩: ∃s,c[k]? =some s:=⟨_,aZ (by omega)⟩;have hs:=hc s (aT hs0);haveI:=hs.lb;haveI:=hs.v.lo;haveI:=hs.v.hi;haveI:=BQ.sample s.v;refine ix _ J (d8 hs0) J<|cl (fu:=⟨0⟩) J (ZO (v:=s.v)) J<|?_;generalize ht:s.v.sample=t at*;refine gx J<|cl J (Uh (l:=s.l) (t:=t)) J<|cl J (A6 (l:=l) (p:=s.l.at t)) J<|?_;refine br J J J (fun hc32=>?_) (fun hc32=>?_)
   .
    have hsd:oF l s=(l.value (s.l.at t)).num.sign:=by unfold oF;rw[ht]
    exact rz J (by rw[hp,<-h2,IB hs0,hsd,if_pos hc32];rfl)
   .
    refine cl J (WC (l:=s.l) (m:=l)) J<|?_;refine bd J J J (fun hc37=>?_) (fun hc37=>?_)
    .
     have hsd:oF l s=(l.value (s.l.at t)).num.sign:=by unfold oF;rw[ht]
     exact rz J (by rw[hp,<-h2,IB hs0,hsd,if_neg hc32,if_pos hc37];rfl)
    .
     have hsd:oF l s=(l.value (s.l.at t)).num.sign:=by unfold oF;rw[ht]
     exact at_ (k+1) ⟨⟨by omega,by rw[<-h2,IB hs0,hsd,if_neg hc32,if_neg hc37]⟩,(by omega)⟩
  .
   exact rz J (by rw[hp,<-h2,fL (by omega)];rfl)
def XP{vs rest:List Value}(h: ∀v∈vs,(aD v).length=17){i:Nat}(hi:i<=vs.length):cE (aA vs++rest) (i*17) ((vs.length-i)*17)=some (aA (vs.drop i)):=by
 have hl:=eB vs h;have hd:(aA (vs.drop i)).length=(vs.length-i)*17:=by
  rw[eB (s:=17) _ (fun v hv=>h v (gS hv)),gN]
 rw[mj _ _ _ (by simp only[aV];omega)];congr 1;rw[jY (by omega),DN vs i h hi,eY (by omega),aL (by omega)]
def Xd{vs rest vcs:List Value}(h: ∀v∈vs,(aD v).length=17)(hv:vcs.length=17){i:Nat}(hi:i<vs.length)(hr:17<=rest.length):
  cC (cC (aA vs++rest) ((i+1)*17) (aA (vs.drop i))) (i*17) vcs=aA (vs.take i)++vcs++aA (vs.drop i)++rest.drop 17:=by
 have hl:=eB vs h;have hd:(aA (vs.drop i)).length=(vs.length-i)*17:=by
  rw[eB (s:=17) _ (fun v hv=>h v (gS hv)),gN]
 have ht:(aA (vs.take i)).length=i*17:=by
  rw[eB (s:=17) _ (fun v hv=>h v (dZ hv)),cW,gJ (by omega)]
 rw[py (aA (vs.drop i)) (aA vs++rest) _ (by rw[aV];omega)];rw[py vcs _ _ (by simp only[aV,cW,gN];omega)];have e1:(aA vs++rest).drop ((i+1)*17+(aA (vs.drop i)).length)=rest.drop 17:=by
  rw[hd,show(i+1)*17+(vs.length-i)*17=(aA vs).length+17 by omega,nK,kV (by omega),kS];congr 1;omega
 have e2:((aA vs++rest).take ((i+1)*17)++aA (vs.drop i)++rest.drop 17).take (i*17)=aA (vs.take i):=by
  rw[gW,eY (by simp only[cW,aV];omega),List.take_take,gJ (by omega),eY (by omega),E' vs i h (by omega)]
 have e3:((aA vs++rest).take ((i+1)*17)++aA (vs.drop i)++rest.drop 17).drop (i*17+vcs.length)=aA (vs.drop i)++rest.drop 17:=by
  rw[hv,gW,show i*17+17=((aA vs++rest).take ((i+1)*17)).length by simp only[cW,aV];omega,List.drop_left]
 rw[e1,e2,e3];simp[gW]
def UY{vs rest vcs:List Value}(h: ∀v∈vs,(aD v).length=17)(hv:vcs.length=17)(hr:17<=rest.length):cC (aA vs++rest) (vs.length*17) vcs=aA vs++vcs++rest.drop 17:=by
 have hl:=eB vs h;rw[py _ _ _ (by simp only[aV];omega),hv,<-hl,List.take_left,nK];simp
def al5{G:Gh}{b bv cap i c2:Nat}{vs rest vcs r2:List Value}{lo lo2:Bool}(hvs: ∀v∈vs,(aD v).length=17)(hfl: ∀v∈vs,∀c∈aD v,flat c=true)(hv:vcs.length=17)(hvf: ∀c∈vcs,flat c=true)
  (hcap:vs.length*17+rest.length=cap*17)(hroom:vs.length+1<=cap)(hi:i<=vs.length)(hb:vs.length<=1125899906842624):
  jO prog 230 [.slice (some ⟨b,0,none⟩) vs.length cap, .int .i64 i, .slice (some ⟨bv,0,none⟩) 1 c2] [⟨b,aA vs++rest,201,lo⟩,⟨bv,vcs++r2,201,lo2⟩] G
   (fun u css _=>u= .slice (some ⟨b,0,none⟩) (vs.length+1) cap/\css=[aA (vs.take i)++vcs++aA (vs.drop i)++rest.drop 17,vcs++r2]):=by
 have hL:(aA vs++rest).length=cap*17:=by rw[aV,eB vs hvs];exact hcap
 have hr:17<=rest.length:=by omega
 have hD:(aA (vs.drop i)).length=(vs.length-i)*17:=by
  rw[eB (s:=17) _ (fun v hv=>hvs v (gS hv)),gN]
 have hDf: ∀c∈aA (vs.drop i),flat c=true:=fun c hc=>by
  obtain⟨l,hl,hcl⟩:=List.mem_flatten.1 hc;obtain⟨v,hv,rfl⟩:=bQ.1 hl;exact hfl v (gS hv) c hcl
 have hvt:cE (vcs++r2) 0 (1*17)=some vcs:=by rw[mj _ _ _ (by rw[aV];omega),iX,eY (by omega),aL (by omega)]
 refine jO.intro func230 J J ntmps230 J ?_;intro C _ _;show St C _ _ [⟨b,aA vs++rest,201,false⟩,⟨bv,vcs++r2,201,false⟩] _ _;refine XD (fun hne=>?_);simp only[] at hne;refine sR<|sa J J<|zE<|sR<|sm J J<|sm J J<|sy (Ew J J (by omega) (by omega)) J<|zE<|sR<|?_;refine sm J J<|c7 J J<|sa J J<|zE<|bu<|sR<|sm J J<|sy (iD J J) J<|zE<|AT J<|?_;refine zK<|sR<|sm J J<|c7 J J<|sa J J<|zE<|bu<|sR<|sm J J<|sm J J<|sy (iD J J) J<|zE<|?_;refine f8 J (fun hc=>?_) (fun hc=>?_) -- slot 22
 ·have hin:i=vs.length:=by omega
  subst hin;refine sR<|sm J J<|sm J J<|?_;refine sc (Tl (s:=17) (m:=1) (ys:=vcs) J J (.hd ..) hL (AW inferInstance hvt) (by omega) hvf hroom J ?_);refine sa J J<|zE<|dq<|?_;refine r5 (css:=[cC (aA vs++rest) (vs.length*17) vcs,vcs++r2]) (.tmp J .nil) J _ (List.Perm.refl _) (List.Sublist.refl _) ⟨J,?_⟩;rw[UY hvs hv hr,dJ,fV];simp[aA]
 have hin:i<vs.length:=by omega
 have hn1:((vs.length:Int)+((1:Nat):Int)).toNat=vs.length+1:=by omega
 have ht1:((i:Int)+((1:Nat):Int)).toNat=i+1:=by omega
 refine zK<|bu<|sR<|sm J J<|sm J J<|sy (d4 J J) J<|sm J J<|?_;refine sy (VY J) J<|sy (te J J) J<|zE<|?_;refine f8 J (fun hc2=>?_) (fun hc2=>?_) -- slot 31
 ·exact absurd hc2 (by omega)
 refine zK<|sR<|sm J J<|sm J J<|sm J J<|sy (d4 J J) J<|sy (z6 J J (by omega) (by omega)) J<|?_;rw[hn1];refine sa J J<|zE<|bu<|sR<|sm J J<|sm J J<|sm J J<|sm J J<|sy (d4 J J) J<|sy (Ej J J (by omega) (by omega) (by omega)) J<|?_;refine sy (Ze (tS:=102) (tR:=4) func272 (by kernel_rfl) (by kernel_rfl) (by kernel_rfl) (by kernel_rfl) J J (Ne.symm hne) (fun h=>by rw[h] at hL;simp at hL;omega)) J<|?_;refine sy (EL J) J<|zE<|r9 J<|?_;refine bu<|U7 (b:=b) (fun _=>false) [(0,true),(1,true),(2,true),(3,true),(4,true),(5,true),(6,true),(7,true),(8,false)] follows (.hd ..) (by kernel_rfl)<|dM J J J<|?_;refine dM J J J<|dM J J J<|dy J (fun _=>d4 J J (by omega) (by omega)) J J<|dy J (fun _=>Ej J J (by omega) (by omega) (by omega)) J J<|?_;refine dM J J J<|dM J J J<|dy J (fun _=>Ej J J (by omega) (by omega) (by omega)) J J<|?_;rw[ht1,bJ,eK,eK];refine dc J J (QS (s:=17) (m:=vs.length-i) (ys:=aA (vs.drop i)) J J (by show min _ _=_;omega) (AW inferInstance (XP hvs hi)) hDf (by rw[hD,hL];omega) (.hd ..) J ?_);refine xd<|dn<|sR<|sm J J<|sm J J<|sy (Ej J J (by omega) (by omega) (by omega)) J<|sm J J<|?_;rw[bJ,eK];refine sc (QS (s:=17) (m:=1) (ys:=vcs) J J (by show min _ _=_;omega) (AW inferInstance hvt) hvf (by rw[BH,hL,hv];omega) (.hd ..) J ?_);refine zE<|sR<|sm J J<|sa J J<|zE<|dq<|?_;refine r5 (css:=[cC (cC (aA vs++rest) ((i+1)*17) (aA (vs.drop i))) (i*17) vcs,vcs++r2]) (.tmp J .nil) J _ (List.Perm.refl _) (List.Sublist.refl _) ⟨J,?_⟩;rw[Xd hvs hv hin hr]
def jO.toO{P:Program}{f:FuncId}{vs:List Value}{M:List av}{G:Gh}{K:Value->List (List Value)->Gh->Prop}{K':Value->List av->Gh->Prop}(h:jO P f vs M G K)(hk: ∀v css G',bp G G'->css.length=M.length->K v css G'-> ∃o,o.Sublist (kO (asB M) css)/\K' v o G'):mz P f vs M G K':=
 ⟨h.able,fun w hw=>(h.run w hw).mono fun _ _ ⟨v,css,G',he,hl,hh,hK⟩=>let⟨o,h1,h2⟩:=hk v css G' hh.gle hl hK;⟨v,o,G',he,hh.drop h1,h2⟩⟩
def SQ(c:aw):cP 17 (c.map fq):=fun d hd=>by
 obtain⟨f,_,rfl⟩:=bQ.1 hd;exact⟨rfl,rfl⟩
def OG{G:Gh}{s:Nat}{ds:List DV}{vs:List Value}(hk:cP s ds)(h:IsLs G ds vs): ∀v∈vs,∀c∈aD v,flat c=true:=fun v hv=>by
 obtain⟨d,hd,h3⟩:=h.all v hv;exact(h3.cells (hk d hd).1).2
def Vg{c:aw}{x:ba}{i cap:Nat}(hi:i<=c.length)(hc:c.length+1<=cap)(hn:c.length<=1000000):PI GB prog 230 (i:Nat) 17 201 201 (c.map fq) (fq x) cap ((c.take i++x::c.drop i).map fq):=by
 intro G w w2 B B2 _ hB hcap hB2;obtain⟨vs,q1,q2,q3,_⟩:=hB;obtain⟨us,u1,u2,u3,_⟩:=hB2;dsimp only at q1 q2 q3 u1 u2 u3;have hl:=q2.len;rw[aK] at hl;obtain⟨v,m,rfl,hv,hm⟩:=bh.1 u2
 cases eG.1 hm
 rcases q1 with⟨_,e,_⟩|⟨b,rest,lo,e,rfl,h5,h6,h7⟩
 ·rw[e] at hcap;simp at hcap;omega
 rcases u1 with⟨h,_⟩|⟨bv,r2,lo2,e2,rfl,h8,h9,h10⟩
 ·cases h
 have hx:(aD v).length=17:=u3 v aQ;have hxf:=OG (s:=17) (ds:=[fq x]) (fun d hd=>by rw[aU.1 hd];exact⟨J,J⟩) u2 v aQ;have key:=al5 (G:=G) (b:=b) (bv:=bv) (cap:=w.c) (i:=i) (c2:=w2.c) (vs:=vs) (rest:=rest) (vcs:=aD v) (r2:=r2) (lo:=lo) (lo2:=lo2) q3 (OG (SQ c) q2) hx hxf (by rw[<-h5];exact h6) (by omega) (by omega) (by omega);rw[e,e2];rw[JC];refine key.toO fun u css G' hg hl2 ⟨k1,k2⟩=>?_;subst k1 k2;have hall: ∀u∈vs.take i++v::vs.drop i,(aD u).length=17:=fun u hu=>by
  rcases bK.1 hu with hu|hu
  ·exact q3 u (dZ hu)
  ·rcases aW.1 hu with rfl|hu
   ·exact hx
   ·exact q3 u (gS hu)
 have hlen:(vs.take i++v::vs.drop i).length=vs.length+1:=by
  rw[aV,bX,cW,gN];omega
 refine⟨[⟨b,aA (vs.take i)++aD v++aA (vs.drop i)++rest.drop 17,201,false⟩], .cons_cons _ (lJ _),⟨some ⟨b,0,none⟩,vs.length+1,w.c⟩,J,vs.take i++v::vs.drop i, .inr ⟨b,rest.drop 17,false,by rw[hlen],?_,eB _ hall,?_,?_⟩,?_,hall,fun h=>by cases h⟩
 ·rw[qC];simp[aA]
 ·rw[eB _ hall,hlen,gN]
  rw[h5] at h6;have:=bW 17 (show vs.length+1<=w.c by omega);simp only[cS] at this⊢;omega
 ·rw[hlen];show vs.length+1<=w.c;omega
 ·rw[bS,cK,gR,iM]
  exact((q2.take i).up hg).app (.cons (hv.up hg) ((q2.drop i).up hg))
def LY{s:ba}{l:aa}[hs:LB s.l][hl:LB l]:PF GB prog 229 [fq s,gi l] (vI (co s.l.dir l.dir)):=by
 refine fn func229 J J ntmps229 J J (fun C=>?_);refine cl J (xk (l:=s.l)) J<|cl J (xk (l:=l)) J<|cl J (Hw (u:=s.l.dir) (v:=l.dir)) J<|?_;exact rz J J
def Cb(c:aw)(l:aa)(i:Nat):Bool:=match c[i]? with
 |some s=>decide (co s.l.dir l.dir=0)
 |none=>false
def Xk(i j:Nat):((i:Int)+(j:Int)).fdiv (2^min (1:Int).toNat IntKind.u64.bits)=((i+j)/2:Nat):=by
 rw[show(2:Int)^min (1:Int).toNat IntKind.u64.bits=((2:Nat):Int) from J,gL _ (by decide)];omega
def Vk{c:aw}{l:aa}{k:Nat}{s:ba}(h:c[k]? =some s):jt c l k=decide (co s.l.dir l.dir<0):=by unfold jt;rw[h]
def aGH{c:aw}{l:aa}{k:Nat}{s:ba}(h:c[k]? =some s):Cb c l k=decide (co s.l.dir l.dir=0):=by unfold Cb;rw[h]
def T8{c:aw}{l:aa}{k:Nat}(h: ¬k<c.length):Cb c l k=false:=by unfold Cb;rw[cM (by omega)]
def aG6{p:Nat->Bool}{i j:Nat}(h:i<j)(hp:p ((i+j)/2)=true):gr p i j=gr p ((i+j)/2+1) j:=by rw[gr,dif_pos h,if_pos hp]
def aHV{p:Nat->Bool}{i j:Nat}(h:i<j)(hp: ¬p ((i+j)/2)=true):gr p i j=gr p i ((i+j)/2):=by rw[gr,dif_pos h,if_neg hp]
def MN{p:Nat->Bool}{i j:Nat}(h: ¬i<j):gr p i j=i:=by rw[gr,dif_neg h]
def YF{c:aw}{l:aa}[hl:LB l](hc:jq c)(hn:c.length<=1000000):PF GB prog 228 [.sl (c.map fq),gi l, .v (.func (.func 229) #[] #[])] (.tp [vI (gr (jt c l) 0 c.length:Nat),vB (Cb c l (gr (jt c l) 0 c.length))]):=by
 have hm:=ye fq c;refine fn (fu:=⟨11⟩) func228 J J ntmps228 J J (fun C=>?_);refine aj 13 (.d (vI (c.length:Nat))) J (by rw[hm]<;>rfl) ?_;refine gx J<|?_;refine lp (X:=Nat×Nat) (fun⟨i,j⟩=>[(9, .d (vI (i:Nat))),(10, .d (vI (j:Nat)))]) (fun⟨i,j⟩=>[]) (fun⟨i,j⟩=>i<=j/\j<=c.length/\gr (jt c l) i j=gr (jt c l) 0 c.length) (fun⟨i,j⟩=>j-i) (0,c.length) J ⟨bV _,aN _,J⟩ (fun _=>J) (fun⟨i,j⟩ hk=>?_);dsimp only at hk⊢;obtain⟨h1,h2,h3⟩:=hk;refine br (fu1:=⟨10⟩) (fu2:=⟨11⟩) J J J (fun hc17=>?_) (fun hc17=>?_)
 .
  obtain⟨s,hs0⟩: ∃s,c[(i+j)/2]? =some s:=⟨_,aZ (by omega)⟩;haveI:=(hc s (aT hs0)).lb;have hang:=Vk (l:=l) hs0;refine aj 22 (.d (.v (.int .u64 ((i+j)/2:Nat)))) J (by rw[Xk]) ?_;refine gx J<|ix _ J (d8 hs0) J<|cl J (LY (s:=s) (l:=l)) J<|?_;refine br J J J (fun hc31=>?_) (fun hc31=>?_)
  .
   exact at_ ((i+j)/2+1,j) (by dsimp only;exact⟨⟨by omega,h2,by rw[<-h3,aG6 (i:=i) (j:=j) (by omega) (by rw[hang];exact decide_eq_true hc31)]⟩,(by omega)⟩)
  .
   exact at_ (i,(i+j)/2) (by dsimp only;exact⟨⟨by omega,by omega,by rw[<-h3,aHV (i:=i) (j:=j) (by omega) (by rw[hang,decide_eq_false hc31];exact Bool.false_ne_true)]⟩,(by omega)⟩)
 .
  refine ml (v2:=fun hg39=>by simp only[ac];kernel_rfl) J J J J (fun hg39=>?_) (fun hg39=>?_)
  .
   have he:=MN (p:=jt c l) (i:=i) (j:=j) (by omega);obtain⟨s,hs0⟩: ∃s,c[i]? =some s:=⟨_,aZ (by omega)⟩;haveI:=(hc s (aT hs0)).lb;refine ix _ J (d8 hs0) J<|cl J (LY (s:=s) (l:=l)) J<|?_;exact rz J (by rw[<-h3,he,aGH hs0];rfl)
  .
   have he:=MN (p:=jt c l) (i:=i) (j:=j) (by omega);exact rz J (by rw[<-h3,he,T8 (by omega)];rfl)
def SG{l:aa}[LB l](hlo:l.ok): ∀{c:aw} {v w:ah},jq c->tG v->oe l c v=some w->tG w
 |[],v,w,_,hv,h=>by cases h;exact hv
 |s::t,v,w,hc,hv,h=>by
  haveI:=(hc s aQ).lb;simp only[oe] at h;split at h
  ·exact SG hlo (fun x hx=>hc x (aJ _ hx)) (hv.cut hlo.1) h
  ·cases h
def FK{l:aa}[LB l]: ∀{c:aw},jq c->jq (ew l c)
 |[],_,s,h=>by cases h
 |a::t,hc,s,h=>by
  have ha:=hc a aQ;haveI:=ha.lb;have ht:=FK (l:=l) (fun x hx=>hc x (aJ _ hx));unfold ew at h;split at h
  ·rcases aW.1 h with rfl|h
   ·exact⟨ha.lb,ha.ok,ha.v.cut ha.ok.1⟩
   ·exact ht s h
  ·exact ht s h
def AX{l:aa}[hl:LB l](hlo:l.ok){c:aw}(hc:jq c):jq (cj c l):=by
 unfold cj;split
 ·rename_i v hv
  intro s hs;unfold ni at hs;rcases bK.1 hs with h|h
  ·exact FK hc s (dZ h)
  ·rcases aW.1 h with rfl|h
   ·exact⟨hl,hlo,SG hlo hc .all hv⟩
   ·exact FK hc s (gS h)
 ·exact hc
def Qv{l:aa}{c:aw}{k:Nat}{s:ba}(h:c[k]? =some s):ew l (c.drop k)=if s.l.cutB s.v l then⟨s.l,s.l.cutV s.v l⟩::ew l (c.drop (k+1)) else ew l (c.drop (k+1)):=by
 rw[IT h];rfl
def PS{c:aw}{l:aa}[hl:LB l](hlo:l.ok)(hc:jq c)(hn:c.length<=100000):PF GB prog 168 [.sl (c.map fq),gi l] (.tp [.sl ((cj c l).map fq),vB (dh c l)]):=by
 have hm:=ye fq c;refine fn func168 J J ntmps168 J J (fun C=>?_);refine cl J (S4 (c:=c) (l:=l) hlo hc (by omega)) J<|?_;refine bb (fu2:=⟨6⟩) J J J (fun hc22=>?_) (fun hc22=>?_)
 .
  have hp:lC c l=none:=by simpa using hc22
  refine cl J (aC7 (c:=c) (l:=l) hlo hc (by omega)) J<|?_;exact rz J (by unfold cj dh;rw[hp];rfl)
 .
  obtain⟨v,hv⟩: ∃v,lC c l=some v:=qT.1 (by simpa using hc22);have hvd:JW (lC c l)=v:=by rw[hv];rfl
  rw[hvd];refine aj 29 (.d (vI (c.length:Nat))) J (by rw[hm]<;>rfl) ?_;refine gx J<|VM (fu:=⟨8⟩) (c.length+1) J J J<|?_;refine aj 33 (.d (vI (c.length:Nat))) J (by rw[hm]<;>rfl) ?_;refine gx J<|?_;refine lp (X:=aw×Nat) (fun⟨o,k⟩=>[(34, .d (vI (k:Nat))),(8, .rw 31)]) (fun⟨o,k⟩=>[(31,some (.c 201 17 (o.map fq) (c.length+1)))]) (fun⟨o,k⟩=>k<=c.length/\o.length<=k/\o++ew l (c.drop k)=ew l c) (fun⟨o,k⟩=>c.length-k) ([],0) J ⟨bV _,aN _,J⟩ (fun _=>J) (fun⟨o,k⟩ hk=>?_);dsimp only at hk⊢;obtain⟨h1,h2,h3⟩:=hk;have hmo:=ye fq o;refine br J J J (fun hc35=>?_) (fun hc35=>?_)
  .
   obtain⟨s,hs0⟩: ∃s,c[k]? =some s:=⟨_,aZ (by omega)⟩;have hs:=hc s (aT hs0);haveI:=hs.lb;haveI:=hs.v.lo;haveI:=hs.v.hi;refine ix _ J (d8 hs0) J<|cl (fu:=⟨0⟩) J (OK (l:=s.l) (m:=l) (v:=s.v)) J<|?_;generalize hw:s.l.cutV s.v l=w;generalize hb:s.l.cutB s.v l=b;refine gx J<|?_;refine bb J J J (fun hc47=>?_) (fun hc47=>?_)
   .
    refine rf J J<|YU ((o++[ba.mk s.l w]).map fq) J (by rw[bS];rfl) (SQ [ba.mk s.l w]) (by rw[hmo];simp;omega) J<|?_;refine gI 54 31 J ?_;exact at_ (o++[ba.mk s.l w],k+1) (by dsimp only;exact⟨⟨by omega,by simp;omega,by rw[<-h3,Qv hs0,hb,if_pos hc47,hw,gW];rfl⟩,(by omega)⟩)
   .
    exact at_ (o,k+1) (by dsimp only;exact⟨⟨by omega,by omega,by rw[<-h3,Qv hs0,hb,if_neg (by simp[hc47])]⟩,(by omega)⟩)
  .
   obtain rfl:k=c.length:=by omega
   have ho:o=ew l c:=by rw[<-h3,fV];simp[ew]
   subst ho;have hbl:=(DK (jt (ew l c) l) (ew l c).length 0 (ew l c).length (by omega) (by omega)).2;refine cL J (YF (c:=ew l c) (l:=l) (FK hc) (by omega)) J J<|ro J J<|ci ((ni (ew l c) l v).map fq) J (Vg (c:=ew l c) (x:=⟨l,v⟩) (i:=gr (jt (ew l c) l) 0 (ew l c).length) (cap:=c.length+1) hbl (by omega) (by omega)) J J<|?_;refine iE 68 J ?_;exact rz J (by unfold cj dh;rw[hv];rfl)
def Vn{c:aw}{l:aa}[hl:LB l](hlo:l.ok)(hc:jq c)(hn:c.length<=100000):PF GB prog 220 [.sl (c.map fq),gi l] (.tp [.sl ((cj c l).map fq), .sl ((cj c l.rev).map fq),vB (dh c l),vB (dh c l.rev)]):=by
 refine fn func220 J J ntmps220 J J (fun C=>?_);refine cl J (PS (c:=c) (l:=l) hlo hc hn) J<|cl J (UC (l:=l)) J<|cl J (PS (c:=c) (l:=l.rev) hlo.rev hc hn) J<|?_;exact rz J J
end Go.Sx
end
