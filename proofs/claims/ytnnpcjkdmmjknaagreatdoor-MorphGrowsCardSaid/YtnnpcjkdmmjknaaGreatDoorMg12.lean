import Derived.Test.YtnnpcjkdmmjknaaGreatDoorMg11
set_option linter.all false
set_option maxHeartbeats 4000000
set_option maxRecDepth 100000
section
namespace Go.Sx
open Go Go.Proofs Tryz
variable {GB G:Gh}{l m:aa}{q u:ah}{i j k bv cap c2:Nat}{t s' r:Rat}{w:ao}{vs rest vcs r2:List Value}{s:bz}{es:List Int}{α:Type}
class LB (l:aa):Prop where bl:BL l 96
instance LB.a (l:aa) [h:LB l]:BI l.a 96:=⟨h.bl.a⟩
instance LB.b (l:aa) [h:LB l]:BI l.b 96:=⟨h.bl.b⟩
instance LB.c (l:aa) [h:LB l]:BI l.c 96:=⟨h.bl.c⟩
class aG (p:ah) (k:outParam Nat):Prop where
 x:BQ p.x k
 y:BQ p.y k
instance aG.ix (p:ah) (k:Nat) [h:aG p k]:BQ p.x k:=h.x
instance aG.iy (p:ah) (k:Nat) [h:aG p k]:BQ p.y k:=h.y
instance aG.dir (l:aa) [LB l]:aG l.dir 97:=⟨inferInstanceAs (BQ (l.b:Rat) 97),inferInstanceAs (BQ (-(l.a:Rat)) 97)⟩
instance BQ.dot (p q:ah) (i j:Nat) [aG p i] [aG q j]:BQ (p.dot q) (i+j+(i+j)+1):=inferInstanceAs (BQ (p.x*q.x+p.y*q.y) _)
instance BQ.cross (p q:ah) (i j:Nat) [aG p i] [aG q j]:BQ (p.cross q) (i+j+(i+j)+1):=inferInstanceAs (BQ (p.x*q.y-p.y*q.x) _)
instance aG.mov (p q:ah) (c:Rat) (i j k:Nat) [aG p i] [aG q j] [BQ c k]:aG (cD p q c) (i+(k+j)+1):=⟨inferInstanceAs (BQ (p.x+c*q.x) _),inferInstanceAs (BQ (p.y+c*q.y) _)⟩
instance BQ.value (l:aa) (p:ah) (i:Nat) [LB l] [aG p i]:BQ (l.value p) (96+1+i+(96+1+i)+1+(96+1)+1):=inferInstanceAs (BQ ((l.a:Rat)*p.x+(l.b:Rat)*p.y+(l.c:Rat)) _)
def N5(h:l.Ne):l.dir.dot l.dir≠0:=by have:=AO h;grind
def u6:PF GB prog 122 [eL l] (eP l.dir):=by
 refine fn func122 J J ntmps122 J J (fun C=>?_);refine cl J jb J<|cl J jb J<|cl J vD J<|?_;exact rz J J
def H4{p:ah}[hp:aG p i][hq:aG q j](hi:i<=200000:=by decide)(hj:j<=200000:=by decide):PF GB prog 285 [eP p,eP q] (eQ (p.dot q)):=by
 refine fn func285 J J ntmps285 J J (fun C=>?_);refine cl J (jm (by omega) (by omega)) J<|cl J (jm (by omega) (by omega)) J<|cl J (ol (by omega) (by omega)) J<|?_;exact rz J J
def FR{p:ah}[hp:aG p i][hq:aG q j](hi:i<=200000:=by decide)(hj:j<=200000:=by decide):PF GB prog 84 [eP p,eP q] (eQ (p.cross q)):=by
 refine fn func84 J J ntmps84 J J (fun C=>?_);refine cl J (jm (by omega) (by omega)) J<|cl J (jm (by omega) (by omega)) J<|cl J (tc (by omega) (by omega)) J<|?_;exact rz J J
def Ct{p:ah}{c:Rat}[hp:aG p i][hq:aG q j][hc:BQ c k](hi:i<=19000000:=by decide)(hj:j<=9000000:=by decide)(hk:k<=9000000:=by decide):PF GB prog 56 [eP p,eQ c,eP q] (eP (cD p q c)):=by
 refine fn func56 J J ntmps56 J J (fun C=>?_);refine cl J (jm (by omega) (by omega)) J<|cl J (ol (by omega) (by omega)) J<|cl J (jm (by omega) (by omega)) J<|cl J (ol (by omega) (by omega)) J<|?_;exact rz J J
def CU{p:ah}[hl:LB l][hp:aG p i](hi:i<=400000:=by decide):PF GB prog 112 [eL l,eP p] (eQ (l.value p)):=by
 refine fn func112 J J ntmps112 J J (fun C=>?_);refine cl J (jb (z:=l.a)) J<|cl J (jm (by omega) (by omega)) J<|cl J (jb (z:=l.b)) J<|cl J (jm (by omega) (by omega)) J<|?_;refine cl J (ol (by omega) (by omega)) J<|cl J (jb (z:=l.c)) J<|cl J (ol (by omega) (by omega)) J<|?_;exact rz J J
def Bx{p:ah}[hl:LB l][hp:aG p i](hi:i<=400000:=by decide):PF GB prog 44 [eL l,eP p] (vI (l.value p).num.sign):=by
 refine fn func44 J J ntmps44 J J (fun C=>?_);refine cl J (CU hi) J<|cl J sH J<|?_;exact rz J J
def EL[hl:LB l](hn:l.Ne):PF GB prog 205 [eL l] (eP l.base):=by
 refine fn func205 J J ntmps205 J J (fun C=>?_);refine cl J u6 J<|cl J (jb (z:=l.c)) J<|cl J H4 J<|cl J (wA (N5 hn)) J<|cl J vD J<|cl J (jb (z:=l.a)) J<|?_;refine cl J jm J<|cl J (jb (z:=l.b)) J<|cl J jm J<|?_;exact rz J (by rw[<-L4];rfl)
instance aG.base (l:aa) [LB l]:aG l.base 900:=by
 rw[<-L4];constructor
 .exact BQ.mono (inferInstance:BQ (-((l.c:Rat)/l.dir.dot l.dir)*(l.a:Rat)) _)
 .exact BQ.mono (inferInstance:BQ (-((l.c:Rat)/l.dir.dot l.dir)*(l.b:Rat)) _)
def Tj[hl:LB l][ht:BQ t k](hn:l.Ne)(hk:k<=200000:=by decide):PF GB prog 294 [eL l,eQ t] (eP (l.at t)):=by
 refine fn func294 J J ntmps294 J J (fun C=>?_);refine cl J (EL hn) J<|cl J u6 J<|cl J (Ct (by decide) (by decide) (by omega)) J<|?_;exact rz J (by rw[<-yl];rfl)
def Ff{p:ah}[hl:LB l][hp:aG p k](hn:l.Ne)(hk:k<=200000:=by decide):PF GB prog 206 [eL l,eP p] (eQ (jo l p)):=by
 refine fn func206 J J ntmps206 J J (fun C=>?_);refine cl J u6 J<|cl J (H4 (by omega) (by decide)) J<|cl J (H4 (by omega) (by decide)) J<|cl J (wA (N5 hn) (by omega) (by decide)) J<|?_;exact rz J J
instance BI.crossI (l m:aa) [LB l] [LB m]:BI (crossI l m) 385:=inferInstanceAs (BI (l.a*m.b-m.a*l.b) 385)
instance BI.meetX (l m:aa) [LB l] [LB m]:BI (meetX l m) 385:=inferInstanceAs (BI (l.b*m.c-m.b*l.c) 385)
instance BI.meetY (l m:aa) [LB l] [LB m]:BI (meetY l m) 385:=inferInstanceAs (BI (m.a*l.c-l.a*m.c) 385)
instance aG.imeet (l m:aa) [LB l] [LB m]:aG (di l m) 772:=by
 unfold di;split
 .exact⟨BQ.mono (k:=1) ⟨by decide,by decide⟩,BQ.mono (k:=1) ⟨by decide,by decide⟩⟩
 .exact⟨inferInstanceAs (BQ ((meetX l m:Rat)/(crossI l m:Rat)) 772),inferInstanceAs (BQ ((meetY l m:Rat)/(crossI l m:Rat)) 772)⟩
def Ok(l m:aa):(((l.a:Rat)*(m.b:Rat)-(m.a:Rat)*(l.b:Rat)).num.sign=0)↔crossI l m=0:=by
 rw[pH,<-u'];exact cX
def Mm(h:crossI l m≠0):(l.a:Rat)*(m.b:Rat)-(m.a:Rat)*(l.b:Rat)≠0:=by
 rw[<-u'];exact fun e=>h (cX.1 e)
def Gi[hl:LB l][hm:LB m]:PF GB prog 137 [eL l,eL m] (.tp [eP (di l m),vB (decide (crossI l m≠0))]):=by
 refine fn func137 J J ntmps137 J J (fun C=>?_);refine cl J (jb (z:=l.a)) J<|cl J (jb (z:=m.b)) J<|cl J jm J<|cl J (jb (z:=m.a)) J<|cl J (jb (z:=l.b)) J<|?_;refine cl J jm J<|cl J tc J<|cl J sH J<|?_;refine br J J J (fun hc26=>?_) (fun hc26=>?_)
 .
  have hcr:=(Ok l m).1 hc26;exact rz J (by unfold di;rw[if_pos hcr,decide_eq_false (fun e=>e hcr)];show DV.tp [.ag [_, .sl [], .sl [],_, .sl [], .sl []],_]= .tp [eP ⟨0,0⟩,_];unfold eP dD;simp only[show(0:Rat).num=0 from J,show(0:Rat).den=1 from J,lW,qv];rfl)
 .
  have hcr:crossI l m≠0:=fun e=>hc26 ((Ok l m).2 e);refine cl J (jb (z:=l.b)) J<|cl J (jb (z:=m.c)) J<|cl J jm J<|cl J (jb (z:=m.b)) J<|cl J (jb (z:=l.c)) J<|?_;refine cl J jm J<|cl J tc J<|cl J (jb (z:=m.a)) J<|cl J (jb (z:=l.c)) J<|cl J jm J<|cl J (jb (z:=l.a)) J<|?_;refine cl J (jb (z:=m.c)) J<|cl J jm J<|cl J tc J<|cl J (wA (Mm hcr)) J<|cl J (wA (Mm hcr)) J<|?_;exact rz J (by unfold di;rw[if_neg hcr,decide_eq_true hcr,IQ,Mb,u'];rfl)
def iq(l m:aa):Int:=if(l.a-m.a).sign≠0 then(l.a-m.a).sign else if(l.b-m.b).sign≠0 then(l.b-m.b).sign else(l.c-m.c).sign
def AM(l m:aa):iq l m=0↔l=m:=by
 unfold iq;constructor
 .intro h
  split at h
  .contradiction
  .split at h
   .contradiction
   .rename_i h1 h2
    have a1:=iX.1 (Decidable.not_not.1 h1);have a2:=iX.1 (Decidable.not_not.1 h2);have a3:=iX.1 h;exact aa.ext'
 .rintro rfl
  simp
def Dr[hl:LB l][hm:LB m]:PF GB prog 123 [eL l,eL m] (vI (iq l m)):=by
 refine fn func123 J J ntmps123 J J (fun C=>?_);refine cl J (KR (a:=l.a) (b:=m.a)) J<|?_;refine br J J J (fun hc13=>?_) (fun hc13=>?_)
 .
  exact rz J (by show vI _=_;unfold iq;rw[if_pos hc13])
 .
  refine cl J (KR (a:=l.b) (b:=m.b)) J<|?_;refine br J J J (fun hc21=>?_) (fun hc21=>?_)
  .
   exact rz J (by show vI _=_;unfold iq;rw[if_neg hc13,if_pos hc21])
  .
   refine cl J (KR (a:=l.c) (b:=m.c)) J<|?_;exact rz J (by show vI _=_;unfold iq;rw[if_neg hc13,if_neg hc21])
def LN{v:ah}:PF GB prog 208 [eP v] (vI v.half):=by
 refine fn func208 J J ntmps208 J J (fun C=>?_);refine cl J (sH (q:=v.x)) J<|cl J (sH (q:=v.y)) J<|?_;refine cs 13 J J J (fun hg13=>?_) (fun hg13=>?_)
 .
  refine br J J J (fun hc16=>?_) (fun hc16=>?_)
  .
   exact rz J (by show vI _=vI _;unfold ah.half;generalize v.x.num.sign=sx at*;generalize v.y.num.sign=sy at*;congr 1;(repeat' split)<;>omega)
  .
   refine cs 19 J J J (fun hg19=>?_) (fun hg19=>?_)
   .
    exact rz J (by show vI _=vI _;unfold ah.half;generalize v.x.num.sign=sx at*;generalize v.y.num.sign=sy at*;congr 1;(repeat' split)<;>omega)
   .
    refine cs 22 J J J (fun hg22=>?_) (fun hg22=>?_)
    .
     refine br J J J (fun hc26=>?_) (fun hc26=>?_)
     .
      exact rz J (by show vI _=vI _;unfold ah.half;generalize v.x.num.sign=sx at*;generalize v.y.num.sign=sy at*;congr 1;(repeat' split)<;>omega)
     .
      exact rz J (by show vI _=vI _;unfold ah.half;generalize v.x.num.sign=sx at*;generalize v.y.num.sign=sy at*;congr 1;(repeat' split)<;>omega)
    .
     exact rz J (by show vI _=vI _;unfold ah.half;generalize v.x.num.sign=sx at*;generalize v.y.num.sign=sy at*;congr 1;(repeat' split)<;>omega)
 .
  refine cs 19 J J J (fun hg19=>?_) (fun hg19=>?_)
  .
   exact rz J (by show vI _=vI _;unfold ah.half;generalize v.x.num.sign=sx at*;generalize v.y.num.sign=sy at*;congr 1;(repeat' split)<;>omega)
  .
   refine cs 22 J J J (fun hg22=>?_) (fun hg22=>?_)
   .
    refine br J J J (fun hc26=>?_) (fun hc26=>?_)
    .
     exact rz J (by show vI _=vI _;unfold ah.half;generalize v.x.num.sign=sx at*;generalize v.y.num.sign=sy at*;congr 1;(repeat' split)<;>omega)
    .
     exact rz J (by show vI _=vI _;unfold ah.half;generalize v.x.num.sign=sx at*;generalize v.y.num.sign=sy at*;congr 1;(repeat' split)<;>omega)
   .
    exact rz J (by show vI _=vI _;unfold ah.half;generalize v.x.num.sign=sx at*;generalize v.y.num.sign=sy at*;congr 1;(repeat' split)<;>omega)
def aFP(z:Int): -1<=z.sign/\z.sign<=1:=by
 rcases qJ z 0 with h|h|h
 .rw[fZ h];omega
 .rw[h];decide
 .rw[fS h];omega
def aB2{v:ah}[hu:aG u i][hv:aG v j](hi:i<=200000:=by decide)(hj:j<=200000:=by decide):PF GB prog 121 [eP u,eP v] (vI (gi u v)):=by
 refine fn func121 J J ntmps121 J J (fun C=>?_);refine cl J (LN (v:=u)) J<|cl J (LN (v:=v)) J<|?_;refine br J J J (fun hc13=>?_) (fun hc13=>?_)
 .
  refine br J J J (fun hc16=>?_) (fun hc16=>?_)
  .
   exact rz J (by show vI _=vI _;unfold gi;rw[if_pos hc16])
  .
   exact rz J (by show vI _=vI _;unfold gi;rw[if_neg hc16,if_pos (by omega)])
 .
  refine cl J (FR hi hj) J<|cl (hv:=by simp only[aj];exact(by have:=aFP (u.cross v).num;omega)) J sH J<|?_;exact rz J (by show vI _=vI _;unfold gi;rw[if_neg (by omega),if_neg (by omega)])
instance BQ.i1:BQ (((1:Int):Rat)) 2:=⟨by decide,by decide⟩
def eV(v:ao):DV:= .ag [.v (.bool (decide (v.lo.num<0))),dN v.lo.num.natAbs,dD v.lo.den, .v (.bool (decide (v.hi.num<0))),dN v.hi.num.natAbs,dD v.hi.den, .v (.bool v.nl), .v (.bool v.nh)]
def aGV:eV ao.all= .ag [.v (.bool false), .sl [], .sl [], .v (.bool false), .sl [], .sl [], .v (.bool true), .v (.bool true)]:=by
 unfold eV ao.all dD;simp only[show(0:Rat).num=0 from J,show(0:Rat).den=1 from J,lW,qv];rfl
def F':eQ 0= .ag [.v (.bool false), .sl [], .sl []]:=by
 unfold eQ dD;simp only[show(0:Rat).num=0 from J,show(0:Rat).den=1 from J,lW,qv];rfl
def lC(v:ao):Rat:=if v.nl=true/\v.nh=true then 0 else if v.nl=true then v.hi-1 else if v.nh=true then v.lo+1 else(v.lo+v.hi)/2
def OD:PF GB prog 204 [] (eV ao.all):=by
 refine fn func204 J J ntmps204 J J (fun C=>?_);exact rz J (by rw[aGV];rfl)
def WM{v:ao}[hl:BQ v.lo i][hh:BQ v.hi i](hi:i<=100000:=by decide):PF GB prog 295 [eV v] (eQ (lC v)):=by
 refine fn func295 J J ntmps295 J J (fun C=>?_);refine ja 6 J J J (fun hg6=>?_) (fun hg6=>?_)
 .
  refine bb J J J (fun hc3=>?_) (fun hc3=>?_)
  .
   exact rz J (by unfold lC;rw[if_pos ⟨hg6,hc3⟩,F'];rfl)
  .
   refine bb J J J (fun hc11=>?_) (fun hc11=>?_)
   .
    refine cl J (kl (n:=1)) J<|cl J (tc (a:=v.hi) (b:=((1:Int):Rat)) (by omega) (by decide)) J<|?_;exact rz J (by unfold lC;rw[if_neg (by simp[hc3]),if_pos hc11];rfl)
   .
    refine bb J J J (fun hc18=>?_) (fun hc18=>?_)
    .
     refine cl J (kl (n:=1)) J<|cl J (ol (a:=v.lo) (b:=((1:Int):Rat)) (by omega) (by decide)) J<|?_;exact rz J (by simp[hg6] at hc11)
    .
     refine cl J (Ew (a:=v.lo) (b:=v.hi) (by omega) (by omega)) J<|?_;exact rz J (by simp[hg6] at hc11)
 .
  refine bb J J J (fun hc11=>?_) (fun hc11=>?_)
  .
   refine cl J (kl (n:=1)) J<|cl J (tc (a:=v.hi) (b:=((1:Int):Rat)) (by omega) (by decide)) J<|?_;exact rz J (by simp[hg6] at hc11)
  .
   refine bb J J J (fun hc18=>?_) (fun hc18=>?_)
   .
    refine cl J (kl (n:=1)) J<|cl J (ol (a:=v.lo) (b:=((1:Int):Rat)) (by omega) (by decide)) J<|?_;exact rz J (by unfold lC;rw[if_neg (by simp[hg6]),if_neg (by simp[hg6]),if_pos hc18];rfl)
   .
    refine cl J (Ew (a:=v.lo) (b:=v.hi) (by omega) (by omega)) J<|?_;exact rz J (by unfold lC;rw[if_neg (by simp[hg6]),if_neg (by simp[hg6]),if_neg (by simp[hc18])];rfl)
theorem BQ.of_fracI{q:Rat}{n D:Int}(hd:0<D.natAbs)(h:q*((D.natAbs:Nat):Rat)=(n:Rat))(hn:BI n i)(hD:BI D i):BQ q i:=BQ.of_frac hd h hn.h hD.h
theorem CO{m:Int}(h:BI m i)(hij:i<=j:=by decide):BI m j:=⟨dZ h.h (bR (by decide) hij)⟩
theorem Ez[LB l][LB m](hn:l.Ne)(h:crossI l m≠0):BQ (jo l (di l m)) 1200:=by
 have e:=asO hn h;have hA:BI (crossI l m*(l.a*l.a+l.b*l.b)) _:=inferInstance;have hB:BI (meetX l m*l.b-meetY l m*l.a) _:=inferInstance;have hne:crossI l m*(l.a*l.a+l.b*l.b)≠0:=by
  intro q;rcases pR.1 q with q|q
  .exact h q
  .have h1:=AO hn
   simp only[aa.dir,ah.dot] at h1;have h2:((l.a*l.a+l.b*l.b:Int):Rat)=((0:Int):Rat):=by rw[q]
   rw[lV,cW,cW] at h2;have h3:((0:Int):Rat)=0:=J;rw[h3] at h2;grind
 have hA':=CO (j:=1200) hA;have hB':=CO (j:=1200) hB;generalize crossI l m*(l.a*l.a+l.b*l.b)=D at*;generalize meetX l m*l.b-meetY l m*l.a=M at*;by_cases hD:0<D
 .refine BQ.of_fracI (n:=M) (D:=D) (by omega) ?_ hB' hA'
  rw[<-e];congr 1;have:((D.natAbs:Nat):Int)=D:=by omega
  rw[<-this];rfl
 .refine BQ.of_fracI (n:= -M) (D:=D) (by omega) ?_ (BI.neg M 1200 (h:=hB')) hA'
  rw[jQ,<-e];have:((D.natAbs:Nat):Rat)= -(D:Rat):=by
   have h1:((D.natAbs:Nat):Int)= -D:=by omega
   rw[<-jQ,<-h1];rfl
  rw[this];grind
def RY(k:Rat):k.num.sign<=0↔ ¬0<k:=by rw[<-n7];omega
def ay3(h1: ¬w.nl=true)(h2: ¬w.nh=true)(h3:0<=bA w.lo w.hi):w.empty=true:=by
 unfold ao.empty;simp[h1,h2,h3]
def Zq(h:w.nl=true):w.empty=false:=by unfold ao.empty;simp[h]
def YF(h:w.nh=true):w.empty=false:=by unfold ao.empty;simp[h]
def V0(h: ¬0<=bA w.lo w.hi):w.empty=false:=by unfold ao.empty;simp[h]
def gj(l:aa):List aa->ao->ao×Bool
 |[],v=>(v,true)
 |m::t,v=>if m=l then gj l t v else if l.cutB v m=true then gj l t (l.cutV v m) else(l.cutV v m,false)
def xq{l:aa}: ∀{c:List aa} {v:ao},(gj l c v).2=(gc l c v).isSome
 |[],v=>rfl
 |m::t,v=>by
  rw[gj,FF];split
  .exact xq
  .split
   .exact xq
   .rfl
structure jE (l:aa) (c:List aa) (k:Nat) (v:ao):Prop where
 le:k<=c.length
 p:gc l (c.drop k) v=gc l c ao.all
 e:gj l (c.drop k) v=gj l c ao.all
 z:il v
 lo:BQ v.lo 1200
 hi:BQ v.hi 1200
def jE.skip{c:List aa}{v:ao}(h:jE l c k v)(hk:k<c.length)(e:c[k]=l):jE l c (k+1) v:=
 ⟨hk,by have:=h.p;rw[bQ hk,FF,if_pos e] at this;exact this,by have:=h.e;rw[bQ hk,gj,if_pos e] at this;exact this,h.z,h.lo,h.hi⟩
def jE.cut{c:List aa}{v:ao}(h:jE l c k v)(hk:k<c.length)(e:c[k]≠l)(hb:l.cutB v c[k]=true)(hw:l.cutV v c[k]=w)(z:il w)(lo:BQ w.lo 1200)(hi:BQ w.hi 1200):jE l c (k+1) w:=
 ⟨hk,by have:=h.p;rw[bQ hk,FF,if_neg e,if_pos hb,hw] at this;exact this,by have:=h.e;rw[bQ hk,gj,if_neg e,if_pos hb,hw] at this;exact this,z,lo,hi⟩
def jE.no{c:List aa}{v:ao}(h:jE l c k v)(hk:k<c.length)(e:c[k]≠l)(hb:l.cutB v c[k]=false)(hw:l.cutV v c[k]=w):gj l c ao.all=(w,false):=by
 rw[<-h.e,bQ hk,gj,if_neg e,if_neg (by rw[hb];decide),hw]
def jE.yes{c:List aa}{v:ao}(h:jE l c k v)(hk:c.length<=k):gj l c ao.all=(v,true):=by
 rw[<-h.e,jJ hk];rfl
def jE.all{l:aa}{c:List aa}:jE l c 0 ao.all:=⟨bZ _,by rw[jV],by rw[jV],il.all,BQ.mono (k:=1) ⟨by decide,by decide⟩,BQ.mono (k:=1) ⟨by decide,by decide⟩⟩
def Nr{v:ao}(h:v.nl=true\/0<bA t v.lo):(⟨t,v.hi,false,v.nh⟩:ao)=qt v t:=by unfold qt;rw[if_pos h]
def aDu{v:ao}(h: ¬v.nl=true)(h2: ¬0<bA t v.lo):v=qt v t:=by unfold qt;rw[if_neg (fun e=>e.elim h h2)]
def MF{v:ao}(h:v.nh=true\/bA t v.hi<0):(⟨v.lo,t,v.nl,false⟩:ao)=qc v t:=by unfold qc;rw[if_pos h]
def US{v:ao}(h: ¬v.nh=true)(h2: ¬bA t v.hi<0):v=qc v t:=by unfold qc;rw[if_neg (fun e=>e.elim h h2)]
def oB(l m:aa)(v:ao):ao:=if 0<(m.dir.cross l.dir).num.sign then qt v (jo l (di l m)) else qc v (jo l (di l m))
def GK{v:ao}[LB l][LB m](hn:l.Ne)(hz:il v)(hlo:BQ v.lo 1200)(hhi:BQ v.hi 1200)(h0:crossI l m≠0):l.cutV v m=oB l m v/\l.cutB v m=!(oB l m v).empty/\il (oB l m v)/\BQ (oB l m v).lo 1200/\BQ (oB l m v).hi 1200:=by
 have hb:=Ez (l:=l) (m:=m) hn h0;unfold oB;split
 .rename_i h
  obtain⟨_,h1,h2⟩:=aCT hn hz ((n7 _).1 h);refine⟨h1,h2,hz.lo' _,?_⟩;unfold qt;split
  .exact⟨hb,hhi⟩
  .exact⟨hlo,hhi⟩
 .rename_i h
  obtain⟨h1,h2⟩:=Ud hn hz h0 (fun e=>h ((n7 _).2 e));refine⟨h1,h2,hz.hi' _,?_⟩;unfold qc;split
  .exact⟨hlo,hb⟩
  .exact⟨hlo,hhi⟩
theorem DO{l:aa}[LB l](hn:l.Ne): ∀{c:List aa} {v:ao},(∀m∈c,LB m)->il v->BQ v.lo 1200->BQ v.hi 1200->BQ (gj l c v).1.lo 1200/\BQ (gj l c v).1.hi 1200
 |[],v,_,_,h1,h2=>⟨h1,h2⟩
 |m::t,v,hc,hz,h1,h2=>by
  haveI:=hc m aQ;have hw:il (l.cutV v m)/\BQ (l.cutV v m).lo 1200/\BQ (l.cutV v m).hi 1200:=by
   by_cases h0:crossI l m=0
   .rw[(Bl (v:=v) h0).1];exact⟨hz,h1,h2⟩
   .obtain⟨u1,_,u3,u4,u5⟩:=GK (v:=v) hn hz h1 h2 h0
    rw[u1];exact⟨u3,u4,u5⟩
  have hc':=fun m hm=>hc m (aJ _ hm);rw[gj];split
  .exact DO hn hc' hz h1 h2
  .split
   .exact DO hn hc' hw.1 hw.2.1 hw.2.2
   .exact hw.2
def MT{c:List aa}(hc: ∀m∈c,LB m)(hok: ∀m∈c,m.ok)(hn:c.length<=1000)(hi:i<c.length):PF GB prog 120 [.sl (c.map eL),vI (i:Nat)] (.tp [eV (gj (c[i]'hi) c ao.all).1,vB (gj (c[i]'hi) c ao.all).2]):=by
 have hcl:=wC c;obtain⟨l,hl⟩: ∃l,l=c[i]:=⟨_,rfl⟩;rw[<-hl];haveI hlb:LB l:=hl▸hc _ (cN hi);have hlo:l.ok:=hl▸hok _ (cN hi);refine fn func120 J J ntmps120 J J (fun C=>?_);refine ix (fu:=⟨1⟩) _ J (wm hi) J<|?_;refine ak 16 (.d (eL l)) J (by rw[hl];rfl) ?_;refine gx J<|cl (fu:=⟨9⟩) J OD J<|?_;refine ak 19 (.d (vI (c.length:Nat))) J (by rw[hcl];rfl) ?_;refine gx J<|?_;refine lp (X:=ao×Nat) (fun⟨v,k⟩=>[(20, .d (vI (k:Nat))),(19, .d (vI (c.length:Nat))),(18, .d (.sl (c.map eL))),(1, .d (vI (i:Nat))),(6, .ov 6 0),(7, .ov 7 0),(4, .ov 4 0)]) (fun⟨v,k⟩=>[(7,some (.o 201 [.d ((.v (.bool (decide (v.lo.num<0))))), .d (dN v.lo.num.natAbs), .d (dD v.lo.den), .d ((.v (.bool (decide (v.hi.num<0))))), .d (dN v.hi.num.natAbs), .d (dD v.hi.den), .d ((.v (.bool v.nl))), .d ((.v (.bool v.nh)))] true)),(6,some (.o 85 [.d ((.v (.bool (decide (l.a<0))))), .d (dN l.a.natAbs), .d ((.v (.bool (decide (l.b<0))))), .d (dN l.b.natAbs), .d ((.v (.bool (decide (l.c<0))))), .d (dN l.c.natAbs)] true)),(4,some (.o 201 [.ff, .nl, .nl, .ff, .nl, .nl, .ff, .ff] true))]) (fun⟨v,k⟩=>jE l c k v) (fun⟨v,k⟩=>c.length-k) ⟨ao.all,0⟩ J jE.all (fun _=>J) (fun⟨v,k⟩ hk=>?_)
 try dsimp only at hk⊢
 have hS:=hk;refine br J J J (fun hc21=>?_) (fun hc21=>?_)
 .
  have hk:k<c.length:=by omega
  obtain⟨m,hm⟩: ∃m,m=c[k]:=⟨_,rfl⟩;haveI hmb:LB m:=hm▸hc _ (cN hk);have hmo:m.ok:=hm▸hok _ (cN hk);refine ix (fu:=⟨1⟩) _ J (wm hk) J<|?_;refine ak 24 (.d (eL m)) J (by rw[hm];rfl) ?_;refine gx J<|?_;refine cs 28 J J J (fun hg28=>?_) (fun hg28=>?_)
  .
   have hinv:jE l c (k+1) v:=hS.skip hk (by rw[hl];congr 1;omega);exact at_ ⟨v,k+1⟩ (by dsimp only;exact⟨hinv,(by omega)⟩)
  .
   refine cl J (Dr (l:=l) (m:=m)) J<|?_;refine br J J J (fun hc33=>?_) (fun hc33=>?_)
   .
    have hinv:jE l c (k+1) v:=hS.skip hk (by rw[<-hm,(AM l m).1 hc33]);exact at_ ⟨v,k+1⟩ (by dsimp only;exact⟨hinv,(by omega)⟩)
   .
    have hne:c[k]≠l:=fun e=>hc33 ((AM l m).2 (by rw[hm,e]));refine cl (fu:=⟨13⟩) J (Gi (l:=l) (m:=m)) J<|?_;refine ak 41 (.d (.v (.bool (decide (crossI l m=0))))) J (by simp) ?_;refine gx J<|?_;refine bd J J J (fun hc41=>?_) (fun hc41=>?_)
    .
     refine cl J (EL hlo.ne) J<|cl J (Bx (l:=m) (p:=l.base)) J<|?_;refine br J J J (fun hc46=>?_) (fun hc46=>?_)
     .
      have hno:=hS.no (w:=v) hk hne (by have:=(Bl (v:=v) hc41).2;rw[<-hm];cases hb:l.cutB v m with|false=>rfl|true=>exact absurd (this.1 hb) ((RY _).1 hc46)) (by rw[<-hm];exact(Bl (v:=v) hc41).1);exact rz J (by rw[hno];rfl)
     .
      have hinv:jE l c (k+1) v:=by have:=Bl (v:=v) hc41;exact hS.cut hk hne (by rw[<-hm];exact this.2.2 (by have:=mt (RY (m.value l.base)).2 hc46;exact Decidable.not_not.1 this)) (by rw[<-hm];exact this.1) hS.z hS.lo hS.hi
      exact at_ ⟨v,k+1⟩ (by dsimp only;exact⟨hinv,(by omega)⟩)
    .
     obtain⟨u1,u2,u3,u4,u5⟩:=GK (v:=v) hlo.ne hS.z hS.lo hS.hi hc41;haveI htb:=Ez hlo.ne hc41;haveI hvl:=hS.lo;haveI hvh:=hS.hi;refine cl (fu:=⟨0⟩) J (Ff (l:=l) (p:=di l m) hlo.ne) J<|?_;obtain⟨t,ht⟩: ∃t,t=jo l (di l m):=⟨_,rfl⟩;refine ak 50 (.d (eQ t)) J (by rw[ht]) ?_;rw[<-ht] at htb;refine gx (fu:=⟨5⟩) J<|?_;refine mg (X:=ao) (fun w=>[(20, .d (vI (k:Nat))),(19, .d (vI (c.length:Nat))),(18, .d (.sl (c.map eL))),(1, .d (vI (i:Nat))),(6, .ov 6 0),(7, .ov 7 0),(4, .ov 4 0)]) (fun w=>[(7,some (.o 201 [.d ((.v (.bool (decide (w.lo.num<0))))), .d (dN w.lo.num.natAbs), .d (dD w.lo.den), .d ((.v (.bool (decide (w.hi.num<0))))), .d (dN w.hi.num.natAbs), .d (dD w.hi.den), .d ((.v (.bool w.nl))), .d ((.v (.bool w.nh)))] true)),(6,some (.o 85 [.d ((.v (.bool (decide (l.a<0))))), .d (dN l.a.natAbs), .d ((.v (.bool (decide (l.b<0))))), .d (dN l.b.natAbs), .d ((.v (.bool (decide (l.c<0))))), .d (dN l.c.natAbs)] true)),(4,some (.o 201 [.ff, .nl, .nl, .ff, .nl, .nl, .ff, .ff] true))]) (fun w=>w=oB l m v) [20,19,18,1,6,7,4] [7,6,4] rfl ?_ (fun _=>J) (fun w hw=>?_)
     .
      refine gx J<|cl J (u6 (l:=m)) J<|cl J (u6 (l:=l)) J<|cl J (FR (p:=m.dir) (q:=l.dir)) J<|cl J (sH (q:=m.dir.cross l.dir)) J<|?_;refine br J J J (fun hc57=>?_) (fun hc57=>?_)
      .
       refine ja 60 J J J (fun hg60=>?_) (fun hg60=>?_)
       .
        refine C5 7 J J J ?_;exact at_ ⟨t,v.hi,false,v.nh⟩ (by unfold oB;rw[if_pos hc57,<-ht];exact Nr (.inl hg60))
       .
        refine cl J (mD (a:=t) (b:=v.lo)) J<|?_;refine br J J J (fun hc66=>?_) (fun hc66=>?_)
        .
         refine C5 7 J J J ?_;exact at_ ⟨t,v.hi,false,v.nh⟩ (by unfold oB;rw[if_pos hc57,<-ht];exact Nr (.inr hc66))
        .
         exact at_ v (by unfold oB;rw[if_pos hc57,<-ht];exact aDu (by simp[hg60]) hc66)
      .
       refine ja 72 J J J (fun hg72=>?_) (fun hg72=>?_)
       .
        refine C5 7 J J J ?_;exact at_ ⟨v.lo,t,v.nl,false⟩ (by unfold oB;rw[if_neg hc57,<-ht];exact MF (.inl hg72))
       .
        refine cl J (mD (a:=t) (b:=v.hi)) J<|?_;refine br J J J (fun hc78=>?_) (fun hc78=>?_)
        .
         refine C5 7 J J J ?_;exact at_ ⟨v.lo,t,v.nl,false⟩ (by unfold oB;rw[if_neg hc57,<-ht];exact MF (.inr hc78))
        .
         exact at_ v (by unfold oB;rw[if_neg hc57,<-ht];exact US (by simp[hg72]) hc78)
     .
      rw[<-hw] at u1 u2 u3 u4 u5;haveI:=u4;haveI:=u5;refine ja 85 J J J (fun hg85=>?_) (fun hg85=>?_)
      .
       refine ja 90 J J J (fun hg90=>?_) (fun hg90=>?_)
       .
        refine cl J (mD (a:=w.lo) (b:=w.hi)) J<|?_;refine br J J J (fun hc97=>?_) (fun hc97=>?_)
        .
         have hno:=hS.no (w:=w) hk hne (by rw[<-hm,u2,ay3 (by simpa using hg85) (by simpa using hg90) hc97];rfl) (by rw[<-hm,u1]);exact rz J (by rw[hno];rfl)
        .
         have hinv:jE l c (k+1) w:=hS.cut hk hne (by rw[<-hm,u2,V0 hc97];rfl) (by rw[<-hm,u1]) u3 u4 u5;exact at_ ⟨w,k+1⟩ (by dsimp only;exact⟨hinv,(by omega)⟩)
       .
        have hinv:jE l c (k+1) w:=hS.cut hk hne (by rw[<-hm,u2,YF (by simpa using hg90)];rfl) (by rw[<-hm,u1]) u3 u4 u5;exact at_ ⟨w,k+1⟩ (by dsimp only;exact⟨hinv,(by omega)⟩)
      .
       have hinv:jE l c (k+1) w:=hS.cut hk hne (by rw[<-hm,u2,Zq (by simpa using hg85)];rfl) (by rw[<-hm,u1]) u3 u4 u5;exact at_ ⟨w,k+1⟩ (by dsimp only;exact⟨hinv,(by omega)⟩)
 .
  exact rz J (by rw[hS.yes (by omega)];rfl)
def cO(l:aa):DV:= .ag [vI (dw (l.a:Rat)),vI (dx (l.a:Rat)),dm (l.a:Rat),vI (dw (l.b:Rat)),vI (dx (l.b:Rat)),dm (l.b:Rat),vI (dw (l.c:Rat)),vI (dx (l.c:Rat)),dm (l.c:Rat)]
def eZ(p:ah):DV:= .ag [vI (dw p.x),vI (dx p.x),dm p.x,vI (dw p.y),vI (dx p.y),dm p.y]
def eW(v:ao):DV:= .ag [vI (dw v.lo),vI (dx v.lo),dm v.lo,vI (dw v.hi),vI (dx v.hi),dm v.hi, .v (.bool v.nl), .v (.bool v.nh)]
def DE{t:List DV}(h:IsLs G (vI 0::vI 0:: .v (.pointer none)::t) vs):IsLs G (vI (dw 0)::vI (dx 0)::dm 0::t) vs:=by
 obtain⟨y1,l1,rfl,k1,g1⟩:=aI.1 h;obtain⟨y2,l2,rfl,k2,g2⟩:=aI.1 g1;obtain⟨y3,l3,rfl,k3,g3⟩:=aI.1 g2;have e:decide (gA 0)=false:=decide_eq_false fun h=>HC h J;exact .cons k1 (.cons k2 (.cons (ur.2 (.inl ⟨e,aB.1 k3⟩)) g3))
def HI(a:List DV){t:List DV}(h:IsLs G (a++vI 0::vI 0:: .v (.pointer none)::t) vs):IsLs G (a++vI (dw 0)::vI (dx 0)::dm 0::t) vs:=by
 obtain⟨x,y,rfl,h1,h2⟩:=h.unapp;exact h1.app (DE h2)
def aFw(G:Gh)(y:Value)(k:Is G (.ag [vI 0,vI 0, .v (.pointer none),vI 0,vI 0, .v (.pointer none), .v (.bool true), .v (.bool true)]) y):Is G (eW ao.all) y:=by
 obtain⟨l,rfl,g⟩:=d9.1 k;exact d9.2 ⟨l,J,DE (HI [vI 0,vI 0, .v (.pointer none)] g)⟩
def pC:List Int->Int
 |[]=>0
 |a::t=>if a≠0 then a else pC t
theorem aG.nor(l:aa)[LB l]:aG l.nor 97:=⟨inferInstanceAs (BQ (l.a:Rat) 97),inferInstanceAs (BQ (l.b:Rat) 97)⟩
attribute [instance] aG.nor
instance aG.scale (p:ah) (c:Rat) (i k:Nat) [aG p i] [BQ c k]:aG (p.scale c) (i+k):=⟨inferInstanceAs (BQ (p.x*c) _),inferInstanceAs (BQ (p.y*c) _)⟩
instance LB.revA (l:aa) [h:LB l]:LB l.rev:=⟨⟨by rw[show l.rev.a= -l.a from J,jR];exact h.bl.a,by rw[show l.rev.b= -l.b from J,jR];exact h.bl.b,by rw[show l.rev.c= -l.c from J,jR];exact h.bl.c⟩⟩
def aIZ:PF GB prog 324 [] (eW ao.all):=by
 refine fn func324 J J ntmps324 J J (fun C=>?_);exact jz J aFw
def wj:PF GB prog 195 [cO l] (eZ l.nor):=by
 refine fn func195 J J ntmps195 J J (fun C=>?_);exact rz J J
def ww[hl:LB l]:PF GB prog 277 [cO l] (eZ l.dir):=by
 refine fn func277 J J ntmps277 J J (fun C=>?_);refine cl J (pI (q:=(l.a:Rat))) J<|?_;exact rz J J
def vV{p:ah}[hp:aG p i][hq:aG q j](hi:i<=40000000:=by decide)(hj:j<=40000000:=by decide):PF GB prog 202 [eZ p,eZ q] (eF (p.dot q)):=by
 refine fn func202 J J ntmps202 J J (fun C=>?_);refine cl J (oC (p:=p.x) (q:=q.x) (by omega) (by omega)) J<|cl J (oC (p:=p.y) (q:=q.y) (by omega) (by omega)) J<|cl J (sG (p:=p.x*q.x) (q:=p.y*q.y) (by omega) (by omega)) J<|?_;exact rz J J
def D5{p:ah}[hp:aG p i][hq:aG q j](hi:i<=40000000:=by decide)(hj:j<=40000000:=by decide):PF GB prog 156 [eZ p,eZ q] (eF (p.cross q)):=by
 refine fn func156 J J ntmps156 J J (fun C=>?_);refine cl J (oC (p:=p.x) (q:=q.y) (by omega) (by omega)) J<|cl J (oC (p:=p.y) (q:=q.x) (by omega) (by omega)) J<|cl J (qE (p:=p.x*q.y) (q:=p.y*q.x) (by omega) (by omega)) J<|?_;exact rz J J
def N4{p:ah}{c:Rat}[hp:aG p i][hc:BQ c j](hi:i<=40000000:=by decide)(hj:j<=40000000:=by decide):PF GB prog 333 [eZ p,eF c] (eZ (p.scale c)):=by
 refine fn func333 J J ntmps333 J J (fun C=>?_);refine cl J (oC (p:=p.x) (q:=c) (by omega) (by omega)) J<|cl J (oC (p:=p.y) (q:=c) (by omega) (by omega)) J<|?_;exact rz J J
def aE5{p:ah}[hp:aG p i][hq:aG q j](hi:i<=40000000:=by decide)(hj:j<=40000000:=by decide):PF GB prog 286 [eZ p,eZ q] (eZ (p.add q)):=by
 refine fn func286 J J ntmps286 J J (fun C=>?_);refine cl J (sG (by omega) (by omega)) J<|cl J (sG (by omega) (by omega)) J<|?_;exact rz J J
def On[hl:LB l]:PF GB prog 327 [cO l] (eZ l.base):=by
 refine fn func327 J J ntmps327 J J (fun C=>?_);refine cl J wj J<|cl J (pI (q:=(l.c:Rat))) J<|cl J (vV (p:=l.nor) (q:=l.nor)) J<|cl J (Bm (p:= -(l.c:Rat)) (q:=l.nor.dot l.nor)) J<|?_;refine cl J (N4 (p:=l.nor)) J<|?_;exact rz J J
def Sy{p:ah}[hl:LB l][hp:aG p i](hi:i<=10000000:=by decide):PF GB prog 326 [cO l,eZ p] (eF (l.value p)):=by
 refine fn func326 J J ntmps326 J J (fun C=>?_);refine cl J (wj (l:=l)) J<|cl J (vV (p:=l.nor) (q:=p) (by omega) (by omega)) J<|cl J (sG (p:=l.nor.dot p) (q:=(l.c:Rat)) (by omega) (by omega)) J<|?_;exact rz J J
def aBw{p:ah}[hl:LB l][hp:aG p i](hi:i<=10000000:=by decide):PF GB prog 290 [cO l,eZ p] (vI (l.value p).num.sign):=by
 refine fn func290 J J ntmps290 J J (fun C=>?_);refine cl J (Sy (l:=l) (p:=p) hi) J<|cl J (m8 (q:=l.value p) (by omega)) J<|?_;exact rz J J
def R6[hl:LB l][ht:BQ t i](hi:i<=10000000:=by decide):PF GB prog 282 [cO l,eF t] (eZ (l.at t)):=by
 refine fn func282 J J ntmps282 J J (fun C=>?_);refine cl J (On (l:=l)) J<|cl J (ww (l:=l)) J<|cl J (N4 (p:=l.dir) (c:=t) (by omega) (by omega)) J<|cl J (aE5 (p:=l.base) (q:=l.dir.scale t) (by omega) (by omega)) J<|?_;exact rz J J
def X0{v:ao}[h1:BQ v.lo i][h2:BQ v.hi j](hi:i<=40000000:=by decide)(hj:j<=40000000:=by decide):PF GB prog 349 [eW v] (vB v.empty):=by
 refine fn func349 J J ntmps349 J J (fun C=>?_);refine ja 6 J J J (fun hg6=>?_) (fun hg6=>?_)
 .
  refine ja 11 J J J (fun hg11=>?_) (fun hg11=>?_)
  .
   refine cl J (xg (p:=v.lo) (q:=v.hi) (by omega) (by omega)) J<|?_;exact rz J (by unfold ao.empty;simp_all [vB,fh])
  .
   exact rz J (by unfold ao.empty;simp_all [vB,fh])
 .
  exact rz J (by unfold ao.empty;simp_all [vB,fh])
instance ao.meet_lo (v w:ao) (i j:Nat) [h1:BQ v.lo i] [h3:BQ w.lo j]:BQ (v.meet w).lo (i+j):=by
 have a:=h1.mono (oN i j);have b:=h3.mono (Nat.le_add_left j i);unfold ao.meet;dsimp only;(repeat' split)<;>assumption
instance ao.meet_hi (v w:ao) (i j:Nat) [h1:BQ v.hi i] [h3:BQ w.hi j]:BQ (v.meet w).hi (i+j):=by
 have a:=h1.mono (oN i j);have b:=h3.mono (Nat.le_add_left j i);unfold ao.meet;dsimp only;(repeat' split)<;>assumption
def Rz{v:ao}[h1:BQ v.lo i][h2:BQ v.hi i][h3:BQ w.lo j][h4:BQ w.hi j](hi:i<=10000000:=by decide)(hj:j<=10000000:=by decide):PF GB prog 328 [eW v,eW w] (.tp [eW (v.meet w),vB (!(v.meet w).empty)]):=by
 refine fn (fu:=⟨16⟩) func328 J J ntmps328 J J (fun C=>?_);refine mg (fu:=⟨1⟩) (X:=Unit) (fun _=>[(6, .ov 6 0)]) (fun _=>[(6,some (.o 301 [.d (vI (dw (v.meet w).lo)), .d (vI (dx (v.meet w).lo)), .d (dm (v.meet w).lo), .d (vI (dw v.hi)), .d (vI (dx v.hi)), .d (dm v.hi), .d (.v (.bool (v.nl&&w.nl))), .d (.v (.bool (v.nh)))] true))]) (fun _=>True) [6] [6] rfl ?_ (fun _=>J) (fun _ _=>?_)
 .
  refine gx J<|?_;refine bb (v1:=fun hc8=>by simp only[aj];kernel_rfl) J J J (fun hc8=>?_) (fun hc8=>?_)
  .
   have em:(v.meet w).lo=w.lo:=by unfold ao.meet;simp_all
   have eb:(v.nl&&w.nl)=w.nl:=by simp_all
   exact at_ () trivial (hO:=⟨by rw[em,eb]<;>rfl,by repeat (first|exact trivial|refine And.intro J ?_)⟩)
  .
   refine bb J J J (fun hc17=>?_) (fun hc17=>?_)
   .
    refine cl J (aFa (p:=v.lo) (q:=w.lo) (by omega) (by omega)) J<|?_;have em:(v.meet w).lo=(if v.lo<w.lo then w.lo else v.lo):=by unfold ao.meet;simp_all
    have eb:(v.nl&&w.nl)=v.nl:=by simp_all
    exact at_ () trivial (hO:=⟨by rw[em,eb]<;>rfl,by repeat (first|exact trivial|refine And.intro J ?_)⟩)
   .
    have em:(v.meet w).lo=v.lo:=by unfold ao.meet;simp_all
    have eb:(v.nl&&w.nl)=v.nl:=by simp_all
    exact at_ () trivial (hO:=⟨by rw[em,eb]<;>rfl,by repeat (first|exact trivial|refine And.intro J ?_)⟩)
 .
  refine mg (X:=Unit) (fun _=>[(6, .ov 6 0)]) (fun _=>[(6,some (.o 301 [.d (vI (dw (v.meet w).lo)), .d (vI (dx (v.meet w).lo)), .d (dm (v.meet w).lo), .d (vI (dw (v.meet w).hi)), .d (vI (dx (v.meet w).hi)), .d (dm (v.meet w).hi), .d (.v (.bool (v.nl&&w.nl))), .d (.v (.bool (v.nh&&w.nh)))] true))]) (fun _=>True) [6] [6] rfl ?_ (fun _=>J) (fun _ _=>?_)
  .
   refine gx J<|?_;refine bb (v1:=fun hc27=>by simp only[aj];kernel_rfl) J J J (fun hc27=>?_) (fun hc27=>?_)
   .
    have em:(v.meet w).hi=w.hi:=by unfold ao.meet;simp_all
    have eb:(v.nh&&w.nh)=w.nh:=by simp_all
    exact at_ () trivial (hO:=⟨by rw[em,eb]<;>rfl,by repeat (first|exact trivial|refine And.intro J ?_)⟩)
   .
    refine bb J J J (fun hc36=>?_) (fun hc36=>?_)
    .
     refine cl J (K8 (p:=v.hi) (q:=w.hi) (by omega) (by omega)) J<|?_;have em:(v.meet w).hi=(if w.hi<v.hi then w.hi else v.hi):=by unfold ao.meet;simp_all
     have eb:(v.nh&&w.nh)=v.nh:=by simp_all
     exact at_ () trivial (hO:=⟨by rw[em,eb]<;>rfl,by repeat (first|exact trivial|refine And.intro J ?_)⟩)
    .
     have em:(v.meet w).hi=v.hi:=by unfold ao.meet;simp_all
     have eb:(v.nh&&w.nh)=v.nh:=by simp_all
     exact at_ () trivial (hO:=⟨by rw[em,eb]<;>rfl,by repeat (first|exact trivial|refine And.intro J ?_)⟩)
  .
   refine cl J (X0 (v:=v.meet w) (i:=i+j) (j:=i+j) (by omega) (by omega)) J<|?_;exact rz J J
theorem BQ.z1:BQ (0:Rat) 1:=⟨by decide,by decide⟩
def Ux{v:ao}[h1:BQ v.lo i][h2:BQ v.hi i][h3:BQ t j](hi:i<=10000000:=by decide)(hj:j<=9999999:=by decide):PF GB prog 328 [eW v, .ag [vI (dw t),vI (dx t),dm t,vI 0,vI 0, .v (.pointer none), .v (.bool false), .v (.bool true)]] (.tp [eW (v.meet ⟨t,0,false,true⟩),vB (!(v.meet ⟨t,0,false,true⟩).empty)]):=
 (Rz (v:=v) (w:=⟨t,0,false,true⟩) (j:=j+1) (h3:=h3.mono (by omega)) (h4:=BQ.z1.mono (by omega)) hi (by omega)).ofI fun G vs hv=>HJ (fun y hy=>by
  obtain⟨l,rfl,g⟩:=d9.1 hy;exact d9.2 ⟨l,J,HI [_,_,_] g⟩) hv
def azs{v:ao}[h1:BQ v.lo i][h2:BQ v.hi i][h3:BQ t j](hi:i<=10000000:=by decide)(hj:j<=9999999:=by decide):PF GB prog 328 [eW v, .ag [vI 0,vI 0, .v (.pointer none),vI (dw t),vI (dx t),dm t, .v (.bool true), .v (.bool false)]] (.tp [eW (v.meet ⟨0,t,true,false⟩),vB (!(v.meet ⟨0,t,true,false⟩).empty)]):=
 (Rz (v:=v) (w:=⟨0,t,true,false⟩) (j:=j+1) (h4:=h3.mono (by omega)) (h3:=BQ.z1.mono (by omega)) hi (by omega)).ofI fun G vs hv=>HJ (fun y hy=>by
  obtain⟨l,rfl,g⟩:=d9.1 hy;exact d9.2 ⟨l,J,DE g⟩) hv
instance BQ.cutK (l m:aa) [LB l] [LB m]:BQ (l.cutK m) 400:=BQ.mono (inferInstance:BQ (m.nor.dot l.dir) _)
instance BQ.cutC (l m:aa) [LB l] [LB m]:BQ (l.cutC m) 2500:=BQ.mono (inferInstance:BQ (m.value l.base) _)
def RB{v:ao}[hl:LB l][hm:LB m][h1:BQ v.lo i][h2:BQ v.hi i](hi:i<=10000000:=by decide):PF GB prog 273 [cO l,eW v,cO m] (.tp [eW (l.cutV v m),vB (l.cutB v m)]):=by
 refine fn func273 J J ntmps273 J J (fun C=>?_);refine cl J (wj (l:=m)) J<|cl J (ww (l:=l)) J<|cl J (vV (p:=m.nor) (q:=l.dir)) J<|cl J (On (l:=l)) J<|?_;refine cl J (Sy (l:=m) (p:=l.base)) J<|cl J (m8 (q:=l.cutK m)) J<|?_;refine br J J J (fun hc21=>?_) (fun hc21=>?_)
 .
  refine cl J (m8 (q:=l.cutC m)) J<|?_;exact rz J (by unfold aa.cutV aa.cutB;rw[if_pos hc21,if_pos hc21];rfl)
 .
  refine br J J J (fun hc27=>?_) (fun hc27=>?_)
  .
   refine cl J (Bm (p:=l.cutC m) (q:=l.cutK m)) J<|cl J (pI (q:=l.cutC m/l.cutK m)) J<|cl J (Ux (v:=v) (t:= -(l.cutC m/l.cutK m)) hi) J<|?_;exact rz J (by unfold aa.cutB aa.cutV;rw[if_neg hc21,if_neg hc21,if_pos hc27];rfl)
  .
   refine cl J (Bm (p:=l.cutC m) (q:=l.cutK m)) J<|cl J (pI (q:=l.cutC m/l.cutK m)) J<|cl J (azs (v:=v) (t:= -(l.cutC m/l.cutK m)) hi) J<|?_;exact rz J (by unfold aa.cutB aa.cutV;rw[if_neg hc21,if_neg hc21,if_neg hc27];rfl)
def Ta{v:ao}[h1:BQ v.lo i][h2:BQ v.hi i](hi:i<=10000000:=by decide):PF GB prog 283 [eW v] (eF v.sample):=by
 refine fn func283 J J ntmps283 J J (fun C=>?_);refine ja 6 J J J (fun hg6=>?_) (fun hg6=>?_)
 .
  refine bb J J J (fun hc3=>?_) (fun hc3=>?_)
  .
   exact jz J (by unfold ao.sample;rw[hg6,hc3];exact ES)
  .
   refine bb J J J (fun hc11=>?_) (fun hc11=>?_)
   .
    refine cl J (tn (m:=1)) J<|cl J (qE (p:=v.hi) (q:=((1:Int):Rat)) (by omega) (by decide)) J<|?_;exact rz J (by unfold ao.sample;simp_all [fh]<;>rfl)
   .
    refine bb J J J (fun hc18=>?_) (fun hc18=>?_)
    .
     refine cl J (tn (m:=1)) J<|cl J (sG (p:=v.lo) (q:=((1:Int):Rat)) (by omega) (by decide)) J<|?_;exact rz J (by unfold ao.sample;simp_all [fh]<;>rfl)
    .
     refine cl J (sG (p:=v.lo) (q:=v.hi) (by omega) (by omega)) J<|cl J (Ld (q:=v.lo+v.hi) (by omega)) J<|?_;exact rz J (by unfold ao.sample;simp_all [fh]<;>rfl)
 .
  refine bb J J J (fun hc11=>?_) (fun hc11=>?_)
  .
   refine cl J (tn (m:=1)) J<|cl J (qE (p:=v.hi) (q:=((1:Int):Rat)) (by omega) (by decide)) J<|?_;exact rz J (by unfold ao.sample;simp_all [fh]<;>rfl)
  .
   refine bb J J J (fun hc18=>?_) (fun hc18=>?_)
   .
    refine cl J (tn (m:=1)) J<|cl J (sG (p:=v.lo) (q:=((1:Int):Rat)) (by omega) (by decide)) J<|?_;exact rz J (by unfold ao.sample;simp_all [fh]<;>rfl)
   .
    refine cl J (sG (p:=v.lo) (q:=v.hi) (by omega) (by omega)) J<|cl J (Ld (q:=v.lo+v.hi) (by omega)) J<|?_;exact rz J (by unfold ao.sample;simp_all [fh]<;>rfl)
instance BQ.i1':BQ (1:Rat) 2:=⟨by decide,by decide⟩
instance BQ.i2':BQ (2:Rat) 2:=⟨by decide,by decide⟩
theorem LC{v:ao}[BQ v.lo i][BQ v.hi i]:BQ (lC v) (i+i+5):=by
 unfold lC;split
 .exact BQ.mono (k:=1) ⟨by decide,by decide⟩ (by omega)
 .split
  .exact BQ.mono (inferInstance:BQ (v.hi-1) _) (by omega)
  .split
   .exact BQ.mono (inferInstance:BQ (v.lo+1) _) (by omega)
   .exact BQ.mono (inferInstance:BQ ((v.lo+v.hi)/2) _) (by omega)
instance aG.at (l:aa) (t:Rat) (k:Nat) [LB l] [BQ t k]:aG (l.at t) (900+(k+97)+1):=by
 rw[<-yl];infer_instance
def TD{q:Rat}(h: ¬q.num.sign=0):q≠0:=fun e=>h ((pH q).2 e)
def iz(d:ah):ah:=⟨-d.y,d.x⟩
instance aG.turn (d:ah) (k:Nat) [aG d k]:aG (iz d) k:=⟨inferInstanceAs (BQ (-d.y) k),inferInstanceAs (BQ d.x k)⟩
def vw(p v:ah)(m:aa):Rat:= -(m.value p/(m.value (cD p v ((1:Int):Rat))-m.value p))
def tD(p v:ah)(m:aa)(s:Rat):Rat:=if(m.value (cD p v ((1:Int):Rat))-m.value p).num.sign=0 then s else if(m.value p).num.sign=0 then s else if 0<(vw p v m).num.sign then(if bA (vw p v m/2) s<0 then vw p v m/2 else s) else s
def r4(p v:ah):List aa->Rat->Rat
 |[],s=>s
 |m::t,s=>r4 p v t (tD p v m s)
def Dx(c:List aa)(p v:ah):ah:=cD p v (r4 p v c ((1:Int):Rat))
def Ci{c:List aa}{p v:ah}{s:Rat}(h:r4 p v (c.drop k) s=r)(hk:k<c.length)(hm:m=c[k])(e:tD p v m s=s'):r4 p v (c.drop (k+1)) s'=r:=by
 rw[bQ hk] at h;rw[<-h,r4,<-hm,e]
def Vn{c:List aa}{p v:ah}(hc: ∀m∈c,LB m)(hn:c.length<=1000)(hp:aG p 4500)(hv:aG v 97):PF GB prog 293 [.sl (c.map eL),eP p,eP v] (eP (Dx c p v)):=by
 have hcl:=wC c;refine fn func293 J J ntmps293 J J (fun C=>?_);refine cl (fu:=⟨9⟩) J (kl (n:=1)) J<|?_;refine ak 14 (.d (vI (c.length:Nat))) J (by rw[hcl];rfl) ?_;refine gx J<|?_;refine lp (X:=Rat×Nat) (fun⟨s,k⟩=>[(15, .d (vI (k:Nat))),(14, .d (vI (c.length:Nat))),(13, .d (.sl (c.map eL))),(4, .ov 4 0),(5, .ov 5 0),(7, .ov 7 0),(6, .ov 6 0)]) (fun⟨s,k⟩=>[(7,some (.o 34 [.d ((.v (.bool (decide (s.num<0))))), .d (dN s.num.natAbs), .d (dD s.den)] true)),(6,some (.o 36 [.ff, .nl, .nl, .ff, .nl, .nl] true)),(5,some (.o 36 [.d ((.v (.bool (decide (v.x.num<0))))), .d (dN v.x.num.natAbs), .d (dD v.x.den), .d ((.v (.bool (decide (v.y.num<0))))), .d (dN v.y.num.natAbs), .d (dD v.y.den)] true)),(4,some (.o 36 [.d ((.v (.bool (decide (p.x.num<0))))), .d (dN p.x.num.natAbs), .d (dD p.x.den), .d ((.v (.bool (decide (p.y.num<0))))), .d (dN p.y.num.natAbs), .d (dD p.y.den)] true))]) (fun⟨s,k⟩=>k<=c.length/\BQ s 60000/\r4 p v (c.drop k) s=r4 p v c ((1:Int):Rat)) (fun⟨s,k⟩=>c.length-k) ⟨((1:Int):Rat),0⟩ J ⟨bZ _,BQ.i1.mono (by decide),J⟩ (fun _=>J) (fun⟨s,k⟩ hk=>?_)
 try dsimp only at hk⊢
 obtain⟨hle,hsb,hns⟩:=hk;refine br J J J (fun hc16=>?_) (fun hc16=>?_)
 .
  have hk:k<c.length:=by omega
  obtain⟨m,hm⟩: ∃m,m=c[k]:=⟨_,rfl⟩;haveI hmb:LB m:=hm▸hc _ (cN hk);have hinv:=hsb;refine ix (fu:=⟨1⟩) _ J (wm hk) J<|?_;refine ak 18 (.d (eL m)) J (by rw[hm];rfl) ?_;refine gx J<|cl J (kl (n:=1)) J<|cl J (Ct (p:=p) (q:=v) (c:=((1:Int):Rat))) J<|cl J (CU (l:=m) (p:=cD p v ((1:Int):Rat))) J<|?_;refine cl J (CU (l:=m) (p:=p)) J<|cl J (tc (a:=m.value (cD p v ((1:Int):Rat))) (b:=m.value p)) J<|cl J (sH (q:=m.value (cD p v ((1:Int):Rat))-m.value p)) J<|?_;refine cs 32 J J J (fun hg32=>?_) (fun hg32=>?_)
  .
   exact at_ ⟨s,k+1⟩ (by dsimp only;exact⟨⟨by omega,hinv,(Ci hns hk hm (by unfold tD;rw[if_pos hg32]))⟩,(by omega)⟩)
  .
   refine cl J (Bx (l:=m) (p:=p)) J<|?_;refine br J J J (fun hc37=>?_) (fun hc37=>?_)
   .
    exact at_ ⟨s,k+1⟩ (by dsimp only;exact⟨⟨by omega,hinv,(Ci hns hk hm (by unfold tD;rw[if_neg hg32,if_pos hc37]))⟩,(by omega)⟩)
   .
    refine cl J (CU (l:=m) (p:=p)) J<|cl J (wA (a:=m.value p) (b:=m.value (cD p v ((1:Int):Rat))-m.value p) (TD hg32)) J<|?_;refine cl J (vD (q:=m.value p/(m.value (cD p v ((1:Int):Rat))-m.value p))) J<|cl (fu:=⟨0⟩) J (sH (q:= -(m.value p/(m.value (cD p v ((1:Int):Rat))-m.value p)))) J<|?_;refine jr (v2:=fun hg46=>by simp only[aj];exact⟨by kernel_rfl,by omega⟩) J J J J (fun hg46=>?_) (fun hg46=>?_)
    .
     refine cl J (GI (a:= -(m.value p/(m.value (cD p v ((1:Int):Rat))-m.value p)))) J<|cl J (mD (a:= -(m.value p/(m.value (cD p v ((1:Int):Rat))-m.value p))/2) (b:=s)) J<|?_;refine br J J J (fun hc53=>?_) (fun hc53=>?_)
     .
      obtain⟨t,ht⟩: ∃t,t= -(m.value p/(m.value (cD p v ((1:Int):Rat))-m.value p)):=⟨_,rfl⟩;haveI htb:BQ t 45000:=ht▸BQ.mono inferInstance;have hinv:BQ (t/2) 60000:=BQ.mono inferInstance;rw[<-ht];refine cl J (GI (a:=t)) J<|?_;exact at_ ⟨t/2,k+1⟩ (by dsimp only;exact⟨⟨by omega,hinv,(Ci hns hk hm (by unfold tD;rw[if_neg hg32,if_neg hc37,show vw p v m=t from ht.symm,if_pos (by rw[ht];exact hg46),if_pos (by rw[ht];exact hc53)]))⟩,(by omega)⟩)
     .
      exact at_ ⟨s,k+1⟩ (by dsimp only;exact⟨⟨by omega,hinv,(Ci hns hk hm (by unfold tD;rw[if_neg hg32,if_neg hc37,if_pos (show 0<(vw p v m).num.sign from hg46),if_neg (show¬bA (vw p v m/2) s<0 from hc53)]))⟩,(by omega)⟩)
    .
     exact at_ ⟨s,k+1⟩ (by dsimp only;exact⟨⟨by omega,hinv,(Ci hns hk hm (by unfold tD;rw[if_neg hg32,if_neg hc37,if_neg (show¬0<(vw p v m).num.sign from hg46)]))⟩,(by omega)⟩)
 .
  refine cl J (Ct (p:=p) (q:=v) (c:=s)) J<|?_;exact rz J (by unfold Dx;rw[<-hns,jJ (by omega)];rfl)
def kH(c:List aa):List aa->ah
 |[]=>⟨0,0⟩
 |m::t=>if(gj m c ao.all).2=true then Dx c (m.at (lC (gj m c ao.all).1)) (iz m.dir) else kH c t
def as6{c:List aa}(h:kH c (c.drop k)=kH c c)(hk:k<c.length)(hm:m=c[k])(e:(gj m c ao.all).2=true):kH c c=Dx c (m.at (lC (gj m c ao.all).1)) (iz m.dir):=by
 rw[<-h,bQ hk,kH,<-hm,if_pos e]
def avK{c:List aa}(h:kH c (c.drop k)=kH c c)(hk:k<c.length)(hm:m=c[k])(e: ¬(gj m c ao.all).2=true):kH c (c.drop (k+1))=kH c c:=by
 rw[<-h,bQ hk,kH,<-hm,if_neg e]
def atT{c:List aa}(h:m∈c)(h2:(gc m c ao.all).isSome=true):mA c=true:=by
 unfold mA;rw[iT,jS];exact .inr ⟨m,h,h2⟩
def YR{c:List aa}(h:c=[]):mA c=true:=by subst h;rfl
def axw{c:List aa}(h:c≠[])(h2: ∀m∈c,(gc m c ao.all).isSome=false):mA c=false:=by
 rw[<-jL];unfold mA;rw[iT,jS,List.isEmpty_iff];rintro (e|⟨m,h3,h4⟩)
 .exact h e
 .rw[h2 m h3] at h4;exact absurd h4 (by decide)
def IM:eP ⟨0,0⟩= .ag [.v (.bool false), .sl [], .sl [], .v (.bool false), .sl [], .sl []]:=by
 unfold eP dD;simp only[show(0:Rat).num=0 from J,show(0:Rat).den=1 from J,lW,qv];rfl
def Iz{c:List aa}(hc: ∀m∈c,LB m)(hok: ∀m∈c,m.ok)(hn:c.length<=1000):PF GB prog 219 [.sl (c.map eL)] (.tp [eP (kH c c),vB (mA c)]):=by
 have hcl:=wC c;refine fn func219 J J ntmps219 J J (fun C=>?_);refine br (fu2:=⟨7⟩) J J J (fun hc11=>?_) (fun hc11=>?_)
 .
  exact rz J (by rw[bM (l:=c) (by omega),YR J];show _=DV.tp [eP ⟨0,0⟩,_];rw[IM];rfl)
 .
  refine ak 14 (.d (vI (c.length:Nat))) J (by rw[hcl];rfl) ?_;refine gx J<|?_;refine lp (X:=Nat) (fun k=>[(15, .d (vI (k:Nat))),(14, .d (vI (c.length:Nat))),(13, .d (.sl (c.map eL))),(0, .d (.sl (c.map eL))),(2, .ov 2 0)]) (fun k=>[(2,some (.o 36 [.ff, .nl, .nl, .ff, .nl, .nl] true))]) (fun k=>k<=c.length/\(∀m∈c.take k,(gc m c ao.all).isSome=false)/\kH c (c.drop k)=kH c c) (fun k=>c.length-k) 0 J ⟨bZ _,fun m hm=>absurd hm (by simp),J⟩ (fun _=>J) (fun k hk=>?_);obtain⟨hle,hno,hip⟩:=hk;refine br J J J (fun hc16=>?_) (fun hc16=>?_)
  .
   have hk:k<c.length:=by omega
   obtain⟨m,hm⟩: ∃m,m=c[k]:=⟨_,rfl⟩;haveI hmb:LB m:=hm▸hc _ (cN hk);have hmo:m.ok:=hm▸hok _ (cN hk);refine ix (fu:=⟨1⟩) _ J (wm hk) J<|?_;refine ak 19 (.d (eL m)) J (by rw[hm];rfl) ?_;refine gx J<|cl (fu:=⟨0⟩) J (MT hc hok hn hk) J<|?_;refine ak 23 (.d (.tp [eV (gj m c ao.all).1,vB (gj m c ao.all).2])) J (by rw[hm]) ?_;refine gx J<|?_;refine bb J J J (fun hc26=>?_) (fun hc26=>?_)
   .
    have hbd:=DO (v:=ao.all) hmo.ne hc il.all (BQ.mono (k:=1) ⟨by decide,by decide⟩) (BQ.mono (k:=1) ⟨by decide,by decide⟩);obtain⟨s,hs⟩: ∃s,s=(gj m c ao.all).1:=⟨_,rfl⟩;rw[<-hs] at hbd;haveI:=hbd.1;haveI:=hbd.2;haveI hsb:=LC (v:=s) (i:=1200);have hpt:aG (m.at (lC s)) 4500:=by have:=aG.at m (lC s) (1200+1200+5);exact⟨this.x.mono (by decide),this.y.mono (by decide)⟩
    have hin:mA c=true:=atT (hm▸cN hk) (by rw[<-xq];exact hc26);have hpn:=as6 hip hk hm hc26;rw[<-hs] at hpn⊢;refine cl J (u6 (l:=m)) J<|cl J (WM (v:=s)) J<|cl J (Tj (l:=m) (t:=lC s) hmo.ne) J<|cl J (vD (q:=m.dir.y)) J<|?_;refine cl J (Vn (p:=m.at (lC s)) (v:=iz m.dir) hc hn (hpt) inferInstance) J<|?_;exact rz J (by rw[hin,hpn];rfl)
   .
    exact at_ (k+1) ⟨⟨by omega,YD hno hk (by rw[<-hm,<-xq];exact hc26),avK hip hk hm (by rw[hc26];decide)⟩,(by omega)⟩
  .
   exact rz J (by rw[axw (fun e=>hc11 (by rw[e];rfl)) (fun m hm=>hno m (by rw[aM (by omega)];exact hm)),<-hip,jJ (by omega)];show _=DV.tp [eP ⟨0,0⟩,_];rw[IM];rfl)
def VQ(h:i<es.length):(es.map vI)[(i:Int).toNat]? =some (vI (es.getD i 0)):=by simp[h]
def N'(h:i<es.length:=by omega):pC (es.drop i)=if es.getD i 0≠0 then es.getD i 0 else pC (es.drop (i+1)):=by
 rw[bQ h,pC,aK,aZ h];rfl
def XW(hn:es.length<=1000000):PF GB prog 365 [.sl (es.map vI)] (vI (pC es)):=by
 have hel:(es.map vI).length=es.length:=by simp
 refine fn (fu:=⟨15⟩) func365 J J ntmps365 J J (fun C=>?_);refine ak 7 (.d (vI (es.length:Nat))) J (by rw[hel]<;>rfl) ?_;refine gx J<|?_;refine lp (X:=Nat) (fun i=>[(8, .d (vI (i:Nat)))]) (fun i=>[]) (fun i=>i<=es.length/\pC es=pC (es.drop i)) (fun i=>es.length-i) 0 J ⟨bZ _,J⟩ (fun _=>J) (fun i hk=>?_);obtain⟨h1,h2⟩:=hk;refine br J J J (fun hc9=>?_) (fun hc9=>?_)
 .
  refine ix _ J (VQ (by omega)) J<|?_;refine br J J J (fun hc14=>?_) (fun hc14=>?_)
  .
   exact rz J (by rw[h2,N',if_pos hc14];rfl)
  .
   exact at_ (i+1) ⟨⟨by omega,by rw[h2,N',if_neg hc14]⟩,(by omega)⟩
 .
  exact rz J (by rw[h2,iV (by omega)];rfl)
def JD(l m:aa):Int:=pC [bA l.a m.a,bA l.b m.b,bA l.c m.c]
def ZA(l m:aa):JD l m=0↔l=m:=by
 unfold JD pC pC pC pC;have ha:=vx (l.a:Rat) m.a;have hb:=vx (l.b:Rat) m.b;have hc:=vx (l.c:Rat) m.c;rw[pS] at ha hb hc;constructor
 .intro h
  repeat' (split at h<;>try contradiction)
  all_goals exact aa.ext'
 .rintro rfl
  rw[if_neg (by simp[ha.2 J]),if_neg (by simp[hb.2 J]),if_neg (by simp[hc.2 J])]
def ZL[hl:LB l][hm:LB m]:PF GB prog 347 [cO l,cO m] (vI (JD l m)):=by
 refine fn func347 J J ntmps347 J J (fun C=>?_);refine cl J (xg (p:=(l.a:Rat)) (q:=(m.a:Rat))) J<|cl J (xg (p:=(l.b:Rat)) (q:=(m.b:Rat))) J<|cl J (xg (p:=(l.c:Rat)) (q:=(m.c:Rat))) J<|?_;refine rf J J<|cl J (XW (es:=[bA l.a m.a,bA l.b m.b,bA l.c m.c]) (nb J)) J<|?_;exact rz J J
def Wi[hl:LB l][hm:LB m]:PF GB prog 325 [cO l,cO m] (vB (decide (l=m))):=by
 refine fn func325 J J ntmps325 J J (fun C=>?_);refine cl J (ZL (l:=l) (m:=m)) J<|?_;exact rz J (by show DV.v (.bool (decide _))= .v (.bool _);congr 2;exact decide_eq_decide.2 (ZA l m))
def T'[hl:LB l]:PF GB prog 345 [cO l] (cO l.rev):=by
 refine fn func345 J J ntmps345 J J (fun C=>?_);refine cl J (pI (q:=(l.a:Rat))) J<|cl J (pI (q:=(l.b:Rat))) J<|cl J (pI (q:=(l.c:Rat))) J<|?_;exact rz J (by unfold cO aa.rev;simp only[jQ];rfl)
def VF[hl:LB l]:PF GB prog 190 [cO l] (eL l):=by
 refine fn func190 J J ntmps190 J J (fun C=>?_);refine cl J (tO (q:=(l.a:Rat))) J<|cl J (tO (q:=(l.b:Rat))) J<|cl J (tO (q:=(l.c:Rat))) J<|?_;exact rz J J
def Pk{p:ah}[hp:aG p i](hi:i<=10000000:=by decide):PF GB prog 330 [eZ p] (vI p.half):=by
 refine fn func330 J J ntmps330 J J (fun C=>?_);refine cl J (m8 (q:=p.y) (by omega)) J<|?_;refine cs 10 J J J (fun hg10=>?_) (fun hg10=>?_)
 .
  exact rz J (by unfold ah.half;(repeat' split)<;>first|rfl|(exfalso;omega))
 .
  refine cs 13 J J J (fun hg13=>?_) (fun hg13=>?_)
  .
   refine cl J (m8 (q:=p.x) (by omega)) J<|?_;refine br J J J (fun hc7=>?_) (fun hc7=>?_)
   .
    exact rz J (by unfold ah.half;(repeat' split)<;>first|rfl|(exfalso;omega))
   .
    refine cs 23 J J J (fun hg23=>?_) (fun hg23=>?_)
    .
     exact rz J (by unfold ah.half;(repeat' split)<;>first|rfl|(exfalso;omega))
    .
     refine cl J (m8 (q:=p.x) (by omega)) J<|?_;refine br J J J (fun hc20=>?_) (fun hc20=>?_)
     .
      exact rz J (by unfold ah.half;(repeat' split)<;>first|rfl|(exfalso;omega))
     .
      exact rz J (by unfold ah.half;(repeat' split)<;>first|rfl|(exfalso;omega))
  .
   refine cs 23 J J J (fun hg23=>?_) (fun hg23=>?_)
   .
    exact rz J (by unfold ah.half;(repeat' split)<;>first|rfl|(exfalso;omega))
   .
    refine cl J (m8 (q:=p.x) (by omega)) J<|?_;refine br J J J (fun hc20=>?_) (fun hc20=>?_)
    .
     exact rz J (by unfold ah.half;(repeat' split)<;>first|rfl|(exfalso;omega))
    .
     exact rz J (by unfold ah.half;(repeat' split)<;>first|rfl|(exfalso;omega))
def XB{v:ah}[hp:aG u i][hq:aG v j](hi:i<=10000000:=by decide)(hj:j<=10000000:=by decide):PF GB prog 276 [eZ u,eZ v] (vI (gi u v)):=by
 refine fn func276 J J ntmps276 J J (fun C=>?_);refine cl J (Pk (p:=u) hi) J<|cl J (Pk (p:=v) hj) J<|?_;refine br J J J (fun hc11=>?_) (fun hc11=>?_)
 .
  exact rz J (by unfold gi;rw[if_pos hc11];rfl)
 .
  refine br J J J (fun hc15=>?_) (fun hc15=>?_)
  .
   exact rz J (by unfold gi;rw[if_neg hc11,if_pos hc15];rfl)
  .
   refine cl J (D5 (p:=u) (q:=v) (by omega) (by omega)) J<|cl (fu:=⟨0⟩) J (m8 (q:=u.cross v) (by omega)) J<|?_;have hs:=Int.sign_trichotomy (u.cross v).num;refine gx J<|?_;exact rz J (by unfold gi;rw[if_neg hc11,if_neg hc15];rfl)
def aFB{m:Int}:dC (dg m.natAbs)/\(decide (m<0)=true->0<(dg m.natAbs).length):=⟨(eg _).2.2,fun h=>by
 have:0<m.natAbs:=by have:=of_decide_eq_true h;omega
 exact wh.2 this⟩
def r9{m:Int}[h:BI m i](hi:i<=1000000000:=by decide):PF GB prog 266 [eI m] (.v (.bool true)):=(O7 (neg:=decide (m<0)) (ds:=dg m.natAbs) (eg _).2.1 (by have:=nA (a:=m.natAbs) hi;omega)).to (by unfold vB;rw[decide_eq_true aFB])
def QR(h:l.ok):rgcd (rgcd (l.a:Rat) (l.b:Rat)) (l.c:Rat)=((1:Int):Rat):=by
 rw[Cg,Cg];have:=h.2;simp only[fU];rw[this];rfl
instance BQ.rgcd (p q:Rat) (i j:Nat) [h:BQ p i] [k:BQ q j]:BQ (rgcd p q) (i+j+(i+j)):=by
 unfold Sx.rgcd;refine A4 (jW (nj p) (nj q)) ?_ ?_
 .rw[fU]
  have h1:=qb h.hn k.hd;have h2:=qb k.hn h.hd;rw[kR j i] at h2;exact Iq h1 h2
 .have h1:=qb h.hd k.hd
  have:2^(i+j)<=2^(i+j+(i+j)):=bR (by decide) (by omega);omega
def aGd[hl:LB l](ho:l.ok):PF GB prog 193 [eL l] (.tp [cO l,vB true]):=by
 refine fn func193 J J ntmps193 J J (fun C=>?_);refine cl (fu:=⟨0⟩) J (r9 (m:=l.a)) J<|cd J J J<|cl (fu:=⟨0⟩) J (r9 (m:=l.b)) J<|cd J J J<|cl (fu:=⟨0⟩) J (r9 (m:=l.c)) J<|?_;refine cd J J J<|cl J (ux (m:=l.a)) J<|cl J (ux (m:=l.b)) J<|cl J (ux (m:=l.c)) J<|cl (fu:=⟨0⟩) J (uB (q:=(l.a:Rat))) J<|?_;refine jr (fu2:=⟨4⟩) J J J J (fun hg35=>?_) (fun hg35=>?_)
 .
  have ha:l.a=0:=cX.1 hg35;refine cl (fu:=⟨1⟩) J (uB (q:=(l.b:Rat))) J<|cd J (by first|rfl|(show some (decide _)=some false;rw[decide_eq_false (fun e=>ho.1 ⟨ha,cX.1 e⟩)])) J<|?_;refine cl J (pE (p:=(l.a:Rat)) (q:=(l.b:Rat))) J<|cl J (pE (p:=rgcd l.a l.b) (q:=(l.c:Rat))) J<|cl J (tn (m:=1)) J<|?_;refine cl (fu:=⟨0⟩) J (x9 (p:=rgcd (rgcd l.a l.b) l.c) (q:=((1:Int):Rat))) J<|cd J (by show some (!decide _)=some false;rw[QR ho,decide_eq_true J];rfl) J<|?_;exact rz J J
 .
  refine cd J (by first|rfl|(show some (decide _)=some false;rw[decide_eq_false (fun e=>ho.1 ⟨ha,cX.1 e⟩)])) J<|cl J (pE (p:=(l.a:Rat)) (q:=(l.b:Rat))) J<|?_;refine cl J (pE (p:=rgcd l.a l.b) (q:=(l.c:Rat))) J<|cl J (tn (m:=1)) J<|cl (fu:=⟨0⟩) J (x9 (p:=rgcd (rgcd l.a l.b) l.c) (q:=((1:Int):Rat))) J<|?_;refine cd J (by show some (!decide _)=some false;rw[QR ho,decide_eq_true J];rfl) J<|?_;exact rz J J
def c7(f:bz):DV:= .ag [vI (dw (f.l.a:Rat)),vI (dx (f.l.a:Rat)),dm (f.l.a:Rat),vI (dw (f.l.b:Rat)),vI (dx (f.l.b:Rat)),dm (f.l.b:Rat),vI (dw (f.l.c:Rat)),vI (dx (f.l.c:Rat)),dm (f.l.c:Rat),vI (dw f.v.lo),vI (dx f.v.lo),dm f.v.lo,vI (dw f.v.hi),vI (dx f.v.hi),dm f.v.hi, .v (.bool f.v.nl), .v (.bool f.v.nh)]
structure ti (v:ao):Prop where
 z:il v
 lo:BQ v.lo 1200
 hi:BQ v.hi 1200
structure Od (s:bz):Prop where
 lb:LB s.l
 ok:s.l.ok
 v:ti s.v
abbrev ek (c:ar):Prop:= ∀s∈c,Od s
def uh(f:α->DV)(l:List α):(l.map f).length=l.length:=by simp
def ti.all:ti ao.all:=⟨⟨fun _=>J,fun _=>J⟩,BQ.z1.mono (by decide),BQ.z1.mono (by decide)⟩
def ti.cut{v:ao}[LB l][LB m](hn:l.Ne)(h:ti v):ti (l.cutV v m):=by
 by_cases h0:crossI l m=0
 .rw[(Bl (v:=v) h0).1];exact h
 .obtain⟨u1,_,u3,u4,u5⟩:=GK (v:=v) hn h.z h.lo h.hi h0
  rw[u1];exact⟨u3,u4,u5⟩
def IN(o:Option ao):ao:=o.getD ⟨0,0,false,false⟩
def Xv(G:Gh)(y:Value)(k:Is G (.tp [.ag [vI 0,vI 0, .v (.pointer none),vI 0,vI 0, .v (.pointer none), .v (.bool false), .v (.bool false)], .v (.bool false)]) y):Is G (.tp [eW (IN none),vB false]) y:=by
 obtain⟨m,rfl,g⟩:=jj.1 k;exact jj.2 ⟨m,J,Pj (fun y hy=>by
  obtain⟨l,rfl,g⟩:=d9.1 hy;exact d9.2 ⟨l,J,DE (HI [vI 0,vI 0, .v (.pointer none)] g)⟩) g⟩
def cH{f:α->DV}{l:List α}{s:α}(h:l[i]? =some s):(l.map f)[(i:Int).toNat]? =some (f s):=by simp[h]
def Di{l:List α}{s:α}(h:l[k]? =some s):l.drop k=s::l.drop (k+1):=by
 obtain⟨h1,h2⟩:=aY.1 h;rw[bQ h1,h2]
def N8{c:ar}{v:ao}(h:c[k]? =some s):ot l (c.drop k) v=if l.cutB v s.l then ot l (c.drop (k+1)) (l.cutV v s.l) else none:=by
 rw[Di h];rfl
def Jb{c:ar}(h:c[k]? =some s):oI l (c.drop k)=if ou l s≠0 then ou l s else if s.l=l then 1 else oI l (c.drop (k+1)):=by
 rw[Di h];rfl
instance BQ.sample (v:ao) [h1:BQ v.lo 1200] [h2:BQ v.hi 1200]:BQ v.sample 2500:=by
 unfold ao.sample;split
 .exact BQ.mono (k:=1) ⟨by decide,by decide⟩
 .split
  .exact BQ.mono (inferInstance:BQ (v.hi-((1:Int):Rat)) _)
  .split
   .exact BQ.mono (inferInstance:BQ (v.lo+((1:Int):Rat)) _)
   .exact BQ.mono (inferInstance:BQ ((v.lo+v.hi)*mkRat 1 2) _)
def OS{c:ar}[hl:LB l](hlo:l.ok)(hc:ek c)(hn:c.length<=1000000):PF GB prog 271 [.sl (c.map c7),cO l] (.tp [eW (IN (kw c l)),vB (kw c l).isSome]):=by
 have hm:=uh c7 c;refine fn func271 J J ntmps271 J J (fun C=>?_);refine cl (fu:=⟨10⟩) J aIZ J<|?_;refine ak 12 (.d (vI (c.length:Nat))) J (by rw[uh]<;>rfl) ?_;refine gx J<|?_;refine lp (X:=ao×Nat) (fun⟨v,k⟩=>[(13, .d (vI (k:Nat))),(6, .ov 6 0)]) (fun⟨v,k⟩=>[(6,some (.o 301 [.d (vI (dw v.lo)), .d (vI (dx v.lo)), .d (dm v.lo), .d (vI (dw v.hi)), .d (vI (dx v.hi)), .d (dm v.hi), .d (.v (.bool v.nl)), .d (.v (.bool v.nh))] true))]) (fun⟨v,k⟩=>k<=c.length/\ti v/\ot l (c.drop k) v=kw c l) (fun⟨v,k⟩=>c.length-k) (ao.all,0) J ⟨bZ _, .all,J⟩ (fun _=>J) (fun⟨v,k⟩ hk=>?_);dsimp only at hk⊢;obtain⟨h1,h2,h3⟩:=hk;haveI:=h2.lo;haveI:=h2.hi;refine br J J J (fun hc14=>?_) (fun hc14=>?_)
 .
  obtain⟨s,hs0⟩: ∃s,c[k]? =some s:=⟨_,aZ (by omega)⟩;have hs:=hc s (aV hs0);haveI:=hs.lb;refine ix _ J (cH hs0) J<|cl (fu:=⟨0⟩) J (RB (l:=l) (m:=s.l) (v:=v)) J<|?_;generalize hw:l.cutV v s.l=w;generalize hb:l.cutB v s.l=b;refine gx J<|?_;refine bb J J J (fun hc26=>?_) (fun hc26=>?_)
  .
   exact jz J (by rw[<-h3,N8 hs0,hb,if_neg (by simpa using hc26)];exact Xv)
  .
   exact at_ (w,k+1) (by dsimp only;exact⟨⟨by omega,hw▸h2.cut hlo.1,by rw[<-h3,N8 hs0,hb,hw,if_pos (by simpa using hc26)]⟩,(by omega)⟩)
 .
  exact rz J (by rw[<-h3,iV (by omega)];rfl)
def aDx{c:ar}[hl:LB l](hlo:l.ok)(hc:ek c)(hn:c.length<=1000000):PF GB prog 272 [.sl (c.map c7),cO l] (vI (wD c l)):=by
 have hm:=uh c7 c;refine fn func272 J J ntmps272 J J (fun C=>?_);refine cl J (OS (c:=c) (l:=l) hlo hc hn) J<|?_;refine bb (fu2:=⟨7⟩) J J J (fun hc16=>?_) (fun hc16=>?_)
 .
  exact rz J (by unfold wD;rw[if_pos hc16];rfl)
 .
  have hp:wD c l=oI l c:=by unfold wD;rw[if_neg (by simp[hc16])]
  refine ak 18 (.d (vI (c.length:Nat))) J (by rw[uh]<;>rfl) ?_;refine gx J<|?_;refine lp (X:=Nat) (fun k=>[(19, .d (vI (k:Nat)))]) (fun k=>[]) (fun k=>k<=c.length/\oI l (c.drop k)=oI l c) (fun k=>c.length-k) 0 J ⟨bZ _,J⟩ (fun _=>J) (fun k hk=>?_);obtain⟨h1,h2⟩:=hk;refine br J J J (fun hc20=>?_) (fun hc20=>?_)
  .
   obtain⟨s,hs0⟩: ∃s,c[k]? =some s:=⟨_,aZ (by omega)⟩;have hs:=hc s (aV hs0);haveI:=hs.lb;haveI:=hs.v.lo;haveI:=hs.v.hi;haveI:=BQ.sample s.v;refine ix _ J (cH hs0) J<|cl (fu:=⟨0⟩) J (Ta (v:=s.v)) J<|?_;generalize ht:s.v.sample=t at*;refine gx J<|cl J (R6 (l:=s.l) (t:=t)) J<|cl J (aBw (l:=l) (p:=s.l.at t)) J<|?_;refine br J J J (fun hc32=>?_) (fun hc32=>?_)
   .
    have hsd:ou l s=(l.value (s.l.at t)).num.sign:=by unfold ou;rw[ht]
    exact rz J (by rw[hp,<-h2,Jb hs0,hsd,if_pos hc32];rfl)
   .
    refine cl J (Wi (l:=s.l) (m:=l)) J<|?_;refine bd J J J (fun hc37=>?_) (fun hc37=>?_)
    .
     have hsd:ou l s=(l.value (s.l.at t)).num.sign:=by unfold ou;rw[ht]
     exact rz J (by rw[hp,<-h2,Jb hs0,hsd,if_neg hc32,if_pos hc37];rfl)
    .
     have hsd:ou l s=(l.value (s.l.at t)).num.sign:=by unfold ou;rw[ht]
     exact at_ (k+1) ⟨⟨by omega,by rw[<-h2,Jb hs0,hsd,if_neg hc32,if_neg hc37]⟩,(by omega)⟩
  .
   exact rz J (by rw[hp,<-h2,iV (by omega)];rfl)
def ZD(h: ∀v∈vs,(aE v).length=17)(hi:i<=vs.length):cw (aF vs++rest) (i*17) ((vs.length-i)*17)=some (aF (vs.drop i)):=by
 have hl:=eG vs h;have hd:(aF (vs.drop i)).length=(vs.length-i)*17:=by
  rw[eG (s:=17) _ (fun v hv=>h v (gN hv)),gL]
 rw[l8 _ _ _ (by simp only[aU];omega)];congr 1;rw[kN (by omega),Eh vs i h hi,gW (by omega),aM (by omega)]
def asR(h: ∀v∈vs,(aE v).length=17)(hv:vcs.length=17)(hi:i<vs.length)(hr:17<=rest.length):
  cA (cA (aF vs++rest) ((i+1)*17) (aF (vs.drop i))) (i*17) vcs=aF (vs.take i)++vcs++aF (vs.drop i)++rest.drop 17:=by
 have hl:=eG vs h;have hd:(aF (vs.drop i)).length=(vs.length-i)*17:=by
  rw[eG (s:=17) _ (fun v hv=>h v (gN hv)),gL]
 have ht:(aF (vs.take i)).length=i*17:=by
  rw[eG (s:=17) _ (fun v hv=>h v (fN hv)),cR,iN (by omega)]
 rw[q9 (aF (vs.drop i)) (aF vs++rest) _ (by rw[aU];omega)];rw[q9 vcs _ _ (by simp only[aU,cR,gL];omega)];have e1:(aF vs++rest).drop ((i+1)*17+(aF (vs.drop i)).length)=rest.drop 17:=by
  rw[hd,show(i+1)*17+(vs.length-i)*17=(aF vs).length+17 by omega,nJ,jJ (by omega),jN];congr 1;omega
 have e2:((aF vs++rest).take ((i+1)*17)++aF (vs.drop i)++rest.drop 17).take (i*17)=aF (vs.take i):=by
  rw[dW,gW (by simp only[cR,aU];omega),List.take_take,iN (by omega),gW (by omega),H8 vs i h (by omega)]
 have e3:((aF vs++rest).take ((i+1)*17)++aF (vs.drop i)++rest.drop 17).drop (i*17+vcs.length)=aF (vs.drop i)++rest.drop 17:=by
  rw[hv,dW,show i*17+17=((aF vs++rest).take ((i+1)*17)).length by simp only[cR,aU];omega,List.drop_left]
 rw[e1,e2,e3];simp[dW]
def WN(h: ∀v∈vs,(aE v).length=17)(hv:vcs.length=17)(hr:17<=rest.length):cA (aF vs++rest) (vs.length*17) vcs=aF vs++vcs++rest.drop 17:=by
 have hl:=eG vs h;rw[q9 _ _ _ (by simp only[aU];omega),hv,<-hl,List.take_left,nJ];simp
def am1{b:Nat}{lo lo2:Bool}(hvs: ∀v∈vs,(aE v).length=17)(hfl: ∀v∈vs,∀c∈aE v,flat c=true)(hv:vcs.length=17)(hvf: ∀c∈vcs,flat c=true)
  (hcap:vs.length*17+rest.length=cap*17)(hroom:vs.length+1<=cap)(hi:i<=vs.length)(hb:vs.length<=1125899906842624):
  iE prog 278 [.slice (some ⟨b,0,none⟩) vs.length cap, .int .i64 i, .slice (some ⟨bv,0,none⟩) 1 c2] [⟨b,aF vs++rest,303,lo⟩,⟨bv,vcs++r2,303,lo2⟩] G
   (fun u css _=>u= .slice (some ⟨b,0,none⟩) (vs.length+1) cap/\css=[aF (vs.take i)++vcs++aF (vs.drop i)++rest.drop 17,vcs++r2]):=by
 have hL:(aF vs++rest).length=cap*17:=by rw[aU,eG vs hvs];exact hcap
 have hr:17<=rest.length:=by omega
 have hD:(aF (vs.drop i)).length=(vs.length-i)*17:=by
  rw[eG (s:=17) _ (fun v hv=>hvs v (gN hv)),gL]
 have hDf: ∀c∈aF (vs.drop i),flat c=true:=fun c hc=>by
  obtain⟨l,hl,hcl⟩:=List.mem_flatten.1 hc;obtain⟨v,hv,rfl⟩:=aT.1 hl;exact hfl v (gN hv) c hcl
 have hvt:cw (vcs++r2) 0 (1*17)=some vcs:=by rw[l8 _ _ _ (by rw[aU];omega),jV,gW (by omega),aM (by omega)]
 refine iE.intro func278 J J ntmps278 J ?_;intro C _ _;show St C _ _ [⟨b,aF vs++rest,303,false⟩,⟨bv,vcs++r2,303,false⟩] _ _;refine axP (fun hne=>?_);simp only[] at hne;refine sR<|sa J J<|zE<|sR<|sm J J<|sm J J<|sy (Ki J J) J<|zE<|sR<|?_;refine sm J J<|cB J J<|sa J J<|zE<|bi<|sR<|sm J J<|sy (fk J J) J<|zE<|mP J<|?_;refine zK<|sR<|sm J J<|cB J J<|sa J J<|zE<|bi<|sR<|sm J J<|sm J J<|sy (fk J J) J<|zE<|?_;refine fq J (fun hc=>?_) (fun hc=>?_) -- slot 22
 .have hin:i=vs.length:=by omega
  subst hin;refine sR<|sm J J<|sm J J<|?_;refine sc (LP (s:=17) (m:=1) (ys:=vcs) J J (.hd ..) hL (xk inferInstance hvt) (by omega) hvf hroom J ?_);refine sa J J<|zE<|cg<|?_;refine lj (css:=[cA (aF vs++rest) (vs.length*17) vcs,vcs++r2]) (.tmp J .nil) J _ (List.Perm.refl _) (List.Sublist.refl _) ⟨J,?_⟩;rw[WN hvs hv hr,dQ,gQ];simp[aF]
 have hin:i<vs.length:=by omega
 have hn1:((vs.length:Int)+((1:Nat):Int)).toNat=vs.length+1:=by omega
 have ht1:((i:Int)+((1:Nat):Int)).toNat=i+1:=by omega
 refine zK<|bi<|sR<|sm J J<|sm J J<|sy (dt J J) J<|sm J J<|?_;refine sy (aFE J) J<|sy (q7 J J) J<|zE<|?_;refine fq J (fun hc2=>?_) (fun hc2=>?_) -- slot 31
 .exact absurd hc2 (by omega)
 refine zK<|sR<|sm J J<|sm J J<|sm J J<|sy (dt J J) J<|sy (yg J J) J<|?_;rw[hn1];refine sa J J<|zE<|bi<|sR<|sm J J<|sm J J<|sm J J<|sm J J<|sy (dt J J) J<|sy (EA J J) J<|?_;refine sy (apZ (tS:=193) (tR:=4) func331 (by kernel_rfl) (by kernel_rfl) (by kernel_rfl) (by kernel_rfl) J J (Ne.symm hne) (fun h=>by rw[h] at hL;simp at hL;omega)) J<|?_;refine sy (ph J) J<|zE<|js J<|?_;refine bi<|Zg (b:=b) (fun _=>false) [(0,true),(1,true),(2,true),(3,true),(4,true),(5,true),(6,true),(7,true),(8,false)] follows (.hd ..) (by kernel_rfl)<|dM J J J<|?_;refine dM J J J<|dM J J J<|dy J (fun _=>dt J J (by omega) (by omega)) J J<|dy J (fun _=>EA J J) J J<|?_;refine dM J J J<|dM J J J<|dy J (fun _=>EA J J) J J<|?_;rw[ht1,aR,eJ,eJ];refine dc J J (Oq (s:=17) (m:=vs.length-i) (ys:=aF (vs.drop i)) J J (by show min _ _=_;omega) (xk inferInstance (ZD hvs hi)) hDf (by rw[hD,hL];omega) (.hd ..) J ?_);refine kP<|dn<|sR<|sm J J<|sm J J<|sy (EA J J) J<|sm J J<|?_;rw[aR,eJ];refine sc (Oq (s:=17) (m:=1) (ys:=vcs) J J (by show min _ _=_;omega) (xk inferInstance hvt) hvf (by rw[Bw,hL,hv];omega) (.hd ..) J ?_);refine zE<|sR<|sm J J<|sa J J<|zE<|cg<|?_;refine lj (css:=[cA (cA (aF vs++rest) ((i+1)*17) (aF (vs.drop i))) (i*17) vcs,vcs++r2]) (.tmp J .nil) J _ (List.Perm.refl _) (List.Sublist.refl _) ⟨J,?_⟩;rw[asR hvs hv hin hr]
def iE.toO{P:Program}{f:FuncId}{M:List av}{K:Value->List (List Value)->Gh->Prop}{K':Value->List av->Gh->Prop}(h:iE P f vs M G K)(hk: ∀v css G',bI G G'->css.length=M.length->K v css G'-> ∃o,o.Sublist (lh (asB M) css)/\K' v o G'):iu P f vs M G K':=
 ⟨h.able,fun w hw=>(h.run w hw).mono fun _ _ ⟨v,css,G',he,hl,hh,hK⟩=>let⟨o,h1,h2⟩:=hk v css G' hh.gle hl hK;⟨v,o,G',he,hh.drop h1,h2⟩⟩
def SE(c:ar):cP 17 (c.map c7):=fun d hd=>by
 obtain⟨f,_,rfl⟩:=aT.1 hd;exact⟨rfl,rfl⟩
def ME{s:Nat}{ds:List DV}(hk:cP s ds)(h:IsLs G ds vs): ∀v∈vs,∀c∈aE v,flat c=true:=fun v hv=>by
 obtain⟨d,hd,h3⟩:=h.all v hv;exact(h3.cells (hk d hd).1).2
def TL{c:ar}{x:bz}(hi:i<=c.length)(hc:c.length+1<=cap)(hn:c.length<=1000000):PI GB prog 278 (i:Nat) 17 303 303 (c.map c7) (c7 x) cap ((c.take i++x::c.drop i).map c7):=by
 intro G w w2 B B2 _ hB hcap hB2;obtain⟨vs,q1,q2,q3,_⟩:=hB;obtain⟨us,u1,u2,u3,_⟩:=hB2;dsimp only at q1 q2 q3 u1 u2 u3;have hl:=q2.len;rw[aX] at hl;obtain⟨v,m,rfl,hv,hm⟩:=aI.1 u2
 cases dE.1 hm
 rcases q1 with⟨_,e,_⟩|⟨b,rest,lo,e,rfl,h5,h6,h7⟩
 .rw[e] at hcap;simp at hcap;omega
 rcases u1 with⟨h,_⟩|⟨bv,r2,lo2,e2,rfl,h8,h9,h10⟩
 .cases h
 have hx:(aE v).length=17:=u3 v aQ;have hxf:=ME (s:=17) (ds:=[c7 x]) (fun d hd=>by rw[aS.1 hd];exact⟨J,J⟩) u2 v aQ;have key:=am1 (G:=G) (b:=b) (bv:=bv) (cap:=w.c) (i:=i) (c2:=w2.c) (vs:=vs) (rest:=rest) (vcs:=aE v) (r2:=r2) (lo:=lo) (lo2:=lo2) q3 (ME (SE c) q2) hx hxf (by rw[<-h5];exact h6) (by omega) (by omega) (by omega);rw[e,e2];rw[wT];refine key.toO fun u css G' hg hl2 ⟨k1,k2⟩=>?_;subst k1 k2;have hall: ∀u∈vs.take i++v::vs.drop i,(aE u).length=17:=fun u hu=>by
  rcases bW.1 hu with hu|hu
  .exact q3 u (fN hu)
  .rcases aW.1 hu with rfl|hu
   .exact hx
   .exact q3 u (gN hu)
 have hlen:(vs.take i++v::vs.drop i).length=vs.length+1:=by
  rw[aU,bJ,cR,gL];omega
 refine⟨[⟨b,aF (vs.take i)++aE v++aF (vs.drop i)++rest.drop 17,303,false⟩], .cons_cons _ (fM _),⟨some ⟨b,0,none⟩,vs.length+1,w.c⟩,J,vs.take i++v::vs.drop i, .inr ⟨b,rest.drop 17,false,by rw[hlen],?_,eG _ hall,?_,?_⟩,?_,hall,fun h=>by cases h⟩
 .rw[qp];simp[aF]
 .rw[eG _ hall,hlen,gL]
  rw[h5] at h6;have:=bL 17 (show vs.length+1<=w.c by omega);simp only[dJ] at this⊢;omega
 .rw[hlen];show vs.length+1<=w.c;omega
 .rw[bV,bT,iL,jZ]
  exact((q2.take i).up hg).app (.cons (hv.up hg) ((q2.drop i).up hg))
def P5[hs:LB s.l][hl:LB l]:PF GB prog 275 [c7 s,cO l] (vI (gi s.l.dir l.dir)):=by
 refine fn func275 J J ntmps275 J J (fun C=>?_);refine cl J (ww (l:=s.l)) J<|cl J (ww (l:=l)) J<|cl J (XB (u:=s.l.dir) (v:=l.dir)) J<|?_;exact rz J J
def B4(c:ar)(l:aa)(i:Nat):Bool:=match c[i]? with
 |some s=>decide (gi s.l.dir l.dir=0)
 |none=>false
def Zb(i j:Nat):((i:Int)+(j:Int)).fdiv (2^min (1:Int).toNat IntKind.u64.bits)=((i+j)/2:Nat):=by
 rw[show(2:Int)^min (1:Int).toNat IntKind.u64.bits=((2:Nat):Int) from J,iW _ (by decide)];omega
def Wy{c:ar}(h:c[k]? =some s):ji c l k=decide (gi s.l.dir l.dir<0):=by unfold ji;rw[h]
def U8{c:ar}(h:c[k]? =some s):B4 c l k=decide (gi s.l.dir l.dir=0):=by unfold B4;rw[h]
def aHV{c:ar}(h: ¬k<c.length):B4 c l k=false:=by unfold B4;rw[dY (by omega)]
def U4{p:Nat->Bool}(h:i<j)(hp:p ((i+j)/2)=true):f8 p i j=f8 p ((i+j)/2+1) j:=by rw[f8,dif_pos h,if_pos hp]
def aI2{p:Nat->Bool}(h:i<j)(hp: ¬p ((i+j)/2)=true):f8 p i j=f8 p i ((i+j)/2):=by rw[f8,dif_pos h,if_neg hp]
def OI{p:Nat->Bool}(h: ¬i<j:=by omega):f8 p i j=i:=by rw[f8,dif_neg h]
def aIq{c:ar}[hl:LB l](hc:ek c)(hn:c.length<=1000000):PF GB prog 274 [.sl (c.map c7),cO l, .v (.func (.func 275) #[] #[])] (.tp [vI (f8 (ji c l) 0 c.length:Nat),vB (B4 c l (f8 (ji c l) 0 c.length))]):=by
 have hm:=uh c7 c;refine fn (fu:=⟨11⟩) func274 J J ntmps274 J J (fun C=>?_);refine ak 13 (.d (vI (c.length:Nat))) J (by rw[hm]<;>rfl) ?_;refine gx J<|?_;refine lp (X:=Nat×Nat) (fun⟨i,j⟩=>[(9, .d (vI (i:Nat))),(10, .d (vI (j:Nat)))]) (fun⟨i,j⟩=>[]) (fun⟨i,j⟩=>i<=j/\j<=c.length/\f8 (ji c l) i j=f8 (ji c l) 0 c.length) (fun⟨i,j⟩=>j-i) (0,c.length) J ⟨bZ _,bX _,J⟩ (fun _=>J) (fun⟨i,j⟩ hk=>?_);dsimp only at hk⊢;obtain⟨h1,h2,h3⟩:=hk;refine br (fu1:=⟨10⟩) (fu2:=⟨11⟩) J J J (fun hc17=>?_) (fun hc17=>?_)
 .
  obtain⟨s,hs0⟩: ∃s,c[(i+j)/2]? =some s:=⟨_,aZ (by omega)⟩;haveI:=(hc s (aV hs0)).lb;have hang:=Wy (l:=l) hs0;refine ak 22 (.d (.v (.int .u64 ((i+j)/2:Nat)))) J (by rw[Zb]) ?_;refine gx J<|ix _ J (cH hs0) J<|cl J (P5 (s:=s) (l:=l)) J<|?_;refine br J J J (fun hc31=>?_) (fun hc31=>?_)
  .
   exact at_ ((i+j)/2+1,j) (by dsimp only;exact⟨⟨by omega,h2,by rw[<-h3,U4 (i:=i) (j:=j) (by omega) (by rw[hang];exact decide_eq_true hc31)]⟩,(by omega)⟩)
  .
   exact at_ (i,(i+j)/2) (by dsimp only;exact⟨⟨by omega,by omega,by rw[<-h3,aI2 (i:=i) (j:=j) (by omega) (by rw[hang,decide_eq_false hc31];exact Bool.false_ne_true)]⟩,(by omega)⟩)
 .
  refine jr (v2:=fun hg39=>by simp only[aj];kernel_rfl) J J J J (fun hg39=>?_) (fun hg39=>?_)
  .
   have he:=OI (p:=ji c l) (i:=i) (j:=j);obtain⟨s,hs0⟩: ∃s,c[i]? =some s:=⟨_,aZ (by omega)⟩;haveI:=(hc s (aV hs0)).lb;refine ix _ J (cH hs0) J<|cl J (P5 (s:=s) (l:=l)) J<|?_;exact rz J (by rw[<-h3,he,U8 hs0];rfl)
  .
   have he:=OI (p:=ji c l) (i:=i) (j:=j);exact rz J (by rw[<-h3,he,aHV (by omega)];rfl)
def Oi{l:aa}[LB l](hlo:l.ok): ∀{c:ar} {v w:ao},ek c->ti v->ot l c v=some w->ti w
 |[],v,w,_,hv,h=>by cases h;exact hv
 |s::t,v,w,hc,hv,h=>by
  haveI:=(hc s aQ).lb;simp only[ot] at h;split at h
  .exact Oi hlo (fun x hx=>hc x (aJ _ hx)) (hv.cut hlo.1) h
  .cases h
def C6{l:aa}[LB l]: ∀{c:ar},ek c->ek (d6 l c)
 |[],_,s,h=>by cases h
 |a::t,hc,s,h=>by
  have ha:=hc a aQ;haveI:=ha.lb;have ht:=C6 (l:=l) (fun x hx=>hc x (aJ _ hx));unfold d6 at h;split at h
  .rcases aW.1 h with rfl|h
   .exact⟨ha.lb,ha.ok,ha.v.cut ha.ok.1⟩
   .exact ht s h
  .exact ht s h
def si[hl:LB l](hlo:l.ok){c:ar}(hc:ek c):ek (bC c l):=by
 unfold bC;split
 .rename_i v hv
  intro s hs;unfold l5 at hs;rcases bW.1 hs with h|h
  .exact C6 hc s (fN h)
  .rcases aW.1 h with rfl|h
   .exact⟨hl,hlo,Oi hlo hc .all hv⟩
   .exact C6 hc s (gN h)
 .exact hc
def NW{c:ar}(h:c[k]? =some s):d6 l (c.drop k)=if s.l.cutB s.v l then⟨s.l,s.l.cutV s.v l⟩::d6 l (c.drop (k+1)) else d6 l (c.drop (k+1)):=by
 rw[Di h];rfl
def F5{c:ar}[hl:LB l](hlo:l.ok)(hc:ek c)(hn:c.length<=100000):PF GB prog 194 [.sl (c.map c7),cO l] (.tp [.sl ((bC c l).map c7),vB (co c l)]):=by
 have hm:=uh c7 c;refine fn func194 J J ntmps194 J J (fun C=>?_);refine cl J (OS (c:=c) (l:=l) hlo hc (by omega)) J<|?_;refine bb (fu2:=⟨6⟩) J J J (fun hc22=>?_) (fun hc22=>?_)
 .
  have hp:kw c l=none:=by simpa using hc22
  refine cl J (aDx (c:=c) (l:=l) hlo hc (by omega)) J<|?_;exact rz J (by unfold bC co;rw[hp];rfl)
 .
  obtain⟨v,hv⟩: ∃v,kw c l=some v:=rX.1 (by simpa using hc22);have hvd:IN (kw c l)=v:=by rw[hv];rfl
  rw[hvd];refine ak 29 (.d (vI (c.length:Nat))) J (by rw[hm]<;>rfl) ?_;refine gx J<|mkc (fu:=⟨8⟩) (c.length+1) J J J<|?_;refine ak 33 (.d (vI (c.length:Nat))) J (by rw[hm]<;>rfl) ?_;refine gx J<|?_;refine lp (X:=ar×Nat) (fun⟨o,k⟩=>[(34, .d (vI (k:Nat))),(8, .rw 31)]) (fun⟨o,k⟩=>[(31,some (.c 303 17 (o.map c7) (c.length+1)))]) (fun⟨o,k⟩=>k<=c.length/\o.length<=k/\o++d6 l (c.drop k)=d6 l c) (fun⟨o,k⟩=>c.length-k) ([],0) J ⟨bZ _,bX _,J⟩ (fun _=>J) (fun⟨o,k⟩ hk=>?_);dsimp only at hk⊢;obtain⟨h1,h2,h3⟩:=hk;have hmo:=uh c7 o;refine br J J J (fun hc35=>?_) (fun hc35=>?_)
  .
   obtain⟨s,hs0⟩: ∃s,c[k]? =some s:=⟨_,aZ (by omega)⟩;have hs:=hc s (aV hs0);haveI:=hs.lb;haveI:=hs.v.lo;haveI:=hs.v.hi;refine ix _ J (cH hs0) J<|cl (fu:=⟨0⟩) J (RB (l:=s.l) (m:=l) (v:=s.v)) J<|?_;generalize hw:s.l.cutV s.v l=w;generalize hb:s.l.cutB s.v l=b;refine gx J<|?_;refine bb J J J (fun hc47=>?_) (fun hc47=>?_)
   .
    refine rf J J<|apc ((o++[bz.mk s.l w]).map c7) J (by rw[bV];rfl) (SE [bz.mk s.l w]) (by rw[hmo];simp;omega) J<|?_;refine fH 54 31 J ?_;exact at_ (o++[bz.mk s.l w],k+1) (by dsimp only;exact⟨⟨by omega,by simp;omega,by rw[<-h3,NW hs0,hb,if_pos hc47,hw,dW];rfl⟩,(by omega)⟩)
   .
    exact at_ (o,k+1) (by dsimp only;exact⟨⟨by omega,by omega,by rw[<-h3,NW hs0,hb,if_neg (by simp[hc47])]⟩,(by omega)⟩)
  .
   obtain rfl:k=c.length:=by omega
   have ho:o=d6 l c:=by rw[<-h3,gQ];simp[d6]
   subst ho;have hbl:=(DP (ji (d6 l c) l) (d6 l c).length 0 (d6 l c).length (by omega) (by omega)).2;refine cL J (aIq (c:=d6 l c) (l:=l) (C6 hc) (by omega)) J J<|ro J J<|ci ((l5 (d6 l c) l v).map c7) J (TL (c:=d6 l c) (x:=⟨l,v⟩) (i:=f8 (ji (d6 l c) l) 0 (d6 l c).length) (cap:=c.length+1) hbl (by omega) (by omega)) J J<|?_;refine ir 68 J ?_;exact rz J (by unfold bC co;rw[hv];rfl)
def HN{c:ar}[hl:LB l](hlo:l.ok)(hc:ek c)(hn:c.length<=100000:=by omega):PF GB prog 314 [.sl (c.map c7),cO l] (.tp [.sl ((bC c l).map c7), .sl ((bC c l.rev).map c7),vB (co c l),vB (co c l.rev)]):=by
 refine fn func314 J J ntmps314 J J (fun C=>?_);refine cl J (F5 (c:=c) (l:=l) hlo hc hn) J<|cl J (T' (l:=l)) J<|cl J (F5 (c:=c) (l:=l.rev) hlo.rev hc hn) J<|?_;exact rz J J
end Go.Sx
end
