/- Part 12 of a proof. -/
import Derived.Test.YtopfgminkdfpkaaGreatDoorMk11
set_option linter.unusedSimpArgs false
set_option maxHeartbeats 2000000
set_option maxRecDepth 100000
set_option linter.unusedVariables false
section
namespace Go.Sx
open Go Go.Proofs Tryz
variable {GB:Gh}
structure LS (l:LnQ):Prop where
 ok:l.ok
 a:l.a.natAbs≤4
 b:l.b.natAbs≤4
 c:l.c.natAbs≤40000
theorem LS.bl{l:LnQ}(h:LS l):BL l 96:=⟨by have:=h.a;omega,by have:=h.b;omega,by have:=h.c;omega⟩
theorem an1{a b:Int}(h:decide (a<0)=decide (b<0)):decide (a.natAbs=b.natAbs)=decide (a=b):=by
 have h':a<0↔b<0:=by simpa using h
 exact decide_eq_decide.2 ⟨fun e=>by omega,fun e=>by rw[e]⟩
theorem LnQ.ext'{l m:LnQ}(h1:l.a=m.a)(h2:l.b=m.b)(h3:l.c=m.c):l=m:=by cases l;cases m;simp_all
instance:DecidableEq NQ:=fun x y=>decidable_of_iff (x.l=y.l∧x.a=y.a∧x.b=y.b) (by
 cases x;cases y;simp)
theorem NQ.ext'{n m:NQ}(h1:n.l=m.l)(h2:n.a=m.a)(h3:n.b=m.b):n=m:=by cases n;cases m;simp_all
theorem agf(ls:List LnQ):aef 6 (ls.map eL):=fun d hd=>by
 obtain⟨n,_,rfl⟩:=bM.1 hd;exact⟨rfl,rfl⟩
theorem auW{a b:Nat}(hl:(dg a).length=(dg b).length)(h: ∀j,j<(dg a).length→(dg a).getD j 0=(dg b).getD j 0):a=b:=by
 have e:dg a=dg b:=by
  apply List.ext_getElem hl
  intro i h1 h2
  have:=h i h1
  rw[aK,aK,aJ h1,aJ h2] at this
  exact this
 rw[←aaQ a,e,aaQ]
theorem ajf{z:Int}:PF GB prog 88 [eI z] (eQ (z:Rat)):=by
 refine fn func88 J J ntmps88 J J (fun C=>?_)
 exact rz rfl (by rw[alI];rfl)
theorem atg{l:LnQ}:PF GB prog 107 [eL l] (eL l.rev):=by
 refine fn func107 J J ntmps107 J J (fun C=>?_)
 refine cl rfl agT rfl<|cl rfl agT rfl<|cl rfl agT rfl<|?_
 exact rz J J
theorem auA{a b i j:Nat}[ha:BN a i][hb:BN b j](hi:i≤400000000:=by decide):PF GB prog 127 [dN a,dN b] (vB (decide (a=b))):=by
 have hla:=aax (dg a)
 have hlb:=aax (dg b)
 have hba:=aa3 ha.h
 refine fn func127 J J ntmps127 J J (fun C=>?_)
 refine br (fu2:=⟨7⟩) J J J (fun hc10=>?_) (fun hc10=>?_)
 ·
  exact rz rfl (by rw[decide_eq_false (fun e:a=b=>hc10 (by rw[e]))];rfl)
 ·
  refine eqF 12 (.d (vI ((dg a).length:Nat))) rfl (by rw[hla];rfl) ?_
  refine gx rfl<|?_
  refine lp (X:=Nat) (fun i=>[(13, .d (vI (i:Nat))),(12, .d (vI ((dg a).length:Nat))),(0, .d (dN a)),(1, .d (dN b))]) (fun i=>[]) (fun i=>i≤(dg a).length∧ ∀j,j<i→(dg a).getD j 0=(dg b).getD j 0) (fun i=>(dg a).length-i) 0 rfl ⟨cX _,fun j hj=>absurd hj (by omega)⟩ (fun _=>rfl) (fun i hk=>?_)
  obtain⟨h1,h2⟩:=hk
  refine br J J J (fun hc14=>?_) (fun hc14=>?_)
  ·
   refine ix _ rfl (aa4 (by omega)) rfl<|ix _ rfl (aa4 (by omega)) rfl<|?_
   refine br J J J (fun hc24=>?_) (fun hc24=>?_)
   ·
    exact rz rfl (by rw[decide_eq_false (fun e:a=b=>hc24 (by rw[e]))];rfl)
   ·
    exact at_ (i+1) ⟨⟨by omega,fun j hj=>by by_cases q:j=i;(subst q;omega);exact h2 j (by omega)⟩,(by omega)⟩
  ·
   exact rz rfl (by rw[decide_eq_true (auW (by omega) (fun j hj=>h2 j (by omega)))];rfl)
theorem akM{a b:Int}{i j:Nat}[ha:BI a i][hb:BI b j](hi:i≤400000000:=by decide):PF GB prog 126 [eI a,eI b] (vB (decide (a=b))):=by
 refine fn (fu:=⟨14⟩) func126 J J ntmps126 J J (fun C=>?_)
 refine eqF 9 (.d (.v (.bool (decide (decide (a<0)=decide (b<0)))))) rfl (by congr 2) ?_
 refine gx rfl<|?_
 refine csd 10 J J J (fun hg10=>?_) (fun hg10=>?_)
 ·
  refine cl rfl (auA (by omega)) rfl<|?_
  exact rz rfl (by show DV.v (.bool _)=DV.v (.bool _);rw[←an1 hg10])
 ·
  exact rz rfl (by rw[decide_eq_false (fun e:a=b=>hg10 (by rw[e]))];rfl)
theorem avS{l m:LnQ}(hl:BL l 96)(hm:BL m 96):PF GB prog 68 [eL l,eL m] (vB (decide (l=m))):=by
 haveI h1:BI l.a 96:=⟨hl.a⟩
 haveI h2:BI l.b 96:=⟨hl.b⟩
 haveI h3:BI l.c 96:=⟨hl.c⟩
 haveI k1:BI m.a 96:=⟨hm.a⟩
 haveI k2:BI m.b 96:=⟨hm.b⟩
 haveI k3:BI m.c 96:=⟨hm.c⟩
 refine fn func68 J J ntmps68 J J (fun C=>?_)
 refine cl rfl (akM (a:=l.a) (b:=m.a)) rfl<|?_
 refine csd 10 J J J (fun hg10=>?_) (fun hg10=>?_)
 ·
  refine cl rfl (akM (by omega)) rfl<|?_
  refine csd 17 J J J (fun hg17=>?_) (fun hg17=>?_)
  ·
   refine cl rfl (akM (by omega)) rfl<|?_
   exact rz rfl (by show DV.v (.bool _)=DV.v (.bool _);rw[decide_eq_decide.2 ⟨fun e=>LnQ.ext' hg10 hg17 e,fun e=>by rw[e]⟩])
  ·
   exact rz rfl (by rw[decide_eq_false (fun e:l=m=>hg17 (by rw[e]))];rfl)
 ·
  exact rz rfl (by rw[decide_eq_false (fun e:l=m=>hg10 (by rw[e]))];rfl)
class LB (l:LnQ):Prop where bl:BL l 96
instance LB.a (l:LnQ) [h:LB l]:BI l.a 96:=⟨h.bl.a⟩
instance LB.b (l:LnQ) [h:LB l]:BI l.b 96:=⟨h.bl.b⟩
instance LB.c (l:LnQ) [h:LB l]:BI l.c 96:=⟨h.bl.c⟩
class BPt (p:PtQ) (k:outParam Nat):Prop where
 x:BQ p.x k
 y:BQ p.y k
instance BPt.ix (p:PtQ) (k:Nat) [h:BPt p k]:BQ p.x k:=h.x
instance BPt.iy (p:PtQ) (k:Nat) [h:BPt p k]:BQ p.y k:=h.y
instance BPt.dir (l:LnQ) [LB l]:BPt l.dir 97:=⟨inferInstanceAs (BQ (l.b:Rat) 97),inferInstanceAs (BQ (-(l.a:Rat)) 97)⟩
instance BQ.dot (p q:PtQ) (i j:Nat) [BPt p i] [BPt q j]:BQ (p.dot q) (i+j+(i+j)+1):=inferInstanceAs (BQ (p.x*q.x+p.y*q.y) _)
instance BQ.cross (p q:PtQ) (i j:Nat) [BPt p i] [BPt q j]:BQ (p.cross q) (i+j+(i+j)+1):=inferInstanceAs (BQ (p.x*q.y-p.y*q.x) _)
instance BPt.mov (p q:PtQ) (c:Rat) (i j k:Nat) [BPt p i] [BPt q j] [BQ c k]:BPt (aeS p q c) (i+(k+j)+1):=⟨inferInstanceAs (BQ (p.x+c*q.x) _),inferInstanceAs (BQ (p.y+c*q.y) _)⟩
instance BQ.value (l:LnQ) (p:PtQ) (i:Nat) [LB l] [BPt p i]:BQ (l.value p) (96+1+i+(96+1+i)+1+(96+1)+1):=inferInstanceAs (BQ ((l.a:Rat)*p.x+(l.b:Rat)*p.y+(l.c:Rat)) _)
theorem azk{l:LnQ}(h:l.Ne):l.dir.dot l.dir≠0:=by have:=alx h;grind
theorem awt{l:LnQ}:PF GB prog 128 [eL l] (eP l.dir):=by
 refine fn func128 J J ntmps128 J J (fun C=>?_)
 refine cl rfl ajf rfl<|cl rfl ajf rfl<|cl rfl aoV rfl<|?_
 exact rz J J
theorem azC{p q:PtQ}{i j:Nat}[hp:BPt p i][hq:BPt q j](hi:i≤200000:=by decide)(hj:j≤200000:=by decide):PF GB prog 159 [eP p,eP q] (eQ (p.dot q)):=by
 refine fn func159 J J ntmps159 J J (fun C=>?_)
 refine cl rfl (abH (by omega) (by omega)) rfl<|cl rfl (abH (by omega) (by omega)) rfl<|cl rfl (ake (by omega) (by omega)) rfl<|?_
 exact rz J J
theorem atD{p q:PtQ}{c:Rat}{i j k:Nat}[hp:BPt p i][hq:BPt q j][hc:BQ c k](hi:i≤200000:=by decide)(hj:j≤200000:=by decide)(hk:k≤200000:=by decide):PF GB prog 100 [eP p,eQ c,eP q] (eP (aeS p q c)):=by
 refine fn func100 J J ntmps100 J J (fun C=>?_)
 refine cl rfl (abH (by omega) (by omega)) rfl<|cl rfl (ake (by omega) (by omega)) rfl<|cl rfl (abH (by omega) (by omega)) rfl<|cl rfl (ake (by omega) (by omega)) rfl<|?_
 exact rz J J
theorem axb{l:LnQ}[hl:LB l](hn:l.Ne):PF GB prog 81 [eL l] (eP l.base):=by
 refine fn func81 J J ntmps81 J J (fun C=>?_)
 refine cl rfl awt rfl<|cl rfl (ajf (z:=l.c)) rfl<|cl rfl azC rfl<|cl rfl (aqj (azk hn)) rfl<|cl rfl aoV rfl<|cl rfl (ajf (z:=l.a)) rfl<|?_
 refine cl rfl abH rfl<|cl rfl (ajf (z:=l.b)) rfl<|cl rfl abH rfl<|?_
 exact rz rfl (by rw[←amC];rfl)
instance BPt.base (l:LnQ) [LB l]:BPt l.base 900:=by
 rw[←amC]
 constructor
 ·exact BQ.mono (inferInstance:BQ (-((l.c:Rat)/l.dir.dot l.dir)*(l.a:Rat)) _) (by decide)
 ·exact BQ.mono (inferInstance:BQ (-((l.c:Rat)/l.dir.dot l.dir)*(l.b:Rat)) _) (by decide)
theorem aBR{l:LnQ}{t:Rat}{k:Nat}[hl:LB l][ht:BQ t k](hn:l.Ne)(hk:k≤200000:=by decide):PF GB prog 72 [eL l,eQ t] (eP (l.at t)):=by
 refine fn func72 J J ntmps72 J J (fun C=>?_)
 refine cl rfl (axb hn) rfl<|cl rfl awt rfl<|cl rfl (atD (by decide) (by decide) hk) rfl<|?_
 exact rz rfl (by rw[←atj];rfl)
instance BI.crossI (l m:LnQ) [LB l] [LB m]:BI (crossI l m) 385:=inferInstanceAs (BI (l.a*m.b-m.a*l.b) 385)
instance BI.meetX (l m:LnQ) [LB l] [LB m]:BI (meetX l m) 385:=inferInstanceAs (BI (l.b*m.c-m.b*l.c) 385)
instance BI.meetY (l m:LnQ) [LB l] [LB m]:BI (meetY l m) 385:=inferInstanceAs (BI (m.a*l.c-l.a*m.c) 385)
instance BPt.imeet (l m:LnQ) [LB l] [LB m]:BPt (acF l m) 772:=by
 unfold acF
 split
 ·exact⟨BQ.mono (k:=1) ⟨by decide,by decide⟩ (by decide),BQ.mono (k:=1) ⟨by decide,by decide⟩ (by decide)⟩
 ·exact⟨inferInstanceAs (BQ ((meetX l m:Rat)/(crossI l m:Rat)) 772),inferInstanceAs (BQ ((meetY l m:Rat)/(crossI l m:Rat)) 772)⟩
theorem ah8(l m:LnQ):(((l.a:Rat)*(m.b:Rat)-(m.a:Rat)*(l.b:Rat)).num.sign=0)↔crossI l m=0:=by
 rw[abO,←ado]
 exact cR
theorem ame{l m:LnQ}(h:crossI l m≠0):(l.a:Rat)*(m.b:Rat)-(m.a:Rat)*(l.b:Rat)≠0:=by
 rw[←ado]
 exact fun e=>h (cR.1 e)
theorem aw3{l m:LnQ}[hl:LB l][hm:LB m]:PF GB prog 71 [eL l,eL m] (.tp [eP (acF l m),vB (decide (crossI l m≠0))]):=by
 refine fn func71 J J ntmps71 J J (fun C=>?_)
 refine cl rfl (ajf (z:=l.a)) rfl<|cl rfl (ajf (z:=m.b)) rfl<|cl rfl abH rfl<|cl rfl (ajf (z:=m.a)) rfl<|cl rfl (ajf (z:=l.b)) rfl<|?_
 refine cl rfl abH rfl<|cl rfl asx rfl<|cl rfl q_S rfl<|?_
 refine br J J J (fun hc26=>?_) (fun hc26=>?_)
 ·
  have hcr:=(ah8 l m).1 hc26
  exact rz rfl (by unfold acF;rw[if_pos hcr,decide_eq_false (fun e=>e hcr)];show DV.tp [.ag [_, .sl [], .sl [],_, .sl [], .sl []],_]= .tp [eP ⟨0,0⟩,_];unfold eP dD;simp only[show(0:Rat).num=0 from rfl,show(0:Rat).den=1 from rfl,Int.natAbs_zero,air];rfl)
 ·
  have hcr:crossI l m≠0:=fun e=>hc26 ((ah8 l m).2 e)
  refine cl rfl (ajf (z:=l.b)) rfl<|cl rfl (ajf (z:=m.c)) rfl<|cl rfl abH rfl<|cl rfl (ajf (z:=m.b)) rfl<|cl rfl (ajf (z:=l.c)) rfl<|?_
  refine cl rfl abH rfl<|cl rfl asx rfl<|cl rfl (ajf (z:=m.a)) rfl<|cl rfl (ajf (z:=l.c)) rfl<|cl rfl abH rfl<|cl rfl (ajf (z:=l.a)) rfl<|?_
  refine cl rfl (ajf (z:=m.c)) rfl<|cl rfl abH rfl<|cl rfl asx rfl<|cl rfl (aqj (ame hcr)) rfl<|cl rfl (aqj (ame hcr)) rfl<|?_
  exact rz rfl (by unfold acF;rw[if_neg hcr,decide_eq_true hcr,ahD,ahT,ado];rfl)
def agz(l m:LnQ):Int:=if(l.a-m.a).sign≠0 then(l.a-m.a).sign else if(l.b-m.b).sign≠0 then(l.b-m.b).sign else(l.c-m.c).sign
theorem apk{l m:LnQ}[hl:LB l][hm:LB m]:PF GB prog 90 [eL l,eL m] (vI (agz l m)):=by
 refine fn func90 J J ntmps90 J J (fun C=>?_)
 refine cl rfl (afM (a:=l.a) (b:=m.a)) rfl<|?_
 refine br J J J (fun hc13=>?_) (fun hc13=>?_)
 ·
  exact rz rfl (by show vI _=_;unfold agz;rw[if_pos hc13])
 ·
  refine cl rfl (afM (a:=l.b) (b:=m.b)) rfl<|?_
  refine br J J J (fun hc21=>?_) (fun hc21=>?_)
  ·
   exact rz rfl (by show vI _=_;unfold agz;rw[if_neg hc13,if_pos hc21])
  ·
   refine cl rfl (afM (a:=l.c) (b:=m.c)) rfl<|?_
   exact rz rfl (by show vI _=_;unfold agz;rw[if_neg hc13,if_neg hc21])
instance BQ.i1:BQ (((1:Int):Rat)) 2:=⟨by decide,by decide⟩
def eV(v:IvQ):DV:= .ag [.v (.bool (decide (v.lo.num<0))),dN v.lo.num.natAbs,dD v.lo.den, .v (.bool (decide (v.hi.num<0))),dN v.hi.num.natAbs,dD v.hi.den, .v (.bool v.nl), .v (.bool v.nh)]
def auK(v:IvQ):Rat:=if v.nl=true∧v.nh=true then 0 else if v.nl=true then v.hi-1 else if v.nh=true then v.lo+1 else(v.lo+v.hi)/2
theorem BQ.of_fracI{q:Rat}{n D:Int}{i:Nat}(hd:0<D.natAbs)(h:q*((D.natAbs:Nat):Rat)=(n:Rat))(hn:BI n i)(hD:BI D i):BQ q i:=BQ.of_frac hd h hn.h hD.h
theorem ati{m:Int}{i j:Nat}(h:BI m i)(hij:i≤j):BI m j:=⟨cJ h.h (aL (by decide) hij)⟩
theorem aqW{l m:LnQ}[LB l][LB m](hn:l.Ne)(h:crossI l m≠0):BQ (acC l (acF l m)) 1200:=by
 have e:=am6 hn h
 have hA:BI (crossI l m*(l.a*l.a+l.b*l.b)) _:=inferInstance
 have hB:BI (meetX l m*l.b-meetY l m*l.a) _:=inferInstance
 have hne:crossI l m*(l.a*l.a+l.b*l.b)≠0:=by
  intro q
  rcases qZ.1 q with q|q
  ·exact h q
  ·have h1:=alx hn
   simp only[LnQ.dir,PtQ.dot] at h1
   have h2:((l.a*l.a+l.b*l.b:Int):Rat)=((0:Int):Rat):=by rw[q]
   rw[qX,eM,eM] at h2
   have h3:((0:Int):Rat)=0:=rfl
   rw[h3] at h2
   grind
 have hA':=ati (j:=1200) hA (by decide)
 have hB':=ati (j:=1200) hB (by decide)
 generalize crossI l m*(l.a*l.a+l.b*l.b)=D at*
 generalize meetX l m*l.b-meetY l m*l.a=M at*
 by_cases hD:0<D
 ·refine BQ.of_fracI (n:=M) (D:=D) (by omega) ?_ hB' hA'
  rw[←e]
  congr 1
  have:((D.natAbs:Nat):Int)=D:=by omega
  rw[←this];rfl
 ·refine BQ.of_fracI (n:= -M) (D:=D) (by omega) ?_ (BI.neg M 1200 (h:=hB')) hA'
  rw[mW,←e]
  have:((D.natAbs:Nat):Rat)= -(D:Rat):=by
   have h1:((D.natAbs:Nat):Int)= -D:=by omega
   rw[←mW,←h1];rfl
  rw[this];grind
def amX(l:LnQ):List LnQ→IvQ→IvQ×Bool
 |[],v=>(v,true)
 |m::t,v=>if m=l then amX l t v else if l.cutB v m=true then amX l t (l.cutV v m) else(l.cutV v m,false)
structure Stp (l:LnQ) (c:List LnQ) (k:Nat) (v:IvQ):Prop where
 le:k≤c.length
 p:am5 l (c.drop k) v=am5 l c IvQ.all
 e:amX l (c.drop k) v=amX l c IvQ.all
 z:IvZ v
 lo:BQ v.lo 1200
 hi:BQ v.hi 1200
def av7(l m:LnQ)(v:IvQ):IvQ:=if 0<(m.dir.cross l.dir).num.sign then aka v (acC l (acF l m)) else ajr v (acC l (acF l m))
theorem anB{l m:LnQ}{v:IvQ}[LB l][LB m](hn:l.Ne)(hz:IvZ v)(hlo:BQ v.lo 1200)(hhi:BQ v.hi 1200)(h0:crossI l m≠0):l.cutV v m=av7 l m v∧l.cutB v m=!(av7 l m v).empty∧IvZ (av7 l m v)∧BQ (av7 l m v).lo 1200∧BQ (av7 l m v).hi 1200:=by
 have hb:=aqW (l:=l) (m:=m) hn h0
 unfold av7
 split
 ·rename_i h
  obtain⟨_,h1,h2⟩:=avk hn hz ((acy _).1 h)
  refine⟨h1,h2,hz.lo' _,?_⟩
  unfold aka;split
  ·exact⟨hb,hhi⟩
  ·exact⟨hlo,hhi⟩
 ·rename_i h
  obtain⟨h1,h2⟩:=aup hn hz h0 (fun e=>h ((acy _).2 e))
  refine⟨h1,h2,hz.hi' _,?_⟩
  unfold ajr;split
  ·exact⟨hlo,hb⟩
  ·exact⟨hlo,hhi⟩
def eLn(l:LnQ):DV:= .ag [vI (fn_ (l.a:Rat)),vI (fd_ (l.a:Rat)),fp_ (l.a:Rat),vI (fn_ (l.b:Rat)),vI (fd_ (l.b:Rat)),fp_ (l.b:Rat),vI (fn_ (l.c:Rat)),vI (fd_ (l.c:Rat)),fp_ (l.c:Rat)]
def eZ(p:PtQ):DV:= .ag [vI (fn_ p.x),vI (fd_ p.x),fp_ p.x,vI (fn_ p.y),vI (fd_ p.y),fp_ p.y]
def eW(v:IvQ):DV:= .ag [vI (fn_ v.lo),vI (fd_ v.lo),fp_ v.lo,vI (fn_ v.hi),vI (fd_ v.hi),fp_ v.hi, .v (.bool v.nl), .v (.bool v.nh)]
theorem arv{G:Gh}{t:List DV}{vs:List Value}(h:IsLs G (vI 0::vI 0:: .v (.pointer none)::t) vs):IsLs G (vI (fn_ 0)::vI (fd_ 0)::fp_ 0::t) vs:=by
 obtain⟨y1,l1,rfl,k1,g1⟩:=aab.1 h
 obtain⟨y2,l2,rfl,k2,g2⟩:=aab.1 g1
 obtain⟨y3,l3,rfl,k3,g3⟩:=aab.1 g2
 have e:decide (Big 0)=false:=decide_eq_false fun h=>an9 h rfl
 exact .cons k1 (.cons k2 (.cons (alr.2 (.inl ⟨e,aaM.1 k3⟩)) g3))
theorem apC{G:Gh}(a:List DV){t:List DV}{vs:List Value}(h:IsLs G (a++vI 0::vI 0:: .v (.pointer none)::t) vs):IsLs G (a++vI (fn_ 0)::vI (fd_ 0)::fp_ 0::t) vs:=by
 obtain⟨x,y,rfl,h1,h2⟩:=h.unapp
 exact h1.app (arv h2)
theorem awN(G:Gh)(y:Value)(k:Is G (.ag [vI 0,vI 0, .v (.pointer none),vI 0,vI 0, .v (.pointer none), .v (.bool true), .v (.bool true)]) y):Is G (eW IvQ.all) y:=by
 obtain⟨l,rfl,g⟩:=abl.1 k
 exact abl.2 ⟨l,rfl,arv (apC [vI 0,vI 0, .v (.pointer none)] g)⟩
def orI:List Int→Int
 |[]=>0
 |a::t=>if a≠0 then a else orI t
theorem BPt.nor(l:LnQ)[LB l]:BPt l.nor 97:=⟨inferInstanceAs (BQ (l.a:Rat) 97),inferInstanceAs (BQ (l.b:Rat) 97)⟩
attribute [instance] BPt.nor
instance BPt.scale (p:PtQ) (c:Rat) (i k:Nat) [BPt p i] [BQ c k]:BPt (p.scale c) (i+k):=⟨inferInstanceAs (BQ (p.x*c) _),inferInstanceAs (BQ (p.y*c) _)⟩
instance BPt.add (p q:PtQ) (i j:Nat) [BPt p i] [BPt q j]:BPt (p.add q) (i+j+1):=⟨inferInstanceAs (BQ (p.x+q.x) _),inferInstanceAs (BQ (p.y+q.y) _)⟩
instance LB.revA (l:LnQ) [h:LB l]:LB l.rev:=⟨⟨by rw[show l.rev.a= -l.a from rfl,hJ];exact h.bl.a,by rw[show l.rev.b= -l.b from rfl,hJ];exact h.bl.b,by rw[show l.rev.c= -l.c from rfl,hJ];exact h.bl.c⟩⟩
theorem az6:PF GB prog 303 [] (eW IvQ.all):=by
 refine fn func303 J J ntmps303 J J (fun C=>?_)
 exact rzI rfl awN
theorem alR{l:LnQ}:PF GB prog 112 [eLn l] (eZ l.nor):=by
 refine fn func112 J J ntmps112 J J (fun C=>?_)
 exact rz J J
theorem ajd{l:LnQ}[hl:LB l]:PF GB prog 179 [eLn l] (eZ l.dir):=by
 refine fn func179 J J ntmps179 J J (fun C=>?_)
 refine cl rfl (ad3 (q:=(l.a:Rat))) rfl<|?_
 exact rz J J
theorem al6{p q:PtQ}{i j:Nat}[hp:BPt p i][hq:BPt q j](hi:i≤40000000:=by decide)(hj:j≤40000000:=by decide):PF GB prog 114 [eZ p,eZ q] (eF (p.dot q)):=by
 refine fn func114 J J ntmps114 J J (fun C=>?_)
 refine cl rfl (af7 (p:=p.x) (q:=q.x) (by omega) (by omega)) rfl<|cl rfl (af7 (p:=p.y) (q:=q.y) (by omega) (by omega)) rfl<|cl rfl (afm (p:=p.x*q.x) (q:=p.y*q.y) (by omega) (by omega)) rfl<|?_
 exact rz J J
theorem amM{p q:PtQ}{i j:Nat}[hp:BPt p i][hq:BPt q j](hi:i≤40000000:=by decide)(hj:j≤40000000:=by decide):PF GB prog 206 [eZ p,eZ q] (eF (p.cross q)):=by
 refine fn func206 J J ntmps206 J J (fun C=>?_)
 refine cl rfl (af7 (p:=p.x) (q:=q.y) (by omega) (by omega)) rfl<|cl rfl (af7 (p:=p.y) (q:=q.x) (by omega) (by omega)) rfl<|cl rfl (ahV (p:=p.x*q.y) (q:=p.y*q.x) (by omega) (by omega)) rfl<|?_
 exact rz J J
theorem aip{p:PtQ}{c:Rat}{i j:Nat}[hp:BPt p i][hc:BQ c j](hi:i≤40000000:=by decide)(hj:j≤40000000:=by decide):PF GB prog 121 [eZ p,eF c] (eZ (p.scale c)):=by
 refine fn func121 J J ntmps121 J J (fun C=>?_)
 refine cl rfl (af7 (p:=p.x) (q:=c) (by omega) (by omega)) rfl<|cl rfl (af7 (p:=p.y) (q:=c) (by omega) (by omega)) rfl<|?_
 exact rz J J
theorem atp{p q:PtQ}{i j:Nat}[hp:BPt p i][hq:BPt q j](hi:i≤40000000:=by decide)(hj:j≤40000000:=by decide):PF GB prog 120 [eZ p,eZ q] (eZ (p.add q)):=by
 refine fn func120 J J ntmps120 J J (fun C=>?_)
 refine cl rfl (afm (by omega) (by omega)) rfl<|cl rfl (afm (by omega) (by omega)) rfl<|?_
 exact rz J J
theorem an7{l:LnQ}[hl:LB l]:PF GB prog 178 [eLn l] (eZ l.base):=by
 refine fn func178 J J ntmps178 J J (fun C=>?_)
 refine cl rfl alR rfl<|cl rfl (ad3 (q:=(l.c:Rat))) rfl<|cl rfl (al6 (p:=l.nor) (q:=l.nor)) rfl<|cl rfl (ap3 (p:= -(l.c:Rat)) (q:=l.nor.dot l.nor)) rfl<|?_
 refine cl rfl (aip (p:=l.nor)) rfl<|?_
 exact rz J J
theorem alF{l:LnQ}{p:PtQ}{i:Nat}[hl:LB l][hp:BPt p i](hi:i≤10000000:=by decide):PF GB prog 117 [eLn l,eZ p] (eF (l.value p)):=by
 refine fn func117 J J ntmps117 J J (fun C=>?_)
 refine cl rfl (alR (l:=l)) rfl<|cl rfl (al6 (p:=l.nor) (q:=p) (by omega) (by omega)) rfl<|cl rfl (afm (p:=l.nor.dot p) (q:=(l.c:Rat)) (by omega) (by omega)) rfl<|?_
 exact rz J J
theorem ahq{l:LnQ}{p:PtQ}{i:Nat}[hl:LB l][hp:BPt p i](hi:i≤10000000:=by decide):PF GB prog 212 [eLn l,eZ p] (vI (l.value p).num.sign):=by
 refine fn func212 J J ntmps212 J J (fun C=>?_)
 refine cl rfl (alF (l:=l) (p:=p) hi) rfl<|cl rfl (acm (q:=l.value p) (by omega)) rfl<|?_
 exact rz J J
theorem azD{l:LnQ}{t:Rat}{i:Nat}[hl:LB l][ht:BQ t i](hi:i≤10000000:=by decide):PF GB prog 110 [eLn l,eF t] (eZ (l.at t)):=by
 refine fn func110 J J ntmps110 J J (fun C=>?_)
 refine cl rfl (an7 (l:=l)) rfl<|cl rfl (ajd (l:=l)) rfl<|cl rfl (aip (p:=l.dir) (c:=t) (by omega) (by omega)) rfl<|cl rfl (atp (p:=l.base) (q:=l.dir.scale t) (by omega) (by omega)) rfl<|?_
 exact rz J J
theorem atZ{v:IvQ}{i j:Nat}[h1:BQ v.lo i][h2:BQ v.hi j](hi:i≤40000000:=by decide)(hj:j≤40000000:=by decide):PF GB prog 318 [eW v] (vB v.empty):=by
 refine fn func318 J J ntmps318 J J (fun C=>?_)
 refine csb 6 J J J (fun hg6=>?_) (fun hg6=>?_)
 ·
  refine csb 11 J J J (fun hg11=>?_) (fun hg11=>?_)
  ·
   refine cl rfl (ahl (p:=v.lo) (q:=v.hi) (by omega) (by omega)) rfl<|?_
   exact rz rfl (by unfold IvQ.empty;simp_all [vB,ahX])
  ·
   exact rz rfl (by unfold IvQ.empty;simp_all [vB,ahX])
 ·
  exact rz rfl (by unfold IvQ.empty;simp_all [vB,ahX])
instance IvQ.meet_lo (v w:IvQ) (i j:Nat) [h1:BQ v.lo i] [h3:BQ w.lo j]:BQ (v.meet w).lo (i+j):=by
 have a:=h1.mono (nK i j)
 have b:=h3.mono (Nat.le_add_left j i)
 unfold IvQ.meet;dsimp only;(repeat' split)<;>assumption
instance IvQ.meet_hi (v w:IvQ) (i j:Nat) [h1:BQ v.hi i] [h3:BQ w.hi j]:BQ (v.meet w).hi (i+j):=by
 have a:=h1.mono (nK i j)
 have b:=h3.mono (Nat.le_add_left j i)
 unfold IvQ.meet;dsimp only;(repeat' split)<;>assumption
theorem atn{v w:IvQ}{i j:Nat}[h1:BQ v.lo i][h2:BQ v.hi i][h3:BQ w.lo j][h4:BQ w.hi j](hi:i≤10000000:=by decide)(hj:j≤10000000:=by decide):PF GB prog 304 [eW v,eW w] (.tp [eW (v.meet w),vB (!(v.meet w).empty)]):=by
 refine fn (fu:=⟨16⟩) func304 J J ntmps304 J J (fun C=>?_)
 refine mg (fu:=⟨1⟩) (X:=Unit) (fun _=>[(6, .ov 6 0)]) (fun _=>[(6,some (.o 185 [.d (vI (fn_ (v.meet w).lo)), .d (vI (fd_ (v.meet w).lo)), .d (fp_ (v.meet w).lo), .d (vI (fn_ v.hi)), .d (vI (fd_ v.hi)), .d (fp_ v.hi), .d (.v (.bool (v.nl&&w.nl))), .d (.v (.bool (v.nh)))] true))]) (fun _=>True) [6] [6] rfl ?_ (fun _=>rfl) (fun _ _=>?_)
 ·
  refine gx rfl<|?_
  refine bb (v1:=fun hc8=>by simp only[aag];kernel_rfl) J J J (fun hc8=>?_) (fun hc8=>?_)
  ·
   have em:(v.meet w).lo=w.lo:=by unfold IvQ.meet;simp_all
   have eb:(v.nl&&w.nl)=w.nl:=by simp_all
   exact at_ () trivial (hO:=⟨by rw[em,eb]<;>rfl,by repeat (first|exact trivial|refine And.intro rfl ?_)⟩)
  ·
   refine bb J J J (fun hc17=>?_) (fun hc17=>?_)
   ·
    refine cl rfl (ayw (p:=v.lo) (q:=w.lo) (by omega) (by omega)) rfl<|?_
    have em:(v.meet w).lo=(if v.lo<w.lo then w.lo else v.lo):=by unfold IvQ.meet;simp_all
    have eb:(v.nl&&w.nl)=v.nl:=by simp_all
    exact at_ () trivial (hO:=⟨by rw[em,eb]<;>rfl,by repeat (first|exact trivial|refine And.intro rfl ?_)⟩)
   ·
    have em:(v.meet w).lo=v.lo:=by unfold IvQ.meet;simp_all
    have eb:(v.nl&&w.nl)=v.nl:=by simp_all
    exact at_ () trivial (hO:=⟨by rw[em,eb]<;>rfl,by repeat (first|exact trivial|refine And.intro rfl ?_)⟩)
 ·
  refine mg (X:=Unit) (fun _=>[(6, .ov 6 0)]) (fun _=>[(6,some (.o 185 [.d (vI (fn_ (v.meet w).lo)), .d (vI (fd_ (v.meet w).lo)), .d (fp_ (v.meet w).lo), .d (vI (fn_ (v.meet w).hi)), .d (vI (fd_ (v.meet w).hi)), .d (fp_ (v.meet w).hi), .d (.v (.bool (v.nl&&w.nl))), .d (.v (.bool (v.nh&&w.nh)))] true))]) (fun _=>True) [6] [6] rfl ?_ (fun _=>rfl) (fun _ _=>?_)
  ·
   refine gx rfl<|?_
   refine bb (v1:=fun hc27=>by simp only[aag];kernel_rfl) J J J (fun hc27=>?_) (fun hc27=>?_)
   ·
    have em:(v.meet w).hi=w.hi:=by unfold IvQ.meet;simp_all
    have eb:(v.nh&&w.nh)=w.nh:=by simp_all
    exact at_ () trivial (hO:=⟨by rw[em,eb]<;>rfl,by repeat (first|exact trivial|refine And.intro rfl ?_)⟩)
   ·
    refine bb J J J (fun hc36=>?_) (fun hc36=>?_)
    ·
     refine cl rfl (awP (p:=v.hi) (q:=w.hi) (by omega) (by omega)) rfl<|?_
     have em:(v.meet w).hi=(if w.hi<v.hi then w.hi else v.hi):=by unfold IvQ.meet;simp_all
     have eb:(v.nh&&w.nh)=v.nh:=by simp_all
     exact at_ () trivial (hO:=⟨by rw[em,eb]<;>rfl,by repeat (first|exact trivial|refine And.intro rfl ?_)⟩)
    ·
     have em:(v.meet w).hi=v.hi:=by unfold IvQ.meet;simp_all
     have eb:(v.nh&&w.nh)=v.nh:=by simp_all
     exact at_ () trivial (hO:=⟨by rw[em,eb]<;>rfl,by repeat (first|exact trivial|refine And.intro rfl ?_)⟩)
  ·
   refine cl rfl (atZ (v:=v.meet w) (i:=i+j) (j:=i+j) (by omega) (by omega)) rfl<|?_
   exact rz J J
theorem BQ.z1:BQ (0:Rat) 1:=⟨by decide,by decide⟩
theorem asy{v:IvQ}{t:Rat}{i j:Nat}[h1:BQ v.lo i][h2:BQ v.hi i][h3:BQ t j](hi:i≤10000000:=by decide)(hj:j≤9999999:=by decide):PF GB prog 304 [eW v, .ag [vI (fn_ t),vI (fd_ t),fp_ t,vI 0,vI 0, .v (.pointer none), .v (.bool false), .v (.bool true)]] (.tp [eW (v.meet ⟨t,0,false,true⟩),vB (!(v.meet ⟨t,0,false,true⟩).empty)]):=
 (atn (v:=v) (w:=⟨t,0,false,true⟩) (j:=j+1) (h3:=h3.mono (by omega)) (h4:=BQ.z1.mono (by omega)) hi (by omega)).ofI fun G vs hv=>aov (fun y hy=>by
  obtain⟨l,rfl,g⟩:=abl.1 hy
  exact abl.2 ⟨l,rfl,apC [_,_,_] g⟩) hv
theorem arn{v:IvQ}{t:Rat}{i j:Nat}[h1:BQ v.lo i][h2:BQ v.hi i][h3:BQ t j](hi:i≤10000000:=by decide)(hj:j≤9999999:=by decide):PF GB prog 304 [eW v, .ag [vI 0,vI 0, .v (.pointer none),vI (fn_ t),vI (fd_ t),fp_ t, .v (.bool true), .v (.bool false)]] (.tp [eW (v.meet ⟨0,t,true,false⟩),vB (!(v.meet ⟨0,t,true,false⟩).empty)]):=
 (atn (v:=v) (w:=⟨0,t,true,false⟩) (j:=j+1) (h4:=h3.mono (by omega)) (h3:=BQ.z1.mono (by omega)) hi (by omega)).ofI fun G vs hv=>aov (fun y hy=>by
  obtain⟨l,rfl,g⟩:=abl.1 hy
  exact abl.2 ⟨l,rfl,arv g⟩) hv
instance BQ.cutK (l m:LnQ) [LB l] [LB m]:BQ (l.cutK m) 400:=BQ.mono (inferInstance:BQ (m.nor.dot l.dir) _) (by decide)
instance BQ.cutC (l m:LnQ) [LB l] [LB m]:BQ (l.cutC m) 2500:=BQ.mono (inferInstance:BQ (m.value l.base) _) (by decide)
theorem aws{l m:LnQ}{v:IvQ}{i:Nat}[hl:LB l][hm:LB m][h1:BQ v.lo i][h2:BQ v.hi i](hi:i≤10000000:=by decide):PF GB prog 281 [eLn l,eW v,eLn m] (.tp [eW (l.cutV v m),vB (l.cutB v m)]):=by
 refine fn func281 J J ntmps281 J J (fun C=>?_)
 refine cl rfl (alR (l:=m)) rfl<|cl rfl (ajd (l:=l)) rfl<|cl rfl (al6 (p:=m.nor) (q:=l.dir)) rfl<|cl rfl (an7 (l:=l)) rfl<|?_
 refine cl rfl (alF (l:=m) (p:=l.base)) rfl<|cl rfl (acm (q:=l.cutK m)) rfl<|?_
 refine br J J J (fun hc21=>?_) (fun hc21=>?_)
 ·
  refine cl rfl (acm (q:=l.cutC m)) rfl<|?_
  exact rz rfl (by unfold LnQ.cutV LnQ.cutB;rw[if_pos hc21,if_pos hc21];rfl)
 ·
  refine br J J J (fun hc27=>?_) (fun hc27=>?_)
  ·
   refine cl rfl (ap3 (p:=l.cutC m) (q:=l.cutK m)) rfl<|cl rfl (ad3 (q:=l.cutC m/l.cutK m)) rfl<|cl rfl (asy (v:=v) (t:= -(l.cutC m/l.cutK m)) hi) rfl<|?_
   exact rz rfl (by unfold LnQ.cutB LnQ.cutV;rw[if_neg hc21,if_neg hc21,if_pos hc27];rfl)
  ·
   refine cl rfl (ap3 (p:=l.cutC m) (q:=l.cutK m)) rfl<|cl rfl (ad3 (q:=l.cutC m/l.cutK m)) rfl<|cl rfl (arn (v:=v) (t:= -(l.cutC m/l.cutK m)) hi) rfl<|?_
   exact rz rfl (by unfold LnQ.cutB LnQ.cutV;rw[if_neg hc21,if_neg hc21,if_neg hc27];rfl)
theorem asz{v:IvQ}{i:Nat}[h1:BQ v.lo i][h2:BQ v.hi i](hi:i≤10000000:=by decide):PF GB prog 111 [eW v] (eF v.sample):=by
 refine fn func111 J J ntmps111 J J (fun C=>?_)
 refine csb 6 J J J (fun hg6=>?_) (fun hg6=>?_)
 ·
  refine bb J J J (fun hc3=>?_) (fun hc3=>?_)
  ·
   exact rzI rfl (by unfold IvQ.sample;rw[hg6,hc3];exact ax6)
  ·
   refine bb J J J (fun hc11=>?_) (fun hc11=>?_)
   ·
    refine cl rfl (ahz (m:=1) (by decide)) rfl<|cl rfl (ahV (p:=v.hi) (q:=((1:Int):Rat)) (by omega) (by decide)) rfl<|?_
    exact rz rfl (by unfold IvQ.sample;simp_all [ahX]<;>rfl)
   ·
    refine bb J J J (fun hc18=>?_) (fun hc18=>?_)
    ·
     refine cl rfl (ahz (m:=1) (by decide)) rfl<|cl rfl (afm (p:=v.lo) (q:=((1:Int):Rat)) (by omega) (by decide)) rfl<|?_
     exact rz rfl (by unfold IvQ.sample;simp_all [ahX]<;>rfl)
    ·
     refine cl rfl (afm (p:=v.lo) (q:=v.hi) (by omega) (by omega)) rfl<|cl rfl (anD (q:=v.lo+v.hi) (by omega)) rfl<|?_
     exact rz rfl (by unfold IvQ.sample;simp_all [ahX]<;>rfl)
 ·
  refine bb J J J (fun hc11=>?_) (fun hc11=>?_)
  ·
   refine cl rfl (ahz (m:=1) (by decide)) rfl<|cl rfl (ahV (p:=v.hi) (q:=((1:Int):Rat)) (by omega) (by decide)) rfl<|?_
   exact rz rfl (by unfold IvQ.sample;simp_all [ahX]<;>rfl)
  ·
   refine bb J J J (fun hc18=>?_) (fun hc18=>?_)
   ·
    refine cl rfl (ahz (m:=1) (by decide)) rfl<|cl rfl (afm (p:=v.lo) (q:=((1:Int):Rat)) (by omega) (by decide)) rfl<|?_
    exact rz rfl (by unfold IvQ.sample;simp_all [ahX]<;>rfl)
   ·
    refine cl rfl (afm (p:=v.lo) (q:=v.hi) (by omega) (by omega)) rfl<|cl rfl (anD (q:=v.lo+v.hi) (by omega)) rfl<|?_
    exact rz rfl (by unfold IvQ.sample;simp_all [ahX]<;>rfl)
instance BQ.i1':BQ (1:Rat) 2:=⟨by decide,by decide⟩
instance BQ.i2':BQ (2:Rat) 2:=⟨by decide,by decide⟩
instance BPt.at (l:LnQ) (t:Rat) (k:Nat) [LB l] [BQ t k]:BPt (l.at t) (900+(k+97)+1):=by
 rw[←atj];infer_instance
def agc(d:PtQ):PtQ:=⟨-d.y,d.x⟩
instance BPt.turn (d:PtQ) (k:Nat) [BPt d k]:BPt (agc d) k:=⟨inferInstanceAs (BQ (-d.y) k),inferInstanceAs (BQ d.x k)⟩
def auj(p v:PtQ)(m:LnQ):Rat:= -(m.value p/(m.value (aeS p v ((1:Int):Rat))-m.value p))
def arC(p v:PtQ)(m:LnQ)(s:Rat):Rat:=if(m.value (aeS p v ((1:Int):Rat))-m.value p).num.sign=0 then s else if(m.value p).num.sign=0 then s else if 0<(auj p v m).num.sign then(if adE (auj p v m/2) s<0 then auj p v m/2 else s) else s
def awy(p v:PtQ):List LnQ→Rat→Rat
 |[],s=>s
 |m::t,s=>awy p v t (arC p v m s)
def ayZ(c:List LnQ)(p v:PtQ):PtQ:=aeS p v (awy p v c ((1:Int):Rat))
def asJ(c:List LnQ):List LnQ→PtQ
 |[]=>⟨0,0⟩
 |m::t=>if(amX m c IvQ.all).2=true then ayZ c (m.at (auK (amX m c IvQ.all).1)) (agc m.dir) else asJ c t
theorem ap2{es:List Int}{i:Nat}(h:i<es.length):(es.map vI)[(i:Int).toNat]? =some (vI (es.getD i 0)):=by simp[h]
theorem amd{es:List Int}{i:Nat}(h:i<es.length):orI (es.drop i)=if es.getD i 0≠0 then es.getD i 0 else orI (es.drop (i+1)):=by
 rw[bT h,orI,aK,aJ h];rfl
theorem aBu{es:List Int}(hn:es.length≤1000000):PF GB prog 248 [.sl (es.map vI)] (vI (orI es)):=by
 have hel:(es.map vI).length=es.length:=by simp
 refine fn (fu:=⟨15⟩) func248 J J ntmps248 J J (fun C=>?_)
 refine eqF 7 (.d (vI (es.length:Nat))) rfl (by rw[hel]<;>rfl) ?_
 refine gx rfl<|?_
 refine lp (X:=Nat) (fun i=>[(8, .d (vI (i:Nat)))]) (fun i=>[]) (fun i=>i≤es.length∧orI es=orI (es.drop i)) (fun i=>es.length-i) 0 rfl ⟨cX _,rfl⟩ (fun _=>rfl) (fun i hk=>?_)
 obtain⟨h1,h2⟩:=hk
 refine br J J J (fun hc9=>?_) (fun hc9=>?_)
 ·
  refine ix _ rfl (ap2 (by omega)) rfl<|?_
  refine br J J J (fun hc14=>?_) (fun hc14=>?_)
  ·
   exact rz rfl (by rw[h2,amd (by omega),if_pos hc14];rfl)
  ·
   exact at_ (i+1) ⟨⟨by omega,by rw[h2,amd (by omega),if_neg hc14]⟩,(by omega)⟩
 ·
  exact rz rfl (by rw[h2,fQ (by omega)];rfl)
def lcq(l m:LnQ):Int:=orI [adE l.a m.a,adE l.b m.b,adE l.c m.c]
theorem aq5(l m:LnQ):lcq l m=0↔l=m:=by
 unfold lcq orI orI orI orI
 have ha:=aeP (l.a:Rat) m.a
 have hb:=aeP (l.b:Rat) m.b
 have hc:=aeP (l.c:Rat) m.c
 rw[mK] at ha hb hc
 constructor
 ·intro h
  repeat' (split at h<;>try contradiction)
  all_goals exact LnQ.ext' (by omega) (by omega) (by omega)
 ·rintro rfl
  rw[if_neg (by simp[ha.2 rfl]),if_neg (by simp[hb.2 rfl]),if_neg (by simp[hc.2 rfl])]
theorem axa{l m:LnQ}[hl:LB l][hm:LB m]:PF GB prog 201 [eLn l,eLn m] (vI (lcq l m)):=by
 refine fn func201 J J ntmps201 J J (fun C=>?_)
 refine cl rfl (ahl (p:=(l.a:Rat)) (q:=(m.a:Rat))) rfl<|cl rfl (ahl (p:=(l.b:Rat)) (q:=(m.b:Rat))) rfl<|cl rfl (ahl (p:=(l.c:Rat)) (q:=(m.c:Rat))) rfl<|?_
 refine rf J J<|cl rfl (aBu (es:=[adE l.a m.a,adE l.b m.b,adE l.c m.c]) (nb rfl)) rfl<|?_
 exact rz J J
theorem amc{l m:LnQ}[hl:LB l][hm:LB m]:PF GB prog 142 [eLn l,eLn m] (vB (decide (l=m))):=by
 refine fn func142 J J ntmps142 J J (fun C=>?_)
 refine cl rfl (axa (l:=l) (m:=m)) rfl<|?_
 exact rz rfl (by show DV.v (.bool (decide _))= .v (.bool _);congr 2;exact decide_eq_decide.2 (aq5 l m))
theorem awS{l:LnQ}[hl:LB l]:PF GB prog 247 [eLn l] (eLn l.rev):=by
 refine fn func247 J J ntmps247 J J (fun C=>?_)
 refine cl rfl (ad3 (q:=(l.a:Rat))) rfl<|cl rfl (ad3 (q:=(l.b:Rat))) rfl<|cl rfl (ad3 (q:=(l.c:Rat))) rfl<|?_
 exact rz rfl (by unfold eLn LnQ.rev;simp only[mW];rfl)
theorem aye{l:LnQ}[hl:LB l]:PF GB prog 141 [eLn l] (eL l):=by
 refine fn func141 J J ntmps141 J J (fun C=>?_)
 refine cl rfl (aiE (q:=(l.a:Rat))) rfl<|cl rfl (aiE (q:=(l.b:Rat))) rfl<|cl rfl (aiE (q:=(l.c:Rat))) rfl<|?_
 exact rz J J
theorem ats{p:PtQ}{i:Nat}[hp:BPt p i](hi:i≤10000000:=by decide):PF GB prog 256 [eZ p] (vI p.half):=by
 refine fn func256 J J ntmps256 J J (fun C=>?_)
 refine cl rfl (acm (q:=p.y) (by omega)) rfl<|?_
 refine cs 10 J J J (fun hg10=>?_) (fun hg10=>?_)
 ·
  exact rz rfl (by unfold PtQ.half;(repeat' split)<;>first|rfl|(exfalso;omega))
 ·
  refine cs 13 J J J (fun hg13=>?_) (fun hg13=>?_)
  ·
   refine cl rfl (acm (q:=p.x) (by omega)) rfl<|?_
   refine br J J J (fun hc7=>?_) (fun hc7=>?_)
   ·
    exact rz rfl (by unfold PtQ.half;(repeat' split)<;>first|rfl|(exfalso;omega))
   ·
    refine cs 23 J J J (fun hg23=>?_) (fun hg23=>?_)
    ·
     exact rz rfl (by unfold PtQ.half;(repeat' split)<;>first|rfl|(exfalso;omega))
    ·
     refine cl rfl (acm (q:=p.x) (by omega)) rfl<|?_
     refine br J J J (fun hc20=>?_) (fun hc20=>?_)
     ·
      exact rz rfl (by unfold PtQ.half;(repeat' split)<;>first|rfl|(exfalso;omega))
     ·
      exact rz rfl (by unfold PtQ.half;(repeat' split)<;>first|rfl|(exfalso;omega))
  ·
   refine cs 23 J J J (fun hg23=>?_) (fun hg23=>?_)
   ·
    exact rz rfl (by unfold PtQ.half;(repeat' split)<;>first|rfl|(exfalso;omega))
   ·
    refine cl rfl (acm (q:=p.x) (by omega)) rfl<|?_
    refine br J J J (fun hc20=>?_) (fun hc20=>?_)
    ·
     exact rz rfl (by unfold PtQ.half;(repeat' split)<;>first|rfl|(exfalso;omega))
    ·
     exact rz rfl (by unfold PtQ.half;(repeat' split)<;>first|rfl|(exfalso;omega))
theorem akW{u v:PtQ}{i j:Nat}[hp:BPt u i][hq:BPt v j](hi:i≤10000000:=by decide)(hj:j≤10000000:=by decide):PF GB prog 209 [eZ u,eZ v] (vI (aaG u v)):=by
 refine fn func209 J J ntmps209 J J (fun C=>?_)
 refine cl rfl (ats (p:=u) hi) rfl<|cl rfl (ats (p:=v) hj) rfl<|?_
 refine br J J J (fun hc11=>?_) (fun hc11=>?_)
 ·
  exact rz rfl (by unfold aaG;rw[if_pos hc11];rfl)
 ·
  refine br J J J (fun hc15=>?_) (fun hc15=>?_)
  ·
   exact rz rfl (by unfold aaG;rw[if_neg hc11,if_pos hc15];rfl)
  ·
   refine cl rfl (amM (p:=u) (q:=v) (by omega) (by omega)) rfl<|cl (fu:=⟨0⟩) rfl (acm (q:=u.cross v) (by omega)) rfl<|?_
   have hs:=Int.sign_trichotomy (u.cross v).num
   refine gx rfl<|?_
   exact rz rfl (by unfold aaG;rw[if_neg hc11,if_neg hc15];rfl)
theorem ayh{m:Int}:Nrm (dg m.natAbs)∧(decide (m<0)=true→0<(dg m.natAbs).length):=⟨(aaD _).2.2,fun h=>by
 have:0<m.natAbs:=by have:=of_decide_eq_true h;omega
 exact afH.2 this⟩
theorem abQ{m:Int}{i:Nat}[h:BI m i](hi:i≤1000000000:=by decide):PF GB prog 249 [eI m] (.v (.bool true)):=(aj6 (neg:=decide (m<0)) (ds:=dg m.natAbs) (aaD _).2.1 (by have:=afq (a:=m.natAbs) hi;omega)).to (by unfold vB;rw[decide_eq_true ayh])
theorem aAs{l:LnQ}(h:l.ok):rgcd (rgcd (l.a:Rat) (l.b:Rat)) (l.c:Rat)=((1:Int):Rat):=by
 rw[afg,afg]
 have:=h.2
 simp only[iK];rw[this];rfl
instance BQ.rgcd (p q:Rat) (i j:Nat) [h:BQ p i] [k:BQ q j]:BQ (rgcd p q) (i+j+(i+j)):=by
 unfold Sx.rgcd
 refine adF (gR (abp p) (abp q)) ?_ ?_
 ·rw[iK]
  have h1:=aba h.hn k.hd
  have h2:=aba k.hn h.hd
  rw[iZ j i] at h2
  exact akS h1 h2
 ·have h1:=aba h.hd k.hd
  have:2^(i+j)≤2^(i+j+(i+j)):=aL (by decide) (by omega)
  omega
theorem awU{l:LnQ}[hl:LB l](ho:l.ok):PF GB prog 204 [eL l] (.tp [eLn l,vB true]):=by
 refine fn func204 J J ntmps204 J J (fun C=>?_)
 refine cl (fu:=⟨0⟩) rfl (abQ (m:=l.a)) rfl<|knF J J J<|cl (fu:=⟨0⟩) rfl (abQ (m:=l.b)) rfl<|knF J J J<|cl (fu:=⟨0⟩) rfl (abQ (m:=l.c)) rfl<|?_
 refine knF J J J<|cl rfl (adA (m:=l.a)) rfl<|cl rfl (adA (m:=l.b)) rfl<|cl rfl (adA (m:=l.c)) rfl<|cl (fu:=⟨0⟩) rfl (ahP (q:=(l.a:Rat))) rfl<|?_
 refine csS (fu2:=⟨4⟩) J J J J (fun hg35=>?_) (fun hg35=>?_)
 ·
  have ha:l.a=0:=cR.1 hg35
  refine cl (fu:=⟨1⟩) rfl (ahP (q:=(l.b:Rat))) rfl<|knF rfl (by first|rfl|(show some (decide _)=some false;rw[decide_eq_false (fun e=>ho.1 ⟨ha,cR.1 e⟩)])) rfl<|?_
  refine cl rfl (afv (p:=(l.a:Rat)) (q:=(l.b:Rat))) rfl<|cl rfl (afv (p:=rgcd l.a l.b) (q:=(l.c:Rat))) rfl<|cl rfl (ahz (m:=1) (by decide)) rfl<|?_
  refine cl (fu:=⟨0⟩) rfl (agp (p:=rgcd (rgcd l.a l.b) l.c) (q:=((1:Int):Rat))) rfl<|knF rfl (by show some (!decide _)=some false;rw[aAs ho,decide_eq_true rfl];rfl) rfl<|?_
  exact rz J J
 ·
  refine knF rfl (by first|rfl|(show some (decide _)=some false;rw[decide_eq_false (fun e=>ho.1 ⟨ha,cR.1 e⟩)])) rfl<|cl rfl (afv (p:=(l.a:Rat)) (q:=(l.b:Rat))) rfl<|?_
  refine cl rfl (afv (p:=rgcd l.a l.b) (q:=(l.c:Rat))) rfl<|cl rfl (ahz (m:=1) (by decide)) rfl<|cl (fu:=⟨0⟩) rfl (agp (p:=rgcd (rgcd l.a l.b) l.c) (q:=((1:Int):Rat))) rfl<|?_
  refine knF rfl (by show some (!decide _)=some false;rw[aAs ho,decide_eq_true rfl];rfl) rfl<|?_
  exact rz J J
def eFr(f:FrQ):DV:= .ag [vI (fn_ (f.l.a:Rat)),vI (fd_ (f.l.a:Rat)),fp_ (f.l.a:Rat),vI (fn_ (f.l.b:Rat)),vI (fd_ (f.l.b:Rat)),fp_ (f.l.b:Rat),vI (fn_ (f.l.c:Rat)),vI (fd_ (f.l.c:Rat)),fp_ (f.l.c:Rat),vI (fn_ f.v.lo),vI (fd_ f.v.lo),fp_ f.v.lo,vI (fn_ f.v.hi),vI (fd_ f.v.hi),fp_ f.v.hi, .v (.bool f.v.nl), .v (.bool f.v.nh)]
structure aqB (v:IvQ):Prop where
 z:IvZ v
 lo:BQ v.lo 1200
 hi:BQ v.hi 1200
structure aA7 (s:FrQ):Prop where
 lb:LB s.l
 ok:s.l.ok
 v:aqB s.v
abbrev ac9 (c:aat):Prop:= ∀s∈c,aA7 s
theorem aeG{α:Type}(f:α→DV)(l:List α):(l.map f).length=l.length:=by simp
theorem aqB.all:aqB IvQ.all:=⟨⟨fun _=>rfl,fun _=>rfl⟩,BQ.z1.mono (by decide),BQ.z1.mono (by decide)⟩
theorem aqB.cut{l m:LnQ}{v:IvQ}[LB l][LB m](hn:l.Ne)(h:aqB v):aqB (l.cutV v m):=by
 by_cases h0:crossI l m=0
 ·rw[(aqx (v:=v) h0).1];exact h
 ·obtain⟨u1,_,u3,u4,u5⟩:=anB (v:=v) hn h.z h.lo h.hi h0
  rw[u1];exact⟨u3,u4,u5⟩
def ivD(o:Option IvQ):IvQ:=o.getD ⟨0,0,false,false⟩
theorem ayy(G:Gh)(y:Value)(k:Is G (.tp [.ag [vI 0,vI 0, .v (.pointer none),vI 0,vI 0, .v (.pointer none), .v (.bool false), .v (.bool false)], .v (.bool false)]) y):Is G (.tp [eW (ivD none),vB false]) y:=by
 obtain⟨m,rfl,g⟩:=acQ.1 k
 exact acQ.2 ⟨m,rfl,ayf (fun y hy=>by
  obtain⟨l,rfl,g⟩:=abl.1 hy
  exact abl.2 ⟨l,rfl,arv (apC [vI 0,vI 0, .v (.pointer none)] g)⟩) g⟩
theorem abr{α:Type}{f:α→DV}{l:List α}{i:Nat}{s:α}(h:l[i]? =some s):(l.map f)[(i:Int).toNat]? =some (f s):=by simp[h]
theorem agH{α:Type}{l:List α}{k:Nat}{s:α}(h:l[k]? =some s):l.drop k=s::l.drop (k+1):=by
 obtain⟨h1,h2⟩:=bZ.1 h
 rw[bT h1,h2]
theorem al1{l:LnQ}{c:aat}{v:IvQ}{k:Nat}{s:FrQ}(h:c[k]? =some s):aeV l (c.drop k) v=if l.cutB v s.l then aeV l (c.drop (k+1)) (l.cutV v s.l) else none:=by
 rw[agH h];rfl
theorem ahr{l:LnQ}{c:aat}{k:Nat}{s:FrQ}(h:c[k]? =some s):adx l (c.drop k)=if ads l s≠0 then ads l s else if s.l=l then 1 else adx l (c.drop (k+1)):=by
 rw[agH h];rfl
instance BQ.sample (v:IvQ) [h1:BQ v.lo 1200] [h2:BQ v.hi 1200]:BQ v.sample 2500:=by
 unfold IvQ.sample
 split
 ·exact BQ.z1.mono (by decide)
 ·split
  ·exact BQ.mono (inferInstance:BQ (v.hi-((1:Int):Rat)) _) (by decide)
  ·split
   ·exact BQ.mono (inferInstance:BQ (v.lo+((1:Int):Rat)) _) (by decide)
   ·exact BQ.mono (inferInstance:BQ ((v.lo+v.hi)*mkRat 1 2) _) (by decide)
theorem atC{c:aat}{l:LnQ}[hl:LB l](hlo:l.ok)(hc:ac9 c)(hn:c.length≤1000000):PF GB prog 279 [.sl (c.map eFr),eLn l] (.tp [eW (ivD (aex c l)),vB (aex c l).isSome]):=by
 have hm:=aeG eFr c
 refine fn func279 J J ntmps279 J J (fun C=>?_)
 refine cl (fu:=⟨10⟩) rfl az6 rfl<|?_
 refine eqF 12 (.d (vI (c.length:Nat))) rfl (by rw[aeG]<;>rfl) ?_
 refine gx rfl<|?_
 refine lp (X:=IvQ×Nat) (fun⟨v,k⟩=>[(13, .d (vI (k:Nat))),(6, .ov 6 0)]) (fun⟨v,k⟩=>[(6,some (.o 185 [.d (vI (fn_ v.lo)), .d (vI (fd_ v.lo)), .d (fp_ v.lo), .d (vI (fn_ v.hi)), .d (vI (fd_ v.hi)), .d (fp_ v.hi), .d (.v (.bool v.nl)), .d (.v (.bool v.nh))] true))]) (fun⟨v,k⟩=>k≤c.length∧aqB v∧aeV l (c.drop k) v=aex c l) (fun⟨v,k⟩=>c.length-k) (IvQ.all,0) rfl ⟨cX _, .all,rfl⟩ (fun _=>rfl) (fun⟨v,k⟩ hk=>?_)
 dsimp only at hk⊢
 obtain⟨h1,h2,h3⟩:=hk
 haveI:=h2.lo
 haveI:=h2.hi
 refine br J J J (fun hc14=>?_) (fun hc14=>?_)
 ·
  obtain⟨s,hs0⟩: ∃s,c[k]? =some s:=⟨_,aJ (by omega)⟩
  have hs:=hc s (cZ hs0)
  haveI:=hs.lb
  refine ix _ rfl (abr hs0) rfl<|cl (fu:=⟨0⟩) rfl (aws (l:=l) (m:=s.l) (v:=v)) rfl<|?_
  generalize hw:l.cutV v s.l=w
  generalize hb:l.cutB v s.l=b
  refine gx rfl<|?_
  refine bb J J J (fun hc26=>?_) (fun hc26=>?_)
  ·
   exact rzI rfl (by rw[←h3,al1 hs0,hb,if_neg (by simpa using hc26)];exact ayy)
  ·
   exact at_ (w,k+1) (by dsimp only;exact⟨⟨by omega,hw▸h2.cut hlo.1,by rw[←h3,al1 hs0,hb,hw,if_pos (by simpa using hc26)]⟩,(by omega)⟩)
 ·
  exact rz rfl (by rw[←h3,fQ (by omega)];rfl)
theorem at0{c:aat}{l:LnQ}[hl:LB l](hlo:l.ok)(hc:ac9 c)(hn:c.length≤1000000):PF GB prog 280 [.sl (c.map eFr),eLn l] (vI (agE c l)):=by
 have hm:=aeG eFr c
 refine fn func280 J J ntmps280 J J (fun C=>?_)
 refine cl rfl (atC (c:=c) (l:=l) hlo hc hn) rfl<|?_
 refine bb (fu2:=⟨7⟩) J J J (fun hc16=>?_) (fun hc16=>?_)
 ·
  exact rz rfl (by unfold agE;rw[if_pos hc16];rfl)
 ·
  have hp:agE c l=adx l c:=by unfold agE;rw[if_neg (by simp[hc16])]
  refine eqF 18 (.d (vI (c.length:Nat))) rfl (by rw[aeG]<;>rfl) ?_
  refine gx rfl<|?_
  refine lp (X:=Nat) (fun k=>[(19, .d (vI (k:Nat)))]) (fun k=>[]) (fun k=>k≤c.length∧adx l (c.drop k)=adx l c) (fun k=>c.length-k) 0 rfl ⟨cX _,rfl⟩ (fun _=>rfl) (fun k hk=>?_)
  obtain⟨h1,h2⟩:=hk
  refine br J J J (fun hc20=>?_) (fun hc20=>?_)
  ·
   obtain⟨s,hs0⟩: ∃s,c[k]? =some s:=⟨_,aJ (by omega)⟩
   have hs:=hc s (cZ hs0)
   haveI:=hs.lb
   haveI:=hs.v.lo
   haveI:=hs.v.hi
   haveI:=BQ.sample s.v
   refine ix _ rfl (abr hs0) rfl<|cl (fu:=⟨0⟩) rfl (asz (v:=s.v)) rfl<|?_
   generalize ht:s.v.sample=t at*
   refine gx rfl<|cl rfl (azD (l:=s.l) (t:=t)) rfl<|cl rfl (ahq (l:=l) (p:=s.l.at t)) rfl<|?_
   refine br J J J (fun hc32=>?_) (fun hc32=>?_)
   ·
    have hsd:ads l s=(l.value (s.l.at t)).num.sign:=by unfold ads;rw[ht]
    exact rz rfl (by rw[hp,←h2,ahr hs0,hsd,if_pos hc32];rfl)
   ·
    refine cl rfl (amc (l:=s.l) (m:=l)) rfl<|?_
    refine bd J J J (fun hc37=>?_) (fun hc37=>?_)
    ·
     have hsd:ads l s=(l.value (s.l.at t)).num.sign:=by unfold ads;rw[ht]
     exact rz rfl (by rw[hp,←h2,ahr hs0,hsd,if_neg hc32,if_pos hc37];rfl)
    ·
     have hsd:ads l s=(l.value (s.l.at t)).num.sign:=by unfold ads;rw[ht]
     exact at_ (k+1) ⟨⟨by omega,by rw[←h2,ahr hs0,hsd,if_neg hc32,if_neg hc37]⟩,(by omega)⟩
  ·
   exact rz rfl (by rw[hp,←h2,fQ (by omega)];rfl)
theorem ajl{vs rest:List Value}(h: ∀v∈vs,(aad v).length=17){i:Nat}(hi:i≤vs.length):aaR (aaf vs++rest) (i*17) ((vs.length-i)*17)=some (aaf (vs.drop i)):=by
 have hl:=aam vs h
 have hd:(aaf (vs.drop i)).length=(vs.length-i)*17:=by
  rw[aam (s:=17) _ (fun v hv=>h v (gT hv)),fU]
 rw[abo _ _ _ (by simp only[aU];omega)]
 congr 1
 rw[gS (by omega),aer vs i h hi,cM (by omega),aR (by omega)]
theorem am3{vs rest vcs:List Value}(h: ∀v∈vs,(aad v).length=17)(hv:vcs.length=17){i:Nat}(hi:i<vs.length)(hr:17≤rest.length):
  ovw (ovw (aaf vs++rest) ((i+1)*17) (aaf (vs.drop i))) (i*17) vcs=aaf (vs.take i)++vcs++aaf (vs.drop i)++rest.drop 17:=by
 have hl:=aam vs h
 have hd:(aaf (vs.drop i)).length=(vs.length-i)*17:=by
  rw[aam (s:=17) _ (fun v hv=>h v (gT hv)),fU]
 have ht:(aaf (vs.take i)).length=i*17:=by
  rw[aam (s:=17) _ (fun v hv=>h v (dT hv)),cW,eJ (by omega)]
 rw[abZ (aaf (vs.drop i)) (aaf vs++rest) _ (by rw[aU];omega)]
 rw[abZ vcs _ _ (by simp only[aU,cW,fU];omega)]
 have e1:(aaf vs++rest).drop ((i+1)*17+(aaf (vs.drop i)).length)=rest.drop 17:=by
  rw[hd,show(i+1)*17+(vs.length-i)*17=(aaf vs).length+17 by omega,kV,lN (by omega),gN]
  congr 1
  omega
 have e2:((aaf vs++rest).take ((i+1)*17)++aaf (vs.drop i)++rest.drop 17).take (i*17)=aaf (vs.take i):=by
  rw[cY,cM (by simp only[cW,aU];omega),List.take_take,eJ (by omega),cM (by omega),aem vs i h (by omega)]
 have e3:((aaf vs++rest).take ((i+1)*17)++aaf (vs.drop i)++rest.drop 17).drop (i*17+vcs.length)=aaf (vs.drop i)++rest.drop 17:=by
  rw[hv,cY,show i*17+17=((aaf vs++rest).take ((i+1)*17)).length by simp only[cW,aU];omega,List.drop_left]
 rw[e1,e2,e3]
 simp[cY]
theorem ane{vs rest vcs:List Value}(h: ∀v∈vs,(aad v).length=17)(hv:vcs.length=17)(hr:17≤rest.length):ovw (aaf vs++rest) (vs.length*17) vcs=aaf vs++vcs++rest.drop 17:=by
 have hl:=aam vs h
 rw[abZ _ _ _ (by simp only[aU];omega),hv,←hl,List.take_left,kV]
 simp
theorem ai4{G:Gh}{b bv cap i c2:Nat}{vs rest vcs r2:List Value}{lo lo2:Bool}(hvs: ∀v∈vs,(aad v).length=17)(hfl: ∀v∈vs,∀c∈aad v,flat c=true)(hv:vcs.length=17)(hvf: ∀c∈vcs,flat c=true)
  (hcap:vs.length*17+rest.length=cap*17)(hroom:vs.length+1≤cap)(hi:i≤vs.length)(hb:vs.length≤1125899906842624):
  FnM prog 284 [.slice (some ⟨b,0,none⟩) vs.length cap, .int .i64 i, .slice (some ⟨bv,0,none⟩) 1 c2] [⟨b,aaf vs++rest,187,lo⟩,⟨bv,vcs++r2,187,lo2⟩] G
   (fun u css _=>u= .slice (some ⟨b,0,none⟩) (vs.length+1) cap∧css=[aaf (vs.take i)++vcs++aaf (vs.drop i)++rest.drop 17,vcs++r2]):=by
 have hL:(aaf vs++rest).length=cap*17:=by rw[aU,aam vs hvs];exact hcap
 have hr:17≤rest.length:=by omega
 have hD:(aaf (vs.drop i)).length=(vs.length-i)*17:=by
  rw[aam (s:=17) _ (fun v hv=>hvs v (gT hv)),fU]
 have hDf: ∀c∈aaf (vs.drop i),flat c=true:=fun c hc=>by
  obtain⟨l,hl,hcl⟩:=List.mem_flatten.1 hc
  obtain⟨v,hv,rfl⟩:=bM.1 hl
  exact hfl v (gT hv) c hcl
 have hvt:aaR (vcs++r2) 0 (1*17)=some vcs:=by rw[abo _ _ _ (by rw[aU];omega),iX,cM (by omega),aR (by omega)]
 refine FnM.intro func284 J J ntmps284 rfl ?_
 intro C _ _
 show St C _ _ [⟨b,aaf vs++rest,187,false⟩,⟨bv,vcs++r2,187,false⟩] _ _
 refine ar7 (fun hne=>?_)
 simp only[] at hne
 refine sR<|sa J J<|zE<|sR<|sm J J<|sm J J<|sy (adR J J (by omega) (by omega)) rfl<|zE<|sR<|?_
 refine sm J J<|acx J J<|sa J J<|zE<|aah<|sR<|sm J J<|sy (abG J J) rfl<|zE<|adC rfl<|?_
 refine zK<|sR<|sm J J<|acx J J<|sa J J<|zE<|aah<|sR<|sm J J<|sm J J<|sy (abG J J) rfl<|zE<|?_
 refine aaE rfl (fun hc=>?_) (fun hc=>?_) -- slot 22
 ·have hin:i=vs.length:=by omega
  subst hin
  refine sR<|sm J J<|sm J J<|?_
  refine sc (aeB (s:=17) (m:=1) (ys:=vcs) J J (.hd ..) hL (afR inferInstance hvt) (by omega) hvf hroom rfl ?_)
  refine sa J J<|zE<|aaC<|?_
  refine acq (css:=[ovw (aaf vs++rest) (vs.length*17) vcs,vcs++r2]) (.tmp rfl .nil) rfl _ (List.Perm.refl _) (List.Sublist.refl _) ⟨rfl,?_⟩
  rw[ane hvs hv hr,nY,iU]
  simp[aaf]
 have hin:i<vs.length:=by omega
 have hn1:((vs.length:Int)+((1:Nat):Int)).toNat=vs.length+1:=by omega
 have ht1:((i:Int)+((1:Nat):Int)).toNat=i+1:=by omega
 refine zK<|aah<|sR<|sm J J<|sm J J<|sy (aao J J) rfl<|sm J J<|?_
 refine sy (ays rfl) rfl<|sy (ae4 J J) rfl<|zE<|?_
 refine aaE rfl (fun hc2=>?_) (fun hc2=>?_) -- slot 31
 ·exact absurd hc2 (by omega)
 refine zK<|sR<|sm J J<|sm J J<|sm J J<|sy (aao J J) rfl<|sy (aci J J (by omega) (by omega)) rfl<|?_
 rw[hn1]
 refine sa J J<|zE<|aah<|sR<|sm J J<|sm J J<|sm J J<|sm J J<|sy (aao J J) rfl<|sy (ac6 J J (by omega) (by omega) (by omega)) rfl<|?_
 refine sy (alp (tS:=105) (tR:=4) func305 (by kernel_rfl) (by kernel_rfl) (by kernel_rfl) (by kernel_rfl) J J (Ne.symm hne) (fun h=>by rw[h] at hL;simp at hL;omega)) rfl<|?_
 refine sy (al7 rfl) rfl<|zE<|abY rfl<|?_
 refine aah<|dr0 (b:=b) (fun _=>false) [(0,true),(1,true),(2,true),(3,true),(4,true),(5,true),(6,true),(7,true),(8,false)] follows (.hd ..) (by kernel_rfl)<|dM J J J<|?_
 refine dM J J J<|dM J J J<|dy rfl (fun _=>aao J J (by omega) (by omega)) J J<|dy rfl (fun _=>ac6 J J (by omega) (by omega) (by omega)) J J<|?_
 refine dM J J J<|dM J J J<|dy rfl (fun _=>ac6 J J (by omega) (by omega) (by omega)) J J<|?_
 rw[ht1,aT,cN,cN]
 refine dc J J (aoC (s:=17) (m:=vs.length-i) (ys:=aaf (vs.drop i)) J J (by show min _ _=_;omega) (afR inferInstance (ajl hvs hi)) hDf (by rw[hD,hL];omega) (.hd ..) rfl ?_)
 refine amI<|dn<|sR<|sm J J<|sm J J<|sy (ac6 J J (by omega) (by omega) (by omega)) rfl<|sm J J<|?_
 rw[aT,cN]
 refine sc (aoC (s:=17) (m:=1) (ys:=vcs) J J (by show min _ _=_;omega) (afR inferInstance hvt) hvf (by rw[agW,hL,hv];omega) (.hd ..) rfl ?_)
 refine zE<|sR<|sm J J<|sa J J<|zE<|aaC<|?_
 refine acq (css:=[ovw (ovw (aaf vs++rest) ((i+1)*17) (aaf (vs.drop i))) (i*17) vcs,vcs++r2]) (.tmp rfl .nil) rfl _ (List.Perm.refl _) (List.Sublist.refl _) ⟨rfl,?_⟩
 rw[am3 hvs hv hin hr]
theorem FnM.toO{P:Program}{f:FuncId}{vs:List Value}{M:List Own}{G:Gh}{K:Value→List (List Value)→Gh→Prop}{K':Value→List Own→Gh→Prop}(h:FnM P f vs M G K)(hk: ∀v css G',GLe G G'→css.length=M.length→K v css G'→ ∃o,o.Sublist (adX (asB M) css)∧K' v o G'):FnO P f vs M G K':=
 ⟨h.able,fun w hw=>(h.run w hw).mono fun _ _ ⟨v,css,G',he,hl,hh,hK⟩=>let⟨o,h1,h2⟩:=hk v css G' hh.gle hl hK;⟨v,o,G',he,hh.drop h1,h2⟩⟩
theorem axo(c:aat):aef 17 (c.map eFr):=fun d hd=>by
 obtain⟨f,_,rfl⟩:=bM.1 hd;exact⟨rfl,rfl⟩
theorem amR{G:Gh}{s:Nat}{ds:List DV}{vs:List Value}(hk:aef s ds)(h:IsLs G ds vs): ∀v∈vs,∀c∈aad v,flat c=true:=fun v hv=>by
 obtain⟨d,hd,h3⟩:=h.all v hv
 exact(h3.cells (hk d hd).1).2
theorem aqG{c:aat}{x:FrQ}{i cap:Nat}(hi:i≤c.length)(hc:c.length+1≤cap)(hn:c.length≤1000000):PI GB prog 284 (i:Nat) 17 187 187 (c.map eFr) (eFr x) cap ((c.take i++x::c.drop i).map eFr):=by
 intro G w w2 B B2 _ hB hcap hB2
 obtain⟨vs,q1,q2,q3,_⟩:=hB
 obtain⟨us,u1,u2,u3,_⟩:=hB2
 dsimp only at q1 q2 q3 u1 u2 u3
 have hl:=q2.len
 rw[aX] at hl
 obtain⟨v,m,rfl,hv,hm⟩:=aab.1 u2
 cases aaz.1 hm
 rcases q1 with⟨_,e,_⟩|⟨b,rest,lo,e,rfl,h5,h6,h7⟩
 ·rw[e] at hcap;simp at hcap;omega
 rcases u1 with⟨h,_⟩|⟨bv,r2,lo2,e2,rfl,h8,h9,h10⟩
 ·cases h
 have hx:(aad v).length=17:=u3 v aQ
 have hxf:=amR (s:=17) (ds:=[eFr x]) (fun d hd=>by rw[aN.1 hd];exact⟨rfl,rfl⟩) u2 v aQ
 have key:=ai4 (G:=G) (b:=b) (bv:=bv) (cap:=w.c) (i:=i) (c2:=w2.c) (vs:=vs) (rest:=rest) (vcs:=aad v) (r2:=r2) (lo:=lo) (lo2:=lo2) q3 (amR (axo c) q2) hx hxf (by rw[←h5];exact h6) (by omega) (by omega) (by omega)
 rw[e,e2]
 rw[acT]
 refine key.toO fun u css G' hg hl2 ⟨k1,k2⟩=>?_
 subst k1 k2
 have hall: ∀u∈vs.take i++v::vs.drop i,(aad u).length=17:=fun u hu=>by
  rcases bS.1 hu with hu|hu
  ·exact q3 u (dT hu)
  ·rcases aS.1 hu with rfl|hu
   ·exact hx
   ·exact q3 u (gT hu)
 have hlen:(vs.take i++v::vs.drop i).length=vs.length+1:=by
  rw[aU,bY,cW,fU];omega
 refine⟨[⟨b,aaf (vs.take i)++aad v++aaf (vs.drop i)++rest.drop 17,187,false⟩], .cons_cons _ (jY _),⟨some ⟨b,0,none⟩,vs.length+1,w.c⟩,rfl,vs.take i++v::vs.drop i, .inr ⟨b,rest.drop 17,false,by rw[hlen],?_,aam _ hall,?_,?_⟩,?_,hall,fun h=>by cases h⟩
 ·rw[aa2];simp[aaf]
 ·rw[aam _ hall,hlen,fU]
  rw[h5] at h6
  have:=aM 17 (show vs.length+1≤w.c by omega)
  simp only[bN] at this⊢;omega
 ·rw[hlen];show vs.length+1≤w.c;omega
 ·rw[gJ,bL,mY,List.map_drop]
  exact((q2.take i).up hg).app (.cons (hv.up hg) ((q2.drop i).up hg))
theorem aom{s:FrQ}{l:LnQ}[hs:LB s.l][hl:LB l]:PF GB prog 283 [eFr s,eLn l] (vI (aaG s.l.dir l.dir)):=by
 refine fn func283 J J ntmps283 J J (fun C=>?_)
 refine cl rfl (ajd (l:=s.l)) rfl<|cl rfl (ajd (l:=l)) rfl<|cl rfl (akW (u:=s.l.dir) (v:=l.dir)) rfl<|?_
 exact rz J J
def bsB(c:aat)(l:LnQ)(i:Nat):Bool:=match c[i]? with
 |some s=>decide (aaG s.l.dir l.dir=0)
 |none=>false
theorem aqz(i j:Nat):((i:Int)+(j:Int)).fdiv (2^min (1:Int).toNat IntKind.u64.bits)=((i+j)/2:Nat):=by
 rw[show(2:Int)^min (1:Int).toNat IntKind.u64.bits=((2:Nat):Int) from rfl,fZ _ (by decide)];omega
theorem au3{c:aat}{l:LnQ}{k:Nat}{s:FrQ}(h:c[k]? =some s):afd c l k=decide (aaG s.l.dir l.dir<0):=by unfold afd;rw[h]
theorem ay7{c:aat}{l:LnQ}{k:Nat}{s:FrQ}(h:c[k]? =some s):bsB c l k=decide (aaG s.l.dir l.dir=0):=by unfold bsB;rw[h]
theorem ay5{c:aat}{l:LnQ}{k:Nat}(h: ¬k<c.length):bsB c l k=false:=by unfold bsB;rw[cV (by omega)]
theorem azd{p:Nat→Bool}{i j:Nat}(h:i<j)(hp:p ((i+j)/2)=true):bsq p i j=bsq p ((i+j)/2+1) j:=by rw[bsq,dif_pos h,if_pos hp]
theorem ayX{p:Nat→Bool}{i j:Nat}(h:i<j)(hp: ¬p ((i+j)/2)=true):bsq p i j=bsq p i ((i+j)/2):=by rw[bsq,dif_pos h,if_neg hp]
theorem axW{p:Nat→Bool}{i j:Nat}(h: ¬i<j):bsq p i j=i:=by rw[bsq,dif_neg h]
theorem azB{c:aat}{l:LnQ}[hl:LB l](hc:ac9 c)(hn:c.length≤1000000):PF GB prog 282 [.sl (c.map eFr),eLn l, .v (.func (.func 283) #[] #[])] (.tp [vI (bsq (afd c l) 0 c.length:Nat),vB (bsB c l (bsq (afd c l) 0 c.length))]):=by
 have hm:=aeG eFr c
 refine fn (fu:=⟨11⟩) func282 J J ntmps282 J J (fun C=>?_)
 refine eqF 13 (.d (vI (c.length:Nat))) rfl (by rw[hm]<;>rfl) ?_
 refine gx rfl<|?_
 refine lp (X:=Nat×Nat) (fun⟨i,j⟩=>[(9, .d (vI (i:Nat))),(10, .d (vI (j:Nat)))]) (fun⟨i,j⟩=>[]) (fun⟨i,j⟩=>i≤j∧j≤c.length∧bsq (afd c l) i j=bsq (afd c l) 0 c.length) (fun⟨i,j⟩=>j-i) (0,c.length) rfl ⟨cX _,bQ _,rfl⟩ (fun _=>rfl) (fun⟨i,j⟩ hk=>?_)
 dsimp only at hk⊢
 obtain⟨h1,h2,h3⟩:=hk
 refine br (fu1:=⟨10⟩) (fu2:=⟨11⟩) J J J (fun hc17=>?_) (fun hc17=>?_)
 ·
  obtain⟨s,hs0⟩: ∃s,c[(i+j)/2]? =some s:=⟨_,aJ (by omega)⟩
  haveI:=(hc s (cZ hs0)).lb
  have hang:=au3 (l:=l) hs0
  refine eqF 22 (.d (.v (.int .u64 ((i+j)/2:Nat)))) rfl (by rw[aqz]) ?_
  refine gx rfl<|ix _ rfl (abr hs0) rfl<|cl rfl (aom (s:=s) (l:=l)) rfl<|?_
  refine br J J J (fun hc31=>?_) (fun hc31=>?_)
  ·
   exact at_ ((i+j)/2+1,j) (by dsimp only;exact⟨⟨by omega,h2,by rw[←h3,azd (i:=i) (j:=j) (by omega) (by rw[hang];exact decide_eq_true hc31)]⟩,(by omega)⟩)
  ·
   exact at_ (i,(i+j)/2) (by dsimp only;exact⟨⟨by omega,by omega,by rw[←h3,ayX (i:=i) (j:=j) (by omega) (by rw[hang,decide_eq_false hc31];exact Bool.false_ne_true)]⟩,(by omega)⟩)
 ·
  refine csS (v2:=fun hg39=>by simp only[aag];kernel_rfl) J J J J (fun hg39=>?_) (fun hg39=>?_)
  ·
   have he:=axW (p:=afd c l) (i:=i) (j:=j) (by omega)
   obtain⟨s,hs0⟩: ∃s,c[i]? =some s:=⟨_,aJ (by omega)⟩
   haveI:=(hc s (cZ hs0)).lb
   refine ix _ rfl (abr hs0) rfl<|cl rfl (aom (s:=s) (l:=l)) rfl<|?_
   exact rz rfl (by rw[←h3,he,ay7 hs0];rfl)
  ·
   have he:=axW (p:=afd c l) (i:=i) (j:=j) (by omega)
   exact rz rfl (by rw[←h3,he,ay5 (by omega)];rfl)
theorem aoo{l:LnQ}[LB l](hlo:l.ok): ∀{c:aat} {v w:IvQ},ac9 c→aqB v→aeV l c v=some w→aqB w
 |[],v,w,_,hv,h=>by cases h;exact hv
 |s::t,v,w,hc,hv,h=>by
  haveI:=(hc s aQ).lb
  simp only[aeV] at h
  split at h
  ·exact aoo hlo (fun x hx=>hc x (aZ _ hx)) (hv.cut hlo.1) h
  ·cases h
theorem ai6{l:LnQ}[LB l]: ∀{c:aat},ac9 c→ac9 (ab8 l c)
 |[],_,s,h=>by cases h
 |a::t,hc,s,h=>by
  have ha:=hc a aQ
  haveI:=ha.lb
  have ht:=ai6 (l:=l) (fun x hx=>hc x (aZ _ hx))
  unfold ab8 at h
  split at h
  ·rcases aS.1 h with rfl|h
   ·exact⟨ha.lb,ha.ok,ha.v.cut ha.ok.1⟩
   ·exact ht s h
  ·exact ht s h
theorem anG{l:LnQ}[hl:LB l](hlo:l.ok){c:aat}(hc:ac9 c):ac9 (abg c l):=by
 unfold abg
 split
 ·rename_i v hv
  intro s hs
  unfold anr at hs
  rcases bS.1 hs with h|h
  ·exact ai6 hc s (dT h)
  ·rcases aS.1 h with rfl|h
   ·exact⟨hl,hlo,aoo hlo hc .all hv⟩
   ·exact ai6 hc s (gT h)
 ·exact hc
theorem amj{l:LnQ}{c:aat}{k:Nat}{s:FrQ}(h:c[k]? =some s):ab8 l (c.drop k)=if s.l.cutB s.v l then⟨s.l,s.l.cutV s.v l⟩::ab8 l (c.drop (k+1)) else ab8 l (c.drop (k+1)):=by
 rw[agH h];rfl
theorem asN{c:aat}{l:LnQ}[hl:LB l](hlo:l.ok)(hc:ac9 c)(hn:c.length≤100000):PF GB prog 246 [.sl (c.map eFr),eLn l] (.tp [.sl ((abg c l).map eFr),vB (abv c l)]):=by
 have hm:=aeG eFr c
 refine fn func246 J J ntmps246 J J (fun C=>?_)
 refine cl rfl (atC (c:=c) (l:=l) hlo hc (by omega)) rfl<|?_
 refine bb (fu2:=⟨6⟩) J J J (fun hc22=>?_) (fun hc22=>?_)
 ·
  have hp:aex c l=none:=by simpa using hc22
  refine cl rfl (at0 (c:=c) (l:=l) hlo hc (by omega)) rfl<|?_
  exact rz rfl (by unfold abg abv;rw[hp];rfl)
 ·
  obtain⟨v,hv⟩: ∃v,aex c l=some v:=Option.isSome_iff_exists.1 (by simpa using hc22)
  have hvd:ivD (aex c l)=v:=by rw[hv];rfl
  rw[hvd]
  refine eqF 29 (.d (vI (c.length:Nat))) rfl (by rw[hm]<;>rfl) ?_
  refine gx rfl<|mkc (fu:=⟨8⟩) (c.length+1) J J J<|?_
  refine eqF 33 (.d (vI (c.length:Nat))) rfl (by rw[hm]<;>rfl) ?_
  refine gx rfl<|?_
  refine lp (X:=aat×Nat) (fun⟨o,k⟩=>[(34, .d (vI (k:Nat))),(8, .rw 31)]) (fun⟨o,k⟩=>[(31,some (.c 187 17 (o.map eFr) (c.length+1)))]) (fun⟨o,k⟩=>k≤c.length∧o.length≤k∧o++ab8 l (c.drop k)=ab8 l c) (fun⟨o,k⟩=>c.length-k) ([],0) rfl ⟨cX _,bQ _,rfl⟩ (fun _=>rfl) (fun⟨o,k⟩ hk=>?_)
  dsimp only at hk⊢
  obtain⟨h1,h2,h3⟩:=hk
  have hmo:=aeG eFr o
  refine br J J J (fun hc35=>?_) (fun hc35=>?_)
  ·
   obtain⟨s,hs0⟩: ∃s,c[k]? =some s:=⟨_,aJ (by omega)⟩
   have hs:=hc s (cZ hs0)
   haveI:=hs.lb
   haveI:=hs.v.lo
   haveI:=hs.v.hi
   refine ix _ rfl (abr hs0) rfl<|cl (fu:=⟨0⟩) rfl (aws (l:=s.l) (m:=l) (v:=s.v)) rfl<|?_
   generalize hw:s.l.cutV s.v l=w
   generalize hb:s.l.cutB s.v l=b
   refine gx rfl<|?_
   refine bb J J J (fun hc47=>?_) (fun hc47=>?_)
   ·
    refine rf J J<|apc ((o++[FrQ.mk s.l w]).map eFr) rfl (by rw[gJ];rfl) (axo [FrQ.mk s.l w]) (by rw[hmo];simp;omega) rfl<|?_
    refine rnE 54 31 rfl ?_
    exact at_ (o++[FrQ.mk s.l w],k+1) (by dsimp only;exact⟨⟨by omega,by simp;omega,by rw[←h3,amj hs0,hb,if_pos hc47,hw,cY];rfl⟩,(by omega)⟩)
   ·
    exact at_ (o,k+1) (by dsimp only;exact⟨⟨by omega,by omega,by rw[←h3,amj hs0,hb,if_neg (by simp[hc47])]⟩,(by omega)⟩)
  ·
   obtain rfl:k=c.length:=by omega
   have ho:o=ab8 l c:=by rw[←h3,iU];simp[ab8]
   subst ho
   have hbl:=(amL (afd (ab8 l c) l) (ab8 l c).length 0 (ab8 l c).length (by omega) (by omega)).2
   refine cL rfl (azB (c:=ab8 l c) (l:=l) (ai6 hc) (by omega)) J J<|ro J J<|ci ((anr (ab8 l c) l v).map eFr) rfl (aqG (c:=ab8 l c) (x:=⟨l,v⟩) (i:=bsq (afd (ab8 l c) l) 0 (ab8 l c).length) (cap:=c.length+1) hbl (by omega) (by omega)) J J<|?_
   refine fzE 68 rfl ?_
   exact rz rfl (by unfold abg abv;rw[hv];rfl)
theorem aq8{c:aat}{l:LnQ}[hl:LB l](hlo:l.ok)(hc:ac9 c)(hn:c.length≤100000):PF GB prog 199 [.sl (c.map eFr),eLn l] (.tp [.sl ((abg c l).map eFr), .sl ((abg c l.rev).map eFr),vB (abv c l),vB (abv c l.rev)]):=by
 refine fn func199 J J ntmps199 J J (fun C=>?_)
 refine cl rfl (asN (c:=c) (l:=l) hlo hc hn) rfl<|cl rfl (awS (l:=l)) rfl<|cl rfl (asN (c:=c) (l:=l.rev) hlo.rev hc hn) rfl<|?_
 exact rz J J
def cU:Tr→List DV
 | .leaf b=>[vI 0,vI 0, .v (.pointer none),vI 0,vI 0, .v (.pointer none),vI 0,vI 0, .v (.pointer none), .v (.pointer none), .v (.pointer none), .v (.bool b)]
 | .node l x y=>[vI (fn_ (l.a:Rat)),vI (fd_ (l.a:Rat)),fp_ (l.a:Rat),vI (fn_ (l.b:Rat)),vI (fd_ (l.b:Rat)),fp_ (l.b:Rat),vI (fn_ (l.c:Rat)),vI (fd_ (l.c:Rat)),fp_ (l.c:Rat), .pt (cU x), .pt (cU y), .v (.bool false)]
def eU(t:Tr):DV:= .pt (cU t)
theorem ahG{b:Bool}:PF GB prog 203 [.v (.bool b)] (eU (.leaf b)):=by
 refine fn func203 J J ntmps203 J J (fun C=>?_)
 refine fzE 5 rfl ?_
 exact rz J J
theorem asn{l:LnQ}{x y:Tr}:PF GB prog 205 [eLn l,eU x,eU y] (eU (.node l x y)):=by
 refine fn func205 J J ntmps205 J J (fun C=>?_)
 refine fzE 11 rfl ?_
 exact rz J J
theorem abI{b:Bool}:PF GB prog 137 [eU (.leaf b)] (.v (.bool true)):=by
 refine fn func137 J J ntmps137 J J (fun C=>?_)
 exact rz J J
theorem abu{l:LnQ}{x y:Tr}:PF GB prog 137 [eU (.node l x y)] (.v (.bool false)):=by
 refine fn func137 J J ntmps137 J J (fun C=>?_)
 exact rz J J
theorem arW{l l1:LnQ}{x y u:Tr}:PF GB prog 200 [eLn l,eU (.node l1 x y),eU u] (eU (.node l (.node l1 x y) u)):=by
 refine fn func200 J J ntmps200 J J (fun C=>?_)
 refine cl (fu:=⟨0⟩) rfl abu rfl<|knF J J J<|cl rfl asn rfl<|?_
 exact rz J J
theorem aoM{l l1:LnQ}{x y:Tr}{p:Bool}:PF GB prog 200 [eLn l,eU (.leaf p),eU (.node l1 x y)] (eU (.node l (.leaf p) (.node l1 x y))):=by
 refine fn func200 J J ntmps200 J J (fun C=>?_)
 refine cl (fu:=⟨0⟩) rfl abI rfl<|knT J J J<|cl (fu:=⟨1⟩) rfl abu rfl<|knF J J J<|cl rfl asn rfl<|?_
 exact rz J J
theorem aqf{l:LnQ}{p q:Bool}:PF GB prog 200 [eLn l,eU (.leaf p),eU (.leaf q)] (eU (Tr.joinQ l (.leaf p) (.leaf q))):=by
 refine fn func200 J J ntmps200 J J (fun C=>?_)
 refine cl (fu:=⟨0⟩) rfl abI rfl<|knT J J J<|cl (fu:=⟨1⟩) rfl abI rfl<|knT J J J<|?_
 refine bb J J J (fun hc23=>?_) (fun hc23=>?_)
 ·
  exact rz rfl (by rw[show Tr.joinQ l (.leaf p) (.leaf q)= .leaf p by simp[Tr.joinQ,Tr.isLeaf,Tr.code,hc23]];rfl)
 ·
  refine cl rfl asn rfl<|?_
  exact rz rfl (by rw[show Tr.joinQ l (.leaf p) (.leaf q)= .node l (.leaf p) (.leaf q) by simp[Tr.joinQ,Tr.isLeaf,Tr.code,hc23]];rfl)
theorem awA{l:LnQ}: ∀{x y:Tr},PF GB prog 200 [eLn l,eU x,eU y] (eU (Tr.joinQ l x y))
 | .leaf _, .leaf _=>aqf
 | .leaf _, .node .. =>aoM
 | .node ..,_=>arW
theorem akl{b:Bool}:PF GB prog 108 [eU (.leaf b)] (vI (Tr.depth (.leaf b):Nat)):=by
 refine fn func108 J J ntmps108 J J (fun C=>?_)
 refine cl (fu:=⟨0⟩) rfl abI rfl<|?_
 refine kbT 4 rfl ?_
 refine gx rfl<|?_
 exact rz J J
theorem akq{l:LnQ}{x y:Tr}(hd:(Tr.node l x y).depth≤1000000)(ihx:PF GB prog 108 [eU x] (vI (Tr.depth x:Nat)))(ihy:PF GB prog 108 [eU y] (vI (Tr.depth y:Nat))):PF GB prog 108 [eU (.node l x y)] (vI (Tr.depth (.node l x y):Nat)):=by
 have hdp:(Tr.node l x y).depth=1+max x.depth y.depth:=rfl
 have hdx:=qQ x.depth y.depth
 have hdy:=pY x.depth y.depth
 refine fn func108 J J ntmps108 J J (fun C=>?_)
 refine cl (fu:=⟨0⟩) rfl abu rfl<|?_
 refine kbF 4 rfl ?_
 refine gx rfl<|cl rfl ihx rfl<|cl (hv:=by simp only[aag];exact⟨by omega,by kernel_rfl⟩) rfl ihy rfl<|?_
 exact rz rfl (by show DV.v (.int _ _)= .v (.int _ _);congr 2;split<;>omega)
theorem akx: ∀{t:Tr},t.depth≤1000000→PF GB prog 108 [eU t] (vI (Tr.depth t:Nat))
 | .leaf _,_=>akl
 | .node l x y,h=>akq h (akx (by have:=qQ x.depth y.depth;have:(Tr.node l x y).depth=1+max x.depth y.depth:=rfl;omega)) (akx (by have:=pY x.depth y.depth;have:(Tr.node l x y).depth=1+max x.depth y.depth:=rfl;omega))
theorem agv{b:Bool}{c:aat}:PF GB prog 139 [eU (.leaf b), .sl (c.map eFr)] (eU (Tr.restrict (.leaf b) c)):=by
 refine fn func139 J J ntmps139 J J (fun C=>?_)
 refine cl (fu:=⟨0⟩) rfl abI rfl<|?_
 refine kbT 10 rfl ?_
 refine gx rfl<|?_
 exact rz J J
theorem agx{l:LnQ}{x y:Tr}{c:aat}(hl:LB l)(hlo:l.ok)(hc:ac9 c)(hn:c.length+(Tr.node l x y).depth≤100000)(ihx: ∀{c:aat},ac9 c→c.length+x.depth≤100000→PF GB prog 139 [eU x, .sl (c.map eFr)] (eU (Tr.restrict x c)))(ihy: ∀{c:aat},ac9 c→c.length+y.depth≤100000→PF GB prog 139 [eU y, .sl (c.map eFr)] (eU (Tr.restrict y c))):PF GB prog 139 [eU (.node l x y), .sl (c.map eFr)] (eU (Tr.restrict (.node l x y) c)):=by
 have hdp:(Tr.node l x y).depth=1+max x.depth y.depth:=rfl
 have hdx:=qQ x.depth y.depth
 have hdy:=pY x.depth y.depth
 have hca:=akh c l
 have hcb:=akh c l.rev
 refine fn func139 J J ntmps139 J J (fun C=>?_)
 refine cl (fu:=⟨0⟩) rfl abu rfl<|?_
 refine kbF 10 rfl ?_
 refine gx rfl<|cl rfl (aq8 (c:=c) (l:=l) hlo hc (by omega)) rfl<|?_
 refine bb J J J (fun hc23=>?_) (fun hc23=>?_)
 ·
  refine cl rfl (ihx hc (by omega)) rfl<|?_
  exact rz rfl (by rw[Tr.restrict,if_pos hc23];rfl)
 ·
  refine bb J J J (fun hc32=>?_) (fun hc32=>?_)
  ·
   refine cl rfl (ihy hc (by omega)) rfl<|?_
   exact rz rfl (by rw[Tr.restrict,if_neg (by simp[hc23]),if_pos hc32];rfl)
  ·
   refine cl rfl (ihx (c:=abg c l) (anG hlo hc) (by omega)) rfl<|cl rfl (ihy (c:=abg c l.rev) (anG hlo.rev hc) (by omega)) rfl<|cl rfl awA rfl<|?_
   exact rz rfl (by rw[Tr.restrict,if_neg (by simp[hc23]),if_neg (by simp[hc32])];rfl)
theorem afS: ∀{t:Tr} {c:aat},t.all LB→t.all LnQ.ok→ac9 c→c.length+t.depth≤100000→PF GB prog 139 [eU t, .sl (c.map eFr)] (eU (Tr.restrict t c))
 | .leaf _,_,_,_,_,_=>agv
 | .node l x y,c,hb,ho,hc,hn=>agx hb.1 ho.1 hc hn (fun h1 h2=>afS hb.2.1 ho.2.1 h1 h2) (fun h1 h2=>afS hb.2.2 ho.2.2 h1 h2)
theorem alJ{t:Tr}(hb:t.all LB)(ho:t.all LnQ.ok)(hd:t.depth≤100000):PF GB prog 65 [eU t] (eU (t.restrict [])):=by
 refine fn func65 J J ntmps65 J J (fun C=>?_)
 refine cl rfl (afS (t:=t) (c:=[]) hb ho (fun s h=>by cases h) (by simpa using hd)) rfl<|?_
 exact rz J J
def Tr.compl:Tr→Tr
 | .leaf b=> .leaf !b
 | .node l x y=> .node l x.compl y.compl
def Tr.chooseQ(op:Int)(b:Bool)(t:Tr)(c:aat):Tr:=
 if op=1∨op=2 then(if b=decide (op=1) then .leaf b else t.restrict c)
 else if op=3∧b=false then .leaf false
 else if b then(t.restrict c).compl else t.restrict c
def Tr.mergeQ(op:Int):Tr→Tr→aat→Tr
 | .leaf b,u,c=>u.chooseQ op b c
 | .node l x y,u,c=>if !abv c l.rev then x.mergeQ op u c else if !abv c l then y.mergeQ op u c else joinQ l (x.mergeQ op u (abg c l)) (y.mergeQ op u (abg c l.rev))
def lnZ:DV:= .ag [vI 0,vI 0, .v (.pointer none),vI 0,vI 0, .v (.pointer none),vI 0,vI 0, .v (.pointer none)]
def lnR:Option LnQ→DV
 |some l=> .tp [eLn l,vB true]
 |none=> .tp [lnZ,vB false]
theorem ayj{l:LnQ}(h: ¬l.ok)(hz: ¬(l.a=0∧l.b=0)):decide (rgcd (rgcd (l.a:Rat) (l.b:Rat)) (l.c:Rat)=((1:Int):Rat))=false:=by
 rw[afg,afg]
 refine decide_eq_false fun e=>h ⟨hz,?_⟩
 simp only[iK] at e
 have:=mK.1 e
 omega
theorem aqA{l:LnQ}[hl:LB l](ha:l.a=0)(hb:l.b=0):PF GB prog 204 [eL l] (lnR none):=by
 refine fn func204 J J ntmps204 J J (fun C=>?_)
 refine cl (fu:=⟨0⟩) rfl (abQ (m:=l.a)) rfl<|knF J J J<|cl (fu:=⟨0⟩) rfl (abQ (m:=l.b)) rfl<|knF J J J<|cl (fu:=⟨0⟩) rfl (abQ (m:=l.c)) rfl<|?_
 refine knF J J J<|cl rfl (adA (m:=l.a)) rfl<|cl rfl (adA (m:=l.b)) rfl<|cl rfl (adA (m:=l.c)) rfl<|cl (fu:=⟨0⟩) rfl (ahP (q:=(l.a:Rat))) rfl<|?_
 refine knT rfl (by show some (decide _)=some true;rw[ha];rfl) rfl<|cl (fu:=⟨0⟩) rfl (ahP (q:=(l.b:Rat))) rfl<|knT rfl (by show some (decide _)=some true;rw[hb];rfl) rfl<|?_
 exact rz J J
theorem asr{l:LnQ}[hl:LB l](hz: ¬(l.a=0∧l.b=0))(ho: ¬l.ok):PF GB prog 204 [eL l] (lnR none):=by
 refine fn func204 J J ntmps204 J J (fun C=>?_)
 refine cl (fu:=⟨0⟩) rfl (abQ (m:=l.a)) rfl<|knF J J J<|cl (fu:=⟨0⟩) rfl (abQ (m:=l.b)) rfl<|knF J J J<|cl (fu:=⟨0⟩) rfl (abQ (m:=l.c)) rfl<|?_
 refine knF J J J<|cl rfl (adA (m:=l.a)) rfl<|cl rfl (adA (m:=l.b)) rfl<|cl rfl (adA (m:=l.c)) rfl<|cl (fu:=⟨0⟩) rfl (ahP (q:=(l.a:Rat))) rfl<|?_
 refine csS (fu2:=⟨4⟩) J J J J (fun hg35=>?_) (fun hg35=>?_)
 ·
  have ha:l.a=0:=cR.1 hg35
  refine cl (fu:=⟨1⟩) rfl (ahP (q:=(l.b:Rat))) rfl<|knF rfl (by first|rfl|(show some (decide _)=some false;rw[decide_eq_false (fun e=>hz ⟨ha,cR.1 e⟩)])) rfl<|?_
  refine cl rfl (afv (p:=(l.a:Rat)) (q:=(l.b:Rat))) rfl<|cl rfl (afv (p:=rgcd l.a l.b) (q:=(l.c:Rat))) rfl<|cl rfl (ahz (m:=1) (by decide)) rfl<|?_
  refine cl (fu:=⟨0⟩) rfl (agp (p:=rgcd (rgcd l.a l.b) l.c) (q:=((1:Int):Rat))) rfl<|knT rfl (by show some (!decide _)=some true;rw[ayj ho hz];rfl) rfl<|?_
  exact rz J J
 ·
  refine knF rfl (by first|rfl|(show some (decide _)=some false;rw[decide_eq_false (fun e=>hz ⟨ha,cR.1 e⟩)])) rfl<|cl rfl (afv (p:=(l.a:Rat)) (q:=(l.b:Rat))) rfl<|?_
  refine cl rfl (afv (p:=rgcd l.a l.b) (q:=(l.c:Rat))) rfl<|cl rfl (ahz (m:=1) (by decide)) rfl<|cl (fu:=⟨0⟩) rfl (agp (p:=rgcd (rgcd l.a l.b) l.c) (q:=((1:Int):Rat))) rfl<|?_
  refine knT rfl (by show some (!decide _)=some true;rw[ayj ho hz];rfl) rfl<|?_
  exact rz J J
theorem avg{l:LnQ}[hl:LB l][Decidable l.ok]:PF GB prog 204 [eL l] (lnR (if l.ok then some l else none)):=by
 split
 ·rename_i h;exact awU h
 ·rename_i h
  by_cases hz:l.a=0∧l.b=0
  ·exact aqA hz.1 hz.2
  ·exact asr hz h
def akv(n:Bool)(ds:List Nat):Prop:=Nrm ds∧(n=true→0<ds.length)
instance (n:Bool) (ds:List Nat):Decidable (akv n ds):=inferInstanceAs (Decidable (_∧_))
theorem acJ{neg:Bool}{ds:List Nat}(h:DOk ds∧ds.length≤3):PF GB prog 249 [.ag [.v (.bool neg),dLi ds]] (vB (decide (akv neg ds))):=aj6 h.1 (by have:=h.2;omega)
structure RL where
 na:Bool
 da:List Nat
 nb:Bool
 db:List Nat
 nc:Bool
 dc:List Nat
def RL.d(r:RL):DV:= .ag [.v (.bool r.na),dLi r.da, .v (.bool r.nb),dLi r.db, .v (.bool r.nc),dLi r.dc]
def ahw(n:Bool)(ds:List Nat):Int:=if n then-(dv ds:Int) else dv ds
def RL.l(r:RL):LnQ:=⟨ahw r.na r.da,ahw r.nb r.db,ahw r.nc r.dc⟩
def RL.nm(r:RL):Prop:=akv r.na r.da∧akv r.nb r.db∧akv r.nc r.dc
instance (l:LnQ):Decidable l.ok:=inferInstanceAs (Decidable (_∧_))
instance (r:RL):Decidable r.nm:=inferInstanceAs (Decidable (_∧_∧_))
def RL.ln(r:RL):Option LnQ:=if r.nm∧r.l.ok then some r.l else none
structure RL.sm (r:RL):Prop where
 a:DOk r.da∧r.da.length≤3
 b:DOk r.db∧r.db.length≤3
 c:DOk r.dc∧r.dc.length≤3
theorem akg(n:Bool)(ds:List Nat):(ahw n ds).natAbs=dv ds:=by unfold ahw;cases n<;>simp
theorem ahd{n:Bool}{ds:List Nat}(hd:DOk ds)(h:akv n ds):decide (ahw n ds<0)=n:=by
 unfold ahw
 cases n with
 |false=>simp
 |true=>
  have h0:0<dv ds:=by
   refine iJ fun e=>?_
   have:=amY hd h.1
   rw[e,afQ] at this
   have h2:=h.2 rfl
   rw[←this] at h2
   exact absurd h2 (by decide)
  simp only[if_true,decide_eq_true_eq]
  omega
theorem RL.eL{r:RL}(s:r.sm)(h:r.nm):r.d=Go.Sx.eL r.l:=by
 unfold RL.d Go.Sx.eL RL.l
 simp only[akg,ahd s.a.1 h.1,ahd s.b.1 h.2.1,ahd s.c.1 h.2.2,dN,amY s.a.1 h.1.1,amY s.b.1 h.2.1.1,amY s.c.1 h.2.2.1]
 rfl
theorem RL.lb{r:RL}(s:r.sm):LB r.l:=by
 have key: ∀(n:Bool) (ds:List Nat),DOk ds∧ds.length≤3→(ahw n ds).natAbs<2^96:=fun n ds h=>by
  rw[akg]
  refine cJ (adq h.1) ?_
  rw[show(2:Nat)^96=4294967296^3 by decide]
  exact aL (by decide) h.2
 exact⟨key _ _ s.a,key _ _ s.b,key _ _ s.c⟩
theorem arJ{r:RL}(s:r.sm)(h: ¬akv r.na r.da):PF GB prog 204 [r.d] (lnR none):=by
 refine fn func204 J J ntmps204 J J (fun C=>?_)
 refine cl (fu:=⟨0⟩) rfl (acJ (neg:=r.na) (ds:=r.da) s.a) rfl<|knT rfl (by show some (!decide _)=some true;rw[decide_eq_false h];rfl) rfl<|?_
 exact rz J J
theorem ard{r:RL}(s:r.sm)(h1:akv r.na r.da)(h: ¬akv r.nb r.db):PF GB prog 204 [r.d] (lnR none):=by
 refine fn func204 J J ntmps204 J J (fun C=>?_)
 refine cl (fu:=⟨0⟩) rfl (acJ (neg:=r.na) (ds:=r.da) s.a) rfl<|knF rfl (by show some (!decide _)=some false;rw[decide_eq_true h1];rfl) rfl<|cl (fu:=⟨0⟩) rfl (acJ (neg:=r.nb) (ds:=r.db) s.b) rfl<|?_
 refine knT rfl (by show some (!decide _)=some true;rw[decide_eq_false h];rfl) rfl<|?_
 exact rz J J
theorem arF{r:RL}(s:r.sm)(h1:akv r.na r.da)(h2:akv r.nb r.db)(h: ¬akv r.nc r.dc):PF GB prog 204 [r.d] (lnR none):=by
 refine fn func204 J J ntmps204 J J (fun C=>?_)
 refine cl (fu:=⟨0⟩) rfl (acJ (neg:=r.na) (ds:=r.da) s.a) rfl<|knF rfl (by show some (!decide _)=some false;rw[decide_eq_true h1];rfl) rfl<|cl (fu:=⟨0⟩) rfl (acJ (neg:=r.nb) (ds:=r.db) s.b) rfl<|?_
 refine knF rfl (by show some (!decide _)=some false;rw[decide_eq_true h2];rfl) rfl<|cl (fu:=⟨0⟩) rfl (acJ (neg:=r.nc) (ds:=r.dc) s.c) rfl<|knT rfl (by show some (!decide _)=some true;rw[decide_eq_false h];rfl) rfl<|?_
 exact rz J J
theorem apa{r:RL}(s:r.sm):PF GB prog 204 [r.d] (lnR r.ln):=by
 by_cases h1:akv r.na r.da
 ·by_cases h2:akv r.nb r.db
  ·by_cases h3:akv r.nc r.dc
   ·haveI:=RL.lb s
    rw[RL.eL s ⟨h1,h2,h3⟩,show r.ln=if r.l.ok then some r.l else none by unfold RL.ln;simp[show r.nm from⟨h1,h2,h3⟩]]
    exact avg
   ·rw[show r.ln=none from if_neg fun e=>h3 e.1.2.2]
    exact arF s h1 h2 h3
  ·rw[show r.ln=none from if_neg fun e=>h2 e.1.2.1]
   exact ard s h1 h2
 ·rw[show r.ln=none from if_neg fun e=>h1 e.1.1]
  exact arJ s h1
end Go.Sx
end
