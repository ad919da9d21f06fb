import Derived.Test.YtidmgdlbilojcaaGreatDoorMc12
set_option linter.unusedSimpArgs false
set_option maxHeartbeats 4000000
set_option maxRecDepth 100000
set_option linter.unusedVariables false
section
namespace Go.Sx
open Go Go.Proofs Tryz
variable {GB:Gh}
def eLn(l:LnQ):DV:= .ag [vI (fn_ (l.a:Rat)),vI (fd_ (l.a:Rat)),fp_ (l.a:Rat),vI (fn_ (l.b:Rat)),vI (fd_ (l.b:Rat)),fp_ (l.b:Rat),vI (fn_ (l.c:Rat)),vI (fd_ (l.c:Rat)),fp_ (l.c:Rat)]
def eZ(p:PtQ):DV:= .ag [vI (fn_ p.x),vI (fd_ p.x),fp_ p.x,vI (fn_ p.y),vI (fd_ p.y),fp_ p.y]
def eW(v:IvQ):DV:= .ag [vI (fn_ v.lo),vI (fd_ v.lo),fp_ v.lo,vI (fn_ v.hi),vI (fd_ v.hi),fp_ v.hi, .v (.bool v.nl), .v (.bool v.nh)]
theorem aym{G:Gh}{t:List DV}{vs:List Value}(h:IsLs G (vI 0::vI 0:: .v (.pointer none)::t) vs):IsLs G (vI (fn_ 0)::vI (fd_ 0)::fp_ 0::t) vs:=by
 obtain⟨y1,l1,rfl,k1,g1⟩:=aad.1 h
 obtain⟨y2,l2,rfl,k2,g2⟩:=aad.1 g1
 obtain⟨y3,l3,rfl,k3,g3⟩:=aad.1 g2
 have e:decide (Big 0)=false:=decide_eq_false fun h=>atA h rfl
 exact .cons k1 (.cons k2 (.cons (ao8.2 (.inl ⟨e,aaY.1 k3⟩)) g3))
theorem atI{G:Gh}(a:List DV){t:List DV}{vs:List Value}(h:IsLs G (a++vI 0::vI 0:: .v (.pointer none)::t) vs):IsLs G (a++vI (fn_ 0)::vI (fd_ 0)::fp_ 0::t) vs:=by
 obtain⟨x,y,rfl,h1,h2⟩:=h.unapp
 exact h1.app (aym h2)
theorem aDB(G:Gh)(y:Value)(k:Is G (.ag [vI 0,vI 0, .v (.pointer none),vI 0,vI 0, .v (.pointer none), .v (.bool true), .v (.bool true)]) y):Is G (eW IvQ.all) y:=by
 obtain⟨l,rfl,g⟩:=ab4.1 k
 exact ab4.2 ⟨l,rfl,aym (atI [vI 0,vI 0, .v (.pointer none)] g)⟩
def orI:List Int→Int
 |[]=>0
 |a::t=>if a≠0 then a else orI t
theorem BPt.nor(l:LnQ)[LB l]:BPt l.nor 97:=⟨inferInstanceAs (BQ (l.a:Rat) 97),inferInstanceAs (BQ (l.b:Rat) 97)⟩
attribute [instance] BPt.nor
instance BPt.scale (p:PtQ) (c:Rat) (i k:Nat) [BPt p i] [BQ c k]:BPt (p.scale c) (i+k):=⟨inferInstanceAs (BQ (p.x*c) _),inferInstanceAs (BQ (p.y*c) _)⟩
instance BPt.add (p q:PtQ) (i j:Nat) [BPt p i] [BPt q j]:BPt (p.add q) (i+j+1):=⟨inferInstanceAs (BQ (p.x+q.x) _),inferInstanceAs (BQ (p.y+q.y) _)⟩
instance LB.revA (l:LnQ) [h:LB l]:LB l.rev:=⟨⟨by rw[show l.rev.a= -l.a from rfl,iT];exact h.bl.a,by rw[show l.rev.b= -l.b from rfl,iT];exact h.bl.b,by rw[show l.rev.c= -l.c from rfl,iT];exact h.bl.c⟩⟩
theorem aFO:PF GB prog 266 [] (eW IvQ.all):=by
 refine fn func266 J J ntmps266 J J (fun C=>?_)
 exact rzI rfl aDB
theorem ank{l:LnQ}:PF GB prog 194 [eLn l] (eZ l.nor):=by
 refine fn func194 J J ntmps194 J J (fun C=>?_)
 exact rz J J
theorem ak5{l:LnQ}[hl:LB l]:PF GB prog 143 [eLn l] (eZ l.dir):=by
 refine fn func143 J J ntmps143 J J (fun C=>?_)
 refine cl rfl (ah1 (q:=(l.a:Rat))) rfl<|?_
 exact rz J J
theorem auu{p q:PtQ}{i j:Nat}[hp:BPt p i][hq:BPt q j](hi:i≤40000000:=by decide)(hj:j≤40000000:=by decide):PF GB prog 195 [eZ p,eZ q] (eF (p.dot q)):=by
 refine fn func195 J J ntmps195 J J (fun C=>?_)
 refine cl rfl (abG (p:=p.x) (q:=q.x) (by omega) (by omega)) rfl<|cl rfl (abG (p:=p.y) (q:=q.y) (by omega) (by omega)) rfl<|cl rfl (acx (p:=p.x*q.x) (q:=p.y*q.y) (by omega) (by omega)) rfl<|?_
 exact rz J J
theorem ag3{p q:PtQ}{i j:Nat}[hp:BPt p i][hq:BPt q j](hi:i≤40000000:=by decide)(hj:j≤40000000:=by decide):PF GB prog 144 [eZ p,eZ q] (eF (p.cross q)):=by
 refine fn func144 J J ntmps144 J J (fun C=>?_)
 refine cl rfl (abG (p:=p.x) (q:=q.y) (by omega) (by omega)) rfl<|cl rfl (abG (p:=p.y) (q:=q.x) (by omega) (by omega)) rfl<|cl rfl (ah5 (p:=p.x*q.y) (q:=p.y*q.x) (by omega) (by omega)) rfl<|?_
 exact rz J J
theorem aqV{p:PtQ}{c:Rat}{i j:Nat}[hp:BPt p i][hc:BQ c j](hi:i≤40000000:=by decide)(hj:j≤40000000:=by decide):PF GB prog 74 [eZ p,eF c] (eZ (p.scale c)):=by
 refine fn func74 J J ntmps74 J J (fun C=>?_)
 refine cl rfl (abG (p:=p.x) (q:=c) (by omega) (by omega)) rfl<|cl rfl (abG (p:=p.y) (q:=c) (by omega) (by omega)) rfl<|?_
 exact rz J J
theorem ayx{p q:PtQ}{i j:Nat}[hp:BPt p i][hq:BPt q j](hi:i≤40000000:=by decide)(hj:j≤40000000:=by decide):PF GB prog 73 [eZ p,eZ q] (eZ (p.add q)):=by
 refine fn func73 J J ntmps73 J J (fun C=>?_)
 refine cl rfl (acx (by omega) (by omega)) rfl<|cl rfl (acx (by omega) (by omega)) rfl<|?_
 exact rz J J
theorem asU{l:LnQ}[hl:LB l]:PF GB prog 270 [eLn l] (eZ l.base):=by
 refine fn func270 J J ntmps270 J J (fun C=>?_)
 refine cl rfl ank rfl<|cl rfl (ah1 (q:=(l.c:Rat))) rfl<|cl rfl (auu (p:=l.nor) (q:=l.nor)) rfl<|cl rfl (aks (p:= -(l.c:Rat)) (q:=l.nor.dot l.nor)) rfl<|?_
 refine cl rfl (aqV (p:=l.nor)) rfl<|?_
 exact rz J J
theorem aqL{l:LnQ}{p:PtQ}{i:Nat}[hl:LB l][hp:BPt p i](hi:i≤10000000:=by decide):PF GB prog 248 [eLn l,eZ p] (eF (l.value p)):=by
 refine fn func248 J J ntmps248 J J (fun C=>?_)
 refine cl rfl (ank (l:=l)) rfl<|cl rfl (auu (p:=l.nor) (q:=p) (by omega) (by omega)) rfl<|cl rfl (acx (p:=l.nor.dot p) (q:=(l.c:Rat)) (by omega) (by omega)) rfl<|?_
 exact rz J J
theorem aCa{l:LnQ}{p:PtQ}{i:Nat}[hl:LB l][hp:BPt p i](hi:i≤10000000:=by decide):PF GB prog 191 [eLn l,eZ p] (vI (l.value p).num.sign):=by
 refine fn func191 J J ntmps191 J J (fun C=>?_)
 refine cl rfl (aqL (l:=l) (p:=p) hi) rfl<|cl rfl (adp (q:=l.value p) (by omega)) rfl<|?_
 exact rz J J
theorem aGP{l:LnQ}{t:Rat}{i:Nat}[hl:LB l][ht:BQ t i](hi:i≤10000000:=by decide):PF GB prog 267 [eLn l,eF t] (eZ (l.at t)):=by
 refine fn func267 J J ntmps267 J J (fun C=>?_)
 refine cl rfl (asU (l:=l)) rfl<|cl rfl (ak5 (l:=l)) rfl<|cl rfl (aqV (p:=l.dir) (c:=t) (by omega) (by omega)) rfl<|cl rfl (ayx (p:=l.base) (q:=l.dir.scale t) (by omega) (by omega)) rfl<|?_
 exact rz J J
theorem azG{v:IvQ}{i j:Nat}[h1:BQ v.lo i][h2:BQ v.hi j](hi:i≤40000000:=by decide)(hj:j≤40000000:=by decide):PF GB prog 296 [eW v] (vB v.empty):=by
 refine fn func296 J J ntmps296 J J (fun C=>?_)
 refine csb 6 J J J (fun hg6=>?_) (fun hg6=>?_)
 ·
  refine csb 11 J J J (fun hg11=>?_) (fun hg11=>?_)
  ·
   refine cl rfl (ajR (p:=v.lo) (q:=v.hi) (by omega) (by omega)) rfl<|?_
   exact rz rfl (by unfold IvQ.empty;simp_all [vB,akl])
  ·
   exact rz rfl (by unfold IvQ.empty;simp_all [vB,akl])
 ·
  exact rz rfl (by unfold IvQ.empty;simp_all [vB,akl])
instance IvQ.meet_lo (v w:IvQ) (i j:Nat) [h1:BQ v.lo i] [h3:BQ w.lo j]:BQ (v.meet w).lo (i+j):=by
 have a:=h1.mono (mV i j)
 have b:=h3.mono (Nat.le_add_left j i)
 unfold IvQ.meet;dsimp only;(repeat' split)<;>assumption
instance IvQ.meet_hi (v w:IvQ) (i j:Nat) [h1:BQ v.hi i] [h3:BQ w.hi j]:BQ (v.meet w).hi (i+j):=by
 have a:=h1.mono (mV i j)
 have b:=h3.mono (Nat.le_add_left j i)
 unfold IvQ.meet;dsimp only;(repeat' split)<;>assumption
theorem azm{v w:IvQ}{i j:Nat}[h1:BQ v.lo i][h2:BQ v.hi i][h3:BQ w.lo j][h4:BQ w.hi j](hi:i≤10000000:=by decide)(hj:j≤10000000:=by decide):PF GB prog 271 [eW v,eW w] (.tp [eW (v.meet w),vB (!(v.meet w).empty)]):=by
 refine fn (fu:=⟨16⟩) func271 J J ntmps271 J J (fun C=>?_)
 refine mg (fu:=⟨1⟩) (X:=Unit) (fun _=>[(6, .ov 6 0)]) (fun _=>[(6,some (.o 199 [.d (vI (fn_ (v.meet w).lo)), .d (vI (fd_ (v.meet w).lo)), .d (fp_ (v.meet w).lo), .d (vI (fn_ v.hi)), .d (vI (fd_ v.hi)), .d (fp_ v.hi), .d (.v (.bool (v.nl&&w.nl))), .d (.v (.bool (v.nh)))] true))]) (fun _=>True) [6] [6] rfl ?_ (fun _=>rfl) (fun _ _=>?_)
 ·
  refine gx rfl<|?_
  refine bb (v1:=fun hc8=>by simp only[aah];kernel_rfl) J J J (fun hc8=>?_) (fun hc8=>?_)
  ·
   have em:(v.meet w).lo=w.lo:=by unfold IvQ.meet;simp_all
   have eb:(v.nl&&w.nl)=w.nl:=by simp_all
   exact at_ () trivial (hO:=⟨by rw[em,eb]<;>rfl,by repeat (first|exact trivial|refine And.intro rfl ?_)⟩)
  ·
   refine bb J J J (fun hc17=>?_) (fun hc17=>?_)
   ·
    refine cl rfl (aDt (p:=v.lo) (q:=w.lo) (by omega) (by omega)) rfl<|?_
    have em:(v.meet w).lo=(if v.lo<w.lo then w.lo else v.lo):=by unfold IvQ.meet;simp_all
    have eb:(v.nl&&w.nl)=v.nl:=by simp_all
    exact at_ () trivial (hO:=⟨by rw[em,eb]<;>rfl,by repeat (first|exact trivial|refine And.intro rfl ?_)⟩)
   ·
    have em:(v.meet w).lo=v.lo:=by unfold IvQ.meet;simp_all
    have eb:(v.nl&&w.nl)=v.nl:=by simp_all
    exact at_ () trivial (hO:=⟨by rw[em,eb]<;>rfl,by repeat (first|exact trivial|refine And.intro rfl ?_)⟩)
 ·
  refine mg (X:=Unit) (fun _=>[(6, .ov 6 0)]) (fun _=>[(6,some (.o 199 [.d (vI (fn_ (v.meet w).lo)), .d (vI (fd_ (v.meet w).lo)), .d (fp_ (v.meet w).lo), .d (vI (fn_ (v.meet w).hi)), .d (vI (fd_ (v.meet w).hi)), .d (fp_ (v.meet w).hi), .d (.v (.bool (v.nl&&w.nl))), .d (.v (.bool (v.nh&&w.nh)))] true))]) (fun _=>True) [6] [6] rfl ?_ (fun _=>rfl) (fun _ _=>?_)
  ·
   refine gx rfl<|?_
   refine bb (v1:=fun hc27=>by simp only[aah];kernel_rfl) J J J (fun hc27=>?_) (fun hc27=>?_)
   ·
    have em:(v.meet w).hi=w.hi:=by unfold IvQ.meet;simp_all
    have eb:(v.nh&&w.nh)=w.nh:=by simp_all
    exact at_ () trivial (hO:=⟨by rw[em,eb]<;>rfl,by repeat (first|exact trivial|refine And.intro rfl ?_)⟩)
   ·
    refine bb J J J (fun hc36=>?_) (fun hc36=>?_)
    ·
     refine cl rfl (aDh (p:=v.hi) (q:=w.hi) (by omega) (by omega)) rfl<|?_
     have em:(v.meet w).hi=(if w.hi<v.hi then w.hi else v.hi):=by unfold IvQ.meet;simp_all
     have eb:(v.nh&&w.nh)=v.nh:=by simp_all
     exact at_ () trivial (hO:=⟨by rw[em,eb]<;>rfl,by repeat (first|exact trivial|refine And.intro rfl ?_)⟩)
    ·
     have em:(v.meet w).hi=v.hi:=by unfold IvQ.meet;simp_all
     have eb:(v.nh&&w.nh)=v.nh:=by simp_all
     exact at_ () trivial (hO:=⟨by rw[em,eb]<;>rfl,by repeat (first|exact trivial|refine And.intro rfl ?_)⟩)
  ·
   refine cl rfl (azG (v:=v.meet w) (i:=i+j) (j:=i+j) (by omega) (by omega)) rfl<|?_
   exact rz J J
theorem BQ.z1:BQ (0:Rat) 1:=⟨by decide,by decide⟩
theorem axL{v:IvQ}{t:Rat}{i j:Nat}[h1:BQ v.lo i][h2:BQ v.hi i][h3:BQ t j](hi:i≤10000000:=by decide)(hj:j≤9999999:=by decide):PF GB prog 271 [eW v, .ag [vI (fn_ t),vI (fd_ t),fp_ t,vI 0,vI 0, .v (.pointer none), .v (.bool false), .v (.bool true)]] (.tp [eW (v.meet ⟨t,0,false,true⟩),vB (!(v.meet ⟨t,0,false,true⟩).empty)]):=
 (azm (v:=v) (w:=⟨t,0,false,true⟩) (j:=j+1) (h3:=h3.mono (by omega)) (h4:=BQ.z1.mono (by omega)) hi (by omega)).ofI fun G vs hv=>atP (fun y hy=>by
  obtain⟨l,rfl,g⟩:=ab4.1 hy
  exact ab4.2 ⟨l,rfl,atI [_,_,_] g⟩) hv
theorem axU{v:IvQ}{t:Rat}{i j:Nat}[h1:BQ v.lo i][h2:BQ v.hi i][h3:BQ t j](hi:i≤10000000:=by decide)(hj:j≤9999999:=by decide):PF GB prog 271 [eW v, .ag [vI 0,vI 0, .v (.pointer none),vI (fn_ t),vI (fd_ t),fp_ t, .v (.bool true), .v (.bool false)]] (.tp [eW (v.meet ⟨0,t,true,false⟩),vB (!(v.meet ⟨0,t,true,false⟩).empty)]):=
 (azm (v:=v) (w:=⟨0,t,true,false⟩) (j:=j+1) (h4:=h3.mono (by omega)) (h3:=BQ.z1.mono (by omega)) hi (by omega)).ofI fun G vs hv=>atP (fun y hy=>by
  obtain⟨l,rfl,g⟩:=ab4.1 hy
  exact ab4.2 ⟨l,rfl,aym g⟩) hv
instance BQ.cutK (l m:LnQ) [LB l] [LB m]:BQ (l.cutK m) 400:=BQ.mono (inferInstance:BQ (m.nor.dot l.dir) _) (by decide)
instance BQ.cutC (l m:LnQ) [LB l] [LB m]:BQ (l.cutC m) 2500:=BQ.mono (inferInstance:BQ (m.value l.base) _) (by decide)
theorem aEv{l m:LnQ}{v:IvQ}{i:Nat}[hl:LB l][hm:LB m][h1:BQ v.lo i][h2:BQ v.hi i](hi:i≤10000000:=by decide):PF GB prog 227 [eLn l,eW v,eLn m] (.tp [eW (l.cutV v m),vB (l.cutB v m)]):=by
 refine fn func227 J J ntmps227 J J (fun C=>?_)
 refine cl rfl (ank (l:=m)) rfl<|cl rfl (ak5 (l:=l)) rfl<|cl rfl (auu (p:=m.nor) (q:=l.dir)) rfl<|cl rfl (asU (l:=l)) rfl<|?_
 refine cl rfl (aqL (l:=m) (p:=l.base)) rfl<|cl rfl (adp (q:=l.cutK m)) rfl<|?_
 refine br J J J (fun hc21=>?_) (fun hc21=>?_)
 ·
  refine cl rfl (adp (q:=l.cutC m)) rfl<|?_
  exact rz rfl (by unfold LnQ.cutV LnQ.cutB;rw[if_pos hc21,if_pos hc21];rfl)
 ·
  refine br J J J (fun hc27=>?_) (fun hc27=>?_)
  ·
   refine cl rfl (aks (p:=l.cutC m) (q:=l.cutK m)) rfl<|cl rfl (ah1 (q:=l.cutC m/l.cutK m)) rfl<|cl rfl (axL (v:=v) (t:= -(l.cutC m/l.cutK m)) hi) rfl<|?_
   exact rz rfl (by unfold LnQ.cutB LnQ.cutV;rw[if_neg hc21,if_neg hc21,if_pos hc27];rfl)
  ·
   refine cl rfl (aks (p:=l.cutC m) (q:=l.cutK m)) rfl<|cl rfl (ah1 (q:=l.cutC m/l.cutK m)) rfl<|cl rfl (axU (v:=v) (t:= -(l.cutC m/l.cutK m)) hi) rfl<|?_
   exact rz rfl (by unfold LnQ.cutB LnQ.cutV;rw[if_neg hc21,if_neg hc21,if_neg hc27];rfl)
theorem awl{v:IvQ}{i:Nat}[h1:BQ v.lo i][h2:BQ v.hi i](hi:i≤10000000:=by decide):PF GB prog 268 [eW v] (eF v.sample):=by
 refine fn func268 J J ntmps268 J J (fun C=>?_)
 refine csb 6 J J J (fun hg6=>?_) (fun hg6=>?_)
 ·
  refine bb J J J (fun hc3=>?_) (fun hc3=>?_)
  ·
   exact rzI rfl (by unfold IvQ.sample;rw[hg6,hc3];exact aE7)
  ·
   refine bb J J J (fun hc11=>?_) (fun hc11=>?_)
   ·
    refine cl rfl (ajh (m:=1) (by decide)) rfl<|cl rfl (ah5 (p:=v.hi) (q:=((1:Int):Rat)) (by omega) (by decide)) rfl<|?_
    exact rz rfl (by unfold IvQ.sample;simp_all [akl]<;>rfl)
   ·
    refine bb J J J (fun hc18=>?_) (fun hc18=>?_)
    ·
     refine cl rfl (ajh (m:=1) (by decide)) rfl<|cl rfl (acx (p:=v.lo) (q:=((1:Int):Rat)) (by omega) (by decide)) rfl<|?_
     exact rz rfl (by unfold IvQ.sample;simp_all [akl]<;>rfl)
    ·
     refine cl rfl (acx (p:=v.lo) (q:=v.hi) (by omega) (by omega)) rfl<|cl rfl (alr (q:=v.lo+v.hi) (by omega)) rfl<|?_
     exact rz rfl (by unfold IvQ.sample;simp_all [akl]<;>rfl)
 ·
  refine bb J J J (fun hc11=>?_) (fun hc11=>?_)
  ·
   refine cl rfl (ajh (m:=1) (by decide)) rfl<|cl rfl (ah5 (p:=v.hi) (q:=((1:Int):Rat)) (by omega) (by decide)) rfl<|?_
   exact rz rfl (by unfold IvQ.sample;simp_all [akl]<;>rfl)
  ·
   refine bb J J J (fun hc18=>?_) (fun hc18=>?_)
   ·
    refine cl rfl (ajh (m:=1) (by decide)) rfl<|cl rfl (acx (p:=v.lo) (q:=((1:Int):Rat)) (by omega) (by decide)) rfl<|?_
    exact rz rfl (by unfold IvQ.sample;simp_all [akl]<;>rfl)
   ·
    refine cl rfl (acx (p:=v.lo) (q:=v.hi) (by omega) (by omega)) rfl<|cl rfl (alr (q:=v.lo+v.hi) (by omega)) rfl<|?_
    exact rz rfl (by unfold IvQ.sample;simp_all [akl]<;>rfl)
instance BQ.i1':BQ (1:Rat) 2:=⟨by decide,by decide⟩
instance BQ.i2':BQ (2:Rat) 2:=⟨by decide,by decide⟩
theorem am6{v:IvQ}{i:Nat}[BQ v.lo i][BQ v.hi i]:BQ (abF v) (i+i+5):=by
 unfold abF
 split
 ·exact BQ.mono (k:=1) ⟨by decide,by decide⟩ (by omega)
 ·split
  ·exact BQ.mono (inferInstance:BQ (v.hi-1) _) (by omega)
  ·split
   ·exact BQ.mono (inferInstance:BQ (v.lo+1) _) (by omega)
   ·exact BQ.mono (inferInstance:BQ ((v.lo+v.hi)/2) _) (by omega)
instance BPt.at (l:LnQ) (t:Rat) (k:Nat) [LB l] [BQ t k]:BPt (l.at t) (900+(k+97)+1):=by
 rw[←agT];infer_instance
theorem aut{q:Rat}(h: ¬q.num.sign=0):q≠0:=fun e=>h ((abV q).2 e)
def ahj(d:PtQ):PtQ:=⟨-d.y,d.x⟩
instance BPt.turn (d:PtQ) (k:Nat) [BPt d k]:BPt (ahj d) k:=⟨inferInstanceAs (BQ (-d.y) k),inferInstanceAs (BQ d.x k)⟩
def al1(p v:PtQ)(m:LnQ):Rat:= -(m.value p/(m.value (adk p v ((1:Int):Rat))-m.value p))
def aca(p v:PtQ)(m:LnQ)(s:Rat):Rat:=if(m.value (adk p v ((1:Int):Rat))-m.value p).num.sign=0 then s else if(m.value p).num.sign=0 then s else if 0<(al1 p v m).num.sign then(if abd (al1 p v m/2) s<0 then al1 p v m/2 else s) else s
def agb(p v:PtQ):List LnQ→Rat→Rat
 |[],s=>s
 |m::t,s=>agb p v t (aca p v m s)
def ar2(c:List LnQ)(p v:PtQ):PtQ:=adk p v (agb p v c ((1:Int):Rat))
theorem ael{c:List LnQ}{p v:PtQ}{k:Nat}{s s' r:Rat}{m:LnQ}(h:agb p v (c.drop k) s=r)(hk:k<c.length)(hm:m=c[k])(e:aca p v m s=s'):agb p v (c.drop (k+1)) s'=r:=by
 rw[bQ hk] at h
 rw[←h,agb,←hm,e]
theorem aEn{c:List LnQ}{p v:PtQ}(hc: ∀m∈c,LB m)(hn:c.length≤1000)(hp:BPt p 4500)(hv:BPt v 97):PF GB prog 207 [.sl (c.map eL),eP p,eP v] (eP (ar2 c p v)):=by
 have hcl:=aeF c
 refine fn func207 J J ntmps207 J J (fun C=>?_)
 refine cl (fu:=⟨9⟩) rfl (anH (n:=1) (by decide) (by decide)) rfl<|?_
 refine eqF 14 (.d (vI (c.length:Nat))) rfl (by rw[hcl];rfl) ?_
 refine gx rfl<|?_
 refine lp (X:=Rat×Nat) (fun⟨s,k⟩=>[(15, .d (vI (k:Nat))),(14, .d (vI (c.length:Nat))),(13, .d (.sl (c.map eL))),(4, .ov 4 0),(5, .ov 5 0),(7, .ov 7 0),(6, .ov 6 0)]) (fun⟨s,k⟩=>[(7,some (.o 48 [.d ((.v (.bool (decide (s.num<0))))), .d (dN s.num.natAbs), .d (dD s.den)] true)),(6,some (.o 62 [.ff, .nl, .nl, .ff, .nl, .nl] true)),(5,some (.o 62 [.d ((.v (.bool (decide (v.x.num<0))))), .d (dN v.x.num.natAbs), .d (dD v.x.den), .d ((.v (.bool (decide (v.y.num<0))))), .d (dN v.y.num.natAbs), .d (dD v.y.den)] true)),(4,some (.o 62 [.d ((.v (.bool (decide (p.x.num<0))))), .d (dN p.x.num.natAbs), .d (dD p.x.den), .d ((.v (.bool (decide (p.y.num<0))))), .d (dN p.y.num.natAbs), .d (dD p.y.den)] true))]) (fun⟨s,k⟩=>k≤c.length∧BQ s 60000∧agb p v (c.drop k) s=agb p v c ((1:Int):Rat)) (fun⟨s,k⟩=>c.length-k) ⟨((1:Int):Rat),0⟩ rfl ⟨bX _,BQ.i1.mono (by decide),rfl⟩ (fun _=>rfl) (fun⟨s,k⟩ hk=>?_)
 try dsimp only at hk⊢
 obtain⟨hle,hsb,hns⟩:=hk
 refine br J J J (fun hc16=>?_) (fun hc16=>?_)
 ·
  have hk:k<c.length:=by omega
  obtain⟨m,hm⟩: ∃m,m=c[k]:=⟨_,rfl⟩
  haveI hmb:LB m:=hm▸hc _ (bN hk)
  have hinv:=hsb
  refine ix (fu:=⟨1⟩) _ rfl (aeU hk) rfl<|?_
  refine eqF 18 (.d (eL m)) rfl (by rw[hm];rfl) ?_
  refine gx rfl<|cl rfl (anH (n:=1) (by decide) (by decide)) rfl<|cl rfl (anW (p:=p) (q:=v) (c:=((1:Int):Rat))) rfl<|cl rfl (alm (l:=m) (p:=adk p v ((1:Int):Rat))) rfl<|?_
  refine cl rfl (alm (l:=m) (p:=p)) rfl<|cl rfl (alA (a:=m.value (adk p v ((1:Int):Rat))) (b:=m.value p)) rfl<|cl rfl (q_S (q:=m.value (adk p v ((1:Int):Rat))-m.value p)) rfl<|?_
  refine cs 32 J J J (fun hg32=>?_) (fun hg32=>?_)
  ·
   exact at_ ⟨s,k+1⟩ (by dsimp only;exact⟨⟨by omega,hinv,(ael hns hk hm (by unfold aca;rw[if_pos hg32]))⟩,(by omega)⟩)
  ·
   refine cl rfl (aqj (l:=m) (p:=p)) rfl<|?_
   refine br J J J (fun hc37=>?_) (fun hc37=>?_)
   ·
    exact at_ ⟨s,k+1⟩ (by dsimp only;exact⟨⟨by omega,hinv,(ael hns hk hm (by unfold aca;rw[if_neg hg32,if_pos hc37]))⟩,(by omega)⟩)
   ·
    refine cl rfl (alm (l:=m) (p:=p)) rfl<|cl rfl (akq (a:=m.value p) (b:=m.value (adk p v ((1:Int):Rat))-m.value p) (aut hg32)) rfl<|?_
    refine cl rfl (aoM (q:=m.value p/(m.value (adk p v ((1:Int):Rat))-m.value p))) rfl<|cl (fu:=⟨0⟩) rfl (q_S (q:= -(m.value p/(m.value (adk p v ((1:Int):Rat))-m.value p)))) rfl<|?_
    refine csS (v2:=fun hg46=>by simp only[aah];exact⟨by kernel_rfl,by omega⟩) J J J J (fun hg46=>?_) (fun hg46=>?_)
    ·
     refine cl rfl (asw (a:= -(m.value p/(m.value (adk p v ((1:Int):Rat))-m.value p)))) rfl<|cl rfl (q_C (a:= -(m.value p/(m.value (adk p v ((1:Int):Rat))-m.value p))/2) (b:=s)) rfl<|?_
     refine br J J J (fun hc53=>?_) (fun hc53=>?_)
     ·
      obtain⟨t,ht⟩: ∃t,t= -(m.value p/(m.value (adk p v ((1:Int):Rat))-m.value p)):=⟨_,rfl⟩
      haveI htb:BQ t 45000:=ht▸BQ.mono inferInstance (by decide)
      have hinv:BQ (t/2) 60000:=BQ.mono inferInstance (by decide)
      rw[←ht]
      refine cl rfl (asw (a:=t)) rfl<|?_
      exact at_ ⟨t/2,k+1⟩ (by dsimp only;exact⟨⟨by omega,hinv,(ael hns hk hm (by unfold aca;rw[if_neg hg32,if_neg hc37,show al1 p v m=t from ht.symm,if_pos (by rw[ht];exact hg46),if_pos (by rw[ht];exact hc53)]))⟩,(by omega)⟩)
     ·
      exact at_ ⟨s,k+1⟩ (by dsimp only;exact⟨⟨by omega,hinv,(ael hns hk hm (by unfold aca;rw[if_neg hg32,if_neg hc37,if_pos (show 0<(al1 p v m).num.sign from hg46),if_neg (show¬abd (al1 p v m/2) s<0 from hc53)]))⟩,(by omega)⟩)
    ·
     exact at_ ⟨s,k+1⟩ (by dsimp only;exact⟨⟨by omega,hinv,(ael hns hk hm (by unfold aca;rw[if_neg hg32,if_neg hc37,if_neg (show¬0<(al1 p v m).num.sign from hg46)]))⟩,(by omega)⟩)
 ·
  refine cl rfl (anW (p:=p) (q:=v) (c:=s)) rfl<|?_
  exact rz rfl (by unfold ar2;rw[←hns,jK (by omega)];rfl)
def ab8(c:List LnQ):List LnQ→PtQ
 |[]=>⟨0,0⟩
 |m::t=>if(ach m c IvQ.all).2=true then ar2 c (m.at (abF (ach m c IvQ.all).1)) (ahj m.dir) else ab8 c t
theorem arD{c:List LnQ}{k:Nat}{m:LnQ}(h:ab8 c (c.drop k)=ab8 c c)(hk:k<c.length)(hm:m=c[k])(e:(ach m c IvQ.all).2=true):ab8 c c=ar2 c (m.at (abF (ach m c IvQ.all).1)) (ahj m.dir):=by
 rw[←h,bQ hk,ab8,←hm,if_pos e]
theorem at1{c:List LnQ}{k:Nat}{m:LnQ}(h:ab8 c (c.drop k)=ab8 c c)(hk:k<c.length)(hm:m=c[k])(e: ¬(ach m c IvQ.all).2=true):ab8 c (c.drop (k+1))=ab8 c c:=by
 rw[←h,bQ hk,ab8,←hm,if_neg e]
theorem asq{c:List LnQ}{m:LnQ}(h:m∈c)(h2:(ab9 m c IvQ.all).isSome=true):abY c=true:=by
 unfold abY;rw[gN,jW];exact .inr ⟨m,h,h2⟩
theorem asG{c:List LnQ}(h:c=[]):abY c=true:=by subst h;rfl
theorem ayi{c:List LnQ}(h:c≠[])(h2: ∀m∈c,(ab9 m c IvQ.all).isSome=false):abY c=false:=by
 rw[←mY];unfold abY;rw[gN,jW,List.isEmpty_iff]
 rintro (e|⟨m,h3,h4⟩)
 ·exact h e
 ·rw[h2 m h3] at h4;exact absurd h4 (by decide)
theorem atV:eP ⟨0,0⟩= .ag [.v (.bool false), .sl [], .sl [], .v (.bool false), .sl [], .sl []]:=by
 unfold eP dD
 simp only[show(0:Rat).num=0 from rfl,show(0:Rat).den=1 from rfl,kW,acW];rfl
theorem aoZ{c:List LnQ}(hc: ∀m∈c,LB m)(hok: ∀m∈c,m.ok)(hn:c.length≤1000):PF GB prog 150 [.sl (c.map eL)] (.tp [eP (ab8 c c),vB (abY c)]):=by
 have hcl:=aeF c
 refine fn func150 J J ntmps150 J J (fun C=>?_)
 refine br (fu2:=⟨7⟩) J J J (fun hc11=>?_) (fun hc11=>?_)
 ·
  exact rz rfl (by rw[bR (l:=c) (by omega),asG rfl];show _=DV.tp [eP ⟨0,0⟩,_];rw[atV];rfl)
 ·
  refine eqF 14 (.d (vI (c.length:Nat))) rfl (by rw[hcl];rfl) ?_
  refine gx rfl<|?_
  refine lp (X:=Nat) (fun k=>[(15, .d (vI (k:Nat))),(14, .d (vI (c.length:Nat))),(13, .d (.sl (c.map eL))),(0, .d (.sl (c.map eL))),(2, .ov 2 0)]) (fun k=>[(2,some (.o 62 [.ff, .nl, .nl, .ff, .nl, .nl] true))]) (fun k=>k≤c.length∧(∀m∈c.take k,(ab9 m c IvQ.all).isSome=false)∧ab8 c (c.drop k)=ab8 c c) (fun k=>c.length-k) 0 rfl ⟨bX _,fun m hm=>absurd hm (by simp),rfl⟩ (fun _=>rfl) (fun k hk=>?_)
  obtain⟨hle,hno,hip⟩:=hk
  refine br J J J (fun hc16=>?_) (fun hc16=>?_)
  ·
   have hk:k<c.length:=by omega
   obtain⟨m,hm⟩: ∃m,m=c[k]:=⟨_,rfl⟩
   haveI hmb:LB m:=hm▸hc _ (bN hk)
   have hmo:m.ok:=hm▸hok _ (bN hk)
   refine ix (fu:=⟨1⟩) _ rfl (aeU hk) rfl<|?_
   refine eqF 19 (.d (eL m)) rfl (by rw[hm];rfl) ?_
   refine gx rfl<|cl (fu:=⟨0⟩) rfl (azD hc hok hn hk) rfl<|?_
   refine eqF 23 (.d (.tp [eV (ach m c IvQ.all).1,vB (ach m c IvQ.all).2])) rfl (by rw[hm]) ?_
   refine gx rfl<|?_
   refine bb J J J (fun hc26=>?_) (fun hc26=>?_)
   ·
    have hbd:=air (v:=IvQ.all) hmo.ne hc IvZ.all (BQ.mono (k:=1) ⟨by decide,by decide⟩ (by decide)) (BQ.mono (k:=1) ⟨by decide,by decide⟩ (by decide))
    obtain⟨s,hs⟩: ∃s,s=(ach m c IvQ.all).1:=⟨_,rfl⟩
    rw[←hs] at hbd
    haveI:=hbd.1
    haveI:=hbd.2
    haveI hsb:=am6 (v:=s) (i:=1200)
    have hpt:BPt (m.at (abF s)) 4500:=by have:=BPt.at m (abF s) (1200+1200+5);exact⟨this.x.mono (by decide),this.y.mono (by decide)⟩
    have hin:abY c=true:=asq (hm▸bN hk) (by rw[←adP];exact hc26)
    have hpn:=arD hip hk hm hc26
    rw[←hs] at hpn⊢
    refine cl rfl (amw (l:=m)) rfl<|cl rfl (awc (v:=s)) rfl<|cl rfl (aG9 (l:=m) (t:=abF s) hmo.ne) rfl<|cl rfl (aoM (q:=m.dir.y)) rfl<|?_
    refine cl rfl (aEn (p:=m.at (abF s)) (v:=ahj m.dir) hc hn (hpt) inferInstance) rfl<|?_
    exact rz rfl (by rw[hin,hpn];rfl)
   ·
    exact at_ (k+1) ⟨⟨by omega,avb hno hk (by rw[←hm,←adP];exact hc26),at1 hip hk hm (by rw[hc26];decide)⟩,(by omega)⟩
  ·
   exact rz rfl (by rw[ayi (fun e=>hc11 (by rw[e];rfl)) (fun m hm=>hno m (by rw[aW (by omega)];exact hm)),←hip,jK (by omega)];show _=DV.tp [eP ⟨0,0⟩,_];rw[atV];rfl)
theorem as3{es:List Int}{i:Nat}(h:i<es.length):(es.map vI)[(i:Int).toNat]? =some (vI (es.getD i 0)):=by simp[h]
theorem aqv{es:List Int}{i:Nat}(h:i<es.length):orI (es.drop i)=if es.getD i 0≠0 then es.getD i 0 else orI (es.drop (i+1)):=by
 rw[bQ h,orI,aX,aQ h];rfl
theorem aH2{es:List Int}(hn:es.length≤1000000):PF GB prog 304 [.sl (es.map vI)] (vI (orI es)):=by
 have hel:(es.map vI).length=es.length:=by simp
 refine fn (fu:=⟨15⟩) func304 J J ntmps304 J J (fun C=>?_)
 refine eqF 7 (.d (vI (es.length:Nat))) rfl (by rw[hel]<;>rfl) ?_
 refine gx rfl<|?_
 refine lp (X:=Nat) (fun i=>[(8, .d (vI (i:Nat)))]) (fun i=>[]) (fun i=>i≤es.length∧orI es=orI (es.drop i)) (fun i=>es.length-i) 0 rfl ⟨bX _,rfl⟩ (fun _=>rfl) (fun i hk=>?_)
 obtain⟨h1,h2⟩:=hk
 refine br J J J (fun hc9=>?_) (fun hc9=>?_)
 ·
  refine ix _ rfl (as3 (by omega)) rfl<|?_
  refine br J J J (fun hc14=>?_) (fun hc14=>?_)
  ·
   exact rz rfl (by rw[h2,aqv (by omega),if_pos hc14];rfl)
  ·
   exact at_ (i+1) ⟨⟨by omega,by rw[h2,aqv (by omega),if_neg hc14]⟩,(by omega)⟩
 ·
  exact rz rfl (by rw[h2,fS (by omega)];rfl)
def lcq(l m:LnQ):Int:=orI [abd l.a m.a,abd l.b m.b,abd l.c m.c]
theorem awS(l m:LnQ):lcq l m=0↔l=m:=by
 unfold lcq orI orI orI orI
 have ha:=aeS (l.a:Rat) m.a
 have hb:=aeS (l.b:Rat) m.b
 have hc:=aeS (l.c:Rat) m.c
 rw[nX] at ha hb hc
 constructor
 ·intro h
  repeat' (split at h<;>try contradiction)
  all_goals exact LnQ.ext' (by omega) (by omega) (by omega)
 ·rintro rfl
  rw[if_neg (by simp[ha.2 rfl]),if_neg (by simp[hb.2 rfl]),if_neg (by simp[hc.2 rfl])]
theorem aCR{l m:LnQ}[hl:LB l][hm:LB m]:PF GB prog 295 [eLn l,eLn m] (vI (lcq l m)):=by
 refine fn func295 J J ntmps295 J J (fun C=>?_)
 refine cl rfl (ajR (p:=(l.a:Rat)) (q:=(m.a:Rat))) rfl<|cl rfl (ajR (p:=(l.b:Rat)) (q:=(m.b:Rat))) rfl<|cl rfl (ajR (p:=(l.c:Rat)) (q:=(m.c:Rat))) rfl<|?_
 refine rf J J<|cl rfl (aH2 (es:=[abd l.a m.a,abd l.b m.b,abd l.c m.c]) (nb rfl)) rfl<|?_
 exact rz J J
theorem awO{l m:LnQ}[hl:LB l][hm:LB m]:PF GB prog 269 [eLn l,eLn m] (vB (decide (l=m))):=by
 refine fn func269 J J ntmps269 J J (fun C=>?_)
 refine cl rfl (aCR (l:=l) (m:=m)) rfl<|?_
 exact rz rfl (by show DV.v (.bool (decide _))= .v (.bool _);congr 2;exact decide_eq_decide.2 (awS l m))
theorem aD4{l:LnQ}[hl:LB l]:PF GB prog 264 [eLn l] (eLn l.rev):=by
 refine fn func264 J J ntmps264 J J (fun C=>?_)
 refine cl rfl (ah1 (q:=(l.a:Rat))) rfl<|cl rfl (ah1 (q:=(l.b:Rat))) rfl<|cl rfl (ah1 (q:=(l.c:Rat))) rfl<|?_
 exact rz rfl (by unfold eLn LnQ.rev;simp only[mQ];rfl)
theorem aDl{l:LnQ}[hl:LB l]:PF GB prog 104 [eLn l] (eL l):=by
 refine fn func104 J J ntmps104 J J (fun C=>?_)
 refine cl rfl (aka (q:=(l.a:Rat))) rfl<|cl rfl (aka (q:=(l.b:Rat))) rfl<|cl rfl (aka (q:=(l.c:Rat))) rfl<|?_
 exact rz J J
theorem ayW{p:PtQ}{i:Nat}[hp:BPt p i](hi:i≤10000000:=by decide):PF GB prog 247 [eZ p] (vI p.half):=by
 refine fn func247 J J ntmps247 J J (fun C=>?_)
 refine cl rfl (adp (q:=p.y) (by omega)) rfl<|?_
 refine cs 10 J J J (fun hg10=>?_) (fun hg10=>?_)
 ·
  exact rz rfl (by unfold PtQ.half;(repeat' split)<;>first|rfl|(exfalso;omega))
 ·
  refine cs 13 J J J (fun hg13=>?_) (fun hg13=>?_)
  ·
   refine cl rfl (adp (q:=p.x) (by omega)) rfl<|?_
   refine br J J J (fun hc7=>?_) (fun hc7=>?_)
   ·
    exact rz rfl (by unfold PtQ.half;(repeat' split)<;>first|rfl|(exfalso;omega))
   ·
    refine cs 23 J J J (fun hg23=>?_) (fun hg23=>?_)
    ·
     exact rz rfl (by unfold PtQ.half;(repeat' split)<;>first|rfl|(exfalso;omega))
    ·
     refine cl rfl (adp (q:=p.x) (by omega)) rfl<|?_
     refine br J J J (fun hc20=>?_) (fun hc20=>?_)
     ·
      exact rz rfl (by unfold PtQ.half;(repeat' split)<;>first|rfl|(exfalso;omega))
     ·
      exact rz rfl (by unfold PtQ.half;(repeat' split)<;>first|rfl|(exfalso;omega))
  ·
   refine cs 23 J J J (fun hg23=>?_) (fun hg23=>?_)
   ·
    exact rz rfl (by unfold PtQ.half;(repeat' split)<;>first|rfl|(exfalso;omega))
   ·
    refine cl rfl (adp (q:=p.x) (by omega)) rfl<|?_
    refine br J J J (fun hc20=>?_) (fun hc20=>?_)
    ·
     exact rz rfl (by unfold PtQ.half;(repeat' split)<;>first|rfl|(exfalso;omega))
    ·
     exact rz rfl (by unfold PtQ.half;(repeat' split)<;>first|rfl|(exfalso;omega))
theorem aAA{u v:PtQ}{i j:Nat}[hp:BPt u i][hq:BPt v j](hi:i≤10000000:=by decide)(hj:j≤10000000:=by decide):PF GB prog 188 [eZ u,eZ v] (vI (aa6 u v)):=by
 refine fn func188 J J ntmps188 J J (fun C=>?_)
 refine cl rfl (ayW (p:=u) hi) rfl<|cl rfl (ayW (p:=v) hj) rfl<|?_
 refine br J J J (fun hc11=>?_) (fun hc11=>?_)
 ·
  exact rz rfl (by unfold aa6;rw[if_pos hc11];rfl)
 ·
  refine br J J J (fun hc15=>?_) (fun hc15=>?_)
  ·
   exact rz rfl (by unfold aa6;rw[if_neg hc11,if_pos hc15];rfl)
  ·
   refine cl rfl (ag3 (p:=u) (q:=v) (by omega) (by omega)) rfl<|cl (fu:=⟨0⟩) rfl (adp (q:=u.cross v) (by omega)) rfl<|?_
   have hs:=sT (u.cross v).num
   refine gx rfl<|?_
   exact rz rfl (by unfold aa6;rw[if_neg hc11,if_neg hc15];rfl)
theorem aEJ{m:Int}:Nrm (dg m.natAbs)∧(decide (m<0)=true→0<(dg m.natAbs).length):=⟨(aaC _).2.2,fun h=>by
 have:0<m.natAbs:=by have:=of_decide_eq_true h;omega
 exact ahJ.2 this⟩
theorem acd{m:Int}{i:Nat}[h:BI m i](hi:i≤1000000000:=by decide):PF GB prog 221 [eI m] (.v (.bool true)):=(an6 (neg:=decide (m<0)) (ds:=dg m.natAbs) (aaC _).2.1 (by have:=agD (a:=m.natAbs) hi;omega)).to (by unfold vB;rw[decide_eq_true aEJ])
theorem aHr{l:LnQ}(h:l.ok):rgcd (rgcd (l.a:Rat) (l.b:Rat)) (l.c:Rat)=((1:Int):Rat):=by
 rw[ag6,ag6]
 have:=h.2
 simp only[iS];rw[this];rfl
instance BQ.rgcd (p q:Rat) (i j:Nat) [h:BQ p i] [k:BQ q j]:BQ (rgcd p q) (i+j+(i+j)):=by
 unfold Sx.rgcd
 refine agP (gS (abJ p) (abJ q)) ?_ ?_
 ·rw[iS]
  have h1:=abm h.hn k.hd
  have h2:=abm k.hn h.hd
  rw[jU j i] at h2
  exact aow h1 h2
 ·have h1:=abm h.hd k.hd
  have:2^(i+j)≤2^(i+j+(i+j)):=bV (by decide) (by omega)
  omega
theorem azv{l:LnQ}[hl:LB l](ho:l.ok):PF GB prog 167 [eL l] (.tp [eLn l,vB true]):=by
 refine fn func167 J J ntmps167 J J (fun C=>?_)
 refine cl (fu:=⟨0⟩) rfl (acd (m:=l.a)) rfl<|knF J J J<|cl (fu:=⟨0⟩) rfl (acd (m:=l.b)) rfl<|knF J J J<|cl (fu:=⟨0⟩) rfl (acd (m:=l.c)) rfl<|?_
 refine knF J J J<|cl rfl (aeY (m:=l.a)) rfl<|cl rfl (aeY (m:=l.b)) rfl<|cl rfl (aeY (m:=l.c)) rfl<|cl (fu:=⟨0⟩) rfl (ajX (q:=(l.a:Rat))) rfl<|?_
 refine csS (fu2:=⟨4⟩) J J J J (fun hg35=>?_) (fun hg35=>?_)
 ·
  have ha:l.a=0:=dQ.1 hg35
  refine cl (fu:=⟨1⟩) rfl (ajX (q:=(l.b:Rat))) rfl<|knF rfl (by first|rfl|(show some (decide _)=some false;rw[decide_eq_false (fun e=>ho.1 ⟨ha,dQ.1 e⟩)])) rfl<|?_
  refine cl rfl (ah3 (p:=(l.a:Rat)) (q:=(l.b:Rat))) rfl<|cl rfl (ah3 (p:=rgcd l.a l.b) (q:=(l.c:Rat))) rfl<|cl rfl (ajh (m:=1) (by decide)) rfl<|?_
  refine cl (fu:=⟨0⟩) rfl (ail (p:=rgcd (rgcd l.a l.b) l.c) (q:=((1:Int):Rat))) rfl<|knF rfl (by show some (!decide _)=some false;rw[aHr ho,decide_eq_true rfl];rfl) rfl<|?_
  exact rz J J
 ·
  refine knF rfl (by first|rfl|(show some (decide _)=some false;rw[decide_eq_false (fun e=>ho.1 ⟨ha,dQ.1 e⟩)])) rfl<|cl rfl (ah3 (p:=(l.a:Rat)) (q:=(l.b:Rat))) rfl<|?_
  refine cl rfl (ah3 (p:=rgcd l.a l.b) (q:=(l.c:Rat))) rfl<|cl rfl (ajh (m:=1) (by decide)) rfl<|cl (fu:=⟨0⟩) rfl (ail (p:=rgcd (rgcd l.a l.b) l.c) (q:=((1:Int):Rat))) rfl<|?_
  refine knF rfl (by show some (!decide _)=some false;rw[aHr ho,decide_eq_true rfl];rfl) rfl<|?_
  exact rz J J
def eFr(f:FrQ):DV:= .ag [vI (fn_ (f.l.a:Rat)),vI (fd_ (f.l.a:Rat)),fp_ (f.l.a:Rat),vI (fn_ (f.l.b:Rat)),vI (fd_ (f.l.b:Rat)),fp_ (f.l.b:Rat),vI (fn_ (f.l.c:Rat)),vI (fd_ (f.l.c:Rat)),fp_ (f.l.c:Rat),vI (fn_ f.v.lo),vI (fd_ f.v.lo),fp_ f.v.lo,vI (fn_ f.v.hi),vI (fd_ f.v.hi),fp_ f.v.hi, .v (.bool f.v.nl), .v (.bool f.v.nh)]
structure awp (v:IvQ):Prop where
 z:IvZ v
 lo:BQ v.lo 1200
 hi:BQ v.hi 1200
structure aH8 (s:FrQ):Prop where
 lb:LB s.l
 ok:s.l.ok
 v:awp s.v
abbrev ab1 (c:aae):Prop:= ∀s∈c,aH8 s
theorem aei{α:Type}(f:α→DV)(l:List α):(l.map f).length=l.length:=by simp
theorem awp.all:awp IvQ.all:=⟨⟨fun _=>rfl,fun _=>rfl⟩,BQ.z1.mono (by decide),BQ.z1.mono (by decide)⟩
theorem awp.cut{l m:LnQ}{v:IvQ}[LB l][LB m](hn:l.Ne)(h:awp v):awp (l.cutV v m):=by
 by_cases h0:crossI l m=0
 ·rw[(agN (v:=v) h0).1];exact h
 ·obtain⟨u1,_,u3,u4,u5⟩:=ajK (v:=v) hn h.z h.lo h.hi h0
  rw[u1];exact⟨u3,u4,u5⟩
def ivD(o:Option IvQ):IvQ:=o.getD ⟨0,0,false,false⟩
theorem aC4(G:Gh)(y:Value)(k:Is G (.tp [.ag [vI 0,vI 0, .v (.pointer none),vI 0,vI 0, .v (.pointer none), .v (.bool false), .v (.bool false)], .v (.bool false)]) y):Is G (.tp [eW (ivD none),vB false]) y:=by
 obtain⟨m,rfl,g⟩:=aem.1 k
 exact aem.2 ⟨m,rfl,aDU (fun y hy=>by
  obtain⟨l,rfl,g⟩:=ab4.1 hy
  exact ab4.2 ⟨l,rfl,aym (atI [vI 0,vI 0, .v (.pointer none)] g)⟩) g⟩
theorem aav{α:Type}{f:α→DV}{l:List α}{i:Nat}{s:α}(h:l[i]? =some s):(l.map f)[(i:Int).toNat]? =some (f s):=by simp[h]
theorem ajy{α:Type}{l:List α}{k:Nat}{s:α}(h:l[k]? =some s):l.drop k=s::l.drop (k+1):=by
 obtain⟨h1,h2⟩:=aS.1 h
 rw[bQ h1,h2]
theorem aqR{l:LnQ}{c:aae}{v:IvQ}{k:Nat}{s:FrQ}(h:c[k]? =some s):agu l (c.drop k) v=if l.cutB v s.l then agu l (c.drop (k+1)) (l.cutV v s.l) else none:=by
 rw[ajy h];rfl
theorem aju{l:LnQ}{c:aae}{k:Nat}{s:FrQ}(h:c[k]? =some s):aew l (c.drop k)=if aey l s≠0 then aey l s else if s.l=l then 1 else aew l (c.drop (k+1)):=by
 rw[ajy h];rfl
instance BQ.sample (v:IvQ) [h1:BQ v.lo 1200] [h2:BQ v.hi 1200]:BQ v.sample 2500:=by
 unfold IvQ.sample
 split
 ·exact BQ.z1.mono (by decide)
 ·split
  ·exact BQ.mono (inferInstance:BQ (v.hi-((1:Int):Rat)) _) (by decide)
  ·split
   ·exact BQ.mono (inferInstance:BQ (v.lo+((1:Int):Rat)) _) (by decide)
   ·exact BQ.mono (inferInstance:BQ ((v.lo+v.hi)*mkRat 1 2) _) (by decide)
theorem azz{c:aae}{l:LnQ}[hl:LB l](hlo:l.ok)(hc:ab1 c)(hn:c.length≤1000000):PF GB prog 225 [.sl (c.map eFr),eLn l] (.tp [eW (ivD (afq c l)),vB (afq c l).isSome]):=by
 have hm:=aei eFr c
 refine fn func225 J J ntmps225 J J (fun C=>?_)
 refine cl (fu:=⟨10⟩) rfl aFO rfl<|?_
 refine eqF 12 (.d (vI (c.length:Nat))) rfl (by rw[aei]<;>rfl) ?_
 refine gx rfl<|?_
 refine lp (X:=IvQ×Nat) (fun⟨v,k⟩=>[(13, .d (vI (k:Nat))),(6, .ov 6 0)]) (fun⟨v,k⟩=>[(6,some (.o 199 [.d (vI (fn_ v.lo)), .d (vI (fd_ v.lo)), .d (fp_ v.lo), .d (vI (fn_ v.hi)), .d (vI (fd_ v.hi)), .d (fp_ v.hi), .d (.v (.bool v.nl)), .d (.v (.bool v.nh))] true))]) (fun⟨v,k⟩=>k≤c.length∧awp v∧agu l (c.drop k) v=afq c l) (fun⟨v,k⟩=>c.length-k) (IvQ.all,0) rfl ⟨bX _, .all,rfl⟩ (fun _=>rfl) (fun⟨v,k⟩ hk=>?_)
 dsimp only at hk⊢
 obtain⟨h1,h2,h3⟩:=hk
 haveI:=h2.lo
 haveI:=h2.hi
 refine br J J J (fun hc14=>?_) (fun hc14=>?_)
 ·
  obtain⟨s,hs0⟩: ∃s,c[k]? =some s:=⟨_,aQ (by omega)⟩
  have hs:=hc s (aU hs0)
  haveI:=hs.lb
  refine ix _ rfl (aav hs0) rfl<|cl (fu:=⟨0⟩) rfl (aEv (l:=l) (m:=s.l) (v:=v)) rfl<|?_
  generalize hw:l.cutV v s.l=w
  generalize hb:l.cutB v s.l=b
  refine gx rfl<|?_
  refine bb J J J (fun hc26=>?_) (fun hc26=>?_)
  ·
   exact rzI rfl (by rw[←h3,aqR hs0,hb,if_neg (by simpa using hc26)];exact aC4)
  ·
   exact at_ (w,k+1) (by dsimp only;exact⟨⟨by omega,hw▸h2.cut hlo.1,by rw[←h3,aqR hs0,hb,hw,if_pos (by simpa using hc26)]⟩,(by omega)⟩)
 ·
  exact rz rfl (by rw[←h3,fS (by omega)];rfl)
theorem aA5{c:aae}{l:LnQ}[hl:LB l](hlo:l.ok)(hc:ab1 c)(hn:c.length≤1000000):PF GB prog 226 [.sl (c.map eFr),eLn l] (vI (ajz c l)):=by
 have hm:=aei eFr c
 refine fn func226 J J ntmps226 J J (fun C=>?_)
 refine cl rfl (azz (c:=c) (l:=l) hlo hc hn) rfl<|?_
 refine bb (fu2:=⟨7⟩) J J J (fun hc16=>?_) (fun hc16=>?_)
 ·
  exact rz rfl (by unfold ajz;rw[if_pos hc16];rfl)
 ·
  have hp:ajz c l=aew l c:=by unfold ajz;rw[if_neg (by simp[hc16])]
  refine eqF 18 (.d (vI (c.length:Nat))) rfl (by rw[aei]<;>rfl) ?_
  refine gx rfl<|?_
  refine lp (X:=Nat) (fun k=>[(19, .d (vI (k:Nat)))]) (fun k=>[]) (fun k=>k≤c.length∧aew l (c.drop k)=aew l c) (fun k=>c.length-k) 0 rfl ⟨bX _,rfl⟩ (fun _=>rfl) (fun k hk=>?_)
  obtain⟨h1,h2⟩:=hk
  refine br J J J (fun hc20=>?_) (fun hc20=>?_)
  ·
   obtain⟨s,hs0⟩: ∃s,c[k]? =some s:=⟨_,aQ (by omega)⟩
   have hs:=hc s (aU hs0)
   haveI:=hs.lb
   haveI:=hs.v.lo
   haveI:=hs.v.hi
   haveI:=BQ.sample s.v
   refine ix _ rfl (aav hs0) rfl<|cl (fu:=⟨0⟩) rfl (awl (v:=s.v)) rfl<|?_
   generalize ht:s.v.sample=t at*
   refine gx rfl<|cl rfl (aGP (l:=s.l) (t:=t)) rfl<|cl rfl (aCa (l:=l) (p:=s.l.at t)) rfl<|?_
   refine br J J J (fun hc32=>?_) (fun hc32=>?_)
   ·
    have hsd:aey l s=(l.value (s.l.at t)).num.sign:=by unfold aey;rw[ht]
    exact rz rfl (by rw[hp,←h2,aju hs0,hsd,if_pos hc32];rfl)
   ·
    refine cl rfl (awO (l:=s.l) (m:=l)) rfl<|?_
    refine bd J J J (fun hc37=>?_) (fun hc37=>?_)
    ·
     have hsd:aey l s=(l.value (s.l.at t)).num.sign:=by unfold aey;rw[ht]
     exact rz rfl (by rw[hp,←h2,aju hs0,hsd,if_neg hc32,if_pos hc37];rfl)
    ·
     have hsd:aey l s=(l.value (s.l.at t)).num.sign:=by unfold aey;rw[ht]
     exact at_ (k+1) ⟨⟨by omega,by rw[←h2,aju hs0,hsd,if_neg hc32,if_neg hc37]⟩,(by omega)⟩
  ·
   exact rz rfl (by rw[hp,←h2,fS (by omega)];rfl)
theorem anI{vs rest:List Value}(h: ∀v∈vs,(aag v).length=17){i:Nat}(hi:i≤vs.length):aaZ (aaj vs++rest) (i*17) ((vs.length-i)*17)=some (aaj (vs.drop i)):=by
 have hl:=aax vs h
 have hd:(aaj (vs.drop i)).length=(vs.length-i)*17:=by
  rw[aax (s:=17) _ (fun v hv=>h v (gJ hv)),gV]
 rw[abz _ _ _ (by simp only[aR];omega)]
 congr 1
 rw[jN (by omega),afJ vs i h hi,fY (by omega),aW (by omega)]
theorem arI{vs rest vcs:List Value}(h: ∀v∈vs,(aag v).length=17)(hv:vcs.length=17){i:Nat}(hi:i<vs.length)(hr:17≤rest.length):
  ovw (ovw (aaj vs++rest) ((i+1)*17) (aaj (vs.drop i))) (i*17) vcs=aaj (vs.take i)++vcs++aaj (vs.drop i)++rest.drop 17:=by
 have hl:=aax vs h
 have hd:(aaj (vs.drop i)).length=(vs.length-i)*17:=by
  rw[aax (s:=17) _ (fun v hv=>h v (gJ hv)),gV]
 have ht:(aaj (vs.take i)).length=i*17:=by
  rw[aax (s:=17) _ (fun v hv=>h v (fZ hv)),cR,iZ (by omega)]
 rw[acC (aaj (vs.drop i)) (aaj vs++rest) _ (by rw[aR];omega)]
 rw[acC vcs _ _ (by simp only[aR,cR,gV];omega)]
 have e1:(aaj vs++rest).drop ((i+1)*17+(aaj (vs.drop i)).length)=rest.drop 17:=by
  rw[hd,show(i+1)*17+(vs.length-i)*17=(aaj vs).length+17 by omega,mK,jK (by omega),lZ]
  congr 1
  omega
 have e2:((aaj vs++rest).take ((i+1)*17)++aaj (vs.drop i)++rest.drop 17).take (i*17)=aaj (vs.take i):=by
  rw[iQ,fY (by simp only[cR,aR];omega),List.take_take,iZ (by omega),fY (by omega),ahE vs i h (by omega)]
 have e3:((aaj vs++rest).take ((i+1)*17)++aaj (vs.drop i)++rest.drop 17).drop (i*17+vcs.length)=aaj (vs.drop i)++rest.drop 17:=by
  rw[hv,iQ,show i*17+17=((aaj vs++rest).take ((i+1)*17)).length by simp only[cR,aR];omega,List.drop_left]
 rw[e1,e2,e3]
 simp[iQ]
theorem arH{vs rest vcs:List Value}(h: ∀v∈vs,(aag v).length=17)(hv:vcs.length=17)(hr:17≤rest.length):ovw (aaj vs++rest) (vs.length*17) vcs=aaj vs++vcs++rest.drop 17:=by
 have hl:=aax vs h
 rw[acC _ _ _ (by simp only[aR];omega),hv,←hl,List.take_left,mK]
 simp
theorem alD{G:Gh}{b bv cap i c2:Nat}{vs rest vcs r2:List Value}{lo lo2:Bool}(hvs: ∀v∈vs,(aag v).length=17)(hfl: ∀v∈vs,∀c∈aag v,flat c=true)(hv:vcs.length=17)(hvf: ∀c∈vcs,flat c=true)
  (hcap:vs.length*17+rest.length=cap*17)(hroom:vs.length+1≤cap)(hi:i≤vs.length)(hb:vs.length≤1125899906842624):
  FnM prog 230 [.slice (some ⟨b,0,none⟩) vs.length cap, .int .i64 i, .slice (some ⟨bv,0,none⟩) 1 c2] [⟨b,aaj vs++rest,201,lo⟩,⟨bv,vcs++r2,201,lo2⟩] G
   (fun u css _=>u= .slice (some ⟨b,0,none⟩) (vs.length+1) cap∧css=[aaj (vs.take i)++vcs++aaj (vs.drop i)++rest.drop 17,vcs++r2]):=by
 have hL:(aaj vs++rest).length=cap*17:=by rw[aR,aax vs hvs];exact hcap
 have hr:17≤rest.length:=by omega
 have hD:(aaj (vs.drop i)).length=(vs.length-i)*17:=by
  rw[aax (s:=17) _ (fun v hv=>hvs v (gJ hv)),gV]
 have hDf: ∀c∈aaj (vs.drop i),flat c=true:=fun c hc=>by
  obtain⟨l,hl,hcl⟩:=List.mem_flatten.1 hc
  obtain⟨v,hv,rfl⟩:=bJ.1 hl
  exact hfl v (gJ hv) c hcl
 have hvt:aaZ (vcs++r2) 0 (1*17)=some vcs:=by rw[abz _ _ _ (by rw[aR];omega),gT,fY (by omega),aW (by omega)]
 refine FnM.intro func230 J J ntmps230 rfl ?_
 intro C _ _
 show St C _ _ [⟨b,aaj vs++rest,201,false⟩,⟨bv,vcs++r2,201,false⟩] _ _
 refine av0 (fun hne=>?_)
 simp only[] at hne
 refine sR<|sa J J<|zE<|sR<|sm J J<|sm J J<|sy (age J J (by omega) (by omega)) rfl<|zE<|sR<|?_
 refine sm J J<|adn J J<|sa J J<|zE<|aak<|sR<|sm J J<|sy (abZ J J) rfl<|zE<|agK rfl<|?_
 refine zK<|sR<|sm J J<|adn J J<|sa J J<|zE<|aak<|sR<|sm J J<|sm J J<|sy (abZ J J) rfl<|zE<|?_
 refine aaD rfl (fun hc=>?_) (fun hc=>?_) -- slot 22
 ·have hin:i=vs.length:=by omega
  subst hin
  refine sR<|sm J J<|sm J J<|?_
  refine sc (afW (s:=17) (m:=1) (ys:=vcs) J J (.hd ..) hL (aiX inferInstance hvt) (by omega) hvf hroom rfl ?_)
  refine sa J J<|zE<|aaH<|?_
  refine ac4 (css:=[ovw (aaj vs++rest) (vs.length*17) vcs,vcs++r2]) (.tmp rfl .nil) rfl _ (List.Perm.refl _) (List.Sublist.refl _) ⟨rfl,?_⟩
  rw[arH hvs hv hr,cM,fV]
  simp[aaj]
 have hin:i<vs.length:=by omega
 have hn1:((vs.length:Int)+((1:Nat):Int)).toNat=vs.length+1:=by omega
 have ht1:((i:Int)+((1:Nat):Int)).toNat=i+1:=by omega
 refine zK<|aak<|sR<|sm J J<|sm J J<|sy (aar J J) rfl<|sm J J<|?_
 refine sy (aER rfl) rfl<|sy (agL J J) rfl<|zE<|?_
 refine aaD rfl (fun hc2=>?_) (fun hc2=>?_) -- slot 31
 ·exact absurd hc2 (by omega)
 refine zK<|sR<|sm J J<|sm J J<|sm J J<|sy (aar J J) rfl<|sy (adJ J J (by omega) (by omega)) rfl<|?_
 rw[hn1]
 refine sa J J<|zE<|aak<|sR<|sm J J<|sm J J<|sm J J<|sm J J<|sy (aar J J) rfl<|sy (aeb J J (by omega) (by omega) (by omega)) rfl<|?_
 refine sy (aoP (tS:=102) (tR:=4) func272 (by kernel_rfl) (by kernel_rfl) (by kernel_rfl) (by kernel_rfl) J J (Ne.symm hne) (fun h=>by rw[h] at hL;simp at hL;omega)) rfl<|?_
 refine sy (aq5 rfl) rfl<|zE<|ac8 rfl<|?_
 refine aak<|dr0 (b:=b) (fun _=>false) [(0,true),(1,true),(2,true),(3,true),(4,true),(5,true),(6,true),(7,true),(8,false)] follows (.hd ..) (by kernel_rfl)<|dM J J J<|?_
 refine dM J J J<|dM J J J<|dy rfl (fun _=>aar J J (by omega) (by omega)) J J<|dy rfl (fun _=>aeb J J (by omega) (by omega) (by omega)) J J<|?_
 refine dM J J J<|dM J J J<|dy rfl (fun _=>aeb J J (by omega) (by omega) (by omega)) J J<|?_
 rw[ht1,bZ,eJ,eJ]
 refine dc J J (asx (s:=17) (m:=vs.length-i) (ys:=aaj (vs.drop i)) J J (by show min _ _=_;omega) (aiX inferInstance (anI hvs hi)) hDf (by rw[hD,hL];omega) (.hd ..) rfl ?_)
 refine aBY<|dn<|sR<|sm J J<|sm J J<|sy (aeb J J (by omega) (by omega) (by omega)) rfl<|sm J J<|?_
 rw[bZ,eJ]
 refine sc (asx (s:=17) (m:=1) (ys:=vcs) J J (by show min _ _=_;omega) (aiX inferInstance hvt) hvf (by rw[ai1,hL,hv];omega) (.hd ..) rfl ?_)
 refine zE<|sR<|sm J J<|sa J J<|zE<|aaH<|?_
 refine ac4 (css:=[ovw (ovw (aaj vs++rest) ((i+1)*17) (aaj (vs.drop i))) (i*17) vcs,vcs++r2]) (.tmp rfl .nil) rfl _ (List.Perm.refl _) (List.Sublist.refl _) ⟨rfl,?_⟩
 rw[arI hvs hv hin hr]
theorem FnM.toO{P:Program}{f:FuncId}{vs:List Value}{M:List Own}{G:Gh}{K:Value→List (List Value)→Gh→Prop}{K':Value→List Own→Gh→Prop}(h:FnM P f vs M G K)(hk: ∀v css G',GLe G G'→css.length=M.length→K v css G'→ ∃o,o.Sublist (ae5 (asB M) css)∧K' v o G'):FnO P f vs M G K':=
 ⟨h.able,fun w hw=>(h.run w hw).mono fun _ _ ⟨v,css,G',he,hl,hh,hK⟩=>let⟨o,h1,h2⟩:=hk v css G' hh.gle hl hK;⟨v,o,G',he,hh.drop h1,h2⟩⟩
theorem aDD(c:aae):adh 17 (c.map eFr):=fun d hd=>by
 obtain⟨f,_,rfl⟩:=bJ.1 hd;exact⟨rfl,rfl⟩
theorem apy{G:Gh}{s:Nat}{ds:List DV}{vs:List Value}(hk:adh s ds)(h:IsLs G ds vs): ∀v∈vs,∀c∈aag v,flat c=true:=fun v hv=>by
 obtain⟨d,hd,h3⟩:=h.all v hv
 exact(h3.cells (hk d hd).1).2
theorem axS{c:aae}{x:FrQ}{i cap:Nat}(hi:i≤c.length)(hc:c.length+1≤cap)(hn:c.length≤1000000):PI GB prog 230 (i:Nat) 17 201 201 (c.map eFr) (eFr x) cap ((c.take i++x::c.drop i).map eFr):=by
 intro G w w2 B B2 _ hB hcap hB2
 obtain⟨vs,q1,q2,q3,_⟩:=hB
 obtain⟨us,u1,u2,u3,_⟩:=hB2
 dsimp only at q1 q2 q3 u1 u2 u3
 have hl:=q2.len
 rw[aK] at hl
 obtain⟨v,m,rfl,hv,hm⟩:=aad.1 u2
 cases aaN.1 hm
 rcases q1 with⟨_,e,_⟩|⟨b,rest,lo,e,rfl,h5,h6,h7⟩
 ·rw[e] at hcap;simp at hcap;omega
 rcases u1 with⟨h,_⟩|⟨bv,r2,lo2,e2,rfl,h8,h9,h10⟩
 ·cases h
 have hx:(aag v).length=17:=u3 v aZ
 have hxf:=apy (s:=17) (ds:=[eFr x]) (fun d hd=>by rw[aV.1 hd];exact⟨rfl,rfl⟩) u2 v aZ
 have key:=alD (G:=G) (b:=b) (bv:=bv) (cap:=w.c) (i:=i) (c2:=w2.c) (vs:=vs) (rest:=rest) (vcs:=aag v) (r2:=r2) (lo:=lo) (lo2:=lo2) q3 (apy (aDD c) q2) hx hxf (by rw[←h5];exact h6) (by omega) (by omega) (by omega)
 rw[e,e2]
 rw[ajp]
 refine key.toO fun u css G' hg hl2 ⟨k1,k2⟩=>?_
 subst k1 k2
 have hall: ∀u∈vs.take i++v::vs.drop i,(aag u).length=17:=fun u hu=>by
  rcases bY.1 hu with hu|hu
  ·exact q3 u (fZ hu)
  ·rcases aT.1 hu with rfl|hu
   ·exact hx
   ·exact q3 u (gJ hu)
 have hlen:(vs.take i++v::vs.drop i).length=vs.length+1:=by
  rw[aR,bW,cR,gV];omega
 refine⟨[⟨b,aaj (vs.take i)++aag v++aaj (vs.drop i)++rest.drop 17,201,false⟩], .cons_cons _ (kY _),⟨some ⟨b,0,none⟩,vs.length+1,w.c⟩,rfl,vs.take i++v::vs.drop i, .inr ⟨b,rest.drop 17,false,by rw[hlen],?_,aax _ hall,?_,?_⟩,?_,hall,fun h=>by cases h⟩
 ·rw[adi];simp[aaj]
 ·rw[aax _ hall,hlen,gV]
  rw[h5] at h6
  have:=bK 17 (show vs.length+1≤w.c by omega)
  simp only[cS] at this⊢;omega
 ·rw[hlen];show vs.length+1≤w.c;omega
 ·rw[bU,cZ,gW,iL]
  exact((q2.take i).up hg).app (.cons (hv.up hg) ((q2.drop i).up hg))
theorem aux{s:FrQ}{l:LnQ}[hs:LB s.l][hl:LB l]:PF GB prog 229 [eFr s,eLn l] (vI (aa6 s.l.dir l.dir)):=by
 refine fn func229 J J ntmps229 J J (fun C=>?_)
 refine cl rfl (ak5 (l:=s.l)) rfl<|cl rfl (ak5 (l:=l)) rfl<|cl rfl (aAA (u:=s.l.dir) (v:=l.dir)) rfl<|?_
 exact rz J J
def bsB(c:aae)(l:LnQ)(i:Nat):Bool:=match c[i]? with
 |some s=>decide (aa6 s.l.dir l.dir=0)
 |none=>false
theorem awE(i j:Nat):((i:Int)+(j:Int)).fdiv (2^min (1:Int).toNat IntKind.u64.bits)=((i+j)/2:Nat):=by
 rw[show(2:Int)^min (1:Int).toNat IntKind.u64.bits=((2:Nat):Int) from rfl,gK _ (by decide)];omega
theorem aBM{c:aae}{l:LnQ}{k:Nat}{s:FrQ}(h:c[k]? =some s):aen c l k=decide (aa6 s.l.dir l.dir<0):=by unfold aen;rw[h]
theorem aF2{c:aae}{l:LnQ}{k:Nat}{s:FrQ}(h:c[k]? =some s):bsB c l k=decide (aa6 s.l.dir l.dir=0):=by unfold bsB;rw[h]
theorem aGa{c:aae}{l:LnQ}{k:Nat}(h: ¬k<c.length):bsB c l k=false:=by unfold bsB;rw[dJ (by omega)]
theorem aFS{p:Nat→Bool}{i j:Nat}(h:i<j)(hp:p ((i+j)/2)=true):bsq p i j=bsq p ((i+j)/2+1) j:=by rw[bsq,dif_pos h,if_pos hp]
theorem aGw{p:Nat→Bool}{i j:Nat}(h:i<j)(hp: ¬p ((i+j)/2)=true):bsq p i j=bsq p i ((i+j)/2):=by rw[bsq,dif_pos h,if_neg hp]
theorem aFe{p:Nat→Bool}{i j:Nat}(h: ¬i<j):bsq p i j=i:=by rw[bsq,dif_neg h]
theorem aGE{c:aae}{l:LnQ}[hl:LB l](hc:ab1 c)(hn:c.length≤1000000):PF GB prog 228 [.sl (c.map eFr),eLn l, .v (.func (.func 229) #[] #[])] (.tp [vI (bsq (aen c l) 0 c.length:Nat),vB (bsB c l (bsq (aen c l) 0 c.length))]):=by
 have hm:=aei eFr c
 refine fn (fu:=⟨11⟩) func228 J J ntmps228 J J (fun C=>?_)
 refine eqF 13 (.d (vI (c.length:Nat))) rfl (by rw[hm]<;>rfl) ?_
 refine gx rfl<|?_
 refine lp (X:=Nat×Nat) (fun⟨i,j⟩=>[(9, .d (vI (i:Nat))),(10, .d (vI (j:Nat)))]) (fun⟨i,j⟩=>[]) (fun⟨i,j⟩=>i≤j∧j≤c.length∧bsq (aen c l) i j=bsq (aen c l) 0 c.length) (fun⟨i,j⟩=>j-i) (0,c.length) rfl ⟨bX _,aM _,rfl⟩ (fun _=>rfl) (fun⟨i,j⟩ hk=>?_)
 dsimp only at hk⊢
 obtain⟨h1,h2,h3⟩:=hk
 refine br (fu1:=⟨10⟩) (fu2:=⟨11⟩) J J J (fun hc17=>?_) (fun hc17=>?_)
 ·
  obtain⟨s,hs0⟩: ∃s,c[(i+j)/2]? =some s:=⟨_,aQ (by omega)⟩
  haveI:=(hc s (aU hs0)).lb
  have hang:=aBM (l:=l) hs0
  refine eqF 22 (.d (.v (.int .u64 ((i+j)/2:Nat)))) rfl (by rw[awE]) ?_
  refine gx rfl<|ix _ rfl (aav hs0) rfl<|cl rfl (aux (s:=s) (l:=l)) rfl<|?_
  refine br J J J (fun hc31=>?_) (fun hc31=>?_)
  ·
   exact at_ ((i+j)/2+1,j) (by dsimp only;exact⟨⟨by omega,h2,by rw[←h3,aFS (i:=i) (j:=j) (by omega) (by rw[hang];exact decide_eq_true hc31)]⟩,(by omega)⟩)
  ·
   exact at_ (i,(i+j)/2) (by dsimp only;exact⟨⟨by omega,by omega,by rw[←h3,aGw (i:=i) (j:=j) (by omega) (by rw[hang,decide_eq_false hc31];exact Bool.false_ne_true)]⟩,(by omega)⟩)
 ·
  refine csS (v2:=fun hg39=>by simp only[aah];kernel_rfl) J J J J (fun hg39=>?_) (fun hg39=>?_)
  ·
   have he:=aFe (p:=aen c l) (i:=i) (j:=j) (by omega)
   obtain⟨s,hs0⟩: ∃s,c[i]? =some s:=⟨_,aQ (by omega)⟩
   haveI:=(hc s (aU hs0)).lb
   refine ix _ rfl (aav hs0) rfl<|cl rfl (aux (s:=s) (l:=l)) rfl<|?_
   exact rz rfl (by rw[←h3,he,aF2 hs0];rfl)
  ·
   have he:=aFe (p:=aen c l) (i:=i) (j:=j) (by omega)
   exact rz rfl (by rw[←h3,he,aGa (by omega)];rfl)
theorem auO{l:LnQ}[LB l](hlo:l.ok): ∀{c:aae} {v w:IvQ},ab1 c→awp v→agu l c v=some w→awp w
 |[],v,w,_,hv,h=>by cases h;exact hv
 |s::t,v,w,hc,hv,h=>by
  haveI:=(hc s aZ).lb
  simp only[agu] at h
  split at h
  ·exact auO hlo (fun x hx=>hc x (aJ _ hx)) (hv.cut hlo.1) h
  ·cases h
theorem amb{l:LnQ}[LB l]: ∀{c:aae},ab1 c→ab1 (abP l c)
 |[],_,s,h=>by cases h
 |a::t,hc,s,h=>by
  have ha:=hc a aZ
  haveI:=ha.lb
  have ht:=amb (l:=l) (fun x hx=>hc x (aJ _ hx))
  unfold abP at h
  split at h
  ·rcases aT.1 h with rfl|h
   ·exact⟨ha.lb,ha.ok,ha.v.cut ha.ok.1⟩
   ·exact ht s h
  ·exact ht s h
theorem ahT{l:LnQ}[hl:LB l](hlo:l.ok){c:aae}(hc:ab1 c):ab1 (aaL c l):=by
 unfold aaL
 split
 ·rename_i v hv
  intro s hs
  unfold aoX at hs
  rcases bY.1 hs with h|h
  ·exact amb hc s (fZ h)
  ·rcases aT.1 h with rfl|h
   ·exact⟨hl,hlo,auO hlo hc .all hv⟩
   ·exact amb hc s (gJ h)
 ·exact hc
theorem apq{l:LnQ}{c:aae}{k:Nat}{s:FrQ}(h:c[k]? =some s):abP l (c.drop k)=if s.l.cutB s.v l then⟨s.l,s.l.cutV s.v l⟩::abP l (c.drop (k+1)) else abP l (c.drop (k+1)):=by
 rw[ajy h];rfl
theorem auQ{c:aae}{l:LnQ}[hl:LB l](hlo:l.ok)(hc:ab1 c)(hn:c.length≤100000):PF GB prog 168 [.sl (c.map eFr),eLn l] (.tp [.sl ((aaL c l).map eFr),vB (aa9 c l)]):=by
 have hm:=aei eFr c
 refine fn func168 J J ntmps168 J J (fun C=>?_)
 refine cl rfl (azz (c:=c) (l:=l) hlo hc (by omega)) rfl<|?_
 refine bb (fu2:=⟨6⟩) J J J (fun hc22=>?_) (fun hc22=>?_)
 ·
  have hp:afq c l=none:=by simpa using hc22
  refine cl rfl (aA5 (c:=c) (l:=l) hlo hc (by omega)) rfl<|?_
  exact rz rfl (by unfold aaL aa9;rw[hp];rfl)
 ·
  obtain⟨v,hv⟩: ∃v,afq c l=some v:=qQ.1 (by simpa using hc22)
  have hvd:ivD (afq c l)=v:=by rw[hv];rfl
  rw[hvd]
  refine eqF 29 (.d (vI (c.length:Nat))) rfl (by rw[hm]<;>rfl) ?_
  refine gx rfl<|mkc (fu:=⟨8⟩) (c.length+1) J J J<|?_
  refine eqF 33 (.d (vI (c.length:Nat))) rfl (by rw[hm]<;>rfl) ?_
  refine gx rfl<|?_
  refine lp (X:=aae×Nat) (fun⟨o,k⟩=>[(34, .d (vI (k:Nat))),(8, .rw 31)]) (fun⟨o,k⟩=>[(31,some (.c 201 17 (o.map eFr) (c.length+1)))]) (fun⟨o,k⟩=>k≤c.length∧o.length≤k∧o++abP l (c.drop k)=abP l c) (fun⟨o,k⟩=>c.length-k) ([],0) rfl ⟨bX _,aM _,rfl⟩ (fun _=>rfl) (fun⟨o,k⟩ hk=>?_)
  dsimp only at hk⊢
  obtain⟨h1,h2,h3⟩:=hk
  have hmo:=aei eFr o
  refine br J J J (fun hc35=>?_) (fun hc35=>?_)
  ·
   obtain⟨s,hs0⟩: ∃s,c[k]? =some s:=⟨_,aQ (by omega)⟩
   have hs:=hc s (aU hs0)
   haveI:=hs.lb
   haveI:=hs.v.lo
   haveI:=hs.v.hi
   refine ix _ rfl (aav hs0) rfl<|cl (fu:=⟨0⟩) rfl (aEv (l:=s.l) (m:=l) (v:=s.v)) rfl<|?_
   generalize hw:s.l.cutV s.v l=w
   generalize hb:s.l.cutB s.v l=b
   refine gx rfl<|?_
   refine bb J J J (fun hc47=>?_) (fun hc47=>?_)
   ·
    refine rf J J<|apc ((o++[FrQ.mk s.l w]).map eFr) rfl (by rw[bU];rfl) (aDD [FrQ.mk s.l w]) (by rw[hmo];simp;omega) rfl<|?_
    refine rnE 54 31 rfl ?_
    exact at_ (o++[FrQ.mk s.l w],k+1) (by dsimp only;exact⟨⟨by omega,by simp;omega,by rw[←h3,apq hs0,hb,if_pos hc47,hw,iQ];rfl⟩,(by omega)⟩)
   ·
    exact at_ (o,k+1) (by dsimp only;exact⟨⟨by omega,by omega,by rw[←h3,apq hs0,hb,if_neg (by simp[hc47])]⟩,(by omega)⟩)
  ·
   obtain rfl:k=c.length:=by omega
   have ho:o=abP l c:=by rw[←h3,fV];simp[abP]
   subst ho
   have hbl:=(aqu (aen (abP l c) l) (abP l c).length 0 (abP l c).length (by omega) (by omega)).2
   refine cL rfl (aGE (c:=abP l c) (l:=l) (amb hc) (by omega)) J J<|ro J J<|ci ((aoX (abP l c) l v).map eFr) rfl (axS (c:=abP l c) (x:=⟨l,v⟩) (i:=bsq (aen (abP l c) l) 0 (abP l c).length) (cap:=c.length+1) hbl (by omega) (by omega)) J J<|?_
   refine fzE 68 rfl ?_
   exact rz rfl (by unfold aaL aa9;rw[hv];rfl)
theorem awr{c:aae}{l:LnQ}[hl:LB l](hlo:l.ok)(hc:ab1 c)(hn:c.length≤100000):PF GB prog 220 [.sl (c.map eFr),eLn l] (.tp [.sl ((aaL c l).map eFr), .sl ((aaL c l.rev).map eFr),vB (aa9 c l),vB (aa9 c l.rev)]):=by
 refine fn func220 J J ntmps220 J J (fun C=>?_)
 refine cl rfl (auQ (c:=c) (l:=l) hlo hc hn) rfl<|cl rfl (aD4 (l:=l)) rfl<|cl rfl (auQ (c:=c) (l:=l.rev) hlo.rev hc hn) rfl<|?_
 exact rz J J
def cU:Tr→List DV
 | .leaf b=>[vI 0,vI 0, .v (.pointer none),vI 0,vI 0, .v (.pointer none),vI 0,vI 0, .v (.pointer none), .v (.pointer none), .v (.pointer none), .v (.bool b)]
 | .node l x y=>[vI (fn_ (l.a:Rat)),vI (fd_ (l.a:Rat)),fp_ (l.a:Rat),vI (fn_ (l.b:Rat)),vI (fd_ (l.b:Rat)),fp_ (l.b:Rat),vI (fn_ (l.c:Rat)),vI (fd_ (l.c:Rat)),fp_ (l.c:Rat), .pt (cU x), .pt (cU y), .v (.bool false)]
def eU(t:Tr):DV:= .pt (cU t)
theorem ak7{b:Bool}:PF GB prog 181 [.v (.bool b)] (eU (.leaf b)):=by
 refine fn func181 J J ntmps181 J J (fun C=>?_)
 refine fzE 5 rfl ?_
 exact rz J J
theorem aGI{l:LnQ}{x y:Tr}:PF GB prog 182 [eLn l,eU x,eU y] (eU (.node l x y)):=by
 refine fn func182 J J ntmps182 J J (fun C=>?_)
 refine fzE 11 rfl ?_
 exact rz J J
theorem amA{b:Bool}:PF GB prog 130 [eU (.leaf b)] (.v (.bool true)):=by
 refine fn func130 J J ntmps130 J J (fun C=>?_)
 exact rz J J
theorem am5{l:LnQ}{x y:Tr}:PF GB prog 130 [eU (.node l x y)] (.v (.bool false)):=by
 refine fn func130 J J ntmps130 J J (fun C=>?_)
 exact rz J J
theorem aob{b:Bool}:PF GB prog 102 [eU (.leaf b)] (vI (Tr.depth (.leaf b):Nat)):=by
 refine fn func102 J J ntmps102 J J (fun C=>?_)
 refine cl (fu:=⟨0⟩) rfl amA rfl<|?_
 refine kbT 4 rfl ?_
 refine gx rfl<|?_
 exact rz J J
theorem anS{l:LnQ}{x y:Tr}(hd:(Tr.node l x y).depth≤1000000)(ihx:PF GB prog 102 [eU x] (vI (Tr.depth x:Nat)))(ihy:PF GB prog 102 [eU y] (vI (Tr.depth y:Nat))):PF GB prog 102 [eU (.node l x y)] (vI (Tr.depth (.node l x y):Nat)):=by
 have hdp:(Tr.node l x y).depth=1+max x.depth y.depth:=rfl
 have hdx:=sK x.depth y.depth
 have hdy:=rR x.depth y.depth
 refine fn func102 J J ntmps102 J J (fun C=>?_)
 refine cl (fu:=⟨0⟩) rfl am5 rfl<|?_
 refine kbF 4 rfl ?_
 refine gx rfl<|cl rfl ihx rfl<|cl (hv:=by simp only[aah];exact⟨by omega,by kernel_rfl⟩) rfl ihy rfl<|?_
 exact rz rfl (by show DV.v (.int _ _)= .v (.int _ _);congr 2;split<;>omega)
theorem al5: ∀{t:Tr},t.depth≤1000000→PF GB prog 102 [eU t] (vI (Tr.depth t:Nat))
 | .leaf _,_=>aob
 | .node l x y,h=>anS h (al5 (by have:=sK x.depth y.depth;have:(Tr.node l x y).depth=1+max x.depth y.depth:=rfl;omega)) (al5 (by have:=rR x.depth y.depth;have:(Tr.node l x y).depth=1+max x.depth y.depth:=rfl;omega))
def Tr.compl:Tr→Tr
 | .leaf b=> .leaf !b
 | .node l x y=> .node l x.compl y.compl
def Tr.chooseQ(op:Int)(b:Bool)(t:Tr)(c:aae):Tr:=
 if op=1∨op=2 then(if b=decide (op=1) then .leaf b else t.restrict c)
 else if op=3∧b=false then .leaf false
 else if b then(t.restrict c).compl else t.restrict c
def Tr.mergeQ(op:Int):Tr→Tr→aae→Tr
 | .leaf b,u,c=>u.chooseQ op b c
 | .node l x y,u,c=>if !aa9 c l.rev then x.mergeQ op u c else if !aa9 c l then y.mergeQ op u c else joinQ l (x.mergeQ op u (aaL c l)) (y.mergeQ op u (aaL c l.rev))
def lnZ:DV:= .ag [vI 0,vI 0, .v (.pointer none),vI 0,vI 0, .v (.pointer none),vI 0,vI 0, .v (.pointer none)]
def lnR:Option LnQ→DV
 |some l=> .tp [eLn l,vB true]
 |none=> .tp [lnZ,vB false]
theorem aEX{l:LnQ}(h: ¬l.ok)(hz: ¬(l.a=0∧l.b=0)):decide (rgcd (rgcd (l.a:Rat) (l.b:Rat)) (l.c:Rat)=((1:Int):Rat))=false:=by
 rw[ag6,ag6]
 refine decide_eq_false fun e=>h ⟨hz,?_⟩
 simp only[iS] at e
 have:=nX.1 e
 omega
theorem axC{l:LnQ}[hl:LB l](ha:l.a=0)(hb:l.b=0):PF GB prog 167 [eL l] (lnR none):=by
 refine fn func167 J J ntmps167 J J (fun C=>?_)
 refine cl (fu:=⟨0⟩) rfl (acd (m:=l.a)) rfl<|knF J J J<|cl (fu:=⟨0⟩) rfl (acd (m:=l.b)) rfl<|knF J J J<|cl (fu:=⟨0⟩) rfl (acd (m:=l.c)) rfl<|?_
 refine knF J J J<|cl rfl (aeY (m:=l.a)) rfl<|cl rfl (aeY (m:=l.b)) rfl<|cl rfl (aeY (m:=l.c)) rfl<|cl (fu:=⟨0⟩) rfl (ajX (q:=(l.a:Rat))) rfl<|?_
 refine knT rfl (by show some (decide _)=some true;rw[ha];rfl) rfl<|cl (fu:=⟨0⟩) rfl (ajX (q:=(l.b:Rat))) rfl<|knT rfl (by show some (decide _)=some true;rw[hb];rfl) rfl<|?_
 exact rz J J
theorem aw2{l:LnQ}[hl:LB l](hz: ¬(l.a=0∧l.b=0))(ho: ¬l.ok):PF GB prog 167 [eL l] (lnR none):=by
 refine fn func167 J J ntmps167 J J (fun C=>?_)
 refine cl (fu:=⟨0⟩) rfl (acd (m:=l.a)) rfl<|knF J J J<|cl (fu:=⟨0⟩) rfl (acd (m:=l.b)) rfl<|knF J J J<|cl (fu:=⟨0⟩) rfl (acd (m:=l.c)) rfl<|?_
 refine knF J J J<|cl rfl (aeY (m:=l.a)) rfl<|cl rfl (aeY (m:=l.b)) rfl<|cl rfl (aeY (m:=l.c)) rfl<|cl (fu:=⟨0⟩) rfl (ajX (q:=(l.a:Rat))) rfl<|?_
 refine csS (fu2:=⟨4⟩) J J J J (fun hg35=>?_) (fun hg35=>?_)
 ·
  have ha:l.a=0:=dQ.1 hg35
  refine cl (fu:=⟨1⟩) rfl (ajX (q:=(l.b:Rat))) rfl<|knF rfl (by first|rfl|(show some (decide _)=some false;rw[decide_eq_false (fun e=>hz ⟨ha,dQ.1 e⟩)])) rfl<|?_
  refine cl rfl (ah3 (p:=(l.a:Rat)) (q:=(l.b:Rat))) rfl<|cl rfl (ah3 (p:=rgcd l.a l.b) (q:=(l.c:Rat))) rfl<|cl rfl (ajh (m:=1) (by decide)) rfl<|?_
  refine cl (fu:=⟨0⟩) rfl (ail (p:=rgcd (rgcd l.a l.b) l.c) (q:=((1:Int):Rat))) rfl<|knT rfl (by show some (!decide _)=some true;rw[aEX ho hz];rfl) rfl<|?_
  exact rz J J
 ·
  refine knF rfl (by first|rfl|(show some (decide _)=some false;rw[decide_eq_false (fun e=>hz ⟨ha,dQ.1 e⟩)])) rfl<|cl rfl (ah3 (p:=(l.a:Rat)) (q:=(l.b:Rat))) rfl<|?_
  refine cl rfl (ah3 (p:=rgcd l.a l.b) (q:=(l.c:Rat))) rfl<|cl rfl (ajh (m:=1) (by decide)) rfl<|cl (fu:=⟨0⟩) rfl (ail (p:=rgcd (rgcd l.a l.b) l.c) (q:=((1:Int):Rat))) rfl<|?_
  refine knT rfl (by show some (!decide _)=some true;rw[aEX ho hz];rfl) rfl<|?_
  exact rz J J
theorem aBF{l:LnQ}[hl:LB l][Decidable l.ok]:PF GB prog 167 [eL l] (lnR (if l.ok then some l else none)):=by
 split
 ·rename_i h;exact azv h
 ·rename_i h
  by_cases hz:l.a=0∧l.b=0
  ·exact axC hz.1 hz.2
  ·exact aw2 hz h
def aok(n:Bool)(ds:List Nat):Prop:=Nrm ds∧(n=true→0<ds.length)
instance (n:Bool) (ds:List Nat):Decidable (aok n ds):=inferInstanceAs (Decidable (_∧_))
theorem adA{neg:Bool}{ds:List Nat}(h:DOk ds∧ds.length≤3):PF GB prog 221 [.ag [.v (.bool neg),dLi ds]] (vB (decide (aok neg ds))):=an6 h.1 (by have:=h.2;omega)
structure RL where
 na:Bool
 da:List Nat
 nb:Bool
 db:List Nat
 nc:Bool
 dc:List Nat
def RL.d(r:RL):DV:= .ag [.v (.bool r.na),dLi r.da, .v (.bool r.nb),dLi r.db, .v (.bool r.nc),dLi r.dc]
def ahI(n:Bool)(ds:List Nat):Int:=if n then-(dv ds:Int) else dv ds
def RL.l(r:RL):LnQ:=⟨ahI r.na r.da,ahI r.nb r.db,ahI r.nc r.dc⟩
def RL.nm(r:RL):Prop:=aok r.na r.da∧aok r.nb r.db∧aok r.nc r.dc
instance (l:LnQ):Decidable l.ok:=inferInstanceAs (Decidable (_∧_))
instance (r:RL):Decidable r.nm:=inferInstanceAs (Decidable (_∧_∧_))
def RL.ln(r:RL):Option LnQ:=if r.nm∧r.l.ok then some r.l else none
structure RL.sm (r:RL):Prop where
 a:DOk r.da∧r.da.length≤3
 b:DOk r.db∧r.db.length≤3
 c:DOk r.dc∧r.dc.length≤3
theorem an1(n:Bool)(ds:List Nat):(ahI n ds).natAbs=dv ds:=by unfold ahI;cases n<;>simp
theorem ajk{n:Bool}{ds:List Nat}(hd:DOk ds)(h:aok n ds):decide (ahI n ds<0)=n:=by
 unfold ahI
 cases n with
 |false=>simp
 |true=>
  have h0:0<dv ds:=by
   refine iR fun e=>?_
   have:=arM hd h.1
   rw[e,ahS] at this
   have h2:=h.2 rfl
   rw[←this] at h2
   exact absurd h2 (by decide)
  simp only[if_true,decide_eq_true_eq]
  omega
theorem RL.eL{r:RL}(s:r.sm)(h:r.nm):r.d=Go.Sx.eL r.l:=by
 unfold RL.d Go.Sx.eL RL.l
 simp only[an1,ajk s.a.1 h.1,ajk s.b.1 h.2.1,ajk s.c.1 h.2.2,dN,arM s.a.1 h.1.1,arM s.b.1 h.2.1.1,arM s.c.1 h.2.2.1]
 rfl
theorem RL.lb{r:RL}(s:r.sm):LB r.l:=by
 have key: ∀(n:Bool) (ds:List Nat),DOk ds∧ds.length≤3→(ahI n ds).natAbs<2^96:=fun n ds h=>by
  rw[an1]
  refine dW (aej h.1) ?_
  rw[show(2:Nat)^96=4294967296^3 by decide]
  exact bV (by decide) h.2
 exact⟨key _ _ s.a,key _ _ s.b,key _ _ s.c⟩
theorem av2{r:RL}(s:r.sm)(h: ¬aok r.na r.da):PF GB prog 167 [r.d] (lnR none):=by
 refine fn func167 J J ntmps167 J J (fun C=>?_)
 refine cl (fu:=⟨0⟩) rfl (adA (neg:=r.na) (ds:=r.da) s.a) rfl<|knT rfl (by show some (!decide _)=some true;rw[decide_eq_false h];rfl) rfl<|?_
 exact rz J J
theorem awA{r:RL}(s:r.sm)(h1:aok r.na r.da)(h: ¬aok r.nb r.db):PF GB prog 167 [r.d] (lnR none):=by
 refine fn func167 J J ntmps167 J J (fun C=>?_)
 refine cl (fu:=⟨0⟩) rfl (adA (neg:=r.na) (ds:=r.da) s.a) rfl<|knF rfl (by show some (!decide _)=some false;rw[decide_eq_true h1];rfl) rfl<|cl (fu:=⟨0⟩) rfl (adA (neg:=r.nb) (ds:=r.db) s.b) rfl<|?_
 refine knT rfl (by show some (!decide _)=some true;rw[decide_eq_false h];rfl) rfl<|?_
 exact rz J J
theorem awm{r:RL}(s:r.sm)(h1:aok r.na r.da)(h2:aok r.nb r.db)(h: ¬aok r.nc r.dc):PF GB prog 167 [r.d] (lnR none):=by
 refine fn func167 J J ntmps167 J J (fun C=>?_)
 refine cl (fu:=⟨0⟩) rfl (adA (neg:=r.na) (ds:=r.da) s.a) rfl<|knF rfl (by show some (!decide _)=some false;rw[decide_eq_true h1];rfl) rfl<|cl (fu:=⟨0⟩) rfl (adA (neg:=r.nb) (ds:=r.db) s.b) rfl<|?_
 refine knF rfl (by show some (!decide _)=some false;rw[decide_eq_true h2];rfl) rfl<|cl (fu:=⟨0⟩) rfl (adA (neg:=r.nc) (ds:=r.dc) s.c) rfl<|knT rfl (by show some (!decide _)=some true;rw[decide_eq_false h];rfl) rfl<|?_
 exact rz J J
theorem avu{r:RL}(s:r.sm):PF GB prog 167 [r.d] (lnR r.ln):=by
 by_cases h1:aok r.na r.da
 ·by_cases h2:aok r.nb r.db
  ·by_cases h3:aok r.nc r.dc
   ·haveI:=RL.lb s
    rw[RL.eL s ⟨h1,h2,h3⟩,show r.ln=if r.l.ok then some r.l else none by unfold RL.ln;simp[show r.nm from⟨h1,h2,h3⟩]]
    exact aBF
   ·rw[show r.ln=none from if_neg fun e=>h3 e.1.2.2]
    exact awm s h1 h2 h3
  ·rw[show r.ln=none from if_neg fun e=>h2 e.1.2.1]
   exact awA s h1 h2
 ·rw[show r.ln=none from if_neg fun e=>h1 e.1.1]
  exact av2 s h1
end Go.Sx
end
