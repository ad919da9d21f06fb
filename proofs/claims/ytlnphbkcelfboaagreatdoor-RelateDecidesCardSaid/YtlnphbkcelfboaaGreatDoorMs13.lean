/-
  The program's points, lines and intervals. Reference: points near an edge; the interior of a cell; the place of a line. The program's lines and angles; places of cells. The program's cells: the part of a line, the place. The program's cells: insertion into a row of sides. The program's cells: clipped and divided. The program's trees: leaves, nodes, depth, restriction, complement, merge. Lines as they come: valid or not.
-/
import Derived.Test.YtlnphbkcelfboaaGreatDoorMs12
set_option linter.unusedSimpArgs false
set_option linter.unusedVariables false
section
set_option maxRecDepth 100000
namespace Go.Sx
open Go Go.Proofs
def eLn(l:LnQ):DV:= .ag [vI (fn_ (l.a:Rat)),vI (fd_ (l.a:Rat)),fp_ (l.a:Rat),vI (fn_ (l.b:Rat)),vI (fd_ (l.b:Rat)),fp_ (l.b:Rat),vI (fn_ (l.c:Rat)),vI (fd_ (l.c:Rat)),fp_ (l.c:Rat)]
def eZ(p:PtQ):DV:= .ag [vI (fn_ p.x),vI (fd_ p.x),fp_ p.x,vI (fn_ p.y),vI (fd_ p.y),fp_ p.y]
def eW(v:IvQ):DV:= .ag [vI (fn_ v.lo),vI (fd_ v.lo),fp_ v.lo,vI (fn_ v.hi),vI (fd_ v.hi),fp_ v.hi, .v (.bool v.nl), .v (.bool v.nh)]
theorem isl_z{G:Gh}{t:List DV}{vs:List Value}(h:IsLs G (vI 0::vI 0:: .v (.pointer none)::t) vs):IsLs G (vI (fn_ 0)::vI (fd_ 0)::fp_ 0::t) vs:=by
 obtain⟨y1,l1,rfl,k1,g1⟩:=isl_cons.1 h
 obtain⟨y2,l2,rfl,k2,g2⟩:=isl_cons.1 g1
 obtain⟨y3,l3,rfl,k3,g3⟩:=isl_cons.1 g2
 have e:decide (Big 0)=false:=decide_eq_false fun h=>big_ne h rfl
 exact .cons k1 (.cons k2 (.cons (is_op.2 (.inl ⟨e,is_v.1 k3⟩)) g3))
theorem isl_z'{G:Gh}(a:List DV){t:List DV}{vs:List Value}(h:IsLs G (a++vI 0::vI 0:: .v (.pointer none)::t) vs):IsLs G (a++vI (fn_ 0)::vI (fd_ 0)::fp_ 0::t) vs:=by
 obtain⟨x,y,rfl,h1,h2⟩:=h.unapp
 exact h1.app (isl_z h2)
theorem is_all(G:Gh)(y:Value)(k:Is G (.ag [vI 0,vI 0, .v (.pointer none),vI 0,vI 0, .v (.pointer none), .v (.bool true), .v (.bool true)]) y):Is G (eW IvQ.all) y:=by
 obtain⟨l,rfl,g⟩:=is_ag.1 k
 exact is_ag.2 ⟨l,rfl,isl_z (isl_z' [vI 0,vI 0, .v (.pointer none)] g)⟩
def orI:List Int→Int
 |[]=>0
 |a::t=>if a≠0 then a else orI t
theorem BPt.nor(l:LnQ)[LB l]:BPt l.nor 97:=⟨inferInstanceAs (BQ (l.a:Rat) 97),inferInstanceAs (BQ (l.b:Rat) 97)⟩
attribute [instance] BPt.nor
instance BPt.scale (p:PtQ) (c:Rat) (i k:Nat) [BPt p i] [BQ c k]:BPt (p.scale c) (i+k):=⟨inferInstanceAs (BQ (p.x*c) _),inferInstanceAs (BQ (p.y*c) _)⟩
instance BPt.add (p q:PtQ) (i j:Nat) [BPt p i] [BPt q j]:BPt (p.add q) (i+j+1):=⟨inferInstanceAs (BQ (p.x+q.x) _),inferInstanceAs (BQ (p.y+q.y) _)⟩
instance LB.revA (l:LnQ) [h:LB l]:LB l.rev:=⟨⟨by rw[show l.rev.a= -l.a from rfl,Int.natAbs_neg];exact h.bl.a,by rw[show l.rev.b= -l.b from rfl,Int.natAbs_neg];exact h.bl.b,by rw[show l.rev.c= -l.c from rfl,Int.natAbs_neg];exact h.bl.c⟩⟩
theorem p_All{GB:Gh}:PF GB Tryz.prog 288 [] (eW IvQ.all):=by
 refine fn Tryz.func288 J J Tryz.ntmps288 J J (fun C=>?_)
 exact rzI rfl is_all
theorem p_LNor{GB:Gh}{l:LnQ}:PF GB Tryz.prog 148 [eLn l] (eZ l.nor):=by
 refine fn Tryz.func148 J J Tryz.ntmps148 J J (fun C=>?_)
 exact rz J J
theorem p_LDir{GB:Gh}{l:LnQ}[hl:LB l]:PF GB Tryz.prog 205 [eLn l] (eZ l.dir):=by
 refine fn Tryz.func205 J J Tryz.ntmps205 J J (fun C=>?_)
 refine cl rfl (p_FNeg (q:=(l.a:Rat))) rfl<|?_
 exact rz J J
theorem p_PDot{GB:Gh}{p q:PtQ}{i j:Nat}[hp:BPt p i][hq:BPt q j](hi:i≤40000000:=by decide)(hj:j≤40000000:=by decide):PF GB Tryz.prog 150 [eZ p,eZ q] (eF (p.dot q)):=by
 refine fn Tryz.func150 J J Tryz.ntmps150 J J (fun C=>?_)
 refine cl rfl (p_FMul (p:=p.x) (q:=q.x) (by omega) (by omega)) rfl<|cl rfl (p_FMul (p:=p.y) (q:=q.y) (by omega) (by omega)) rfl<|cl rfl (p_FAdd (p:=p.x*q.x) (q:=p.y*q.y) (by omega) (by omega)) rfl<|?_
 exact rz J J
theorem p_PCross{GB:Gh}{p q:PtQ}{i j:Nat}[hp:BPt p i][hq:BPt q j](hi:i≤40000000:=by decide)(hj:j≤40000000:=by decide):PF GB Tryz.prog 292 [eZ p,eZ q] (eF (p.cross q)):=by
 refine fn Tryz.func292 J J Tryz.ntmps292 J J (fun C=>?_)
 refine cl rfl (p_FMul (p:=p.x) (q:=q.y) (by omega) (by omega)) rfl<|cl rfl (p_FMul (p:=p.y) (q:=q.x) (by omega) (by omega)) rfl<|cl rfl (p_FSub (p:=p.x*q.y) (q:=p.y*q.x) (by omega) (by omega)) rfl<|?_
 exact rz J J
theorem p_PScale{GB:Gh}{p:PtQ}{c:Rat}{i j:Nat}[hp:BPt p i][hc:BQ c j](hi:i≤40000000:=by decide)(hj:j≤40000000:=by decide):PF GB Tryz.prog 157 [eZ p,eF c] (eZ (p.scale c)):=by
 refine fn Tryz.func157 J J Tryz.ntmps157 J J (fun C=>?_)
 refine cl rfl (p_FMul (p:=p.x) (q:=c) (by omega) (by omega)) rfl<|cl rfl (p_FMul (p:=p.y) (q:=c) (by omega) (by omega)) rfl<|?_
 exact rz J J
theorem p_PAdd{GB:Gh}{p q:PtQ}{i j:Nat}[hp:BPt p i][hq:BPt q j](hi:i≤40000000:=by decide)(hj:j≤40000000:=by decide):PF GB Tryz.prog 156 [eZ p,eZ q] (eZ (p.add q)):=by
 refine fn Tryz.func156 J J Tryz.ntmps156 J J (fun C=>?_)
 refine cl rfl (p_FAdd (by omega) (by omega)) rfl<|cl rfl (p_FAdd (by omega) (by omega)) rfl<|?_
 exact rz J J
theorem p_LBase{GB:Gh}{l:LnQ}[hl:LB l]:PF GB Tryz.prog 204 [eLn l] (eZ l.base):=by
 refine fn Tryz.func204 J J Tryz.ntmps204 J J (fun C=>?_)
 refine cl rfl p_LNor rfl<|cl rfl (p_FNeg (q:=(l.c:Rat))) rfl<|cl rfl (p_PDot (p:=l.nor) (q:=l.nor)) rfl<|cl rfl (p_FQuo (p:= -(l.c:Rat)) (q:=l.nor.dot l.nor)) rfl<|?_
 refine cl rfl (p_PScale (p:=l.nor)) rfl<|?_
 exact rz J J
theorem p_LValue{GB:Gh}{l:LnQ}{p:PtQ}{i:Nat}[hl:LB l][hp:BPt p i](hi:i≤10000000:=by decide):PF GB Tryz.prog 153 [eLn l,eZ p] (eF (l.value p)):=by
 refine fn Tryz.func153 J J Tryz.ntmps153 J J (fun C=>?_)
 refine cl rfl (p_LNor (l:=l)) rfl<|cl rfl (p_PDot (p:=l.nor) (q:=p) (by omega) (by omega)) rfl<|cl rfl (p_FAdd (p:=l.nor.dot p) (q:=(l.c:Rat)) (by omega) (by omega)) rfl<|?_
 exact rz J J
theorem p_LSide{GB:Gh}{l:LnQ}{p:PtQ}{i:Nat}[hl:LB l][hp:BPt p i](hi:i≤10000000:=by decide):PF GB Tryz.prog 289 [eLn l,eZ p] (vI (l.value p).num.sign):=by
 refine fn Tryz.func289 J J Tryz.ntmps289 J J (fun C=>?_)
 refine cl rfl (p_LValue (l:=l) (p:=p) hi) rfl<|cl rfl (p_FSign (q:=l.value p) (by omega)) rfl<|?_
 exact rz J J
theorem p_LAt{GB:Gh}{l:LnQ}{t:Rat}{i:Nat}[hl:LB l][ht:BQ t i](hi:i≤10000000:=by decide):PF GB Tryz.prog 146 [eLn l,eF t] (eZ (l.at t)):=by
 refine fn Tryz.func146 J J Tryz.ntmps146 J J (fun C=>?_)
 refine cl rfl (p_LBase (l:=l)) rfl<|cl rfl (p_LDir (l:=l)) rfl<|cl rfl (p_PScale (p:=l.dir) (c:=t) (by omega) (by omega)) rfl<|cl rfl (p_PAdd (p:=l.base) (q:=l.dir.scale t) (by omega) (by omega)) rfl<|?_
 exact rz J J
theorem p_empty{GB:Gh}{v:IvQ}{i j:Nat}[h1:BQ v.lo i][h2:BQ v.hi j](hi:i≤40000000:=by decide)(hj:j≤40000000:=by decide):PF GB Tryz.prog 299 [eW v] (vB v.empty):=by
 refine fn Tryz.func299 J J Tryz.ntmps299 J J (fun C=>?_)
 refine csb 6 J J J (fun hg6=>?_) (fun hg6=>?_)
 ·
  refine csb 11 J J J (fun hg11=>?_) (fun hg11=>?_)
  ·
   refine cl rfl (p_FCmp (p:=v.lo) (q:=v.hi) (by omega) (by omega)) rfl<|?_
   exact rz rfl (by unfold IvQ.empty;simp_all [vB,tupD])
  ·
   exact rz rfl (by unfold IvQ.empty;simp_all [vB,tupD])
 ·
  exact rz rfl (by unfold IvQ.empty;simp_all [vB,tupD])
instance IvQ.meet_lo (v w:IvQ) (i j:Nat) [h1:BQ v.lo i] [h3:BQ w.lo j]:BQ (v.meet w).lo (i+j):=by
 have a:=h1.mono (Nat.le_add_right i j)
 have b:=h3.mono (Nat.le_add_left j i)
 unfold IvQ.meet;dsimp only;(repeat' split)<;>assumption
instance IvQ.meet_hi (v w:IvQ) (i j:Nat) [h1:BQ v.hi i] [h3:BQ w.hi j]:BQ (v.meet w).hi (i+j):=by
 have a:=h1.mono (Nat.le_add_right i j)
 have b:=h3.mono (Nat.le_add_left j i)
 unfold IvQ.meet;dsimp only;(repeat' split)<;>assumption
theorem p_Meet{GB:Gh}{v w:IvQ}{i j:Nat}[h1:BQ v.lo i][h2:BQ v.hi i][h3:BQ w.lo j][h4:BQ w.hi j](hi:i≤10000000:=by decide)(hj:j≤10000000:=by decide):PF GB Tryz.prog 290 [eW v,eW w] (.tp [eW (v.meet w),vB (!(v.meet w).empty)]):=by
 refine fn (fu:=⟨16⟩) Tryz.func290 J J Tryz.ntmps290 J J (fun C=>?_)
 refine mg (fu:=⟨1⟩) (X:=Unit) (fun _=>[(6, .ov 6 0)]) (fun _=>[(6,some (.o 244 [.d (vI (fn_ (v.meet w).lo)), .d (vI (fd_ (v.meet w).lo)), .d (fp_ (v.meet w).lo), .d (vI (fn_ v.hi)), .d (vI (fd_ v.hi)), .d (fp_ v.hi), .d (.v (.bool (v.nl&&w.nl))), .d (.v (.bool (v.nh)))] true))]) (fun _=>True) [6] [6] rfl ?_ (fun _=>rfl) (fun _ _=>?_)
 ·
  refine gx rfl<|?_
  refine bb (v1:=fun hc8=>by simp only[allP];kernel_rfl) J J J (fun hc8=>?_) (fun hc8=>?_)
  ·
   have em:(v.meet w).lo=w.lo:=by unfold IvQ.meet;simp_all
   have eb:(v.nl&&w.nl)=w.nl:=by simp_all
   exact at_ () trivial (hO:=⟨by rw[em,eb]<;>rfl,by repeat (first|exact trivial|refine And.intro rfl ?_)⟩)
  ·
   refine bb J J J (fun hc17=>?_) (fun hc17=>?_)
   ·
    refine cl rfl (p_FMax (p:=v.lo) (q:=w.lo) (by omega) (by omega)) rfl<|?_
    have em:(v.meet w).lo=(if v.lo<w.lo then w.lo else v.lo):=by unfold IvQ.meet;simp_all
    have eb:(v.nl&&w.nl)=v.nl:=by simp_all
    exact at_ () trivial (hO:=⟨by rw[em,eb]<;>rfl,by repeat (first|exact trivial|refine And.intro rfl ?_)⟩)
   ·
    have em:(v.meet w).lo=v.lo:=by unfold IvQ.meet;simp_all
    have eb:(v.nl&&w.nl)=v.nl:=by simp_all
    exact at_ () trivial (hO:=⟨by rw[em,eb]<;>rfl,by repeat (first|exact trivial|refine And.intro rfl ?_)⟩)
 ·
  refine mg (X:=Unit) (fun _=>[(6, .ov 6 0)]) (fun _=>[(6,some (.o 244 [.d (vI (fn_ (v.meet w).lo)), .d (vI (fd_ (v.meet w).lo)), .d (fp_ (v.meet w).lo), .d (vI (fn_ (v.meet w).hi)), .d (vI (fd_ (v.meet w).hi)), .d (fp_ (v.meet w).hi), .d (.v (.bool (v.nl&&w.nl))), .d (.v (.bool (v.nh&&w.nh)))] true))]) (fun _=>True) [6] [6] rfl ?_ (fun _=>rfl) (fun _ _=>?_)
  ·
   refine gx rfl<|?_
   refine bb (v1:=fun hc27=>by simp only[allP];kernel_rfl) J J J (fun hc27=>?_) (fun hc27=>?_)
   ·
    have em:(v.meet w).hi=w.hi:=by unfold IvQ.meet;simp_all
    have eb:(v.nh&&w.nh)=w.nh:=by simp_all
    exact at_ () trivial (hO:=⟨by rw[em,eb]<;>rfl,by repeat (first|exact trivial|refine And.intro rfl ?_)⟩)
   ·
    refine bb J J J (fun hc36=>?_) (fun hc36=>?_)
    ·
     refine cl rfl (p_FMin (p:=v.hi) (q:=w.hi) (by omega) (by omega)) rfl<|?_
     have em:(v.meet w).hi=(if w.hi<v.hi then w.hi else v.hi):=by unfold IvQ.meet;simp_all
     have eb:(v.nh&&w.nh)=v.nh:=by simp_all
     exact at_ () trivial (hO:=⟨by rw[em,eb]<;>rfl,by repeat (first|exact trivial|refine And.intro rfl ?_)⟩)
    ·
     have em:(v.meet w).hi=v.hi:=by unfold IvQ.meet;simp_all
     have eb:(v.nh&&w.nh)=v.nh:=by simp_all
     exact at_ () trivial (hO:=⟨by rw[em,eb]<;>rfl,by repeat (first|exact trivial|refine And.intro rfl ?_)⟩)
  ·
   refine cl rfl (p_empty (v:=v.meet w) (i:=i+j) (j:=i+j) (by omega) (by omega)) rfl<|?_
   exact rz J J
theorem BQ.z1:BQ (0:Rat) 1:=⟨by decide,by decide⟩
theorem p_MeetLo{GB:Gh}{v:IvQ}{t:Rat}{i j:Nat}[h1:BQ v.lo i][h2:BQ v.hi i][h3:BQ t j](hi:i≤10000000:=by decide)(hj:j≤9999999:=by decide):PF GB Tryz.prog 290 [eW v, .ag [vI (fn_ t),vI (fd_ t),fp_ t,vI 0,vI 0, .v (.pointer none), .v (.bool false), .v (.bool true)]] (.tp [eW (v.meet ⟨t,0,false,true⟩),vB (!(v.meet ⟨t,0,false,true⟩).empty)]):=
 (p_Meet (v:=v) (w:=⟨t,0,false,true⟩) (j:=j+1) (h3:=h3.mono (by omega)) (h4:=BQ.z1.mono (by omega)) hi (by omega)).ofI fun G vs hv=>isl_F2 (fun y hy=>by
  obtain⟨l,rfl,g⟩:=is_ag.1 hy
  exact is_ag.2 ⟨l,rfl,isl_z' [_,_,_] g⟩) hv
theorem p_MeetHi{GB:Gh}{v:IvQ}{t:Rat}{i j:Nat}[h1:BQ v.lo i][h2:BQ v.hi i][h3:BQ t j](hi:i≤10000000:=by decide)(hj:j≤9999999:=by decide):PF GB Tryz.prog 290 [eW v, .ag [vI 0,vI 0, .v (.pointer none),vI (fn_ t),vI (fd_ t),fp_ t, .v (.bool true), .v (.bool false)]] (.tp [eW (v.meet ⟨0,t,true,false⟩),vB (!(v.meet ⟨0,t,true,false⟩).empty)]):=
 (p_Meet (v:=v) (w:=⟨0,t,true,false⟩) (j:=j+1) (h4:=h3.mono (by omega)) (h3:=BQ.z1.mono (by omega)) hi (by omega)).ofI fun G vs hv=>isl_F2 (fun y hy=>by
  obtain⟨l,rfl,g⟩:=is_ag.1 hy
  exact is_ag.2 ⟨l,rfl,isl_z g⟩) hv
instance BQ.cutK (l m:LnQ) [LB l] [LB m]:BQ (l.cutK m) 400:=BQ.mono (inferInstance:BQ (m.nor.dot l.dir) _) (by decide)
instance BQ.cutC (l m:LnQ) [LB l] [LB m]:BQ (l.cutC m) 2500:=BQ.mono (inferInstance:BQ (m.value l.base) _) (by decide)
theorem p_Cut{GB:Gh}{l m:LnQ}{v:IvQ}{i:Nat}[hl:LB l][hm:LB m][h1:BQ v.lo i][h2:BQ v.hi i](hi:i≤10000000:=by decide):PF GB Tryz.prog 273 [eLn l,eW v,eLn m] (.tp [eW (l.cutV v m),vB (l.cutB v m)]):=by
 refine fn Tryz.func273 J J Tryz.ntmps273 J J (fun C=>?_)
 refine cl rfl (p_LNor (l:=m)) rfl<|cl rfl (p_LDir (l:=l)) rfl<|cl rfl (p_PDot (p:=m.nor) (q:=l.dir)) rfl<|cl rfl (p_LBase (l:=l)) rfl<|?_
 refine cl rfl (p_LValue (l:=m) (p:=l.base)) rfl<|cl rfl (p_FSign (q:=l.cutK m)) rfl<|?_
 refine br J J J (fun hc21=>?_) (fun hc21=>?_)
 ·
  refine cl rfl (p_FSign (q:=l.cutC m)) rfl<|?_
  exact rz rfl (by unfold LnQ.cutV LnQ.cutB;rw[if_pos hc21,if_pos hc21];rfl)
 ·
  refine br J J J (fun hc27=>?_) (fun hc27=>?_)
  ·
   refine cl rfl (p_FQuo (p:=l.cutC m) (q:=l.cutK m)) rfl<|cl rfl (p_FNeg (q:=l.cutC m/l.cutK m)) rfl<|cl rfl (p_MeetLo (v:=v) (t:= -(l.cutC m/l.cutK m)) hi) rfl<|?_
   exact rz rfl (by unfold LnQ.cutB LnQ.cutV;rw[if_neg hc21,if_neg hc21,if_pos hc27];rfl)
  ·
   refine cl rfl (p_FQuo (p:=l.cutC m) (q:=l.cutK m)) rfl<|cl rfl (p_FNeg (q:=l.cutC m/l.cutK m)) rfl<|cl rfl (p_MeetHi (v:=v) (t:= -(l.cutC m/l.cutK m)) hi) rfl<|?_
   exact rz rfl (by unfold LnQ.cutB LnQ.cutV;rw[if_neg hc21,if_neg hc21,if_neg hc27];rfl)
theorem p_Sample{GB:Gh}{v:IvQ}{i:Nat}[h1:BQ v.lo i][h2:BQ v.hi i](hi:i≤10000000:=by decide):PF GB Tryz.prog 147 [eW v] (eF v.sample):=by
 refine fn Tryz.func147 J J Tryz.ntmps147 J J (fun C=>?_)
 refine csb 6 J J J (fun hg6=>?_) (fun hg6=>?_)
 ·
  refine bb J J J (fun hc3=>?_) (fun hc3=>?_)
  ·
   exact rzI rfl (by unfold IvQ.sample;rw[hg6,hc3];exact is_0)
  ·
   refine bb J J J (fun hc11=>?_) (fun hc11=>?_)
   ·
    refine cl rfl (p_Int (m:=1) (by decide)) rfl<|cl rfl (p_FSub (p:=v.hi) (q:=((1:Int):Rat)) (by omega) (by decide)) rfl<|?_
    exact rz rfl (by unfold IvQ.sample;simp_all [tupD]<;>rfl)
   ·
    refine bb J J J (fun hc18=>?_) (fun hc18=>?_)
    ·
     refine cl rfl (p_Int (m:=1) (by decide)) rfl<|cl rfl (p_FAdd (p:=v.lo) (q:=((1:Int):Rat)) (by omega) (by decide)) rfl<|?_
     exact rz rfl (by unfold IvQ.sample;simp_all [tupD]<;>rfl)
    ·
     refine cl rfl (p_FAdd (p:=v.lo) (q:=v.hi) (by omega) (by omega)) rfl<|cl rfl (p_FHalf (q:=v.lo+v.hi) (by omega)) rfl<|?_
     exact rz rfl (by unfold IvQ.sample;simp_all [tupD]<;>rfl)
 ·
  refine bb J J J (fun hc11=>?_) (fun hc11=>?_)
  ·
   refine cl rfl (p_Int (m:=1) (by decide)) rfl<|cl rfl (p_FSub (p:=v.hi) (q:=((1:Int):Rat)) (by omega) (by decide)) rfl<|?_
   exact rz rfl (by unfold IvQ.sample;simp_all [tupD]<;>rfl)
  ·
   refine bb J J J (fun hc18=>?_) (fun hc18=>?_)
   ·
    refine cl rfl (p_Int (m:=1) (by decide)) rfl<|cl rfl (p_FAdd (p:=v.lo) (q:=((1:Int):Rat)) (by omega) (by decide)) rfl<|?_
    exact rz rfl (by unfold IvQ.sample;simp_all [tupD]<;>rfl)
   ·
    refine cl rfl (p_FAdd (p:=v.lo) (q:=v.hi) (by omega) (by omega)) rfl<|cl rfl (p_FHalf (q:=v.lo+v.hi) (by omega)) rfl<|?_
    exact rz rfl (by unfold IvQ.sample;simp_all [tupD]<;>rfl)
end Go.Sx
end

section
set_option maxRecDepth 100000
namespace Go.Sx
open Go Go.Proofs
instance BQ.i1':BQ (1:Rat) 2:=⟨by decide,by decide⟩
instance BQ.i2':BQ (2:Rat) 2:=⟨by decide,by decide⟩
theorem sample_bd{v:IvQ}{i:Nat}[BQ v.lo i][BQ v.hi i]:BQ (sampleR v) (i+i+5):=by
 unfold sampleR
 split
 ·exact BQ.mono (k:=1) ⟨by decide,by decide⟩ (by omega)
 ·split
  ·exact BQ.mono (inferInstance:BQ (v.hi-1) _) (by omega)
  ·split
   ·exact BQ.mono (inferInstance:BQ (v.lo+1) _) (by omega)
   ·exact BQ.mono (inferInstance:BQ ((v.lo+v.hi)/2) _) (by omega)
instance BPt.at (l:LnQ) (t:Rat) (k:Nat) [LB l] [BQ t k]:BPt (l.at t) (900+(k+97)+1):=by
 rw[←at_ref];infer_instance
theorem ne_of_sgn{q:Rat}(h: ¬q.num.sign=0):q≠0:=fun e=>h ((sgn_zero q).2 e)
def turnP(d:PtQ):PtQ:=⟨-d.y,d.x⟩
instance BPt.turn (d:PtQ) (k:Nat) [BPt d k]:BPt (turnP d) k:=⟨inferInstanceAs (BQ (-d.y) k),inferInstanceAs (BQ d.x k)⟩
def nearT(p v:PtQ)(m:LnQ):Rat:= -(m.value p/(m.value (movQ p v ((1:Int):Rat))-m.value p))
def nearStep(p v:PtQ)(m:LnQ)(s:Rat):Rat:=if(m.value (movQ p v ((1:Int):Rat))-m.value p).num.sign=0 then s else if(m.value p).num.sign=0 then s else if 0<(nearT p v m).num.sign then(if rcmp (nearT p v m/2) s<0 then nearT p v m/2 else s) else s
def nearS(p v:PtQ):List LnQ→Rat→Rat
 |[],s=>s
 |m::t,s=>nearS p v t (nearStep p v m s)
def nearP(c:List LnQ)(p v:PtQ):PtQ:=movQ p v (nearS p v c ((1:Int):Rat))
theorem nearS_next{c:List LnQ}{p v:PtQ}{k:Nat}{s s' r:Rat}{m:LnQ}(h:nearS p v (c.drop k) s=r)(hk:k<c.length)(hm:m=c[k])(e:nearStep p v m s=s'):nearS p v (c.drop (k+1)) s'=r:=by
 rw[List.drop_eq_getElem_cons hk] at h
 rw[←h,nearS,←hm,e]
set_option maxHeartbeats 4000000 in
theorem q_Near{GB:Gh}{c:List LnQ}{p v:PtQ}(hc: ∀m∈c,LB m)(hn:c.length≤1000)(hp:BPt p 4500)(hv:BPt v 97):PF GB Tryz.prog 196 [.sl (c.map eL),eP p,eP v] (eP (nearP c p v)):=by
 have hcl:=mapL_len c
 refine fn Tryz.func196 J J Tryz.ntmps196 J J (fun C=>?_)
 refine cl (fu:=⟨9⟩) rfl (q_Of (n:=1) (by decide) (by decide)) rfl<|?_
 refine eqF 14 (.d (vI (c.length:Nat))) rfl (by rw[hcl];rfl) ?_
 refine gx rfl<|?_
 refine lp (X:=Rat×Nat) (fun⟨s,k⟩=>[(15, .d (vI (k:Nat))),(14, .d (vI (c.length:Nat))),(13, .d (.sl (c.map eL))),(4, .ov 4 0),(5, .ov 5 0),(7, .ov 7 0),(6, .ov 6 0)]) (fun⟨s,k⟩=>[(7,some (.o 84 [.d ((.v (.bool (decide (s.num<0))))), .d (dN s.num.natAbs), .d (dD s.den)] true)),(6,some (.o 86 [.ff, .nl, .nl, .ff, .nl, .nl] true)),(5,some (.o 86 [.d ((.v (.bool (decide (v.x.num<0))))), .d (dN v.x.num.natAbs), .d (dD v.x.den), .d ((.v (.bool (decide (v.y.num<0))))), .d (dN v.y.num.natAbs), .d (dD v.y.den)] true)),(4,some (.o 86 [.d ((.v (.bool (decide (p.x.num<0))))), .d (dN p.x.num.natAbs), .d (dD p.x.den), .d ((.v (.bool (decide (p.y.num<0))))), .d (dN p.y.num.natAbs), .d (dD p.y.den)] true))]) (fun⟨s,k⟩=>k≤c.length∧BQ s 60000∧nearS p v (c.drop k) s=nearS p v c ((1:Int):Rat)) (fun⟨s,k⟩=>c.length-k) ⟨((1:Int):Rat),0⟩ rfl ⟨Nat.zero_le _,BQ.i1.mono (by decide),rfl⟩ (fun _=>rfl) (fun⟨s,k⟩ hk=>?_)
 try dsimp only at hk⊢
 obtain⟨hle,hsb,hns⟩:=hk
 refine br J J J (fun hc16=>?_) (fun hc16=>?_)
 ·
  have hk:k<c.length:=by omega
  obtain⟨m,hm⟩: ∃m,m=c[k]:=⟨_,rfl⟩
  haveI hmb:LB m:=hm▸hc _ (List.getElem_mem hk)
  have hinv:=hsb
  refine ix (fu:=⟨1⟩) _ rfl (mapL_get hk) rfl<|?_
  refine eqF 18 (.d (eL m)) rfl (by rw[hm];rfl) ?_
  refine gx rfl<|cl rfl (q_Of (n:=1) (by decide) (by decide)) rfl<|cl rfl (q_PAdd (p:=p) (q:=v) (c:=((1:Int):Rat))) rfl<|cl rfl (q_Value (l:=m) (p:=movQ p v ((1:Int):Rat))) rfl<|?_
  refine cl rfl (q_Value (l:=m) (p:=p)) rfl<|cl rfl (q_Sub (a:=m.value (movQ p v ((1:Int):Rat))) (b:=m.value p)) rfl<|cl rfl (q_S (q:=m.value (movQ p v ((1:Int):Rat))-m.value p)) rfl<|?_
  refine cs 32 J J J (fun hg32=>?_) (fun hg32=>?_)
  ·
   exact at_ ⟨s,k+1⟩ (by dsimp only;exact⟨⟨by omega,hinv,(nearS_next hns hk hm (by unfold nearStep;rw[if_pos hg32]))⟩,(by omega)⟩)
  ·
   refine cl rfl (q_Side (l:=m) (p:=p)) rfl<|?_
   refine br J J J (fun hc37=>?_) (fun hc37=>?_)
   ·
    exact at_ ⟨s,k+1⟩ (by dsimp only;exact⟨⟨by omega,hinv,(nearS_next hns hk hm (by unfold nearStep;rw[if_neg hg32,if_pos hc37]))⟩,(by omega)⟩)
   ·
    refine cl rfl (q_Value (l:=m) (p:=p)) rfl<|cl rfl (q_Over (a:=m.value p) (b:=m.value (movQ p v ((1:Int):Rat))-m.value p) (ne_of_sgn hg32)) rfl<|?_
    refine cl rfl (q_Opp (q:=m.value p/(m.value (movQ p v ((1:Int):Rat))-m.value p))) rfl<|cl (fu:=⟨0⟩) rfl (q_S (q:= -(m.value p/(m.value (movQ p v ((1:Int):Rat))-m.value p)))) rfl<|?_
    refine csS (v2:=fun hg46=>by simp only[allP];exact⟨by kernel_rfl,by omega⟩) J J J J (fun hg46=>?_) (fun hg46=>?_)
    ·
     refine cl rfl (q_Half (a:= -(m.value p/(m.value (movQ p v ((1:Int):Rat))-m.value p)))) rfl<|cl rfl (q_C (a:= -(m.value p/(m.value (movQ p v ((1:Int):Rat))-m.value p))/2) (b:=s)) rfl<|?_
     refine br J J J (fun hc53=>?_) (fun hc53=>?_)
     ·
      obtain⟨t,ht⟩: ∃t,t= -(m.value p/(m.value (movQ p v ((1:Int):Rat))-m.value p)):=⟨_,rfl⟩
      haveI htb:BQ t 45000:=ht▸BQ.mono inferInstance (by decide)
      have hinv:BQ (t/2) 60000:=BQ.mono inferInstance (by decide)
      rw[←ht]
      refine cl rfl (q_Half (a:=t)) rfl<|?_
      exact at_ ⟨t/2,k+1⟩ (by dsimp only;exact⟨⟨by omega,hinv,(nearS_next hns hk hm (by unfold nearStep;rw[if_neg hg32,if_neg hc37,show nearT p v m=t from ht.symm,if_pos (by rw[ht];exact hg46),if_pos (by rw[ht];exact hc53)]))⟩,(by omega)⟩)
     ·
      exact at_ ⟨s,k+1⟩ (by dsimp only;exact⟨⟨by omega,hinv,(nearS_next hns hk hm (by unfold nearStep;rw[if_neg hg32,if_neg hc37,if_pos (show 0<(nearT p v m).num.sign from hg46),if_neg (show¬rcmp (nearT p v m/2) s<0 from hc53)]))⟩,(by omega)⟩)
    ·
     exact at_ ⟨s,k+1⟩ (by dsimp only;exact⟨⟨by omega,hinv,(nearS_next hns hk hm (by unfold nearStep;rw[if_neg hg32,if_neg hc37,if_neg (show¬0<(nearT p v m).num.sign from hg46)]))⟩,(by omega)⟩)
 ·
  refine cl rfl (q_PAdd (p:=p) (q:=v) (c:=s)) rfl<|?_
  exact rz rfl (by unfold nearP;rw[←hns,List.drop_eq_nil_of_le (by omega)];rfl)
def innerP(c:List LnQ):List LnQ→PtQ
 |[]=>⟨0,0⟩
 |m::t=>if(edgeV m c IvQ.all).2=true then nearP c (m.at (sampleR (edgeV m c IvQ.all).1)) (turnP m.dir) else innerP c t
theorem innerP_yes{c:List LnQ}{k:Nat}{m:LnQ}(h:innerP c (c.drop k)=innerP c c)(hk:k<c.length)(hm:m=c[k])(e:(edgeV m c IvQ.all).2=true):innerP c c=nearP c (m.at (sampleR (edgeV m c IvQ.all).1)) (turnP m.dir):=by
 rw[←h,List.drop_eq_getElem_cons hk,innerP,←hm,if_pos e]
theorem innerP_no{c:List LnQ}{k:Nat}{m:LnQ}(h:innerP c (c.drop k)=innerP c c)(hk:k<c.length)(hm:m=c[k])(e: ¬(edgeV m c IvQ.all).2=true):innerP c (c.drop (k+1))=innerP c c:=by
 rw[←h,List.drop_eq_getElem_cons hk,innerP,←hm,if_neg e]
theorem inner_yes{c:List LnQ}{m:LnQ}(h:m∈c)(h2:(partL m c IvQ.all).isSome=true):innerB c=true:=by
 unfold innerB;rw[Bool.or_eq_true,List.any_eq_true];exact .inr ⟨m,h,h2⟩
theorem inner_nil{c:List LnQ}(h:c=[]):innerB c=true:=by subst h;rfl
theorem inner_no{c:List LnQ}(h:c≠[])(h2: ∀m∈c,(partL m c IvQ.all).isSome=false):innerB c=false:=by
 rw[←Bool.not_eq_true];unfold innerB;rw[Bool.or_eq_true,List.any_eq_true,List.isEmpty_iff]
 rintro (e|⟨m,h3,h4⟩)
 ·exact h e
 ·rw[h2 m h3] at h4;exact absurd h4 (by decide)
theorem eP_zero:eP ⟨0,0⟩= .ag [.v (.bool false), .sl [], .sl [], .v (.bool false), .sl [], .sl []]:=by
 unfold eP dD
 simp only[show(0:Rat).num=0 from rfl,show(0:Rat).den=1 from rfl,Int.natAbs_zero,dN_zero];rfl
set_option maxHeartbeats 4000000 in
theorem q_Inner{GB:Gh}{c:List LnQ}(hc: ∀m∈c,LB m)(hok: ∀m∈c,m.ok)(hn:c.length≤1000):PF GB Tryz.prog 139 [.sl (c.map eL)] (.tp [eP (innerP c c),vB (innerB c)]):=by
 have hcl:=mapL_len c
 refine fn Tryz.func139 J J Tryz.ntmps139 J J (fun C=>?_)
 refine br (fu2:=⟨7⟩) J J J (fun hc11=>?_) (fun hc11=>?_)
 ·
  exact rz rfl (by rw[List.eq_nil_of_length_eq_zero (l:=c) (by omega),inner_nil rfl];show _=DV.tp [eP ⟨0,0⟩,_];rw[eP_zero];rfl)
 ·
  refine eqF 14 (.d (vI (c.length:Nat))) rfl (by rw[hcl];rfl) ?_
  refine gx rfl<|?_
  refine lp (X:=Nat) (fun k=>[(15, .d (vI (k:Nat))),(14, .d (vI (c.length:Nat))),(13, .d (.sl (c.map eL))),(0, .d (.sl (c.map eL))),(2, .ov 2 0)]) (fun k=>[(2,some (.o 86 [.ff, .nl, .nl, .ff, .nl, .nl] true))]) (fun k=>k≤c.length∧(∀m∈c.take k,(partL m c IvQ.all).isSome=false)∧innerP c (c.drop k)=innerP c c) (fun k=>c.length-k) 0 rfl ⟨Nat.zero_le _,fun m hm=>absurd hm (by simp),rfl⟩ (fun _=>rfl) (fun k hk=>?_)
  obtain⟨hle,hno,hip⟩:=hk
  refine br J J J (fun hc16=>?_) (fun hc16=>?_)
  ·
   have hk:k<c.length:=by omega
   obtain⟨m,hm⟩: ∃m,m=c[k]:=⟨_,rfl⟩
   haveI hmb:LB m:=hm▸hc _ (List.getElem_mem hk)
   have hmo:m.ok:=hm▸hok _ (List.getElem_mem hk)
   refine ix (fu:=⟨1⟩) _ rfl (mapL_get hk) rfl<|?_
   refine eqF 19 (.d (eL m)) rfl (by rw[hm];rfl) ?_
   refine gx rfl<|cl (fu:=⟨0⟩) rfl (q_edge hc hok hn hk) rfl<|?_
   refine eqF 23 (.d (.tp [eV (edgeV m c IvQ.all).1,vB (edgeV m c IvQ.all).2])) rfl (by rw[hm]) ?_
   refine gx rfl<|?_
   refine bb J J J (fun hc26=>?_) (fun hc26=>?_)
   ·
    have hbd:=edgeV_bd (v:=IvQ.all) hmo.ne hc IvZ.all (BQ.mono (k:=1) ⟨by decide,by decide⟩ (by decide)) (BQ.mono (k:=1) ⟨by decide,by decide⟩ (by decide))
    obtain⟨s,hs⟩: ∃s,s=(edgeV m c IvQ.all).1:=⟨_,rfl⟩
    rw[←hs] at hbd
    haveI:=hbd.1
    haveI:=hbd.2
    haveI hsb:=sample_bd (v:=s) (i:=1200)
    have hpt:BPt (m.at (sampleR s)) 4500:=by have:=BPt.at m (sampleR s) (1200+1200+5);exact⟨this.x.mono (by decide),this.y.mono (by decide)⟩
    have hin:innerB c=true:=inner_yes (hm▸List.getElem_mem hk) (by rw[←edgeV_snd];exact hc26)
    have hpn:=innerP_yes hip hk hm hc26
    rw[←hs] at hpn⊢
    refine cl rfl (q_Dir (l:=m)) rfl<|cl rfl (q_Sample (v:=s)) rfl<|cl rfl (q_At (l:=m) (t:=sampleR s) hmo.ne) rfl<|cl rfl (q_Opp (q:=m.dir.y)) rfl<|?_
    refine cl rfl (q_Near (p:=m.at (sampleR s)) (v:=turnP m.dir) hc hn (hpt) inferInstance) rfl<|?_
    exact rz rfl (by rw[hin,hpn];rfl)
   ·
    exact at_ (k+1) ⟨⟨by omega,take_next hno hk (by rw[←hm,←edgeV_snd];exact hc26),innerP_no hip hk hm (by rw[hc26];decide)⟩,(by omega)⟩
  ·
   exact rz rfl (by rw[inner_no (fun e=>hc11 (by rw[e];rfl)) (fun m hm=>hno m (by rw[List.take_of_length_le (by omega)];exact hm)),←hip,List.drop_eq_nil_of_le (by omega)];show _=DV.tp [eP ⟨0,0⟩,_];rw[eP_zero];rfl)
end Go.Sx
end

section
set_option maxRecDepth 100000
namespace Go.Sx
open Go Go.Proofs
theorem mapI_getA{es:List Int}{i:Nat}(h:i<es.length):(es.map vI)[(i:Int).toNat]? =some (vI (es.getD i 0)):=by simp[h]
theorem orI_drop{es:List Int}{i:Nat}(h:i<es.length):orI (es.drop i)=if es.getD i 0≠0 then es.getD i 0 else orI (es.drop (i+1)):=by
 rw[List.drop_eq_getElem_cons h,orI,List.getD_eq_getElem?_getD,List.getElem?_eq_getElem h];rfl
theorem p_Or{GB:Gh}{es:List Int}(hn:es.length≤1000000):PF GB Tryz.prog 241 [.sl (es.map vI)] (vI (orI es)):=by
 have hel:(es.map vI).length=es.length:=by simp
 refine fn (fu:=⟨15⟩) Tryz.func241 J J Tryz.ntmps241 J J (fun C=>?_)
 refine eqF 7 (.d (vI (es.length:Nat))) rfl (by rw[hel]<;>rfl) ?_
 refine gx rfl<|?_
 refine lp (X:=Nat) (fun i=>[(8, .d (vI (i:Nat)))]) (fun i=>[]) (fun i=>i≤es.length∧orI es=orI (es.drop i)) (fun i=>es.length-i) 0 rfl ⟨Nat.zero_le _,rfl⟩ (fun _=>rfl) (fun i hk=>?_)
 obtain⟨h1,h2⟩:=hk
 refine br J J J (fun hc9=>?_) (fun hc9=>?_)
 ·
  refine ix _ rfl (mapI_getA (by omega)) rfl<|?_
  refine br J J J (fun hc14=>?_) (fun hc14=>?_)
  ·
   exact rz rfl (by rw[h2,orI_drop (by omega),if_pos hc14];rfl)
  ·
   exact at_ (i+1) ⟨⟨by omega,by rw[h2,orI_drop (by omega),if_neg hc14]⟩,(by omega)⟩
 ·
  exact rz rfl (by rw[h2,List.drop_of_length_le (by omega)];rfl)
def lcq(l m:LnQ):Int:=orI [rcmp l.a m.a,rcmp l.b m.b,rcmp l.c m.c]
theorem lcq_zero(l m:LnQ):lcq l m=0↔l=m:=by
 unfold lcq orI orI orI orI
 have ha:=rcmp_eq (l.a:Rat) m.a
 have hb:=rcmp_eq (l.b:Rat) m.b
 have hc:=rcmp_eq (l.c:Rat) m.c
 rw[Rat.intCast_inj] at ha hb hc
 constructor
 ·intro h
  repeat' (split at h<;>try contradiction)
  all_goals exact LnQ.ext' (by omega) (by omega) (by omega)
 ·rintro rfl
  rw[if_neg (by simp[ha.2 rfl]),if_neg (by simp[hb.2 rfl]),if_neg (by simp[hc.2 rfl])]
theorem p_LCmp{GB:Gh}{l m:LnQ}[hl:LB l][hm:LB m]:PF GB Tryz.prog 199 [eLn l,eLn m] (vI (lcq l m)):=by
 refine fn Tryz.func199 J J Tryz.ntmps199 J J (fun C=>?_)
 refine cl rfl (p_FCmp (p:=(l.a:Rat)) (q:=(m.a:Rat))) rfl<|cl rfl (p_FCmp (p:=(l.b:Rat)) (q:=(m.b:Rat))) rfl<|cl rfl (p_FCmp (p:=(l.c:Rat)) (q:=(m.c:Rat))) rfl<|?_
 refine rf J J<|cl rfl (p_Or (es:=[rcmp l.a m.a,rcmp l.b m.b,rcmp l.c m.c]) (nb rfl)) rfl<|?_
 exact rz J J
theorem p_LEqual{GB:Gh}{l m:LnQ}[hl:LB l][hm:LB m]:PF GB Tryz.prog 142 [eLn l,eLn m] (vB (decide (l=m))):=by
 refine fn Tryz.func142 J J Tryz.ntmps142 J J (fun C=>?_)
 refine cl rfl (p_LCmp (l:=l) (m:=m)) rfl<|?_
 exact rz rfl (by show DV.v (.bool (decide _))= .v (.bool _);congr 2;exact decide_eq_decide.2 (lcq_zero l m))
theorem p_LRev{GB:Gh}{l:LnQ}[hl:LB l]:PF GB Tryz.prog 243 [eLn l] (eLn l.rev):=by
 refine fn Tryz.func243 J J Tryz.ntmps243 J J (fun C=>?_)
 refine cl rfl (p_FNeg (q:=(l.a:Rat))) rfl<|cl rfl (p_FNeg (q:=(l.b:Rat))) rfl<|cl rfl (p_FNeg (q:=(l.c:Rat))) rfl<|?_
 exact rz rfl (by unfold eLn LnQ.rev;simp only[Rat.intCast_neg];rfl)
theorem p_half{GB:Gh}{p:PtQ}{i:Nat}[hp:BPt p i](hi:i≤10000000:=by decide):PF GB Tryz.prog 291 [eZ p] (vI p.half):=by
 refine fn Tryz.func291 J J Tryz.ntmps291 J J (fun C=>?_)
 refine cl rfl (p_FSign (q:=p.y) (by omega)) rfl<|?_
 refine cs 10 J J J (fun hg10=>?_) (fun hg10=>?_)
 ·
  exact rz rfl (by unfold PtQ.half;(repeat' split)<;>first|rfl|(exfalso;omega))
 ·
  refine cs 13 J J J (fun hg13=>?_) (fun hg13=>?_)
  ·
   refine cl rfl (p_FSign (q:=p.x) (by omega)) rfl<|?_
   refine br J J J (fun hc7=>?_) (fun hc7=>?_)
   ·
    exact rz rfl (by unfold PtQ.half;(repeat' split)<;>first|rfl|(exfalso;omega))
   ·
    refine cs 23 J J J (fun hg23=>?_) (fun hg23=>?_)
    ·
     exact rz rfl (by unfold PtQ.half;(repeat' split)<;>first|rfl|(exfalso;omega))
    ·
     refine cl rfl (p_FSign (q:=p.x) (by omega)) rfl<|?_
     refine br J J J (fun hc20=>?_) (fun hc20=>?_)
     ·
      exact rz rfl (by unfold PtQ.half;(repeat' split)<;>first|rfl|(exfalso;omega))
     ·
      exact rz rfl (by unfold PtQ.half;(repeat' split)<;>first|rfl|(exfalso;omega))
  ·
   refine cs 23 J J J (fun hg23=>?_) (fun hg23=>?_)
   ·
    exact rz rfl (by unfold PtQ.half;(repeat' split)<;>first|rfl|(exfalso;omega))
   ·
    refine cl rfl (p_FSign (q:=p.x) (by omega)) rfl<|?_
    refine br J J J (fun hc20=>?_) (fun hc20=>?_)
    ·
     exact rz rfl (by unfold PtQ.half;(repeat' split)<;>first|rfl|(exfalso;omega))
    ·
     exact rz rfl (by unfold PtQ.half;(repeat' split)<;>first|rfl|(exfalso;omega))
theorem p_Angle{GB:Gh}{u v:PtQ}{i j:Nat}[hp:BPt u i][hq:BPt v j](hi:i≤10000000:=by decide)(hj:j≤10000000:=by decide):PF GB Tryz.prog 276 [eZ u,eZ v] (vI (angleQ u v)):=by
 refine fn Tryz.func276 J J Tryz.ntmps276 J J (fun C=>?_)
 refine cl rfl (p_half (p:=u) hi) rfl<|cl rfl (p_half (p:=v) hj) rfl<|?_
 refine br J J J (fun hc11=>?_) (fun hc11=>?_)
 ·
  exact rz rfl (by unfold angleQ;rw[if_pos hc11];rfl)
 ·
  refine br J J J (fun hc15=>?_) (fun hc15=>?_)
  ·
   exact rz rfl (by unfold angleQ;rw[if_neg hc11,if_pos hc15];rfl)
  ·
   refine cl rfl (p_PCross (p:=u) (q:=v) (by omega) (by omega)) rfl<|cl (fu:=⟨0⟩) rfl (p_FSign (q:=u.cross v) (by omega)) rfl<|?_
   have hs:=Int.sign_trichotomy (u.cross v).num
   refine gx rfl<|?_
   exact rz rfl (by unfold angleQ;rw[if_neg hc11,if_neg hc15];rfl)
theorem nrm_ok{m:Int}:Nrm (dg m.natAbs)∧(decide (m<0)=true→0<(dg m.natAbs).length):=⟨(dg_spec _).2.2,fun h=>by
 have:0<m.natAbs:=by have:=of_decide_eq_true h;omega
 exact dg_len0.2 this⟩
theorem p_INormal'{GB:Gh}{m:Int}{i:Nat}[h:BI m i](hi:i≤1000000000:=by decide):PF GB Tryz.prog 224 [eI m] (.v (.bool true)):=(p_INormal (neg:=decide (m<0)) (ds:=dg m.natAbs) (dg_spec _).2.1 (by have:=dg_bd (a:=m.natAbs) hi;omega)).to (by unfold vB;rw[decide_eq_true nrm_ok])
theorem gcd3{l:LnQ}(h:l.ok):rgcd (rgcd (l.a:Rat) (l.b:Rat)) (l.c:Rat)=((1:Int):Rat):=by
 rw[rgcd_int,rgcd_int]
 have:=h.2
 simp only[Int.natAbs_natCast];rw[this];rfl
instance BQ.rgcd (p q:Rat) (i j:Nat) [h:BQ p i] [k:BQ q j]:BQ (rgcd p q) (i+j+(i+j)):=by
 unfold Sx.rgcd
 refine mkRat_bd (Nat.mul_pos (den_pos' p) (den_pos' q)) ?_ ?_
 ·rw[Int.natAbs_natCast]
  have h1:=mul_lt_pow h.hn k.hd
  have h2:=mul_lt_pow k.hn h.hd
  rw[Nat.add_comm j i] at h2
  exact gcd_lt' h1 h2
 ·have h1:=mul_lt_pow h.hd k.hd
  have:2^(i+j)≤2^(i+j+(i+j)):=Nat.pow_le_pow_right (by decide) (by omega)
  omega
theorem p_LnOf{GB:Gh}{l:LnQ}[hl:LB l](ho:l.ok):PF GB Tryz.prog 177 [eL l] (.tp [eLn l,vB true]):=by
 refine fn Tryz.func177 J J Tryz.ntmps177 J J (fun C=>?_)
 refine cl (fu:=⟨0⟩) rfl (p_INormal' (m:=l.a)) rfl<|knF J J J<|cl (fu:=⟨0⟩) rfl (p_INormal' (m:=l.b)) rfl<|knF J J J<|cl (fu:=⟨0⟩) rfl (p_INormal' (m:=l.c)) rfl<|?_
 refine knF J J J<|cl rfl (p_Whole (m:=l.a)) rfl<|cl rfl (p_Whole (m:=l.b)) rfl<|cl rfl (p_Whole (m:=l.c)) rfl<|cl (fu:=⟨0⟩) rfl (p_Zero (q:=(l.a:Rat))) rfl<|?_
 refine csS (fu2:=⟨4⟩) J J J J (fun hg35=>?_) (fun hg35=>?_)
 ·
  have ha:l.a=0:=Rat.intCast_eq_zero_iff.1 hg35
  refine cl (fu:=⟨1⟩) rfl (p_Zero (q:=(l.b:Rat))) rfl<|knF rfl (by first|rfl|(show some (decide _)=some false;rw[decide_eq_false (fun e=>ho.1 ⟨ha,Rat.intCast_eq_zero_iff.1 e⟩)])) rfl<|?_
  refine cl rfl (p_FGcd (p:=(l.a:Rat)) (q:=(l.b:Rat))) rfl<|cl rfl (p_FGcd (p:=rgcd l.a l.b) (q:=(l.c:Rat))) rfl<|cl rfl (p_Int (m:=1) (by decide)) rfl<|?_
  refine cl (fu:=⟨0⟩) rfl (p_FEqual (p:=rgcd (rgcd l.a l.b) l.c) (q:=((1:Int):Rat))) rfl<|knF rfl (by show some (!decide _)=some false;rw[gcd3 ho,decide_eq_true rfl];rfl) rfl<|?_
  exact rz J J
 ·
  refine knF rfl (by first|rfl|(show some (decide _)=some false;rw[decide_eq_false (fun e=>ho.1 ⟨ha,Rat.intCast_eq_zero_iff.1 e⟩)])) rfl<|cl rfl (p_FGcd (p:=(l.a:Rat)) (q:=(l.b:Rat))) rfl<|?_
  refine cl rfl (p_FGcd (p:=rgcd l.a l.b) (q:=(l.c:Rat))) rfl<|cl rfl (p_Int (m:=1) (by decide)) rfl<|cl (fu:=⟨0⟩) rfl (p_FEqual (p:=rgcd (rgcd l.a l.b) l.c) (q:=((1:Int):Rat))) rfl<|?_
  refine knF rfl (by show some (!decide _)=some false;rw[gcd3 ho,decide_eq_true rfl];rfl) rfl<|?_
  exact rz J J
end Go.Sx
end

section
set_option maxRecDepth 100000
namespace Go.Sx
open Go Go.Proofs
def eFr(f:FrQ):DV:= .ag [vI (fn_ (f.l.a:Rat)),vI (fd_ (f.l.a:Rat)),fp_ (f.l.a:Rat),vI (fn_ (f.l.b:Rat)),vI (fd_ (f.l.b:Rat)),fp_ (f.l.b:Rat),vI (fn_ (f.l.c:Rat)),vI (fd_ (f.l.c:Rat)),fp_ (f.l.c:Rat),vI (fn_ f.v.lo),vI (fd_ f.v.lo),fp_ f.v.lo,vI (fn_ f.v.hi),vI (fd_ f.v.hi),fp_ f.v.hi, .v (.bool f.v.nl), .v (.bool f.v.nh)]
structure IvOK (v:IvQ):Prop where
 z:IvZ v
 lo:BQ v.lo 1200
 hi:BQ v.hi 1200
structure FrOK (s:FrQ):Prop where
 lb:LB s.l
 ok:s.l.ok
 v:IvOK s.v
abbrev CellOK (c:CellQ):Prop:= ∀s∈c,FrOK s
theorem map_len{α:Type}(f:α→DV)(l:List α):(l.map f).length=l.length:=by simp
theorem IvOK.all:IvOK IvQ.all:=⟨⟨fun _=>rfl,fun _=>rfl⟩,BQ.z1.mono (by decide),BQ.z1.mono (by decide)⟩
theorem IvOK.cut{l m:LnQ}{v:IvQ}[LB l][LB m](hn:l.Ne)(h:IvOK v):IvOK (l.cutV v m):=by
 by_cases h0:crossI l m=0
 ·rw[(step_par (v:=v) h0).1];exact h
 ·obtain⟨u1,_,u3,u4,u5⟩:=updB_spec (v:=v) hn h.z h.lo h.hi h0
  rw[u1];exact⟨u3,u4,u5⟩
def ivD(o:Option IvQ):IvQ:=o.getD ⟨0,0,false,false⟩
theorem is_iv0(G:Gh)(y:Value)(k:Is G (.tp [.ag [vI 0,vI 0, .v (.pointer none),vI 0,vI 0, .v (.pointer none), .v (.bool false), .v (.bool false)], .v (.bool false)]) y):Is G (.tp [eW (ivD none),vB false]) y:=by
 obtain⟨m,rfl,g⟩:=is_tp.1 k
 exact is_tp.2 ⟨m,rfl,isl_F (fun y hy=>by
  obtain⟨l,rfl,g⟩:=is_ag.1 hy
  exact is_ag.2 ⟨l,rfl,isl_z (isl_z' [vI 0,vI 0, .v (.pointer none)] g)⟩) g⟩
theorem map_getS{α:Type}{f:α→DV}{l:List α}{i:Nat}{s:α}(h:l[i]? =some s):(l.map f)[(i:Int).toNat]? =some (f s):=by simp[h]
theorem drop_getS{α:Type}{l:List α}{k:Nat}{s:α}(h:l[k]? =some s):l.drop k=s::l.drop (k+1):=by
 obtain⟨h1,h2⟩:=List.getElem?_eq_some_iff.1 h
 rw[List.drop_eq_getElem_cons h1,h2]
theorem partV_dr{l:LnQ}{c:CellQ}{v:IvQ}{k:Nat}{s:FrQ}(h:c[k]? =some s):partV l (c.drop k) v=if l.cutB v s.l then partV l (c.drop (k+1)) (l.cutV v s.l) else none:=by
 rw[drop_getS h];rfl
theorem placeV_dr{l:LnQ}{c:CellQ}{k:Nat}{s:FrQ}(h:c[k]? =some s):placeV l (c.drop k)=if sideAt l s≠0 then sideAt l s else if s.l=l then 1 else placeV l (c.drop (k+1)):=by
 rw[drop_getS h];rfl
instance BQ.sample (v:IvQ) [h1:BQ v.lo 1200] [h2:BQ v.hi 1200]:BQ v.sample 2500:=by
 unfold IvQ.sample
 split
 ·exact BQ.z1.mono (by decide)
 ·split
  ·exact BQ.mono (inferInstance:BQ (v.hi-((1:Int):Rat)) _) (by decide)
  ·split
   ·exact BQ.mono (inferInstance:BQ (v.lo+((1:Int):Rat)) _) (by decide)
   ·exact BQ.mono (inferInstance:BQ ((v.lo+v.hi)*mkRat 1 2) _) (by decide)
set_option maxHeartbeats 1000000 in
theorem p_part{GB:Gh}{c:CellQ}{l:LnQ}[hl:LB l](hlo:l.ok)(hc:CellOK c)(hn:c.length≤1000000):PF GB Tryz.prog 271 [.sl (c.map eFr),eLn l] (.tp [eW (ivD (partQ c l)),vB (partQ c l).isSome]):=by
 have hm:=map_len eFr c
 refine fn Tryz.func271 J J Tryz.ntmps271 J J (fun C=>?_)
 refine cl (fu:=⟨10⟩) rfl p_All rfl<|?_
 refine eqF 12 (.d (vI (c.length:Nat))) rfl (by rw[map_len]<;>rfl) ?_
 refine gx rfl<|?_
 refine lp (X:=IvQ×Nat) (fun⟨v,k⟩=>[(13, .d (vI (k:Nat))),(6, .ov 6 0)]) (fun⟨v,k⟩=>[(6,some (.o 244 [.d (vI (fn_ v.lo)), .d (vI (fd_ v.lo)), .d (fp_ v.lo), .d (vI (fn_ v.hi)), .d (vI (fd_ v.hi)), .d (fp_ v.hi), .d (.v (.bool v.nl)), .d (.v (.bool v.nh))] true))]) (fun⟨v,k⟩=>k≤c.length∧IvOK v∧partV l (c.drop k) v=partQ c l) (fun⟨v,k⟩=>c.length-k) (IvQ.all,0) rfl ⟨Nat.zero_le _, .all,rfl⟩ (fun _=>rfl) (fun⟨v,k⟩ hk=>?_)
 dsimp only at hk⊢
 obtain⟨h1,h2,h3⟩:=hk
 haveI:=h2.lo
 haveI:=h2.hi
 refine br J J J (fun hc14=>?_) (fun hc14=>?_)
 ·
  obtain⟨s,hs0⟩: ∃s,c[k]? =some s:=⟨_,List.getElem?_eq_getElem (by omega)⟩
  have hs:=hc s (List.mem_of_getElem? hs0)
  haveI:=hs.lb
  refine ix _ rfl (map_getS hs0) rfl<|cl (fu:=⟨0⟩) rfl (p_Cut (l:=l) (m:=s.l) (v:=v)) rfl<|?_
  generalize hw:l.cutV v s.l=w
  generalize hb:l.cutB v s.l=b
  refine gx rfl<|?_
  refine bb J J J (fun hc26=>?_) (fun hc26=>?_)
  ·
   exact rzI rfl (by rw[←h3,partV_dr hs0,hb,if_neg (by simpa using hc26)];exact is_iv0)
  ·
   exact at_ (w,k+1) (by dsimp only;exact⟨⟨by omega,hw▸h2.cut hlo.1,by rw[←h3,partV_dr hs0,hb,hw,if_pos (by simpa using hc26)]⟩,(by omega)⟩)
 ·
  exact rz rfl (by rw[←h3,List.drop_of_length_le (by omega)];rfl)
set_option maxHeartbeats 1000000 in
theorem p_Place{GB:Gh}{c:CellQ}{l:LnQ}[hl:LB l](hlo:l.ok)(hc:CellOK c)(hn:c.length≤1000000):PF GB Tryz.prog 272 [.sl (c.map eFr),eLn l] (vI (placeQ c l)):=by
 have hm:=map_len eFr c
 refine fn Tryz.func272 J J Tryz.ntmps272 J J (fun C=>?_)
 refine cl rfl (p_part (c:=c) (l:=l) hlo hc hn) rfl<|?_
 refine bb (fu2:=⟨7⟩) J J J (fun hc16=>?_) (fun hc16=>?_)
 ·
  exact rz rfl (by unfold placeQ;rw[if_pos hc16];rfl)
 ·
  have hp:placeQ c l=placeV l c:=by unfold placeQ;rw[if_neg (by simp[hc16])]
  refine eqF 18 (.d (vI (c.length:Nat))) rfl (by rw[map_len]<;>rfl) ?_
  refine gx rfl<|?_
  refine lp (X:=Nat) (fun k=>[(19, .d (vI (k:Nat)))]) (fun k=>[]) (fun k=>k≤c.length∧placeV l (c.drop k)=placeV l c) (fun k=>c.length-k) 0 rfl ⟨Nat.zero_le _,rfl⟩ (fun _=>rfl) (fun k hk=>?_)
  obtain⟨h1,h2⟩:=hk
  refine br J J J (fun hc20=>?_) (fun hc20=>?_)
  ·
   obtain⟨s,hs0⟩: ∃s,c[k]? =some s:=⟨_,List.getElem?_eq_getElem (by omega)⟩
   have hs:=hc s (List.mem_of_getElem? hs0)
   haveI:=hs.lb
   haveI:=hs.v.lo
   haveI:=hs.v.hi
   haveI:=BQ.sample s.v
   refine ix _ rfl (map_getS hs0) rfl<|cl (fu:=⟨0⟩) rfl (p_Sample (v:=s.v)) rfl<|?_
   generalize ht:s.v.sample=t at*
   refine gx rfl<|cl rfl (p_LAt (l:=s.l) (t:=t)) rfl<|cl rfl (p_LSide (l:=l) (p:=s.l.at t)) rfl<|?_
   refine br J J J (fun hc32=>?_) (fun hc32=>?_)
   ·
    have hsd:sideAt l s=(l.value (s.l.at t)).num.sign:=by unfold sideAt;rw[ht]
    exact rz rfl (by rw[hp,←h2,placeV_dr hs0,hsd,if_pos hc32];rfl)
   ·
    refine cl rfl (p_LEqual (l:=s.l) (m:=l)) rfl<|?_
    refine bd J J J (fun hc37=>?_) (fun hc37=>?_)
    ·
     have hsd:sideAt l s=(l.value (s.l.at t)).num.sign:=by unfold sideAt;rw[ht]
     exact rz rfl (by rw[hp,←h2,placeV_dr hs0,hsd,if_neg hc32,if_pos hc37];rfl)
    ·
     have hsd:sideAt l s=(l.value (s.l.at t)).num.sign:=by unfold sideAt;rw[ht]
     exact at_ (k+1) ⟨⟨by omega,by rw[←h2,placeV_dr hs0,hsd,if_neg hc32,if_neg hc37]⟩,(by omega)⟩
  ·
   exact rz rfl (by rw[hp,←h2,List.drop_of_length_le (by omega)];rfl)
end Go.Sx
end

section
set_option maxRecDepth 100000
namespace Go.Sx
open Go Go.Proofs
theorem takeL_dropF'{vs rest:List Value}(h: ∀v∈vs,(cellsL v).length=17){i:Nat}(hi:i≤vs.length):takeL (flatL vs++rest) (i*17) ((vs.length-i)*17)=some (flatL (vs.drop i)):=by
 have hl:=flatL_len vs h
 have hd:(flatL (vs.drop i)).length=(vs.length-i)*17:=by
  rw[flatL_len (s:=17) _ (fun v hv=>h v (List.mem_of_mem_drop hv)),List.length_drop]
 rw[takeL_of _ _ _ (by simp only[List.length_append];omega)]
 congr 1
 rw[List.drop_append_of_le_length (by omega),flatL_drop vs i h hi,List.take_append_of_le_length (by omega),List.take_of_length_le (by omega)]
theorem ins_cells'{vs rest vcs:List Value}(h: ∀v∈vs,(cellsL v).length=17)(hv:vcs.length=17){i:Nat}(hi:i<vs.length)(hr:17≤rest.length):
  ovw (ovw (flatL vs++rest) ((i+1)*17) (flatL (vs.drop i))) (i*17) vcs=flatL (vs.take i)++vcs++flatL (vs.drop i)++rest.drop 17:=by
 have hl:=flatL_len vs h
 have hd:(flatL (vs.drop i)).length=(vs.length-i)*17:=by
  rw[flatL_len (s:=17) _ (fun v hv=>h v (List.mem_of_mem_drop hv)),List.length_drop]
 have ht:(flatL (vs.take i)).length=i*17:=by
  rw[flatL_len (s:=17) _ (fun v hv=>h v (List.mem_of_mem_take hv)),List.length_take,Nat.min_eq_left (by omega)]
 rw[ovw_spec (flatL (vs.drop i)) (flatL vs++rest) _ (by rw[List.length_append];omega)]
 rw[ovw_spec vcs _ _ (by simp only[List.length_append,List.length_take,List.length_drop];omega)]
 have e1:(flatL vs++rest).drop ((i+1)*17+(flatL (vs.drop i)).length)=rest.drop 17:=by
  rw[hd,show(i+1)*17+(vs.length-i)*17=(flatL vs).length+17 by omega,List.drop_append,List.drop_eq_nil_of_le (by omega),List.nil_append]
  congr 1
  omega
 have e2:((flatL vs++rest).take ((i+1)*17)++flatL (vs.drop i)++rest.drop 17).take (i*17)=flatL (vs.take i):=by
  rw[List.append_assoc,List.take_append_of_le_length (by simp only[List.length_take,List.length_append];omega),List.take_take,Nat.min_eq_left (by omega),List.take_append_of_le_length (by omega),flatL_take vs i h (by omega)]
 have e3:((flatL vs++rest).take ((i+1)*17)++flatL (vs.drop i)++rest.drop 17).drop (i*17+vcs.length)=flatL (vs.drop i)++rest.drop 17:=by
  rw[hv,List.append_assoc,show i*17+17=((flatL vs++rest).take ((i+1)*17)).length by simp only[List.length_take,List.length_append];omega,List.drop_left]
 rw[e1,e2,e3]
 simp[List.append_assoc]
theorem app_cells'{vs rest vcs:List Value}(h: ∀v∈vs,(cellsL v).length=17)(hv:vcs.length=17)(hr:17≤rest.length):ovw (flatL vs++rest) (vs.length*17) vcs=flatL vs++vcs++rest.drop 17:=by
 have hl:=flatL_len vs h
 rw[ovw_spec _ _ _ (by simp only[List.length_append];omega),hv,←hl,List.take_left,List.drop_append]
 simp
set_option maxHeartbeats 1000000 in
theorem sides_insert'{G:Gh}{b bv cap i c2:Nat}{vs rest vcs r2:List Value}{lo lo2:Bool}(hvs: ∀v∈vs,(cellsL v).length=17)(hfl: ∀v∈vs,∀c∈cellsL v,flat c=true)(hv:vcs.length=17)(hvf: ∀c∈vcs,flat c=true)
  (hcap:vs.length*17+rest.length=cap*17)(hroom:vs.length+1≤cap)(hi:i≤vs.length)(hb:vs.length≤1125899906842624):
  FnM Tryz.prog 277 [.slice (some ⟨b,0,none⟩) vs.length cap, .int .i64 i, .slice (some ⟨bv,0,none⟩) 1 c2] [⟨b,flatL vs++rest,246,lo⟩,⟨bv,vcs++r2,246,lo2⟩] G
   (fun u css _=>u= .slice (some ⟨b,0,none⟩) (vs.length+1) cap∧css=[flatL (vs.take i)++vcs++flatL (vs.drop i)++rest.drop 17,vcs++r2]):=by
 have hL:(flatL vs++rest).length=cap*17:=by rw[List.length_append,flatL_len vs hvs];exact hcap
 have hr:17≤rest.length:=by omega
 have hD:(flatL (vs.drop i)).length=(vs.length-i)*17:=by
  rw[flatL_len (s:=17) _ (fun v hv=>hvs v (List.mem_of_mem_drop hv)),List.length_drop]
 have hDf: ∀c∈flatL (vs.drop i),flat c=true:=fun c hc=>by
  obtain⟨l,hl,hcl⟩:=List.mem_flatten.1 hc
  obtain⟨v,hv,rfl⟩:=List.mem_map.1 hl
  exact hfl v (List.mem_of_mem_drop hv) c hcl
 have hvt:takeL (vcs++r2) 0 (1*17)=some vcs:=by rw[takeL_of _ _ _ (by rw[List.length_append];omega),List.drop_zero,List.take_append_of_le_length (by omega),List.take_of_length_le (by omega)]
 refine FnM.intro Tryz.func277 J J Tryz.ntmps277 rfl ?_
 intro C _ _
 show St C _ _ [⟨b,flatL vs++rest,246,false⟩,⟨bv,vcs++r2,246,false⟩] _ _
 refine st_apart (fun hne=>?_)
 simp only[] at hne
 refine sR<|sa J J<|zE<|sR<|sm J J<|sm J J<|sy (yd_slice_lo J J (by omega) (by omega)) rfl<|zE<|sR<|?_
 refine sm J J<|slen J J<|sa J J<|zE<|st_seq<|sR<|sm J J<|sy (yd_eql J J) rfl<|zE<|st_condF rfl<|?_
 refine zK<|sR<|sm J J<|slen J J<|sa J J<|zE<|st_seq<|sR<|sm J J<|sm J J<|sy (yd_eql J J) rfl<|zE<|?_
 refine st_condP rfl (fun hc=>?_) (fun hc=>?_) -- slot 22
 ·have hin:i=vs.length:=by omega
  subst hin
  refine sR<|sm J J<|sm J J<|?_
  refine sc (ch_append_room (s:=17) (m:=1) (ys:=vcs) J J (.hd ..) hL (src_own inferInstance hvt) (by omega) hvf hroom rfl ?_)
  refine sa J J<|zE<|st_ret<|?_
  refine st_doneM (css:=[ovw (flatL vs++rest) (vs.length*17) vcs,vcs++r2]) (.tmp rfl .nil) rfl _ (List.Perm.refl _) (List.Sublist.refl _) ⟨rfl,?_⟩
  rw[app_cells' hvs hv hr,List.take_length,List.drop_length]
  simp[flatL]
 have hin:i<vs.length:=by omega
 have hn1:((vs.length:Int)+((1:Nat):Int)).toNat=vs.length+1:=by omega
 have ht1:((i:Int)+((1:Nat):Int)).toNat=i+1:=by omega
 refine zK<|st_seq<|sR<|sm J J<|sm J J<|sy (yd_add64 J J) rfl<|sm J J<|?_
 refine sy (yd_cap rfl) rfl<|sy (yd_gtr J J) rfl<|zE<|?_
 refine st_condP rfl (fun hc2=>?_) (fun hc2=>?_) -- slot 31
 ·exact absurd hc2 (by omega)
 refine zK<|sR<|sm J J<|sm J J<|sm J J<|sy (yd_add64 J J) rfl<|sy (yd_slice_hi J J (by omega) (by omega)) rfl<|?_
 rw[hn1]
 refine sa J J<|zE<|st_seq<|sR<|sm J J<|sm J J<|sm J J<|sm J J<|sy (yd_add64 J J) rfl<|sy (yd_slice_loB J J (by omega) (by omega) (by omega)) rfl<|?_
 refine sy (yd_overlaps (tS:=164) (tR:=4) Tryz.func293 (by kernel_rfl) (by kernel_rfl) (by kernel_rfl) (by kernel_rfl) J J (Ne.symm hne) (fun h=>by rw[h] at hL;simp at hL;omega)) rfl<|?_
 refine sy (yd_not rfl) rfl<|zE<|st_condT rfl<|?_
 refine st_seq<|dr0 (b:=b) (fun _=>false) [(0,true),(1,true),(2,true),(3,true),(4,true),(5,true),(6,true),(7,true),(8,false)] follows (.hd ..) (by kernel_rfl)<|dM J J J<|?_
 refine dM J J J<|dM J J J<|dy rfl (fun _=>yd_add64 J J (by omega) (by omega)) J J<|dy rfl (fun _=>yd_slice_loB J J (by omega) (by omega) (by omega)) J J<|?_
 refine dM J J J<|dM J J J<|dy rfl (fun _=>yd_slice_loB J J (by omega) (by omega) (by omega)) J J<|?_
 rw[ht1,Int.toNat_natCast,Nat.zero_add,Nat.zero_add]
 refine dc J J (ch_copy (s:=17) (m:=vs.length-i) (ys:=flatL (vs.drop i)) J J (by show min _ _=_;omega) (src_own inferInstance (takeL_dropF' hvs hi)) hDf (by rw[hD,hL];omega) (.hd ..) rfl ?_)
 refine dr_s<|dn<|sR<|sm J J<|sm J J<|sy (yd_slice_loB J J (by omega) (by omega) (by omega)) rfl<|sm J J<|?_
 rw[Int.toNat_natCast,Nat.zero_add]
 refine sc (ch_copy (s:=17) (m:=1) (ys:=vcs) J J (by show min _ _=_;omega) (src_own inferInstance hvt) hvf (by rw[ovw_len,hL,hv];omega) (.hd ..) rfl ?_)
 refine zE<|sR<|sm J J<|sa J J<|zE<|st_ret<|?_
 refine st_doneM (css:=[ovw (ovw (flatL vs++rest) ((i+1)*17) (flatL (vs.drop i))) (i*17) vcs,vcs++r2]) (.tmp rfl .nil) rfl _ (List.Perm.refl _) (List.Sublist.refl _) ⟨rfl,?_⟩
 rw[ins_cells' hvs hv hin hr]
theorem FnM.toO{P:Program}{f:FuncId}{vs:List Value}{M:List Own}{G:Gh}{K:Value→List (List Value)→Gh→Prop}{K':Value→List Own→Gh→Prop}(h:FnM P f vs M G K)(hk: ∀v css G',GLe G G'→css.length=M.length→K v css G'→ ∃o,o.Sublist (reown (asB M) css)∧K' v o G'):FnO P f vs M G K':=
 ⟨h.able,fun w hw=>(h.run w hw).mono fun _ _ ⟨v,css,G',he,hl,hh,hK⟩=>let⟨o,h1,h2⟩:=hk v css G' hh.gle hl hK;⟨v,o,G',he,hh.drop h1,h2⟩⟩
theorem slOkF(c:CellQ):slOk 17 (c.map eFr):=fun d hd=>by
 obtain⟨f,_,rfl⟩:=List.mem_map.1 hd;exact⟨rfl,rfl⟩
theorem isl_flat{G:Gh}{s:Nat}{ds:List DV}{vs:List Value}(hk:slOk s ds)(h:IsLs G ds vs): ∀v∈vs,∀c∈cellsL v,flat c=true:=fun v hv=>by
 obtain⟨d,hd,h3⟩:=h.all v hv
 exact(h3.cells (hk d hd).1).2
theorem p_Insert{GB:Gh}{c:CellQ}{x:FrQ}{i cap:Nat}(hi:i≤c.length)(hc:c.length+1≤cap)(hn:c.length≤1000000):PI GB Tryz.prog 277 (i:Nat) 17 246 246 (c.map eFr) (eFr x) cap ((c.take i++x::c.drop i).map eFr):=by
 intro G w w2 B B2 _ hB hcap hB2
 obtain⟨vs,q1,q2,q3,_⟩:=hB
 obtain⟨us,u1,u2,u3,_⟩:=hB2
 dsimp only at q1 q2 q3 u1 u2 u3
 have hl:=q2.len
 rw[List.length_map] at hl
 obtain⟨v,m,rfl,hv,hm⟩:=isl_cons.1 u2
 cases isl_nil.1 hm
 rcases q1 with⟨_,e,_⟩|⟨b,rest,lo,e,rfl,h5,h6,h7⟩
 ·rw[e] at hcap;simp at hcap;omega
 rcases u1 with⟨h,_⟩|⟨bv,r2,lo2,e2,rfl,h8,h9,h10⟩
 ·cases h
 have hx:(cellsL v).length=17:=u3 v List.mem_cons_self
 have hxf:=isl_flat (s:=17) (ds:=[eFr x]) (fun d hd=>by rw[List.mem_singleton.1 hd];exact⟨rfl,rfl⟩) u2 v List.mem_cons_self
 have key:=sides_insert' (G:=G) (b:=b) (bv:=bv) (cap:=w.c) (i:=i) (c2:=w2.c) (vs:=vs) (rest:=rest) (vcs:=cellsL v) (r2:=r2) (lo:=lo) (lo2:=lo2) q3 (isl_flat (slOkF c) q2) hx hxf (by rw[←h5];exact h6) (by omega) (by omega) (by omega)
 rw[e,e2]
 rw[flatL_one]
 refine key.toO fun u css G' hg hl2 ⟨k1,k2⟩=>?_
 subst k1 k2
 have hall: ∀u∈vs.take i++v::vs.drop i,(cellsL u).length=17:=fun u hu=>by
  rcases List.mem_append.1 hu with hu|hu
  ·exact q3 u (List.mem_of_mem_take hu)
  ·rcases List.mem_cons.1 hu with rfl|hu
   ·exact hx
   ·exact q3 u (List.mem_of_mem_drop hu)
 have hlen:(vs.take i++v::vs.drop i).length=vs.length+1:=by
  rw[List.length_append,List.length_cons,List.length_take,List.length_drop];omega
 refine⟨[⟨b,flatL (vs.take i)++cellsL v++flatL (vs.drop i)++rest.drop 17,246,false⟩], .cons_cons _ (List.nil_sublist _),⟨some ⟨b,0,none⟩,vs.length+1,w.c⟩,rfl,vs.take i++v::vs.drop i, .inr ⟨b,rest.drop 17,false,by rw[hlen],?_,flatL_len _ hall,?_,?_⟩,?_,hall,fun h=>by cases h⟩
 ·rw[flatL_app];simp[flatL]
 ·rw[flatL_len _ hall,hlen,List.length_drop]
  rw[h5] at h6
  have:=Nat.mul_le_mul_right 17 (show vs.length+1≤w.c by omega)
  simp only[Nat.add_mul] at this⊢;omega
 ·rw[hlen];show vs.length+1≤w.c;omega
 ·rw[List.map_append,List.map_cons,List.map_take,List.map_drop]
  exact((q2.take i).up hg).app (.cons (hv.up hg) ((q2.drop i).up hg))
end Go.Sx
end

section
set_option maxRecDepth 100000
namespace Go.Sx
open Go Go.Proofs
theorem p_ClipF{GB:Gh}{s:FrQ}{l:LnQ}[hs:LB s.l][hl:LB l]:PF GB Tryz.prog 275 [eFr s,eLn l] (vI (angleQ s.l.dir l.dir)):=by
 refine fn Tryz.func275 J J Tryz.ntmps275 J J (fun C=>?_)
 refine cl rfl (p_LDir (l:=s.l)) rfl<|cl rfl (p_LDir (l:=l)) rfl<|cl rfl (p_Angle (u:=s.l.dir) (v:=l.dir)) rfl<|?_
 exact rz J J
def bsB(c:CellQ)(l:LnQ)(i:Nat):Bool:=match c[i]? with
 |some s=>decide (angleQ s.l.dir l.dir=0)
 |none=>false
theorem half_shr(i j:Nat):((i:Int)+(j:Int)).fdiv (2^min (1:Int).toNat IntKind.u64.bits)=((i+j)/2:Nat):=by
 rw[show(2:Int)^min (1:Int).toNat IntKind.u64.bits=((2:Nat):Int) from rfl,Int.fdiv_eq_ediv_of_nonneg _ (by decide)];omega
theorem angAt_s{c:CellQ}{l:LnQ}{k:Nat}{s:FrQ}(h:c[k]? =some s):angAt c l k=decide (angleQ s.l.dir l.dir<0):=by unfold angAt;rw[h]
theorem bsB_s{c:CellQ}{l:LnQ}{k:Nat}{s:FrQ}(h:c[k]? =some s):bsB c l k=decide (angleQ s.l.dir l.dir=0):=by unfold bsB;rw[h]
theorem bsB_n{c:CellQ}{l:LnQ}{k:Nat}(h: ¬k<c.length):bsB c l k=false:=by unfold bsB;rw[List.getElem?_eq_none (by omega)]
theorem bsq_T{p:Nat→Bool}{i j:Nat}(h:i<j)(hp:p ((i+j)/2)=true):bsq p i j=bsq p ((i+j)/2+1) j:=by rw[bsq,dif_pos h,if_pos hp]
theorem bsq_F{p:Nat→Bool}{i j:Nat}(h:i<j)(hp: ¬p ((i+j)/2)=true):bsq p i j=bsq p i ((i+j)/2):=by rw[bsq,dif_pos h,if_neg hp]
theorem bsq_E{p:Nat→Bool}{i j:Nat}(h: ¬i<j):bsq p i j=i:=by rw[bsq,dif_neg h]
set_option maxHeartbeats 1000000 in
theorem p_BSF{GB:Gh}{c:CellQ}{l:LnQ}[hl:LB l](hc:CellOK c)(hn:c.length≤1000000):PF GB Tryz.prog 274 [.sl (c.map eFr),eLn l, .v (.func (.func 275) #[] #[])] (.tp [vI (bsq (angAt c l) 0 c.length:Nat),vB (bsB c l (bsq (angAt c l) 0 c.length))]):=by
 have hm:=map_len eFr c
 refine fn (fu:=⟨11⟩) Tryz.func274 J J Tryz.ntmps274 J J (fun C=>?_)
 refine eqF 13 (.d (vI (c.length:Nat))) rfl (by rw[hm]<;>rfl) ?_
 refine gx rfl<|?_
 refine lp (X:=Nat×Nat) (fun⟨i,j⟩=>[(9, .d (vI (i:Nat))),(10, .d (vI (j:Nat)))]) (fun⟨i,j⟩=>[]) (fun⟨i,j⟩=>i≤j∧j≤c.length∧bsq (angAt c l) i j=bsq (angAt c l) 0 c.length) (fun⟨i,j⟩=>j-i) (0,c.length) rfl ⟨Nat.zero_le _,Nat.le_refl _,rfl⟩ (fun _=>rfl) (fun⟨i,j⟩ hk=>?_)
 dsimp only at hk⊢
 obtain⟨h1,h2,h3⟩:=hk
 refine br (fu1:=⟨10⟩) (fu2:=⟨11⟩) J J J (fun hc17=>?_) (fun hc17=>?_)
 ·
  obtain⟨s,hs0⟩: ∃s,c[(i+j)/2]? =some s:=⟨_,List.getElem?_eq_getElem (by omega)⟩
  haveI:=(hc s (List.mem_of_getElem? hs0)).lb
  have hang:=angAt_s (l:=l) hs0
  refine eqF 22 (.d (.v (.int .u64 ((i+j)/2:Nat)))) rfl (by rw[half_shr]) ?_
  refine gx rfl<|ix _ rfl (map_getS hs0) rfl<|cl rfl (p_ClipF (s:=s) (l:=l)) rfl<|?_
  refine br J J J (fun hc31=>?_) (fun hc31=>?_)
  ·
   exact at_ ((i+j)/2+1,j) (by dsimp only;exact⟨⟨by omega,h2,by rw[←h3,bsq_T (i:=i) (j:=j) (by omega) (by rw[hang];exact decide_eq_true hc31)]⟩,(by omega)⟩)
  ·
   exact at_ (i,(i+j)/2) (by dsimp only;exact⟨⟨by omega,by omega,by rw[←h3,bsq_F (i:=i) (j:=j) (by omega) (by rw[hang,decide_eq_false hc31];exact Bool.false_ne_true)]⟩,(by omega)⟩)
 ·
  refine csS (v2:=fun hg39=>by simp only[allP];kernel_rfl) J J J J (fun hg39=>?_) (fun hg39=>?_)
  ·
   have he:=bsq_E (p:=angAt c l) (i:=i) (j:=j) (by omega)
   obtain⟨s,hs0⟩: ∃s,c[i]? =some s:=⟨_,List.getElem?_eq_getElem (by omega)⟩
   haveI:=(hc s (List.mem_of_getElem? hs0)).lb
   refine ix _ rfl (map_getS hs0) rfl<|cl rfl (p_ClipF (s:=s) (l:=l)) rfl<|?_
   exact rz rfl (by rw[←h3,he,bsB_s hs0];rfl)
  ·
   have he:=bsq_E (p:=angAt c l) (i:=i) (j:=j) (by omega)
   exact rz rfl (by rw[←h3,he,bsB_n (by omega)];rfl)
theorem part_ok{l:LnQ}[LB l](hlo:l.ok): ∀{c:CellQ} {v w:IvQ},CellOK c→IvOK v→partV l c v=some w→IvOK w
 |[],v,w,_,hv,h=>by cases h;exact hv
 |s::t,v,w,hc,hv,h=>by
  haveI:=(hc s List.mem_cons_self).lb
  simp only[partV] at h
  split at h
  ·exact part_ok hlo (fun x hx=>hc x (List.mem_cons_of_mem _ hx)) (hv.cut hlo.1) h
  ·cases h
theorem cuts_ok{l:LnQ}[LB l]: ∀{c:CellQ},CellOK c→CellOK (cutsV l c)
 |[],_,s,h=>by cases h
 |a::t,hc,s,h=>by
  have ha:=hc a List.mem_cons_self
  haveI:=ha.lb
  have ht:=cuts_ok (l:=l) (fun x hx=>hc x (List.mem_cons_of_mem _ hx))
  unfold cutsV at h
  split at h
  ·rcases List.mem_cons.1 h with rfl|h
   ·exact⟨ha.lb,ha.ok,ha.v.cut ha.ok.1⟩
   ·exact ht s h
  ·exact ht s h
theorem clip_ok{l:LnQ}[hl:LB l](hlo:l.ok){c:CellQ}(hc:CellOK c):CellOK (clipC c l):=by
 unfold clipC
 split
 ·rename_i v hv
  intro s hs
  unfold insQ at hs
  rcases List.mem_append.1 hs with h|h
  ·exact cuts_ok hc s (List.mem_of_mem_take h)
  ·rcases List.mem_cons.1 h with rfl|h
   ·exact⟨hl,hlo,part_ok hlo hc .all hv⟩
   ·exact cuts_ok hc s (List.mem_of_mem_drop h)
 ·exact hc
theorem cutsV_dr{l:LnQ}{c:CellQ}{k:Nat}{s:FrQ}(h:c[k]? =some s):cutsV l (c.drop k)=if s.l.cutB s.v l then⟨s.l,s.l.cutV s.v l⟩::cutsV l (c.drop (k+1)) else cutsV l (c.drop (k+1)):=by
 rw[drop_getS h];rfl
set_option maxHeartbeats 2000000 in
theorem p_Clip{GB:Gh}{c:CellQ}{l:LnQ}[hl:LB l](hlo:l.ok)(hc:CellOK c)(hn:c.length≤100000):PF GB Tryz.prog 242 [.sl (c.map eFr),eLn l] (.tp [.sl ((clipC c l).map eFr),vB (clipB c l)]):=by
 have hm:=map_len eFr c
 refine fn Tryz.func242 J J Tryz.ntmps242 J J (fun C=>?_)
 refine cl rfl (p_part (c:=c) (l:=l) hlo hc (by omega)) rfl<|?_
 refine bb (fu2:=⟨6⟩) J J J (fun hc22=>?_) (fun hc22=>?_)
 ·
  have hp:partQ c l=none:=by simpa using hc22
  refine cl rfl (p_Place (c:=c) (l:=l) hlo hc (by omega)) rfl<|?_
  exact rz rfl (by unfold clipC clipB;rw[hp];rfl)
 ·
  obtain⟨v,hv⟩: ∃v,partQ c l=some v:=Option.isSome_iff_exists.1 (by simpa using hc22)
  have hvd:ivD (partQ c l)=v:=by rw[hv];rfl
  rw[hvd]
  refine eqF 29 (.d (vI (c.length:Nat))) rfl (by rw[hm]<;>rfl) ?_
  refine gx rfl<|mkc (fu:=⟨8⟩) (c.length+1) J J J<|?_
  refine eqF 33 (.d (vI (c.length:Nat))) rfl (by rw[hm]<;>rfl) ?_
  refine gx rfl<|?_
  refine lp (X:=CellQ×Nat) (fun⟨o,k⟩=>[(34, .d (vI (k:Nat))),(8, .rw 31)]) (fun⟨o,k⟩=>[(31,some (.c 246 17 (o.map eFr) (c.length+1)))]) (fun⟨o,k⟩=>k≤c.length∧o.length≤k∧o++cutsV l (c.drop k)=cutsV l c) (fun⟨o,k⟩=>c.length-k) ([],0) rfl ⟨Nat.zero_le _,Nat.le_refl _,rfl⟩ (fun _=>rfl) (fun⟨o,k⟩ hk=>?_)
  dsimp only at hk⊢
  obtain⟨h1,h2,h3⟩:=hk
  have hmo:=map_len eFr o
  refine br J J J (fun hc35=>?_) (fun hc35=>?_)
  ·
   obtain⟨s,hs0⟩: ∃s,c[k]? =some s:=⟨_,List.getElem?_eq_getElem (by omega)⟩
   have hs:=hc s (List.mem_of_getElem? hs0)
   haveI:=hs.lb
   haveI:=hs.v.lo
   haveI:=hs.v.hi
   refine ix _ rfl (map_getS hs0) rfl<|cl (fu:=⟨0⟩) rfl (p_Cut (l:=s.l) (m:=l) (v:=s.v)) rfl<|?_
   generalize hw:s.l.cutV s.v l=w
   generalize hb:s.l.cutB s.v l=b
   refine gx rfl<|?_
   refine bb J J J (fun hc47=>?_) (fun hc47=>?_)
   ·
    refine rf J J<|apc ((o++[FrQ.mk s.l w]).map eFr) rfl (by rw[List.map_append];rfl) (slOkF [FrQ.mk s.l w]) (by rw[hmo];simp;omega) rfl<|?_
    refine rnE 54 31 rfl ?_
    exact at_ (o++[FrQ.mk s.l w],k+1) (by dsimp only;exact⟨⟨by omega,by simp;omega,by rw[←h3,cutsV_dr hs0,hb,if_pos hc47,hw,List.append_assoc];rfl⟩,(by omega)⟩)
   ·
    exact at_ (o,k+1) (by dsimp only;exact⟨⟨by omega,by omega,by rw[←h3,cutsV_dr hs0,hb,if_neg (by simp[hc47])]⟩,(by omega)⟩)
  ·
   obtain rfl:k=c.length:=by omega
   have ho:o=cutsV l c:=by rw[←h3,List.drop_length];simp[cutsV]
   subst ho
   have hbl:=(bsq_le (angAt (cutsV l c) l) (cutsV l c).length 0 (cutsV l c).length (by omega) (by omega)).2
   refine cL rfl (p_BSF (c:=cutsV l c) (l:=l) (cuts_ok hc) (by omega)) J J<|ro J J<|ci ((insQ (cutsV l c) l v).map eFr) rfl (p_Insert (c:=cutsV l c) (x:=⟨l,v⟩) (i:=bsq (angAt (cutsV l c) l) 0 (cutsV l c).length) (cap:=c.length+1) hbl (by omega) (by omega)) J J<|?_
   refine fzE 68 rfl ?_
   exact rz rfl (by unfold clipC clipB;rw[hv];rfl)
theorem p_Divide{GB:Gh}{c:CellQ}{l:LnQ}[hl:LB l](hlo:l.ok)(hc:CellOK c)(hn:c.length≤100000):PF GB Tryz.prog 200 [.sl (c.map eFr),eLn l] (.tp [.sl ((clipC c l).map eFr), .sl ((clipC c l.rev).map eFr),vB (clipB c l),vB (clipB c l.rev)]):=by
 refine fn Tryz.func200 J J Tryz.ntmps200 J J (fun C=>?_)
 refine cl rfl (p_Clip (c:=c) (l:=l) hlo hc hn) rfl<|cl rfl (p_LRev (l:=l)) rfl<|cl rfl (p_Clip (c:=c) (l:=l.rev) hlo.rev hc hn) rfl<|?_
 exact rz J J
end Go.Sx
end

section
set_option maxRecDepth 100000
namespace Go.Sx
open Go Go.Proofs
def cU:Tr→List DV
 | .leaf b=>[vI 0,vI 0, .v (.pointer none),vI 0,vI 0, .v (.pointer none),vI 0,vI 0, .v (.pointer none), .v (.pointer none), .v (.pointer none), .v (.bool b)]
 | .node l x y=>[vI (fn_ (l.a:Rat)),vI (fd_ (l.a:Rat)),fp_ (l.a:Rat),vI (fn_ (l.b:Rat)),vI (fd_ (l.b:Rat)),fp_ (l.b:Rat),vI (fn_ (l.c:Rat)),vI (fd_ (l.c:Rat)),fp_ (l.c:Rat), .pt (cU x), .pt (cU y), .v (.bool false)]
def eU(t:Tr):DV:= .pt (cU t)
theorem p_Leaf{GB:Gh}{b:Bool}:PF GB Tryz.prog 113 [.v (.bool b)] (eU (.leaf b)):=by
 refine fn Tryz.func113 J J Tryz.ntmps113 J J (fun C=>?_)
 refine fzE 5 rfl ?_
 exact rz J J
theorem p_New{GB:Gh}{l:LnQ}{x y:Tr}:PF GB Tryz.prog 114 [eLn l,eU x,eU y] (eU (.node l x y)):=by
 refine fn Tryz.func114 J J Tryz.ntmps114 J J (fun C=>?_)
 refine fzE 11 rfl ?_
 exact rz J J
theorem p_IsLeafL{GB:Gh}{b:Bool}:PF GB Tryz.prog 72 [eU (.leaf b)] (.v (.bool true)):=by
 refine fn Tryz.func72 J J Tryz.ntmps72 J J (fun C=>?_)
 exact rz J J
theorem p_IsLeafN{GB:Gh}{l:LnQ}{x y:Tr}:PF GB Tryz.prog 72 [eU (.node l x y)] (.v (.bool false)):=by
 refine fn Tryz.func72 J J Tryz.ntmps72 J J (fun C=>?_)
 exact rz J J
theorem p_join_n{GB:Gh}{l l1:LnQ}{x y u:Tr}:PF GB Tryz.prog 201 [eLn l,eU (.node l1 x y),eU u] (eU (.node l (.node l1 x y) u)):=by
 refine fn Tryz.func201 J J Tryz.ntmps201 J J (fun C=>?_)
 refine cl (fu:=⟨0⟩) rfl p_IsLeafN rfl<|knF J J J<|cl rfl p_New rfl<|?_
 exact rz J J
theorem p_join_ln{GB:Gh}{l l1:LnQ}{x y:Tr}{p:Bool}:PF GB Tryz.prog 201 [eLn l,eU (.leaf p),eU (.node l1 x y)] (eU (.node l (.leaf p) (.node l1 x y))):=by
 refine fn Tryz.func201 J J Tryz.ntmps201 J J (fun C=>?_)
 refine cl (fu:=⟨0⟩) rfl p_IsLeafL rfl<|knT J J J<|cl (fu:=⟨1⟩) rfl p_IsLeafN rfl<|knF J J J<|cl rfl p_New rfl<|?_
 exact rz J J
theorem p_join_ll{GB:Gh}{l:LnQ}{p q:Bool}:PF GB Tryz.prog 201 [eLn l,eU (.leaf p),eU (.leaf q)] (eU (Tr.joinQ l (.leaf p) (.leaf q))):=by
 refine fn Tryz.func201 J J Tryz.ntmps201 J J (fun C=>?_)
 refine cl (fu:=⟨0⟩) rfl p_IsLeafL rfl<|knT J J J<|cl (fu:=⟨1⟩) rfl p_IsLeafL rfl<|knT J J J<|?_
 refine bb J J J (fun hc23=>?_) (fun hc23=>?_)
 ·
  exact rz rfl (by rw[show Tr.joinQ l (.leaf p) (.leaf q)= .leaf p by simp[Tr.joinQ,Tr.isLeaf,Tr.code,hc23]];rfl)
 ·
  refine cl rfl p_New rfl<|?_
  exact rz rfl (by rw[show Tr.joinQ l (.leaf p) (.leaf q)= .node l (.leaf p) (.leaf q) by simp[Tr.joinQ,Tr.isLeaf,Tr.code,hc23]];rfl)
theorem p_join{GB:Gh}{l:LnQ}: ∀{x y:Tr},PF GB Tryz.prog 201 [eLn l,eU x,eU y] (eU (Tr.joinQ l x y))
 | .leaf _, .leaf _=>p_join_ll
 | .leaf _, .node .. =>p_join_ln
 | .node ..,_=>p_join_n
theorem p_Depth_leaf{GB:Gh}{b:Bool}:PF GB Tryz.prog 127 [eU (.leaf b)] (vI (Tr.depth (.leaf b):Nat)):=by
 refine fn Tryz.func127 J J Tryz.ntmps127 J J (fun C=>?_)
 refine cl (fu:=⟨0⟩) rfl p_IsLeafL rfl<|?_
 refine kbT 4 rfl ?_
 refine gx rfl<|?_
 exact rz J J
theorem p_Depth_node{GB:Gh}{l:LnQ}{x y:Tr}(hd:(Tr.node l x y).depth≤1000000)(ihx:PF GB Tryz.prog 127 [eU x] (vI (Tr.depth x:Nat)))(ihy:PF GB Tryz.prog 127 [eU y] (vI (Tr.depth y:Nat))):PF GB Tryz.prog 127 [eU (.node l x y)] (vI (Tr.depth (.node l x y):Nat)):=by
 have hdp:(Tr.node l x y).depth=1+max x.depth y.depth:=rfl
 have hdx:=Nat.le_max_left x.depth y.depth
 have hdy:=Nat.le_max_right x.depth y.depth
 refine fn Tryz.func127 J J Tryz.ntmps127 J J (fun C=>?_)
 refine cl (fu:=⟨0⟩) rfl p_IsLeafN rfl<|?_
 refine kbF 4 rfl ?_
 refine gx rfl<|cl rfl ihx rfl<|cl (hv:=by simp only[allP];exact⟨by omega,by kernel_rfl⟩) rfl ihy rfl<|?_
 exact rz rfl (by show DV.v (.int _ _)= .v (.int _ _);congr 2;split<;>omega)
theorem p_Depth{GB:Gh}: ∀{t:Tr},t.depth≤1000000→PF GB Tryz.prog 127 [eU t] (vI (Tr.depth t:Nat))
 | .leaf _,_=>p_Depth_leaf
 | .node l x y,h=>p_Depth_node h (p_Depth (by have:=Nat.le_max_left x.depth y.depth;have:(Tr.node l x y).depth=1+max x.depth y.depth:=rfl;omega)) (p_Depth (by have:=Nat.le_max_right x.depth y.depth;have:(Tr.node l x y).depth=1+max x.depth y.depth:=rfl;omega))
theorem p_Restrict_leaf{GB:Gh}{b:Bool}{c:CellQ}:PF GB Tryz.prog 143 [eU (.leaf b), .sl (c.map eFr)] (eU (Tr.restrict (.leaf b) c)):=by
 refine fn Tryz.func143 J J Tryz.ntmps143 J J (fun C=>?_)
 refine cl (fu:=⟨0⟩) rfl p_IsLeafL rfl<|?_
 refine kbT 10 rfl ?_
 refine gx rfl<|?_
 exact rz J J
theorem p_Restrict_node{GB:Gh}{l:LnQ}{x y:Tr}{c:CellQ}(hl:LB l)(hlo:l.ok)(hc:CellOK c)(hn:c.length+(Tr.node l x y).depth≤100000)(ihx: ∀{c:CellQ},CellOK c→c.length+x.depth≤100000→PF GB Tryz.prog 143 [eU x, .sl (c.map eFr)] (eU (Tr.restrict x c)))(ihy: ∀{c:CellQ},CellOK c→c.length+y.depth≤100000→PF GB Tryz.prog 143 [eU y, .sl (c.map eFr)] (eU (Tr.restrict y c))):PF GB Tryz.prog 143 [eU (.node l x y), .sl (c.map eFr)] (eU (Tr.restrict (.node l x y) c)):=by
 have hdp:(Tr.node l x y).depth=1+max x.depth y.depth:=rfl
 have hdx:=Nat.le_max_left x.depth y.depth
 have hdy:=Nat.le_max_right x.depth y.depth
 have hca:=clipC_len c l
 have hcb:=clipC_len c l.rev
 refine fn Tryz.func143 J J Tryz.ntmps143 J J (fun C=>?_)
 refine cl (fu:=⟨0⟩) rfl p_IsLeafN rfl<|?_
 refine kbF 10 rfl ?_
 refine gx rfl<|cl rfl (p_Divide (c:=c) (l:=l) hlo hc (by omega)) rfl<|?_
 refine bb J J J (fun hc23=>?_) (fun hc23=>?_)
 ·
  refine cl rfl (ihx hc (by omega)) rfl<|?_
  exact rz rfl (by rw[Tr.restrict,if_pos hc23];rfl)
 ·
  refine bb J J J (fun hc32=>?_) (fun hc32=>?_)
  ·
   refine cl rfl (ihy hc (by omega)) rfl<|?_
   exact rz rfl (by rw[Tr.restrict,if_neg (by simp[hc23]),if_pos hc32];rfl)
  ·
   refine cl rfl (ihx (c:=clipC c l) (clip_ok hlo hc) (by omega)) rfl<|cl rfl (ihy (c:=clipC c l.rev) (clip_ok hlo.rev hc) (by omega)) rfl<|cl rfl p_join rfl<|?_
   exact rz rfl (by rw[Tr.restrict,if_neg (by simp[hc23]),if_neg (by simp[hc32])];rfl)
theorem p_Restrict{GB:Gh}: ∀{t:Tr} {c:CellQ},t.all LB→t.all LnQ.ok→CellOK c→c.length+t.depth≤100000→PF GB Tryz.prog 143 [eU t, .sl (c.map eFr)] (eU (Tr.restrict t c))
 | .leaf _,_,_,_,_,_=>p_Restrict_leaf
 | .node l x y,c,hb,ho,hc,hn=>p_Restrict_node hb.1 ho.1 hc hn (fun h1 h2=>p_Restrict hb.2.1 ho.2.1 h1 h2) (fun h1 h2=>p_Restrict hb.2.2 ho.2.2 h1 h2)
theorem p_Reduce{GB:Gh}{t:Tr}(hb:t.all LB)(ho:t.all LnQ.ok)(hd:t.depth≤100000):PF GB Tryz.prog 88 [eU t] (eU (t.restrict [])):=by
 refine fn Tryz.func88 J J Tryz.ntmps88 J J (fun C=>?_)
 refine cl rfl (p_Restrict (t:=t) (c:=[]) hb ho (fun s h=>by cases h) (by simpa using hd)) rfl<|?_
 exact rz J J
def Tr.compl:Tr→Tr
 | .leaf b=> .leaf !b
 | .node l x y=> .node l x.compl y.compl
def Tr.chooseQ(op:Int)(b:Bool)(t:Tr)(c:CellQ):Tr:=
 if op=1∨op=2 then(if b=decide (op=1) then .leaf b else t.restrict c)
 else if op=3∧b=false then .leaf false
 else if b then(t.restrict c).compl else t.restrict c
def Tr.mergeQ(op:Int):Tr→Tr→CellQ→Tr
 | .leaf b,u,c=>u.chooseQ op b c
 | .node l x y,u,c=>if !clipB c l.rev then x.mergeQ op u c else if !clipB c l then y.mergeQ op u c else joinQ l (x.mergeQ op u (clipC c l)) (y.mergeQ op u (clipC c l.rev))
theorem p_Compl_leaf{GB:Gh}{b:Bool}:PF GB Tryz.prog 59 [eU (.leaf b)] (eU (Tr.compl (.leaf b))):=by
 refine fn Tryz.func59 J J Tryz.ntmps59 J J (fun C=>?_)
 refine cl (fu:=⟨0⟩) rfl p_IsLeafL rfl<|?_
 refine kbT 4 rfl ?_
 refine gx rfl<|cl rfl p_Leaf rfl<|?_
 exact rz J J
theorem p_Compl_node{GB:Gh}{l:LnQ}{x y:Tr}(ihx:PF GB Tryz.prog 59 [eU x] (eU (Tr.compl x)))(ihy:PF GB Tryz.prog 59 [eU y] (eU (Tr.compl y))):PF GB Tryz.prog 59 [eU (.node l x y)] (eU (Tr.compl (.node l x y))):=by
 refine fn Tryz.func59 J J Tryz.ntmps59 J J (fun C=>?_)
 refine cl (fu:=⟨0⟩) rfl p_IsLeafN rfl<|?_
 refine kbF 4 rfl ?_
 refine gx rfl<|cl rfl ihx rfl<|cl rfl ihy rfl<|cl rfl (p_New (l:=l) (x:=x.compl) (y:=y.compl)) rfl<|?_
 exact rz J J
theorem p_Compl{GB:Gh}: ∀{t:Tr},PF GB Tryz.prog 59 [eU t] (eU (Tr.compl t))
 | .leaf _=>p_Compl_leaf
 | .node _ _ _=>p_Compl_node p_Compl p_Compl
theorem p_choose{GB:Gh}{op:Int}{b:Bool}{t:Tr}{c:CellQ}(hb:t.all LB)(ho:t.all LnQ.ok)(hc:CellOK c)(hn:c.length+t.depth≤100000):PF GB Tryz.prog 229 [vI op, .v (.bool b),eU t, .sl (c.map eFr)] (eU (t.chooseQ op b c)):=by
 refine fn Tryz.func229 J J Tryz.ntmps229 J J (fun C=>?_)
 refine br J J J (fun hc10=>?_) (fun hc10=>?_)
 ·
  refine br J J J (fun hc10=>?_) (fun hc10=>?_)
  ·
   refine bb J J J (fun hc18=>?_) (fun hc18=>?_)
   ·
    refine cl rfl p_Leaf rfl<|?_
    exact rz rfl (by unfold Tr.chooseQ;simp_all [tupD]<;>omega)
   ·
    refine cl rfl (p_Restrict (by assumption) (by assumption) (by assumption) (by omega)) rfl<|?_
    exact rz rfl (by unfold Tr.chooseQ;simp_all [tupD]<;>omega)
  ·
   refine br J J J (fun hc13=>?_) (fun hc13=>?_)
   ·
    refine bb J J J (fun hc22=>?_) (fun hc22=>?_)
    ·
     refine cl rfl p_Leaf rfl<|?_
     exact rz rfl (by unfold Tr.chooseQ;simp_all [tupD]<;>omega)
    ·
     refine bb J J J (fun hc24=>?_) (fun hc24=>?_)
     ·
      refine cl rfl (p_Restrict (by assumption) (by assumption) (by assumption) (by omega)) rfl<|cl rfl (p_Compl (t:=t.restrict c)) rfl<|?_
      exact rz rfl (by unfold Tr.chooseQ;simp_all [tupD]<;>omega)
     ·
      refine cl rfl (p_Restrict (by assumption) (by assumption) (by assumption) (by omega)) rfl<|?_
      exact rz rfl (by unfold Tr.chooseQ;simp_all [tupD]<;>omega)
   ·
    refine bb J J J (fun hc24=>?_) (fun hc24=>?_)
    ·
     refine cl rfl (p_Restrict (by assumption) (by assumption) (by assumption) (by omega)) rfl<|cl rfl (p_Compl (t:=t.restrict c)) rfl<|?_
     exact rz rfl (by unfold Tr.chooseQ;simp_all [tupD]<;>omega)
    ·
     refine cl rfl (p_Restrict (by assumption) (by assumption) (by assumption) (by omega)) rfl<|?_
     exact rz rfl (by unfold Tr.chooseQ;simp_all [tupD]<;>omega)
 ·
  refine br J J J (fun hc10=>?_) (fun hc10=>?_)
  ·
   refine bb J J J (fun hc18=>?_) (fun hc18=>?_)
   ·
    refine cl rfl p_Leaf rfl<|?_
    exact rz rfl (by unfold Tr.chooseQ;simp_all [tupD]<;>omega)
   ·
    refine cl rfl (p_Restrict (by assumption) (by assumption) (by assumption) (by omega)) rfl<|?_
    exact rz rfl (by unfold Tr.chooseQ;simp_all [tupD]<;>omega)
  ·
   refine br J J J (fun hc13=>?_) (fun hc13=>?_)
   ·
    refine bb J J J (fun hc22=>?_) (fun hc22=>?_)
    ·
     refine cl rfl p_Leaf rfl<|?_
     exact rz rfl (by unfold Tr.chooseQ;simp_all [tupD]<;>omega)
    ·
     refine bb J J J (fun hc24=>?_) (fun hc24=>?_)
     ·
      refine cl rfl (p_Restrict (by assumption) (by assumption) (by assumption) (by omega)) rfl<|cl rfl (p_Compl (t:=t.restrict c)) rfl<|?_
      exact rz rfl (by unfold Tr.chooseQ;simp_all [tupD]<;>omega)
     ·
      refine cl rfl (p_Restrict (by assumption) (by assumption) (by assumption) (by omega)) rfl<|?_
      exact rz rfl (by unfold Tr.chooseQ;simp_all [tupD]<;>omega)
   ·
    refine bb J J J (fun hc24=>?_) (fun hc24=>?_)
    ·
     refine cl rfl (p_Restrict (by assumption) (by assumption) (by assumption) (by omega)) rfl<|cl rfl (p_Compl (t:=t.restrict c)) rfl<|?_
     exact rz rfl (by unfold Tr.chooseQ;simp_all [tupD]<;>omega)
    ·
     refine cl rfl (p_Restrict (by assumption) (by assumption) (by assumption) (by omega)) rfl<|?_
     exact rz rfl (by unfold Tr.chooseQ;simp_all [tupD]<;>omega)
theorem p_Merge_leaf{GB:Gh}{b:Bool}{op:Int}{u:Tr}{c:CellQ}(hbu:u.all LB)(hou:u.all LnQ.ok)(hc:CellOK c)(hn:c.length+u.depth≤100000):PF GB Tryz.prog 178 [vI op,eU (.leaf b),eU u, .sl (c.map eFr)] (eU (Tr.mergeQ op (.leaf b) u c)):=by
 refine fn Tryz.func178 J J Tryz.ntmps178 J J (fun C=>?_)
 refine cl (fu:=⟨0⟩) rfl p_IsLeafL rfl<|?_
 refine kbT 14 rfl ?_
 refine gx rfl<|cl rfl (p_choose (t:=u) hbu hou hc hn) rfl<|?_
 exact rz J J
theorem p_Merge_node{GB:Gh}{l:LnQ}{x y:Tr}{op:Int}{u:Tr}{c:CellQ}(hl:LB l)(hlo:l.ok)(hc:CellOK c)(hn:c.length+(Tr.node l x y).depth+u.depth≤100000)(ihx: ∀{c:CellQ},CellOK c→c.length+x.depth+u.depth≤100000→PF GB Tryz.prog 178 [vI op,eU x,eU u, .sl (c.map eFr)] (eU (Tr.mergeQ op x u c)))(ihy: ∀{c:CellQ},CellOK c→c.length+y.depth+u.depth≤100000→PF GB Tryz.prog 178 [vI op,eU y,eU u, .sl (c.map eFr)] (eU (Tr.mergeQ op y u c))):PF GB Tryz.prog 178 [vI op,eU (.node l x y),eU u, .sl (c.map eFr)] (eU (Tr.mergeQ op (.node l x y) u c)):=by
 have hdp:(Tr.node l x y).depth=1+max x.depth y.depth:=rfl
 have hdx:=Nat.le_max_left x.depth y.depth
 have hdy:=Nat.le_max_right x.depth y.depth
 have hca:=clipC_len c l
 have hcb:=clipC_len c l.rev
 refine fn Tryz.func178 J J Tryz.ntmps178 J J (fun C=>?_)
 refine cl (fu:=⟨0⟩) rfl p_IsLeafN rfl<|?_
 refine kbF 14 rfl ?_
 refine gx rfl<|cl rfl (p_Divide (c:=c) (l:=l) hlo hc (by omega)) rfl<|?_
 refine bb J J J (fun hc34=>?_) (fun hc34=>?_)
 ·
  refine cl rfl (ihx hc (by omega)) rfl<|?_
  exact rz rfl (by rw[Tr.mergeQ,if_pos hc34];rfl)
 ·
  refine bb J J J (fun hc45=>?_) (fun hc45=>?_)
  ·
   refine cl rfl (ihy hc (by omega)) rfl<|?_
   exact rz rfl (by rw[Tr.mergeQ,if_neg (by simp[hc34]),if_pos hc45];rfl)
  ·
   refine cl rfl (ihx (c:=clipC c l) (clip_ok hlo hc) (by omega)) rfl<|cl rfl (ihy (c:=clipC c l.rev) (clip_ok hlo.rev hc) (by omega)) rfl<|cl rfl p_join rfl<|?_
   exact rz rfl (by rw[Tr.mergeQ,if_neg (by simp[hc34]),if_neg (by simp[hc45])];rfl)
theorem p_Merge{GB:Gh}{op:Int}{u:Tr}(hbu:u.all LB)(hou:u.all LnQ.ok): ∀{t:Tr} {c:CellQ},t.all LB→t.all LnQ.ok→CellOK c→c.length+t.depth+u.depth≤100000→PF GB Tryz.prog 178 [vI op,eU t,eU u, .sl (c.map eFr)] (eU (Tr.mergeQ op t u c))
 | .leaf _,_,_,_,hc,hn=>p_Merge_leaf hbu hou hc (by simp only[Tr.depth] at hn;omega)
 | .node l x y,c,hb,ho,hc,hn=>p_Merge_node hb.1 ho.1 hc hn (fun h1 h2=>p_Merge hbu hou hb.2.1 ho.2.1 h1 h2) (fun h1 h2=>p_Merge hbu hou hb.2.2 ho.2.2 h1 h2)
end Go.Sx
end

section
set_option maxRecDepth 100000
namespace Go.Sx
open Go Go.Proofs
def lnZ:DV:= .ag [vI 0,vI 0, .v (.pointer none),vI 0,vI 0, .v (.pointer none),vI 0,vI 0, .v (.pointer none)]
def lnR:Option LnQ→DV
 |some l=> .tp [eLn l,vB true]
 |none=> .tp [lnZ,vB false]
theorem gcd3'{l:LnQ}(h: ¬l.ok)(hz: ¬(l.a=0∧l.b=0)):decide (rgcd (rgcd (l.a:Rat) (l.b:Rat)) (l.c:Rat)=((1:Int):Rat))=false:=by
 rw[rgcd_int,rgcd_int]
 refine decide_eq_false fun e=>h ⟨hz,?_⟩
 simp only[Int.natAbs_natCast] at e
 have:=Rat.intCast_inj.1 e
 omega
theorem p_LnOfN1{GB:Gh}{l:LnQ}[hl:LB l](ha:l.a=0)(hb:l.b=0):PF GB Tryz.prog 177 [eL l] (lnR none):=by
 refine fn Tryz.func177 J J Tryz.ntmps177 J J (fun C=>?_)
 refine cl (fu:=⟨0⟩) rfl (p_INormal' (m:=l.a)) rfl<|knF J J J<|cl (fu:=⟨0⟩) rfl (p_INormal' (m:=l.b)) rfl<|knF J J J<|cl (fu:=⟨0⟩) rfl (p_INormal' (m:=l.c)) rfl<|?_
 refine knF J J J<|cl rfl (p_Whole (m:=l.a)) rfl<|cl rfl (p_Whole (m:=l.b)) rfl<|cl rfl (p_Whole (m:=l.c)) rfl<|cl (fu:=⟨0⟩) rfl (p_Zero (q:=(l.a:Rat))) rfl<|?_
 refine knT rfl (by show some (decide _)=some true;rw[ha];rfl) rfl<|cl (fu:=⟨0⟩) rfl (p_Zero (q:=(l.b:Rat))) rfl<|knT rfl (by show some (decide _)=some true;rw[hb];rfl) rfl<|?_
 exact rz J J
theorem p_LnOfN2{GB:Gh}{l:LnQ}[hl:LB l](hz: ¬(l.a=0∧l.b=0))(ho: ¬l.ok):PF GB Tryz.prog 177 [eL l] (lnR none):=by
 refine fn Tryz.func177 J J Tryz.ntmps177 J J (fun C=>?_)
 refine cl (fu:=⟨0⟩) rfl (p_INormal' (m:=l.a)) rfl<|knF J J J<|cl (fu:=⟨0⟩) rfl (p_INormal' (m:=l.b)) rfl<|knF J J J<|cl (fu:=⟨0⟩) rfl (p_INormal' (m:=l.c)) rfl<|?_
 refine knF J J J<|cl rfl (p_Whole (m:=l.a)) rfl<|cl rfl (p_Whole (m:=l.b)) rfl<|cl rfl (p_Whole (m:=l.c)) rfl<|cl (fu:=⟨0⟩) rfl (p_Zero (q:=(l.a:Rat))) rfl<|?_
 refine csS (fu2:=⟨4⟩) J J J J (fun hg35=>?_) (fun hg35=>?_)
 ·
  have ha:l.a=0:=Rat.intCast_eq_zero_iff.1 hg35
  refine cl (fu:=⟨1⟩) rfl (p_Zero (q:=(l.b:Rat))) rfl<|knF rfl (by first|rfl|(show some (decide _)=some false;rw[decide_eq_false (fun e=>hz ⟨ha,Rat.intCast_eq_zero_iff.1 e⟩)])) rfl<|?_
  refine cl rfl (p_FGcd (p:=(l.a:Rat)) (q:=(l.b:Rat))) rfl<|cl rfl (p_FGcd (p:=rgcd l.a l.b) (q:=(l.c:Rat))) rfl<|cl rfl (p_Int (m:=1) (by decide)) rfl<|?_
  refine cl (fu:=⟨0⟩) rfl (p_FEqual (p:=rgcd (rgcd l.a l.b) l.c) (q:=((1:Int):Rat))) rfl<|knT rfl (by show some (!decide _)=some true;rw[gcd3' ho hz];rfl) rfl<|?_
  exact rz J J
 ·
  refine knF rfl (by first|rfl|(show some (decide _)=some false;rw[decide_eq_false (fun e=>hz ⟨ha,Rat.intCast_eq_zero_iff.1 e⟩)])) rfl<|cl rfl (p_FGcd (p:=(l.a:Rat)) (q:=(l.b:Rat))) rfl<|?_
  refine cl rfl (p_FGcd (p:=rgcd l.a l.b) (q:=(l.c:Rat))) rfl<|cl rfl (p_Int (m:=1) (by decide)) rfl<|cl (fu:=⟨0⟩) rfl (p_FEqual (p:=rgcd (rgcd l.a l.b) l.c) (q:=((1:Int):Rat))) rfl<|?_
  refine knT rfl (by show some (!decide _)=some true;rw[gcd3' ho hz];rfl) rfl<|?_
  exact rz J J
theorem p_LnOfE{GB:Gh}{l:LnQ}[hl:LB l][Decidable l.ok]:PF GB Tryz.prog 177 [eL l] (lnR (if l.ok then some l else none)):=by
 split
 ·rename_i h;exact p_LnOf h
 ·rename_i h
  by_cases hz:l.a=0∧l.b=0
  ·exact p_LnOfN1 hz.1 hz.2
  ·exact p_LnOfN2 hz h
def NrmI(n:Bool)(ds:List Nat):Prop:=Nrm ds∧(n=true→0<ds.length)
instance (n:Bool) (ds:List Nat):Decidable (NrmI n ds):=inferInstanceAs (Decidable (_∧_))
theorem p_INormalR{GB:Gh}{neg:Bool}{ds:List Nat}(h:DOk ds∧ds.length≤3):PF GB Tryz.prog 224 [.ag [.v (.bool neg),dLi ds]] (vB (decide (NrmI neg ds))):=p_INormal h.1 (by have:=h.2;omega)
structure RL where
 na:Bool
 da:List Nat
 nb:Bool
 db:List Nat
 nc:Bool
 dc:List Nat
def RL.d(r:RL):DV:= .ag [.v (.bool r.na),dLi r.da, .v (.bool r.nb),dLi r.db, .v (.bool r.nc),dLi r.dc]
def ivalR(n:Bool)(ds:List Nat):Int:=if n then-(dv ds:Int) else dv ds
def RL.l(r:RL):LnQ:=⟨ivalR r.na r.da,ivalR r.nb r.db,ivalR r.nc r.dc⟩
def RL.nm(r:RL):Prop:=NrmI r.na r.da∧NrmI r.nb r.db∧NrmI r.nc r.dc
instance (l:LnQ):Decidable l.ok:=inferInstanceAs (Decidable (_∧_))
instance (r:RL):Decidable r.nm:=inferInstanceAs (Decidable (_∧_∧_))
def RL.ln(r:RL):Option LnQ:=if r.nm∧r.l.ok then some r.l else none
structure RL.sm (r:RL):Prop where
 a:DOk r.da∧r.da.length≤3
 b:DOk r.db∧r.db.length≤3
 c:DOk r.dc∧r.dc.length≤3
theorem ivalR_abs(n:Bool)(ds:List Nat):(ivalR n ds).natAbs=dv ds:=by unfold ivalR;cases n<;>simp
theorem ivalR_neg{n:Bool}{ds:List Nat}(hd:DOk ds)(h:NrmI n ds):decide (ivalR n ds<0)=n:=by
 unfold ivalR
 cases n with
 |false=>simp
 |true=>
  have h0:0<dv ds:=by
   refine Nat.pos_of_ne_zero fun e=>?_
   have:=dg_dv hd h.1
   rw[e,dg_zero] at this
   have h2:=h.2 rfl
   rw[←this] at h2
   exact absurd h2 (by decide)
  simp only[if_true,decide_eq_true_eq]
  omega
theorem RL.eL{r:RL}(s:r.sm)(h:r.nm):r.d=Go.Sx.eL r.l:=by
 unfold RL.d Go.Sx.eL RL.l
 simp only[ivalR_abs,ivalR_neg s.a.1 h.1,ivalR_neg s.b.1 h.2.1,ivalR_neg s.c.1 h.2.2,dN,dg_dv s.a.1 h.1.1,dg_dv s.b.1 h.2.1.1,dg_dv s.c.1 h.2.2.1]
 rfl
theorem RL.lb{r:RL}(s:r.sm):LB r.l:=by
 have key: ∀(n:Bool) (ds:List Nat),DOk ds∧ds.length≤3→(ivalR n ds).natAbs<2^96:=fun n ds h=>by
  rw[ivalR_abs]
  refine Nat.lt_of_lt_of_le (dv_lt h.1) ?_
  rw[show(2:Nat)^96=4294967296^3 by decide]
  exact Nat.pow_le_pow_right (by decide) h.2
 exact⟨key _ _ s.a,key _ _ s.b,key _ _ s.c⟩
theorem p_LnOfR1{GB:Gh}{r:RL}(s:r.sm)(h: ¬NrmI r.na r.da):PF GB Tryz.prog 177 [r.d] (lnR none):=by
 refine fn Tryz.func177 J J Tryz.ntmps177 J J (fun C=>?_)
 refine cl (fu:=⟨0⟩) rfl (p_INormalR (neg:=r.na) (ds:=r.da) s.a) rfl<|knT rfl (by show some (!decide _)=some true;rw[decide_eq_false h];rfl) rfl<|?_
 exact rz J J
theorem p_LnOfR2{GB:Gh}{r:RL}(s:r.sm)(h1:NrmI r.na r.da)(h: ¬NrmI r.nb r.db):PF GB Tryz.prog 177 [r.d] (lnR none):=by
 refine fn Tryz.func177 J J Tryz.ntmps177 J J (fun C=>?_)
 refine cl (fu:=⟨0⟩) rfl (p_INormalR (neg:=r.na) (ds:=r.da) s.a) rfl<|knF rfl (by show some (!decide _)=some false;rw[decide_eq_true h1];rfl) rfl<|cl (fu:=⟨0⟩) rfl (p_INormalR (neg:=r.nb) (ds:=r.db) s.b) rfl<|?_
 refine knT rfl (by show some (!decide _)=some true;rw[decide_eq_false h];rfl) rfl<|?_
 exact rz J J
theorem p_LnOfR3{GB:Gh}{r:RL}(s:r.sm)(h1:NrmI r.na r.da)(h2:NrmI r.nb r.db)(h: ¬NrmI r.nc r.dc):PF GB Tryz.prog 177 [r.d] (lnR none):=by
 refine fn Tryz.func177 J J Tryz.ntmps177 J J (fun C=>?_)
 refine cl (fu:=⟨0⟩) rfl (p_INormalR (neg:=r.na) (ds:=r.da) s.a) rfl<|knF rfl (by show some (!decide _)=some false;rw[decide_eq_true h1];rfl) rfl<|cl (fu:=⟨0⟩) rfl (p_INormalR (neg:=r.nb) (ds:=r.db) s.b) rfl<|?_
 refine knF rfl (by show some (!decide _)=some false;rw[decide_eq_true h2];rfl) rfl<|cl (fu:=⟨0⟩) rfl (p_INormalR (neg:=r.nc) (ds:=r.dc) s.c) rfl<|knT rfl (by show some (!decide _)=some true;rw[decide_eq_false h];rfl) rfl<|?_
 exact rz J J
theorem p_LnOfR{GB:Gh}{r:RL}(s:r.sm):PF GB Tryz.prog 177 [r.d] (lnR r.ln):=by
 by_cases h1:NrmI r.na r.da
 ·by_cases h2:NrmI r.nb r.db
  ·by_cases h3:NrmI r.nc r.dc
   ·haveI:=RL.lb s
    rw[RL.eL s ⟨h1,h2,h3⟩,show r.ln=if r.l.ok then some r.l else none by unfold RL.ln;simp[show r.nm from⟨h1,h2,h3⟩]]
    exact p_LnOfE
   ·rw[show r.ln=none from if_neg fun e=>h3 e.1.2.2]
    exact p_LnOfR3 s h1 h2 h3
  ·rw[show r.ln=none from if_neg fun e=>h2 e.1.2.1]
   exact p_LnOfR2 s h1 h2
 ·rw[show r.ln=none from if_neg fun e=>h1 e.1.1]
  exact p_LnOfR1 s h1
end Go.Sx
end
