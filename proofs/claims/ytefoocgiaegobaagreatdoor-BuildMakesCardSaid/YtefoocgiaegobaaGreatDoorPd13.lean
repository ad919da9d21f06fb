import Derived.Test.YtefoocgiaegobaaGreatDoorPd12
import Derived.RecoverIn
set_option linter.all false
set_option maxHeartbeats 4000000
set_option maxRecDepth 100000
section
namespace Go.Sx
open Go Go.Proofs Tryz
variable {GB:Gh}
def eB(l:aa):DV:= .ag [vI (dm (l.a:Rat)),vI (dq (l.a:Rat)),c8 (l.a:Rat),vI (dm (l.b:Rat)),vI (dq (l.b:Rat)),c8 (l.b:Rat),vI (dm (l.c:Rat)),vI (dq (l.c:Rat)),c8 (l.c:Rat)]
def eZ(p:ab):DV:= .ag [vI (dm p.x),vI (dq p.x),c8 p.x,vI (dm p.y),vI (dq p.y),c8 p.y]
def eW(v:aj):DV:= .ag [vI (dm v.lo),vI (dq v.lo),c8 v.lo,vI (dm v.hi),vI (dq v.hi),c8 v.hi, .v (.bool v.nl), .v (.bool v.nh)]
def BX{G:Gh}{t:List DV}{vs:List Value}(h:IsLs G (vI 0::vI 0:: .v (.pointer none)::t) vs):IsLs G (vI (dm 0)::vI (dq 0)::c8 0::t) vs:=by
 obtain⟨y1,l1,rfl,k1,g1⟩:=bt.1 h;obtain⟨y2,l2,rfl,k2,g2⟩:=bt.1 g1;obtain⟨y3,l3,rfl,k3,g3⟩:=bt.1 g2;have e:decide (eH 0)=false:=decide_eq_false fun h=>Ia h J;exact .cons k1 (.cons k2 (.cons (q6.2 (.inl ⟨e,bc.1 k3⟩)) g3))
def FN{G:Gh}(a:List DV){t:List DV}{vs:List Value}(h:IsLs G (a++vI 0::vI 0:: .v (.pointer none)::t) vs):IsLs G (a++vI (dm 0)::vI (dq 0)::c8 0::t) vs:=by
 obtain⟨x,y,rfl,h1,h2⟩:=h.unapp;exact h1.app (BX h2)
def Zs(G:Gh)(y:Value)(k:Is G (.ag [vI 0,vI 0, .v (.pointer none),vI 0,vI 0, .v (.pointer none), .v (.bool true), .v (.bool true)]) y):Is G (eW aj.all) y:=by
 obtain⟨l,rfl,g⟩:=dG.1 k;exact dG.2 ⟨l,J,BX (FN [vI 0,vI 0, .v (.pointer none)] g)⟩
def nD:List Int->Int
 |[]=>0
 |a::t=>if a≠0 then a else nD t
theorem aI.nor(l:aa)[LB l]:aI l.nor 97:=⟨inferInstanceAs (BQ (l.a:Rat) 97),inferInstanceAs (BQ (l.b:Rat) 97)⟩
attribute [instance] aI.nor
instance aI.scale (p:ab) (c:Rat) (i k:Nat) [aI p i] [BQ c k]:aI (p.scale c) (i+k):=⟨inferInstanceAs (BQ (p.x*c) _),inferInstanceAs (BQ (p.y*c) _)⟩
instance aI.add (p q:ab) (i j:Nat) [aI p i] [aI q j]:aI (p.add q) (i+j+1):=⟨inferInstanceAs (BQ (p.x+q.x) _),inferInstanceAs (BQ (p.y+q.y) _)⟩
instance LB.revA (l:aa) [h:LB l]:LB l.rev:=⟨⟨by rw[show l.rev.a= -l.a from J,kJ];exact h.bl.a,by rw[show l.rev.b= -l.b from J,kJ];exact h.bl.b,by rw[show l.rev.c= -l.c from J,kJ];exact h.bl.c⟩⟩
def YC:PF GB prog 351 [] (eW aj.all):=by
 refine fn func351 J J ntmps351 J J (fun C=>?_);exact iB J Zs
def y4{l:aa}:PF GB prog 321 [eB l] (eZ l.nor):=by
 refine fn func321 J J ntmps321 J J (fun C=>?_);exact rz J J
def vY{l:aa}[hl:LB l]:PF GB prog 258 [eB l] (eZ l.dir):=by
 refine fn func258 J J ntmps258 J J (fun C=>?_);refine cl J (o9 (q:=(l.a:Rat))) J<|?_;exact rz J J
def ui{p q:ab}{i j:Nat}[hp:aI p i][hq:aI q j](hi:i<=40000000:=by decide)(hj:j<=40000000:=by decide):PF GB prog 244 [eZ p,eZ q] (eF (p.dot q)):=by
 refine fn func244 J J ntmps244 J J (fun C=>?_);refine cl J (rA (p:=p.x) (q:=q.x) (by omega) (by omega)) J<|cl J (rA (p:=p.y) (q:=q.y) (by omega) (by omega)) J<|cl J (rk (p:=p.x*q.x) (q:=p.y*q.y) (by omega) (by omega)) J<|?_;exact rz J J
def V6{p q:ab}{i j:Nat}[hp:aI p i][hq:aI q j](hi:i<=40000000:=by decide)(hj:j<=40000000:=by decide):PF GB prog 298 [eZ p,eZ q] (eF (p.cross q)):=by
 refine fn func298 J J ntmps298 J J (fun C=>?_);refine cl J (rA (p:=p.x) (q:=q.y) (by omega) (by omega)) J<|cl J (rA (p:=p.y) (q:=q.x) (by omega) (by omega)) J<|cl J (sk (p:=p.x*q.y) (q:=p.y*q.x) (by omega) (by omega)) J<|?_;exact rz J J
def F9{p:ab}{c:Rat}{i j:Nat}[hp:aI p i][hc:BQ c j](hi:i<=40000000:=by decide)(hj:j<=40000000:=by decide):PF GB prog 126 [eZ p,eF c] (eZ (p.scale c)):=by
 refine fn func126 J J ntmps126 J J (fun C=>?_);refine cl J (rA (p:=p.x) (q:=c) (by omega) (by omega)) J<|cl J (rA (p:=p.y) (q:=c) (by omega) (by omega)) J<|?_;exact rz J J
def Ku{p q:ab}{i j:Nat}[hp:aI p i][hq:aI q j](hi:i<=40000000:=by decide)(hj:j<=40000000:=by decide):PF GB prog 206 [eZ p,eZ q] (eZ (p.add q)):=by
 refine fn func206 J J ntmps206 J J (fun C=>?_);refine cl J (rk (by omega) (by omega)) J<|cl J (rk (by omega) (by omega)) J<|?_;exact rz J J
def Jy{l:aa}[hl:LB l]:PF GB prog 352 [eB l] (eZ l.base):=by
 refine fn func352 J J ntmps352 J J (fun C=>?_);refine cl J y4 J<|cl J (o9 (q:=(l.c:Rat))) J<|cl J (ui (p:=l.nor) (q:=l.nor)) J<|cl J (wZ (p:= -(l.c:Rat)) (q:=l.nor.dot l.nor)) J<|?_;refine cl J (F9 (p:=l.nor)) J<|?_;exact rz J J
def Ds{l:aa}{p:ab}{i:Nat}[hl:LB l][hp:aI p i](hi:i<=10000000:=by decide):PF GB prog 347 [eB l,eZ p] (eF (l.value p)):=by
 refine fn func347 J J ntmps347 J J (fun C=>?_);refine cl J (y4 (l:=l)) J<|cl J (ui (p:=l.nor) (q:=p) (by omega) (by omega)) J<|cl J (rk (p:=l.nor.dot p) (q:=(l.c:Rat)) (by omega) (by omega)) J<|?_;exact rz J J
def Fj{l:aa}{p:ab}{i:Nat}[hl:LB l][hp:aI p i](hi:i<=10000000:=by decide):PF GB prog 259 [eB l,eZ p] (vI (l.value p).num.sign):=by
 refine fn func259 J J ntmps259 J J (fun C=>?_);refine cl J (Ds (l:=l) (p:=p) hi) J<|cl J (nj (q:=l.value p) (by omega)) J<|?_;exact rz J J
def CC{l:aa}{t:Rat}{i:Nat}[hl:LB l][ht:BQ t i](hi:i<=10000000:=by decide):PF GB prog 345 [eB l,eF t] (eZ (l.at t)):=by
 refine fn func345 J J ntmps345 J J (fun C=>?_);refine cl J (Jy (l:=l)) J<|cl J (vY (l:=l)) J<|cl J (F9 (p:=l.dir) (c:=t) (by omega) (by omega)) J<|cl J (Ku (p:=l.base) (q:=l.dir.scale t) (by omega) (by omega)) J<|?_;exact rz J J
def UC{v:aj}{i j:Nat}[h1:BQ v.lo i][h2:BQ v.hi j](hi:i<=40000000:=by decide)(hj:j<=40000000:=by decide):PF GB prog 381 [eW v] (vB v.empty):=by
 refine fn func381 J J ntmps381 J J (fun C=>?_);refine jv 6 J J J (fun hg6=>?_) (fun hg6=>?_)
 .
  refine jv 11 J J J (fun hg11=>?_) (fun hg11=>?_)
  .
   refine cl J (pz (p:=v.lo) (q:=v.hi) (by omega) (by omega)) J<|?_;exact rz J (by unfold aj.empty;simp_all [vB,iq])
  .
   exact rz J (by unfold aj.empty;simp_all [vB,iq])
 .
  exact rz J (by unfold aj.empty;simp_all [vB,iq])
instance aj.meet_lo (v w:aj) (i j:Nat) [h1:BQ v.lo i] [h3:BQ w.lo j]:BQ (v.meet w).lo (i+j):=by
 have a:=h1.mono (pU i j);have b:=h3.mono (Nat.le_add_left j i);unfold aj.meet;dsimp only;(repeat' split)<;>assumption
instance aj.meet_hi (v w:aj) (i j:Nat) [h1:BQ v.hi i] [h3:BQ w.hi j]:BQ (v.meet w).hi (i+j):=by
 have a:=h1.mono (pU i j);have b:=h3.mono (Nat.le_add_left j i);unfold aj.meet;dsimp only;(repeat' split)<;>assumption
def PK{v w:aj}{i j:Nat}[h1:BQ v.lo i][h2:BQ v.hi i][h3:BQ w.lo j][h4:BQ w.hi j](hi:i<=10000000:=by decide)(hj:j<=10000000:=by decide):PF GB prog 353 [eW v,eW w] (.tp [eW (v.meet w),vB (!(v.meet w).empty)]):=by
 refine fn (fu:=⟨16⟩) func353 J J ntmps353 J J (fun C=>?_);refine mg (fu:=⟨1⟩) (X:=Unit) (fun _=>[(6, .ov 6 0)]) (fun _=>[(6,some (.o 220 [.d (vI (dm (v.meet w).lo)), .d (vI (dq (v.meet w).lo)), .d (c8 (v.meet w).lo), .d (vI (dm v.hi)), .d (vI (dq v.hi)), .d (c8 v.hi), .d (.v (.bool (v.nl&&w.nl))), .d (.v (.bool (v.nh)))] true))]) (fun _=>True) [6] [6] rfl ?_ (fun _=>J) (fun _ _=>?_)
 .
  refine gx J<|?_;refine bb (v1:=fun hc8=>by simp only[ah];kernel_rfl) J J J (fun hc8=>?_) (fun hc8=>?_)
  .
   have em:(v.meet w).lo=w.lo:=by unfold aj.meet;simp_all
   have eb:(v.nl&&w.nl)=w.nl:=by simp_all
   exact at_ () trivial (hO:=⟨by rw[em,eb]<;>rfl,by repeat (first|exact trivial|refine And.intro J ?_)⟩)
  .
   refine bb J J J (fun hc17=>?_) (fun hc17=>?_)
   .
    refine cl J (Vl (p:=v.lo) (q:=w.lo) (by omega) (by omega)) J<|?_;have em:(v.meet w).lo=(if v.lo<w.lo then w.lo else v.lo):=by unfold aj.meet;simp_all
    have eb:(v.nl&&w.nl)=v.nl:=by simp_all
    exact at_ () trivial (hO:=⟨by rw[em,eb]<;>rfl,by repeat (first|exact trivial|refine And.intro J ?_)⟩)
   .
    have em:(v.meet w).lo=v.lo:=by unfold aj.meet;simp_all
    have eb:(v.nl&&w.nl)=v.nl:=by simp_all
    exact at_ () trivial (hO:=⟨by rw[em,eb]<;>rfl,by repeat (first|exact trivial|refine And.intro J ?_)⟩)
 .
  refine mg (X:=Unit) (fun _=>[(6, .ov 6 0)]) (fun _=>[(6,some (.o 220 [.d (vI (dm (v.meet w).lo)), .d (vI (dq (v.meet w).lo)), .d (c8 (v.meet w).lo), .d (vI (dm (v.meet w).hi)), .d (vI (dq (v.meet w).hi)), .d (c8 (v.meet w).hi), .d (.v (.bool (v.nl&&w.nl))), .d (.v (.bool (v.nh&&w.nh)))] true))]) (fun _=>True) [6] [6] rfl ?_ (fun _=>J) (fun _ _=>?_)
  .
   refine gx J<|?_;refine bb (v1:=fun hc27=>by simp only[ah];kernel_rfl) J J J (fun hc27=>?_) (fun hc27=>?_)
   .
    have em:(v.meet w).hi=w.hi:=by unfold aj.meet;simp_all
    have eb:(v.nh&&w.nh)=w.nh:=by simp_all
    exact at_ () trivial (hO:=⟨by rw[em,eb]<;>rfl,by repeat (first|exact trivial|refine And.intro J ?_)⟩)
   .
    refine bb J J J (fun hc36=>?_) (fun hc36=>?_)
    .
     refine cl J (Me (p:=v.hi) (q:=w.hi) (by omega) (by omega)) J<|?_;have em:(v.meet w).hi=(if w.hi<v.hi then w.hi else v.hi):=by unfold aj.meet;simp_all
     have eb:(v.nh&&w.nh)=v.nh:=by simp_all
     exact at_ () trivial (hO:=⟨by rw[em,eb]<;>rfl,by repeat (first|exact trivial|refine And.intro J ?_)⟩)
    .
     have em:(v.meet w).hi=v.hi:=by unfold aj.meet;simp_all
     have eb:(v.nh&&w.nh)=v.nh:=by simp_all
     exact at_ () trivial (hO:=⟨by rw[em,eb]<;>rfl,by repeat (first|exact trivial|refine And.intro J ?_)⟩)
  .
   refine cl J (UC (v:=v.meet w) (i:=i+j) (j:=i+j) (by omega) (by omega)) J<|?_;exact rz J J
theorem BQ.z1:BQ (0:Rat) 1:=⟨by decide,by decide⟩
def RE{v:aj}{t:Rat}{i j:Nat}[h1:BQ v.lo i][h2:BQ v.hi i][h3:BQ t j](hi:i<=10000000:=by decide)(hj:j<=9999999:=by decide):PF GB prog 353 [eW v, .ag [vI (dm t),vI (dq t),c8 t,vI 0,vI 0, .v (.pointer none), .v (.bool false), .v (.bool true)]] (.tp [eW (v.meet ⟨t,0,false,true⟩),vB (!(v.meet ⟨t,0,false,true⟩).empty)]):=
 (PK (v:=v) (w:=⟨t,0,false,true⟩) (j:=j+1) (h3:=h3.mono (by omega)) (h4:=BQ.z1.mono (by omega)) hi (by omega)).ofI fun G vs hv=>GV (fun y hy=>by
  obtain⟨l,rfl,g⟩:=dG.1 hy;exact dG.2 ⟨l,J,FN [_,_,_] g⟩) hv
def XW{v:aj}{t:Rat}{i j:Nat}[h1:BQ v.lo i][h2:BQ v.hi i][h3:BQ t j](hi:i<=10000000:=by decide)(hj:j<=9999999:=by decide):PF GB prog 353 [eW v, .ag [vI 0,vI 0, .v (.pointer none),vI (dm t),vI (dq t),c8 t, .v (.bool true), .v (.bool false)]] (.tp [eW (v.meet ⟨0,t,true,false⟩),vB (!(v.meet ⟨0,t,true,false⟩).empty)]):=
 (PK (v:=v) (w:=⟨0,t,true,false⟩) (j:=j+1) (h4:=h3.mono (by omega)) (h3:=BQ.z1.mono (by omega)) hi (by omega)).ofI fun G vs hv=>GV (fun y hy=>by
  obtain⟨l,rfl,g⟩:=dG.1 hy;exact dG.2 ⟨l,J,BX g⟩) hv
instance BQ.cutK (l m:aa) [LB l] [LB m]:BQ (l.cutK m) 400:=BQ.mono (inferInstance:BQ (m.nor.dot l.dir) _) (by decide)
instance BQ.cutC (l m:aa) [LB l] [LB m]:BQ (l.cutC m) 2500:=BQ.mono (inferInstance:BQ (m.value l.base) _) (by decide)
def Ak{l m:aa}{v:aj}{i:Nat}[hl:LB l][hm:LB m][h1:BQ v.lo i][h2:BQ v.hi i](hi:i<=10000000:=by decide):PF GB prog 276 [eB l,eW v,eB m] (.tp [eW (l.cutV v m),vB (l.cutB v m)]):=by
 refine fn func276 J J ntmps276 J J (fun C=>?_);refine cl J (y4 (l:=m)) J<|cl J (vY (l:=l)) J<|cl J (ui (p:=m.nor) (q:=l.dir)) J<|cl J (Jy (l:=l)) J<|?_;refine cl J (Ds (l:=m) (p:=l.base)) J<|cl J (nj (q:=l.cutK m)) J<|?_;refine br J J J (fun hc21=>?_) (fun hc21=>?_)
 .
  refine cl J (nj (q:=l.cutC m)) J<|?_;exact rz J (by unfold aa.cutV aa.cutB;rw[if_pos hc21,if_pos hc21];rfl)
 .
  refine br J J J (fun hc27=>?_) (fun hc27=>?_)
  .
   refine cl J (wZ (p:=l.cutC m) (q:=l.cutK m)) J<|cl J (o9 (q:=l.cutC m/l.cutK m)) J<|cl J (RE (v:=v) (t:= -(l.cutC m/l.cutK m)) hi) J<|?_;exact rz J (by unfold aa.cutB aa.cutV;rw[if_neg hc21,if_neg hc21,if_pos hc27];rfl)
  .
   refine cl J (wZ (p:=l.cutC m) (q:=l.cutK m)) J<|cl J (o9 (q:=l.cutC m/l.cutK m)) J<|cl J (XW (v:=v) (t:= -(l.cutC m/l.cutK m)) hi) J<|?_;exact rz J (by unfold aa.cutB aa.cutV;rw[if_neg hc21,if_neg hc21,if_neg hc27];rfl)
def Oy{v:aj}{i:Nat}[h1:BQ v.lo i][h2:BQ v.hi i](hi:i<=10000000:=by decide):PF GB prog 346 [eW v] (eF v.sample):=by
 refine fn func346 J J ntmps346 J J (fun C=>?_);refine jv 6 J J J (fun hg6=>?_) (fun hg6=>?_)
 .
  refine bb J J J (fun hc3=>?_) (fun hc3=>?_)
  .
   exact iB J (by unfold aj.sample;rw[hg6,hc3];exact wu)
  .
   refine bb J J J (fun hc11=>?_) (fun hc11=>?_)
   .
    refine cl J (wm (m:=1) (by decide)) J<|cl J (sk (p:=v.hi) (q:=((1:Int):Rat)) (by omega) (by decide)) J<|?_;exact rz J (by unfold aj.sample;simp_all [iq]<;>rfl)
   .
    refine bb J J J (fun hc18=>?_) (fun hc18=>?_)
    .
     refine cl J (wm (m:=1) (by decide)) J<|cl J (rk (p:=v.lo) (q:=((1:Int):Rat)) (by omega) (by decide)) J<|?_;exact rz J (by unfold aj.sample;simp_all [iq]<;>rfl)
    .
     refine cl J (rk (p:=v.lo) (q:=v.hi) (by omega) (by omega)) J<|cl J (Ij (q:=v.lo+v.hi) (by omega)) J<|?_;exact rz J (by unfold aj.sample;simp_all [iq]<;>rfl)
 .
  refine bb J J J (fun hc11=>?_) (fun hc11=>?_)
  .
   refine cl J (wm (m:=1) (by decide)) J<|cl J (sk (p:=v.hi) (q:=((1:Int):Rat)) (by omega) (by decide)) J<|?_;exact rz J (by unfold aj.sample;simp_all [iq]<;>rfl)
  .
   refine bb J J J (fun hc18=>?_) (fun hc18=>?_)
   .
    refine cl J (wm (m:=1) (by decide)) J<|cl J (rk (p:=v.lo) (q:=((1:Int):Rat)) (by omega) (by decide)) J<|?_;exact rz J (by unfold aj.sample;simp_all [iq]<;>rfl)
   .
    refine cl J (rk (p:=v.lo) (q:=v.hi) (by omega) (by omega)) J<|cl J (Ij (q:=v.lo+v.hi) (by omega)) J<|?_;exact rz J (by unfold aj.sample;simp_all [iq]<;>rfl)
def Dh(p q:ab):DV:= .ag [vI (dm p.x),vI (dq p.x),c8 p.x,vI (dm p.y),vI (dq p.y),c8 p.y,vI (dm q.x),vI (dq q.x),c8 q.x,vI (dm q.y),vI (dq q.y),c8 q.y]
def EQ{C:aC}{n:Nat}{Q0:Exit->Act->World->Prop}{fr:aA}{own:aH}{ops:Array Oper}{r:List Oper}{K:List Kt}(k:Nat){l:List DV}(hl:ba fr k=some (.d (.pt l)))(h:av prog GB C n Q0 ((k, .ep l)::fr) own (.ops ops r K)):av prog GB C n Q0 fr own (.ops ops r K):=
 oE hl (fun ρ G y hy=>by
  obtain⟨b,m,rfl,h1,h2⟩:=oC.1 hy;have e:=h2.len;exact⟨b,0,m,m,J,h1,by rw[lg m 0 l.length (by omega),iW,<-e,cM],h2⟩) h
section
variable {GB:Gh} {C:aC} {n:Nat} {Q0:Exit->Act->World->Prop} {fr fr':aA} {own own':aH} {cf cf':Cf} {vc:List Prop} {lk:LK} {bk:BM}
variable {dst:Option Nat} {t t' ty':TypeId} {pos:String} {af:Array Edge} {gd:Option (Nat×Bool)} {x y:Operand}
def aIl(fr:aA)(cf:Cf):Option (List DV):=match b6 fr cf with
 |some ⟨_, .binOp .eql t x (.const (.slice none _ _)) _,_,_,_,_⟩=>match cH tt t with
  |some ⟨.sl _ _ _,_,_,_⟩=>match aO (bu fr cf) x with
   |some (.d (.sl l))=>some l
   |_=>none
  |_=>none
 |_=>none
def PVr(GB:Gh)(P:Program)(f:FuncId)(s off m:Nat)(ty:TypeId)(dsi dso:List DV):Prop:=
 ∀G w b c B,bz GB G->dk G ⟨w,s,ty,dsi,false⟩ B->w.a=some ⟨b,0,none⟩->m<=c->gO P f [.slice (some ⟨b,off*s,none⟩) m c] B G (fun v own' G'=>Is G' (.tp []) v/\dk G' ⟨w,s,ty,dso,false⟩ own')
structure CV where
 f:FuncId
 nm:Nat
 s:Nat
 off:Nat
 m:Nat
 ty:TypeId
 ds:List DV
 lo:Bool
def cvA(fr:aA)(own:aH)(cf:Cf):Option CV:=match b6 fr cf with
 |some ⟨_, .call ⟨.value fo,⟨[x]⟩,_⟩,_,_,_,_⟩=>match aO (bu fr cf) fo with
  |some (.d (.v (.func (.func f) ⟨[]⟩ ⟨[]⟩)))=>match aO (bu fr cf) x with
   |some (.rs nm s off m)=>match f7 fr own cf nm with
    |some (.b ty s' ds lo)=>bif Nat.beq s s' then some ⟨f,nm,s,off,m,ty,ds,lo⟩ else none
    |_=>none
   |_=>none
  |_=>none
 |_=>none
end
section
variable {GB:Gh} {C:aC} {n:Nat} {Q0:Exit->Act->World->Prop} {fr fr':aA} {own own':aH} {cf cf':Cf} {vc:List Prop} {ops:Array Oper} {r:List Oper} {K:List Kt}
def y6(k:Nat){d:DV}(hl:ba fr k=some (.d d))(h: ∀(GB':Gh) (pv:Value),bz GB GB'->Is GB' d pv->av prog GB' C n Q0 ((k, .d (.v pv))::fr) own (.ops ops r K)):av prog GB C n Q0 fr own (.ops ops r K):=by
 refine⟨fun ρ G ov a w r0=>?_⟩;obtain⟨y,hy,hy'⟩:=r0.fx k _ hl;refine(h G y r0.gb hy').run ρ G ov a w ⟨bz.refl _,r0.h,r0.sz,r0.df,fun j f e=>?_,r0.bx,r0.dj,r0.fxd⟩;rw[js] at e;split at e
 ·rename_i hj
  cases e;subst hj
  exact⟨y,hy,(bc (G:=G)).2 J⟩
 ·exact r0.fx j f e
def aHY(fr:aA)(cf:Cf):Option (FuncId×Value):=match b6 fr cf with
 |some ⟨_, .makeFunc (.func f) ⟨[x]⟩ ⟨[]⟩,_,_,_,_⟩=>match aO (bu fr cf) x with
  |some (.d (.v pv))=>some (f,pv)
  |_=>none
 |_=>none
def aIk(fr:aA)(cf:Cf):Option (FuncId×List Value×List DV):=match b6 fr cf with
 |some ⟨_, .call ⟨.value fo,args,_⟩,_,_,_,_⟩=>match aO (bu fr cf) fo,evDs (bu fr cf) args.toList with
  |some (.d (.v (.func (.func f) ⟨c1⟩ ⟨[]⟩))),some ds=>some (f,c1,ds)
  |_,_=>none
 |_=>none
def KS:List (Nat×Operand)->Option (List (Nat×Value))
 |[]=>some []
 |(i, .const v)::t=>match KS t with
  |some l=>some ((i,v)::l)
  |none=>none
 |_::_=>none
def aIj(cf:Cf)(fr:aA):Option (TypeId×List (Nat×Value)):=match b6 fr cf with
 |some ⟨_, .build t ⟨ps⟩,_,_,_,_⟩=>match KS ps with
  |some vs=>some (t,vs)
  |none=>none
 |_=>none
def JG(fr:aA)(own:aH)(cf:Cf):Option (TypeId×Nat×Nat×List FX×Bool×FX):=match b6 fr cf with
 |some ⟨_, .store t x y,_,_,_,_⟩=>match aO (bu fr cf) x with
  |some (.ov nm 0)=>match f7 fr own cf nm with
   |some (.o ty cs lo)=>match aO (bu fr cf) y with
    |some fv=>some (t,nm,ty,cs,lo,fv)
    |_=>none
   |_=>none
  |_=>none
 |_=>none
def MX[fu:Fu]{t nm ty len e:Nat}{cs:List FX}{lo:Bool}{fv:FX}{j:TypeInfo}(h:JG fr own cf=some (t,nm,ty,cs,lo,fv))(hu:prog.underlying t=some (.array len e))(hj:prog.info? t=some j)(hc:fv.okc=true/\fv.cells.length=j.size/\j.size=cs.length)
  (hgo:cE tt n fu.n fr own cf .un [(nm,some (.o ty (tX cs 0 fv.cells) lo))] []=⟨vc,fr',own',cf'⟩)(k:av prog GB C n Q0 fr' own' cf')
  (hv:ah vc:=by first|exact trivial|(simp only[ah];kernel_rfl)|(simp only[ah];omega)):av prog GB C n Q0 fr own cf:=by
 unfold JG at h;split at h<;>try (cases h;done)
 rename_i hh;split at h<;>try (cases h;done)
 rename_i e1;split at h<;>try (cases h;done)
 rename_i hb;split at h<;>cases h;rename_i e2;obtain⟨c1,c2,c3⟩:=hc;have:mC prog t j.size:=⟨fun w=>Ab hu w,fun w=>sA hj w⟩;refine us hh ?_ hgo hv k;intro hd tl tb K s1 s2 hf hk;refine⟨fun ρ G ov a w r Q=>?_⟩;have r1:=r.mono s1 s2;obtain⟨p,h1,h2⟩:=r1.ev e1;obtain⟨q,h3,h4⟩:=r1.ev e2;obtain⟨b,m,rfl,ha,h5,h6⟩:=r1.own h2 hb;obtain⟨h7,h8⟩:=h4.cells c1;obtain⟨own',u1,u2,u3⟩:=ig.of_mem (cs':=cj m 0 (aD q)) h6;exact Cs h1 h3 u1 (by rw[h7.len,c2]) (by rw[h5.len,c3];omega) (eK.2 h8) hd (fun a' w' rl=>r.wrote (m:=m) (s2 _ _ hb) ha (h5.ov h7) u2 u3 hk rl) a w Q ⟨r.h,r.sz,cB a,r.df⟩
def aH2(fr:aA)(cf:Cf):Option Iq:=match b6 fr cf with
 |some ⟨some d, .buildSlice t len parts,_,_,_,_⟩=>match cH tt t with
  |some ⟨.sl e s _,_,_,_⟩=>match t6 (bu fr cf) 0 parts.toList with
   |some ds=>bif AQ s ds&&(Nat.beq parts.toList.length len&&(Nat.ble (len*s) 1000&&Nat.blt 0 (len*s))) then some ⟨d,e,s,ds⟩ else none
   |none=>none
  |_=>none
 |_=>none
def aIi(fr:aA)(cf:Cf):Option (TypeId×List DV):=match b6 fr cf with
 |some ⟨_, .load t x,_,_,_,_⟩=>match aO (bu fr cf) x with
  |some (.ep l)=>some (t,l)
  |_=>none
 |_=>none
def W6:TypeDesc->Bool
 | .struct _=>false
 | .array _ _=>false
 |_=>true
end
section
variable {GB:Gh} {C:aC} {n:Nat} {Q0:Exit->Act->World->Prop} {fr fr':aA} {own own':aH} {cf cf':Cf} {vc:List Prop} {ops:Array Oper} {r:List Oper} {K:List Kt}
def aC.mkD(C:aC)(f:FuncId)(c2:List Value):aC:={C with mks:=[{target:= .fn (.func f) ⟨c2⟩,args:= #[]}]}
def U5{f:FuncId}{c2:List Value}{ov:List ao}{G:Gh}{w:World}(h:bm C ov G w):bm (C.mkD f c2) ov G w:=
 ⟨h.os,h.tape,h.output,h.size,h.keep,h.sub,h.gle,h.gold,h.hown,h.nd,h.dr,h.ext⟩
def WD{f:FuncId}{c2:List Value}{ov:List ao}{G:Gh}{w:World}(h:bm (C.mkD f c2) ov G w):bm C ov G w:=
 ⟨h.os,h.tape,h.output,h.size,h.keep,h.sub,h.gle,h.gold,h.hown,h.nd,h.dr,h.ext⟩
def Hd(P:Program)(fb:Func)(R:Ending->World->Prop):Exit->Act->World->Prop:=bodyPostDIn (FW none) 0 P fb R
def fnD[fu:Fu]{f:FuncId}{fb:Func}{c:Code}{m:Nat}{ds:List DV}{rv:DV}(hf:prog.funcs[f]? =some fb)(hb:fb.body=some c)(hn:(fb.name== "runtime.NumGoroutine")=false)(hm:fb.ntmps=m)(hlen:Nat.ble ds.length m=true)
  (hgo:go tt m fu.n [] (qg 0 ds) [] (.code c [])=⟨vc,fr,own,cf⟩)(k: ∀C:aC,CH C->av prog GB C m (Hd prog fb (jk C (fun v G'=>Is G' rv v))) fr own cf)
  (hv:ah vc:=by first|exact trivial|(simp only[ah];kernel_rfl)|(simp only[ah];omega)):PF GB prog f ds rv:=by
 intro G vs hg hvs;refine⟨⟨fb,hf,hn,by simp[hb]⟩,fun w hw=>?_⟩;have hlen':vs.length<=m:=by rw[hvs.len];simpa using hlen
 have h:=fi (GB:=GB) (C:=kw w G) (Q0:=Hd prog fb (jk (kw w G) (fun v G'=>Is G' rv v))) hgo hv (k (kw w G) ⟨J,J,J⟩);refine(callsIn_wide (n:=0)).1 (callsIn_of_wp_defers (F:=FW none) (n:=0) hf hb trivial ?_);refine h.run (fun _=>⟨none,0,0⟩) G [] _ w ⟨hg,Bt hw,by simp;omega,J,fun k f e=>vq hvs (fun k v hk=>?_) k f e,(fun nm B e=>by cases e),(fun nm nm' B B' e=>by cases e),fun nm p _ _ e=>by cases e⟩;obtain⟨j,rfl,hj⟩:=sI vs 0 k v hk;have hj':=(aM.1 hj).1;rw[jV (by simpa using hj')];simpa using hj
def W1{P:Program}{f:FuncId}{d x y:Nat}{gx gy:FX}{t1 t2:TypeId}{p1 p2:String}{a1 a2:Array Edge}{tys:Array TypeId}(h0:CH C)(hx:ba fr x=some gx)(hy:ba fr y=some gy)(hd:ba fr d=none)(hdn:d<n)
  (k: ∀p q,av P GB (C.mkD f [p,q]) n Q0 fr own (.ops ops r K)):
  av P GB C n Q0 fr own (.ops ops (⟨some d, .makeFunc (.func f) ⟨[]⟩ ⟨[.tmp x, .tmp y]⟩,t1,p1,a1,none⟩::⟨none, .defer ⟨.value (.tmp d),⟨[]⟩,tys⟩,t2,p2,a2,none⟩::r) K):=by
 refine⟨fun ρ G ov a w r0=>?_⟩;obtain⟨v1,hv1,_⟩:=r0.fx x gx hx;obtain⟨v2,hv2,_⟩:=r0.fx y gy hy;have e1:(execOp a.eval ⟨some d, .makeFunc (.func f) ⟨[]⟩ ⟨[.tmp x, .tmp y]⟩,t1,p1,a1,none⟩).run P w= .ok (.value (.func (.func f) ⟨[]⟩ ⟨[v1,v2]⟩)) w:=by
  have q1:a.eval (.tmp x)=v1:=by simp[Act.eval,hv1]
  have q2:a.eval (.tmp y)=v2:=by simp[Act.eval,hv2]
  have:=yp (P:=P) (C:=C) (own:=ov) (G:=G) (fr:=cg a) (dst:=some d) (ty':=t1) (pos:=p1) (af:=a1) (gd:=none) (fn:= .func f) (c1:=⟨[]⟩) (c2:=⟨[.tmp x, .tmp y]⟩) (l1:=[]) (l2:=[a.eval (.tmp x),a.eval (.tmp y)]) J (by
   have w1:aw (cg a) (.tmp x)=some v1:=by
    simp only[aw];exact u6 hv1
   have w2:aw (cg a) (.tmp y)=some v2:=by
    simp only[aw];exact u6 hv2
   simp[nY,w1,w2,q1,q2])
  rw[q1,q2] at this;exact this a w (cB a) r0.h
 have hkk:=(k v1 v2).run ρ G ov {tmps:=a.tmps.setIfInBounds d (.func (.func f) ⟨[]⟩ ⟨[v1,v2]⟩),defers:=[{target:= .fn (.func f) ⟨[v1,v2]⟩,args:= #[]}]} w ⟨r0.gb,U5 r0.h,by simpa using r0.sz,J,fun j g e=>by
   obtain⟨u,h1,h2⟩:=r0.fx j g e;refine⟨u,?_,h2⟩;have hne:d≠j:=fun he=>by rw[<-he,hd] at e;cases e
   rw[Array.getElem?_setIfInBounds_ne hne];exact h1,r0.bx,r0.dj,r0.fxd⟩
 have hrd:C.rd=none:=h0.rd;show wpListIn (FW C.rd) 0 P ops (cQ C.rd P Q0 K) _ a w;have hkk':wpListIn (FW C.rd) 0 P ops (cQ C.rd P Q0 K) r _ w:=hkk;rw[hrd] at hkk'⊢;simp only[wpListIn,Region.wanted,if_true];refine⟨fun _ _=>trivial,?_⟩;rw[show(FW none).round=none from J,Oper.semAt_none,e1];show Oper.wpIn (FW none) 0 P _ _ w _ _;refine⟨fun _ _=>trivial,?_⟩;have hsz:d<a.tmps.size:=by rw[r0.sz];exact hdn
 have e2:(execOp (Act.put a (some d) (.func (.func f) ⟨[]⟩ ⟨[v1,v2]⟩)).eval ⟨none, .defer ⟨.value (.tmp d),⟨[]⟩,tys⟩,t2,p2,a2,none⟩).run P w= .ok (.defer {target:= .fn (.func f) ⟨[v1,v2]⟩,args:= #[]}) w:=by
  have q3:(Act.put a (some d) (.func (.func f) ⟨[]⟩ ⟨[v1,v2]⟩)).eval (.tmp d)= .func (.func f) ⟨[]⟩ ⟨[v1,v2]⟩:=by simp[Act.eval,Act.put,hsz]
  simp[execOp,resolve,q3,Deferred.ofValue,go_sem,hsz]
 rw[show(FW none).round=none from J,Oper.semAt_none,e2];show wpListIn (FW none) 0 P ops (cQ none P Q0 K) r _ w;have hda:a.defers=[]:=by rw[r0.df,h0.mks]
 have:(Act.put ({(Act.put a (some d) (.func (.func f) ⟨[]⟩ ⟨[v1,v2]⟩)) with defers:={target:= .fn (.func f) ⟨[v1,v2]⟩,args:= #[]}::(Act.put a (some d) (.func (.func f) ⟨[]⟩ ⟨[v1,v2]⟩)).defers}) none undef)={tmps:=a.tmps.setIfInBounds d (.func (.func f) ⟨[]⟩ ⟨[v1,v2]⟩),defers:=[{target:= .fn (.func f) ⟨[v1,v2]⟩,args:= #[]}]}:=by
  simp[Act.put,hda]
 rw[this];exact hkk'
def Lj(P:Program)(f:FuncId):Prop:= ∀p q w,CallsDIn (FW none) 0 P f #[p,q] .returning w fun e u' w'=>e= .returned (.tuple #[])/\u'= .returning/\w'=w
def Sq{fb:Func}{e:Exit}{ds:List DV}{rv:DV}{f:FuncId}{p q:Value}(hI:Lj prog f)(hfb:qo prog f)(hr:oH tt fr own fb.results.toList=some ds)(hd:iq ds=rv)(he:yr e=true:=by rfl):av prog GB (C.mkD f [p,q]) n (Hd prog fb (jk C (fun v G'=>Is G' rv v))) fr own (.ex e []):=by
 refine⟨fun ρ G ov a w r=>?_⟩;obtain⟨vs,h1,h2⟩:=Am r hr;have hk:Is G rv (gn vs):=hd▸yy h2;have hres:=rp (C:=C.mkD f [p,q]) (G:=G) (own:=ov) (w:=w) h1 (cB a) r.h;have key:LeavesIn (FW none) 0 prog fb a.tmps (jk C (fun v G'=>Is G' rv v)) a.defers .returning w:=by
  rw[r.df];refine leavesIn_cons (f:=f) (args:= #[p,q]) (by simp) (by simp[FW,Fence.wide]) ?_ (fun _ _=>trivial) ?_
  ·show(callFunc f (#[]++⟨[p,q]⟩)).run prog w=_
   rw[CU hfb];simp
  refine(hI p q w).mono ?_;rintro e u' w' ⟨rfl,rfl,rfl⟩;exact⟨_,hres,_,G,J,(WD r.h).drop (lT _),hk⟩
 cases e with
 |ret=>exact key
 |normal=>exact key
 |_=>cases he
def Lz(fr:aA)(own:aH)(cf:Cf):Option (TypeId×FX):=match b6 fr cf with
 |some ⟨_, .load t x,_,_,_,_⟩=>match aO (bu fr cf) x with
  |some (.ov nm off)=>match f7 fr own cf nm with
   |some (.o _ cs _)=>match cs[off]? with
    |some f=>some (t,f)
    |none=>none
   |_=>none
  |_=>none
 |_=>none
def Ub[fu:Fu]{t:TypeId}{f:FX}{D:TypeDesc}{j:TypeInfo}(h:Lz fr own cf=some (t,f))(hu:prog.underlying t=some D)(hD:W6 D=true)(hj:prog.info? t=some j)(hs:j.size=1)
  (hgo:cE tt n fu.n fr own cf f [] []=⟨vc,fr',own',cf'⟩)(k':av prog GB C n Q0 fr' own' cf')
  (hv:ah vc:=by first|exact trivial|(simp only[ah];kernel_rfl)|(simp only[ah];omega)):av prog GB C n Q0 fr own cf:=by
 unfold Lz at h;split at h<;>try (cases h;done)
 rename_i hh;split at h<;>try (cases h;done)
 rename_i hx;split at h<;>try (cases h;done)
 rename_i hb;split at h<;>cases h;rename_i hc;have:gv prog t:=⟨fun w=>by(rw[Ab hu w];cases D<;>first|rfl|(cases hD;done)),fun w=>by rw[sA hj w,hs]⟩;refine us hh ?_ hgo hv k';refine .yd fun ρ G ov a w r=>?_;obtain⟨y,h1,h2⟩:=r.ev hx;obtain⟨b,m,rfl,h3,h4,h5⟩:=r.own h2 hb;obtain⟨l',h6,h7⟩:=h4.get hc;have:gG ov b m _ _:=⟨h5⟩;exact⟨l',h7,vx h1 h6⟩
end
instance BQ.i1':BQ (1:Rat) 2:=⟨by decide,by decide⟩
instance BQ.i2':BQ (2:Rat) 2:=⟨by decide,by decide⟩
theorem Qi{v:aj}{i:Nat}[BQ v.lo i][BQ v.hi i]:BQ (iF v) (i+i+5):=by
 unfold iF;split
 ·exact BQ.mono (k:=1) ⟨by decide,by decide⟩ (by omega)
 ·split
  ·exact BQ.mono (inferInstance:BQ (v.hi-1) _) (by omega)
  ·split
   ·exact BQ.mono (inferInstance:BQ (v.lo+1) _) (by omega)
   ·exact BQ.mono (inferInstance:BQ ((v.lo+v.hi)/2) _) (by omega)
instance aI.at (l:aa) (t:Rat) (k:Nat) [LB l] [BQ t k]:aI (l.at t) (900+(k+97)+1):=by
 rw[<-rI];infer_instance
def Xj{q:Rat}(h: ¬q.num.sign=0):q≠0:=fun e=>h ((mr q).2 e)
def kP(d:ab):ab:=⟨-d.y,d.x⟩
instance aI.turn (d:ab) (k:Nat) [aI d k]:aI (kP d) k:=⟨inferInstanceAs (BQ (-d.y) k),inferInstanceAs (BQ d.x k)⟩
def rH(p v:ab)(m:aa):Rat:= -(m.value p/(m.value (cv p v ((1:Int):Rat))-m.value p))
def mD(p v:ab)(m:aa)(s:Rat):Rat:=if(m.value (cv p v ((1:Int):Rat))-m.value p).num.sign=0 then s else if(m.value p).num.sign=0 then s else if 0<(rH p v m).num.sign then(if bg (rH p v m/2) s<0 then rH p v m/2 else s) else s
def lE(p v:ab):List aa->Rat->Rat
 |[],s=>s
 |m::t,s=>lE p v t (mD p v m s)
def s9(c:List aa)(p v:ab):ab:=cv p v (lE p v c ((1:Int):Rat))
def yq{c:List aa}{p v:ab}{k:Nat}{s s' r:Rat}{m:aa}(h:lE p v (c.drop k) s=r)(hk:k<c.length)(hm:m=c[k])(e:mD p v m s=s'):lE p v (c.drop (k+1)) s'=r:=by
 rw[bX hk] at h;rw[<-h,lE,<-hm,e]
def Rx{c:List aa}{p v:ab}(hc: ∀m∈c,LB m)(hn:c.length<=1000)(hp:aI p 4500)(hv:aI v 97):PF GB prog 251 [.sl (c.map eL),eP p,eP v] (eP (s9 c p v)):=by
 have hcl:=tL c;refine fn func251 J J ntmps251 J J (fun C=>?_);refine cl (fu:=⟨9⟩) J (kI (n:=1) (by decide) (by decide)) J<|?_;refine ak 14 (.d (vI (c.length:Nat))) J (by rw[hcl];rfl) ?_;refine gx J<|?_;refine lp (X:=Rat×Nat) (fun⟨s,k⟩=>[(15, .d (vI (k:Nat))),(14, .d (vI (c.length:Nat))),(13, .d (.sl (c.map eL))),(4, .ov 4 0),(5, .ov 5 0),(7, .ov 7 0),(6, .ov 6 0)]) (fun⟨s,k⟩=>[(7,some (.o 79 [.d ((.v (.bool (decide (s.num<0))))), .d (dN s.num.natAbs), .d (dD s.den)] true)),(6,some (.o 81 [.ff, .nl, .nl, .ff, .nl, .nl] true)),(5,some (.o 81 [.d ((.v (.bool (decide (v.x.num<0))))), .d (dN v.x.num.natAbs), .d (dD v.x.den), .d ((.v (.bool (decide (v.y.num<0))))), .d (dN v.y.num.natAbs), .d (dD v.y.den)] true)),(4,some (.o 81 [.d ((.v (.bool (decide (p.x.num<0))))), .d (dN p.x.num.natAbs), .d (dD p.x.den), .d ((.v (.bool (decide (p.y.num<0))))), .d (dN p.y.num.natAbs), .d (dD p.y.den)] true))]) (fun⟨s,k⟩=>k<=c.length/\BQ s 60000/\lE p v (c.drop k) s=lE p v c ((1:Int):Rat)) (fun⟨s,k⟩=>c.length-k) ⟨((1:Int):Rat),0⟩ J ⟨bQ _,BQ.i1.mono (by decide),J⟩ (fun _=>J) (fun⟨s,k⟩ hk=>?_)
 try dsimp only at hk⊢
 obtain⟨hle,hsb,hns⟩:=hk;refine br J J J (fun hc16=>?_) (fun hc16=>?_)
 .
  have hk:k<c.length:=by omega
  obtain⟨m,hm⟩: ∃m,m=c[k]:=⟨_,rfl⟩;haveI hmb:LB m:=hm▸hc _ (cV hk);have hinv:=hsb;refine ix (fu:=⟨1⟩) _ J (t8 hk) J<|?_;refine ak 18 (.d (eL m)) J (by rw[hm];rfl) ?_;refine gx J<|cl J (kI (n:=1) (by decide) (by decide)) J<|cl J (zp (p:=p) (q:=v) (c:=((1:Int):Rat))) J<|cl J (BG (l:=m) (p:=cv p v ((1:Int):Rat))) J<|?_;refine cl J (BG (l:=m) (p:=p)) J<|cl J (ru (a:=m.value (cv p v ((1:Int):Rat))) (b:=m.value p)) J<|cl J (px (q:=m.value (cv p v ((1:Int):Rat))-m.value p)) J<|?_;refine cs 32 J J J (fun hg32=>?_) (fun hg32=>?_)
  .
   exact at_ ⟨s,k+1⟩ (by dsimp only;exact⟨⟨by omega,hinv,(yq hns hk hm (by unfold mD;rw[if_pos hg32]))⟩,(by omega)⟩)
  .
   refine cl J (AW (l:=m) (p:=p)) J<|?_;refine br J J J (fun hc37=>?_) (fun hc37=>?_)
   .
    exact at_ ⟨s,k+1⟩ (by dsimp only;exact⟨⟨by omega,hinv,(yq hns hk hm (by unfold mD;rw[if_neg hg32,if_pos hc37]))⟩,(by omega)⟩)
   .
    refine cl J (BG (l:=m) (p:=p)) J<|cl J (wI (a:=m.value p) (b:=m.value (cv p v ((1:Int):Rat))-m.value p) (Xj hg32)) J<|?_;refine cl J (uu (q:=m.value p/(m.value (cv p v ((1:Int):Rat))-m.value p))) J<|cl (fu:=⟨0⟩) J (px (q:= -(m.value p/(m.value (cv p v ((1:Int):Rat))-m.value p)))) J<|?_;refine l6 (v2:=fun hg46=>by simp only[ah];exact⟨by kernel_rfl,by omega⟩) J J J J (fun hg46=>?_) (fun hg46=>?_)
    .
     refine cl J (Hi (a:= -(m.value p/(m.value (cv p v ((1:Int):Rat))-m.value p)))) J<|cl J (lf (a:= -(m.value p/(m.value (cv p v ((1:Int):Rat))-m.value p))/2) (b:=s)) J<|?_;refine br J J J (fun hc53=>?_) (fun hc53=>?_)
     .
      obtain⟨t,ht⟩: ∃t,t= -(m.value p/(m.value (cv p v ((1:Int):Rat))-m.value p)):=⟨_,rfl⟩;haveI htb:BQ t 45000:=ht▸BQ.mono inferInstance (by decide);have hinv:BQ (t/2) 60000:=BQ.mono inferInstance (by decide);rw[<-ht];refine cl J (Hi (a:=t)) J<|?_;exact at_ ⟨t/2,k+1⟩ (by dsimp only;exact⟨⟨by omega,hinv,(yq hns hk hm (by unfold mD;rw[if_neg hg32,if_neg hc37,show rH p v m=t from ht.symm,if_pos (by rw[ht];exact hg46),if_pos (by rw[ht];exact hc53)]))⟩,(by omega)⟩)
     .
      exact at_ ⟨s,k+1⟩ (by dsimp only;exact⟨⟨by omega,hinv,(yq hns hk hm (by unfold mD;rw[if_neg hg32,if_neg hc37,if_pos (show 0<(rH p v m).num.sign from hg46),if_neg (show¬bg (rH p v m/2) s<0 from hc53)]))⟩,(by omega)⟩)
    .
     exact at_ ⟨s,k+1⟩ (by dsimp only;exact⟨⟨by omega,hinv,(yq hns hk hm (by unfold mD;rw[if_neg hg32,if_neg hc37,if_neg (show¬0<(rH p v m).num.sign from hg46)]))⟩,(by omega)⟩)
 .
  refine cl J (zp (p:=p) (q:=v) (c:=s)) J<|?_;exact rz J (by unfold s9;rw[<-hns,jY (by omega)];rfl)
def ik(c:List aa):List aa->ab
 |[]=>⟨0,0⟩
 |m::t=>if(fe m c aj.all).2=true then s9 c (m.at (iF (fe m c aj.all).1)) (kP m.dir) else ik c t
def Wb{c:List aa}{k:Nat}{m:aa}(h:ik c (c.drop k)=ik c c)(hk:k<c.length)(hm:m=c[k])(e:(fe m c aj.all).2=true):ik c c=s9 c (m.at (iF (fe m c aj.all).1)) (kP m.dir):=by
 rw[<-h,bX hk,ik,<-hm,if_pos e]
def V7{c:List aa}{k:Nat}{m:aa}(h:ik c (c.drop k)=ik c c)(hk:k<c.length)(hm:m=c[k])(e: ¬(fe m c aj.all).2=true):ik c (c.drop (k+1))=ik c c:=by
 rw[<-h,bX hk,ik,<-hm,if_neg e]
def Qv{c:List aa}{m:aa}(h:m∈c)(h2:(fy m c aj.all).isSome=true):jE c=true:=by
 unfold jE;rw[iJ,lS];exact .inr ⟨m,h,h2⟩
def Wi{c:List aa}(h:c=[]):jE c=true:=by subst h;rfl
def ZF{c:List aa}(h:c≠[])(h2: ∀m∈c,(fy m c aj.all).isSome=false):jE c=false:=by
 rw[<-jS];unfold jE;rw[iJ,lS,List.isEmpty_iff];rintro (e|⟨m,h3,h4⟩)
 ·exact h e
 ·rw[h2 m h3] at h4;exact absurd h4 (by decide)
def KY:eP ⟨0,0⟩= .ag [.v (.bool false), .sl [], .sl [], .v (.bool false), .sl [], .sl []]:=by
 unfold eP dD;simp only[show(0:Rat).num=0 from J,show(0:Rat).den=1 from J,kU,n5];rfl
def Gi{c:List aa}(hc: ∀m∈c,LB m)(hok: ∀m∈c,m.ok)(hn:c.length<=1000):PF GB prog 162 [.sl (c.map eL)] (.tp [eP (ik c c),vB (jE c)]):=by
 have hcl:=tL c;refine fn func162 J J ntmps162 J J (fun C=>?_);refine br (fu2:=⟨7⟩) J J J (fun hc11=>?_) (fun hc11=>?_)
 .
  exact rz J (by rw[bK (l:=c) (by omega),Wi J];show _=DV.tp [eP ⟨0,0⟩,_];rw[KY];rfl)
 .
  refine ak 14 (.d (vI (c.length:Nat))) J (by rw[hcl];rfl) ?_;refine gx J<|?_;refine lp (X:=Nat) (fun k=>[(15, .d (vI (k:Nat))),(14, .d (vI (c.length:Nat))),(13, .d (.sl (c.map eL))),(0, .d (.sl (c.map eL))),(2, .ov 2 0)]) (fun k=>[(2,some (.o 81 [.ff, .nl, .nl, .ff, .nl, .nl] true))]) (fun k=>k<=c.length/\(∀m∈c.take k,(fy m c aj.all).isSome=false)/\ik c (c.drop k)=ik c c) (fun k=>c.length-k) 0 J ⟨bQ _,fun m hm=>absurd hm (by simp),J⟩ (fun _=>J) (fun k hk=>?_);obtain⟨hle,hno,hip⟩:=hk;refine br J J J (fun hc16=>?_) (fun hc16=>?_)
  .
   have hk:k<c.length:=by omega
   obtain⟨m,hm⟩: ∃m,m=c[k]:=⟨_,rfl⟩;haveI hmb:LB m:=hm▸hc _ (cV hk);have hmo:m.ok:=hm▸hok _ (cV hk);refine ix (fu:=⟨1⟩) _ J (t8 hk) J<|?_;refine ak 19 (.d (eL m)) J (by rw[hm];rfl) ?_;refine gx J<|cl (fu:=⟨0⟩) J (Pr hc hok hn hk) J<|?_;refine ak 23 (.d (.tp [eV (fe m c aj.all).1,vB (fe m c aj.all).2])) J (by rw[hm]) ?_;refine gx J<|?_;refine bb J J J (fun hc26=>?_) (fun hc26=>?_)
   .
    have hbd:=CW (v:=aj.all) hmo.ne hc gm.all (BQ.mono (k:=1) ⟨by decide,by decide⟩ (by decide)) (BQ.mono (k:=1) ⟨by decide,by decide⟩ (by decide));obtain⟨s,hs⟩: ∃s,s=(fe m c aj.all).1:=⟨_,rfl⟩;rw[<-hs] at hbd;haveI:=hbd.1;haveI:=hbd.2;haveI hsb:=Qi (v:=s) (i:=1200);have hpt:aI (m.at (iF s)) 4500:=by have:=aI.at m (iF s) (1200+1200+5);exact⟨this.x.mono (by decide),this.y.mono (by decide)⟩
    have hin:jE c=true:=Qv (hm▸cV hk) (by rw[<-ug];exact hc26);have hpn:=Wb hip hk hm hc26;rw[<-hs] at hpn⊢;refine cl J (sr (l:=m)) J<|cl J (YI (v:=s)) J<|cl J (Kg (l:=m) (t:=iF s) hmo.ne) J<|cl J (uu (q:=m.dir.y)) J<|?_;refine cl J (Rx (p:=m.at (iF s)) (v:=kP m.dir) hc hn (hpt) inferInstance) J<|?_;exact rz J (by rw[hin,hpn];rfl)
   .
    exact at_ (k+1) ⟨⟨by omega,Vr hno hk (by rw[<-hm,<-ug];exact hc26),V7 hip hk hm (by rw[hc26];decide)⟩,(by omega)⟩
  .
   exact rz J (by rw[ZF (fun e=>hc11 (by rw[e];rfl)) (fun m hm=>hno m (by rw[aU (by omega)];exact hm)),<-hip,jY (by omega)];show _=DV.tp [eP ⟨0,0⟩,_];rw[KY];rfl)
def VJ{es:List Int}{i:Nat}(h:i<es.length):(es.map vI)[(i:Int).toNat]? =some (vI (es.getD i 0)):=by simp[h]
def Pp{es:List Int}{i:Nat}(h:i<es.length):nD (es.drop i)=if es.getD i 0≠0 then es.getD i 0 else nD (es.drop (i+1)):=by
 rw[bX h,nD,aX,aZ h];rfl
def aGz{es:List Int}(hn:es.length<=1000000):PF GB prog 227 [.sl (es.map vI)] (vI (nD es)):=by
 have hel:(es.map vI).length=es.length:=by simp
 refine fn (fu:=⟨15⟩) func227 J J ntmps227 J J (fun C=>?_);refine ak 7 (.d (vI (es.length:Nat))) J (by rw[hel]<;>rfl) ?_;refine gx J<|?_;refine lp (X:=Nat) (fun i=>[(8, .d (vI (i:Nat)))]) (fun i=>[]) (fun i=>i<=es.length/\nD es=nD (es.drop i)) (fun i=>es.length-i) 0 J ⟨bQ _,J⟩ (fun _=>J) (fun i hk=>?_);obtain⟨h1,h2⟩:=hk;refine br J J J (fun hc9=>?_) (fun hc9=>?_)
 .
  refine ix _ J (VJ (by omega)) J<|?_;refine br J J J (fun hc14=>?_) (fun hc14=>?_)
  .
   exact rz J (by rw[h2,Pp (by omega),if_pos hc14];rfl)
  .
   exact at_ (i+1) ⟨⟨by omega,by rw[h2,Pp (by omega),if_neg hc14]⟩,(by omega)⟩
 .
  exact rz J (by rw[h2,gN (by omega)];rfl)
def HE(l m:aa):Int:=nD [bg l.a m.a,bg l.b m.b,bg l.c m.c]
def XV(l m:aa):HE l m=0↔l=m:=by
 unfold HE nD nD nD nD;have ha:=r7 (l.a:Rat) m.a;have hb:=r7 (l.b:Rat) m.b;have hc:=r7 (l.c:Rat) m.c;rw[oX] at ha hb hc;constructor
 ·intro h
  repeat' (split at h<;>try contradiction)
  all_goals exact aa.ext' (by omega) (by omega) (by omega)
 ·rintro rfl
  rw[if_neg (by simp[ha.2 J]),if_neg (by simp[hb.2 J]),if_neg (by simp[hc.2 J])]
def S7{l m:aa}[hl:LB l][hm:LB m]:PF GB prog 134 [eB l,eB m] (vI (HE l m)):=by
 refine fn func134 J J ntmps134 J J (fun C=>?_);refine cl J (pz (p:=(l.a:Rat)) (q:=(m.a:Rat))) J<|cl J (pz (p:=(l.b:Rat)) (q:=(m.b:Rat))) J<|cl J (pz (p:=(l.c:Rat)) (q:=(m.c:Rat))) J<|?_;refine rf J J<|cl J (aGz (es:=[bg l.a m.a,bg l.b m.b,bg l.c m.c]) (nb J)) J<|?_;exact rz J J
def Xp{l m:aa}[hl:LB l][hm:LB m]:PF GB prog 136 [eB l,eB m] (vB (decide (l=m))):=by
 refine fn func136 J J ntmps136 J J (fun C=>?_);refine cl J (S7 (l:=l) (m:=m)) J<|?_;exact rz J (by show DV.v (.bool (decide _))= .v (.bool _);congr 2;exact decide_eq_decide.2 (XV l m))
def GY{l:aa}[hl:LB l]:PF GB prog 229 [eB l] (eB l.rev):=by
 refine fn func229 J J ntmps229 J J (fun C=>?_);refine cl J (o9 (q:=(l.a:Rat))) J<|cl J (o9 (q:=(l.b:Rat))) J<|cl J (o9 (q:=(l.c:Rat))) J<|?_;exact rz J (by unfold eB aa.rev;simp only[qW];rfl)
def aDu{l:aa}[hl:LB l]:PF GB prog 137 [eB l] (eL l):=by
 refine fn func137 J J ntmps137 J J (fun C=>?_);refine cl J (rO (q:=(l.a:Rat))) J<|cl J (rO (q:=(l.b:Rat))) J<|cl J (rO (q:=(l.c:Rat))) J<|?_;exact rz J J
def Iz{p:ab}{i:Nat}[hp:aI p i](hi:i<=10000000:=by decide):PF GB prog 354 [eZ p] (vI p.half):=by
 refine fn func354 J J ntmps354 J J (fun C=>?_);refine cl J (nj (q:=p.y) (by omega)) J<|?_;refine cs 10 J J J (fun hg10=>?_) (fun hg10=>?_)
 .
  exact rz J (by unfold ab.half;(repeat' split)<;>first|rfl|(exfalso;omega))
 .
  refine cs 13 J J J (fun hg13=>?_) (fun hg13=>?_)
  .
   refine cl J (nj (q:=p.x) (by omega)) J<|?_;refine br J J J (fun hc7=>?_) (fun hc7=>?_)
   .
    exact rz J (by unfold ab.half;(repeat' split)<;>first|rfl|(exfalso;omega))
   .
    refine cs 23 J J J (fun hg23=>?_) (fun hg23=>?_)
    .
     exact rz J (by unfold ab.half;(repeat' split)<;>first|rfl|(exfalso;omega))
    .
     refine cl J (nj (q:=p.x) (by omega)) J<|?_;refine br J J J (fun hc20=>?_) (fun hc20=>?_)
     .
      exact rz J (by unfold ab.half;(repeat' split)<;>first|rfl|(exfalso;omega))
     .
      exact rz J (by unfold ab.half;(repeat' split)<;>first|rfl|(exfalso;omega))
  .
   refine cs 23 J J J (fun hg23=>?_) (fun hg23=>?_)
   .
    exact rz J (by unfold ab.half;(repeat' split)<;>first|rfl|(exfalso;omega))
   .
    refine cl J (nj (q:=p.x) (by omega)) J<|?_;refine br J J J (fun hc20=>?_) (fun hc20=>?_)
    .
     exact rz J (by unfold ab.half;(repeat' split)<;>first|rfl|(exfalso;omega))
    .
     exact rz J (by unfold ab.half;(repeat' split)<;>first|rfl|(exfalso;omega))
def Z2{u v:ab}{i j:Nat}[hp:aI u i][hq:aI v j](hi:i<=10000000:=by decide)(hj:j<=10000000:=by decide):PF GB prog 279 [eZ u,eZ v] (vI (ir u v)):=by
 refine fn func279 J J ntmps279 J J (fun C=>?_);refine cl J (Iz (p:=u) hi) J<|cl J (Iz (p:=v) hj) J<|?_;refine br J J J (fun hc11=>?_) (fun hc11=>?_)
 .
  exact rz J (by unfold ir;rw[if_pos hc11];rfl)
 .
  refine br J J J (fun hc15=>?_) (fun hc15=>?_)
  .
   exact rz J (by unfold ir;rw[if_neg hc11,if_pos hc15];rfl)
  .
   refine cl J (V6 (p:=u) (q:=v) (by omega) (by omega)) J<|cl (fu:=⟨0⟩) J (nj (q:=u.cross v) (by omega)) J<|?_;have hs:=pS (u.cross v).num;refine gx J<|?_;exact rz J (by unfold ir;rw[if_neg hc11,if_neg hc15];rfl)
def aCw{m:Int}:dC (dg m.natAbs)/\(decide (m<0)=true->0<(dg m.natAbs).length):=⟨(ek _).2.2,fun h=>by
 have:0<m.natAbs:=by have:=of_decide_eq_true h;omega
 exact yn.2 this⟩
def Uc{m:Int}{i:Nat}[h:BI m i](hi:i<=1000000000:=by decide):PF GB prog 269 [eI m] (.v (.bool true)):=(RC (neg:=decide (m<0)) (ds:=dg m.natAbs) (ek _).2.1 (by have:=lm (a:=m.natAbs) hi;omega)).to (by unfold vB;rw[decide_eq_true aCw])
instance BQ.rgcd (p q:Rat) (i j:Nat) [h:BQ p i] [k:BQ q j]:BQ (rgcd p q) (i+j+(i+j)):=by
 unfold Sx.rgcd;refine xe (kQ (lu p) (lu q)) ?_ ?_
 ·rw[lN]
  have h1:=oq h.hn k.hd;have h2:=oq k.hn h.hd;rw[kW j i] at h2;exact DM h1 h2
 ·have h1:=oq h.hd k.hd
  have:2^(i+j)<=2^(i+j+(i+j)):=bY (by decide) (by omega);omega
def bj(f:aG):DV:= .ag [vI (dm (f.l.a:Rat)),vI (dq (f.l.a:Rat)),c8 (f.l.a:Rat),vI (dm (f.l.b:Rat)),vI (dq (f.l.b:Rat)),c8 (f.l.b:Rat),vI (dm (f.l.c:Rat)),vI (dq (f.l.c:Rat)),c8 (f.l.c:Rat),vI (dm f.v.lo),vI (dq f.v.lo),c8 f.v.lo,vI (dm f.v.hi),vI (dq f.v.hi),c8 f.v.hi, .v (.bool f.v.nl), .v (.bool f.v.nh)]
structure qO (v:aj):Prop where
 z:gm v
 lo:BQ v.lo 1200
 hi:BQ v.hi 1200
structure AC (s:aG):Prop where
 lb:LB s.l
 ok:s.l.ok
 v:qO s.v
abbrev i5 (c:aE):Prop:= ∀s∈c,AC s
def uJ{α:Type}(f:α->DV)(l:List α):(l.map f).length=l.length:=by simp
def qO.all:qO aj.all:=⟨⟨fun _=>J,fun _=>J⟩,BQ.z1.mono (by decide),BQ.z1.mono (by decide)⟩
def qO.cut{l m:aa}{v:aj}[LB l][LB m](hn:l.Ne)(h:qO v):qO (l.cutV v m):=by
 by_cases h0:crossI l m=0
 ·rw[(y5 (v:=v) h0).1];exact h
 ·obtain⟨u1,_,u3,u4,u5⟩:=Ei (v:=v) hn h.z h.lo h.hi h0
  rw[u1];exact⟨u3,u4,u5⟩
def H6(o:Option aj):aj:=o.getD ⟨0,0,false,false⟩
def aBT(G:Gh)(y:Value)(k:Is G (.tp [.ag [vI 0,vI 0, .v (.pointer none),vI 0,vI 0, .v (.pointer none), .v (.bool false), .v (.bool false)], .v (.bool false)]) y):Is G (.tp [eW (H6 none),vB false]) y:=by
 obtain⟨m,rfl,g⟩:=lz.1 k;exact lz.2 ⟨m,J,IX (fun y hy=>by
  obtain⟨l,rfl,g⟩:=dG.1 hy;exact dG.2 ⟨l,J,BX (FN [vI 0,vI 0, .v (.pointer none)] g)⟩) g⟩
def d9{α:Type}{f:α->DV}{l:List α}{i:Nat}{s:α}(h:l[i]? =some s):(l.map f)[(i:Int).toNat]? =some (f s):=by simp[h]
def EV{α:Type}{l:List α}{k:Nat}{s:α}(h:l[k]? =some s):l.drop k=s::l.drop (k+1):=by
 obtain⟨h1,h2⟩:=aM.1 h;rw[bX h1,h2]
def J6{l:aa}{c:aE}{v:aj}{k:Nat}{s:aG}(h:c[k]? =some s):l5 l (c.drop k) v=if l.cutB v s.l then l5 l (c.drop (k+1)) (l.cutV v s.l) else none:=by
 rw[EV h];rfl
def FJ{l:aa}{c:aE}{k:Nat}{s:aG}(h:c[k]? =some s):mH l (c.drop k)=if ni l s≠0 then ni l s else if s.l=l then 1 else mH l (c.drop (k+1)):=by
 rw[EV h];rfl
instance BQ.sample (v:aj) [h1:BQ v.lo 1200] [h2:BQ v.hi 1200]:BQ v.sample 2500:=by
 unfold aj.sample;split
 ·exact BQ.mono (k:=1) ⟨by decide,by decide⟩ (by decide)
 ·split
  ·exact BQ.mono (inferInstance:BQ (v.hi-((1:Int):Rat)) _) (by decide)
  ·split
   ·exact BQ.mono (inferInstance:BQ (v.lo+((1:Int):Rat)) _) (by decide)
   ·exact BQ.mono (inferInstance:BQ ((v.lo+v.hi)*mkRat 1 2) _) (by decide)
def KR{c:aE}{l:aa}[hl:LB l](hlo:l.ok)(hc:i5 c)(hn:c.length<=1000000):PF GB prog 274 [.sl (c.map bj),eB l] (.tp [eW (H6 (kC c l)),vB (kC c l).isSome]):=by
 have hm:=uJ bj c;refine fn func274 J J ntmps274 J J (fun C=>?_);refine cl (fu:=⟨10⟩) J YC J<|?_;refine ak 12 (.d (vI (c.length:Nat))) J (by rw[uJ]<;>rfl) ?_;refine gx J<|?_;refine lp (X:=aj×Nat) (fun⟨v,k⟩=>[(13, .d (vI (k:Nat))),(6, .ov 6 0)]) (fun⟨v,k⟩=>[(6,some (.o 220 [.d (vI (dm v.lo)), .d (vI (dq v.lo)), .d (c8 v.lo), .d (vI (dm v.hi)), .d (vI (dq v.hi)), .d (c8 v.hi), .d (.v (.bool v.nl)), .d (.v (.bool v.nh))] true))]) (fun⟨v,k⟩=>k<=c.length/\qO v/\l5 l (c.drop k) v=kC c l) (fun⟨v,k⟩=>c.length-k) (aj.all,0) J ⟨bQ _, .all,J⟩ (fun _=>J) (fun⟨v,k⟩ hk=>?_);dsimp only at hk⊢;obtain⟨h1,h2,h3⟩:=hk;haveI:=h2.lo;haveI:=h2.hi;refine br J J J (fun hc14=>?_) (fun hc14=>?_)
 .
  obtain⟨s,hs0⟩: ∃s,c[k]? =some s:=⟨_,aZ (by omega)⟩;have hs:=hc s (bZ hs0);haveI:=hs.lb;refine ix _ J (d9 hs0) J<|cl (fu:=⟨0⟩) J (Ak (l:=l) (m:=s.l) (v:=v)) J<|?_;generalize hw:l.cutV v s.l=w;generalize hb:l.cutB v s.l=b;refine gx J<|?_;refine bb J J J (fun hc26=>?_) (fun hc26=>?_)
  .
   exact iB J (by rw[<-h3,J6 hs0,hb,if_neg (by simpa using hc26)];exact aBT)
  .
   exact at_ (w,k+1) (by dsimp only;exact⟨⟨by omega,hw▸h2.cut hlo.1,by rw[<-h3,J6 hs0,hb,hw,if_pos (by simpa using hc26)]⟩,(by omega)⟩)
 .
  exact rz J (by rw[<-h3,gN (by omega)];rfl)
def Q2{c:aE}{l:aa}[hl:LB l](hlo:l.ok)(hc:i5 c)(hn:c.length<=1000000):PF GB prog 275 [.sl (c.map bj),eB l] (vI (uE c l)):=by
 have hm:=uJ bj c;refine fn func275 J J ntmps275 J J (fun C=>?_);refine cl J (KR (c:=c) (l:=l) hlo hc hn) J<|?_;refine bb (fu2:=⟨7⟩) J J J (fun hc16=>?_) (fun hc16=>?_)
 .
  exact rz J (by unfold uE;rw[if_pos hc16];rfl)
 .
  have hp:uE c l=mH l c:=by unfold uE;rw[if_neg (by simp[hc16])]
  refine ak 18 (.d (vI (c.length:Nat))) J (by rw[uJ]<;>rfl) ?_;refine gx J<|?_;refine lp (X:=Nat) (fun k=>[(19, .d (vI (k:Nat)))]) (fun k=>[]) (fun k=>k<=c.length/\mH l (c.drop k)=mH l c) (fun k=>c.length-k) 0 J ⟨bQ _,J⟩ (fun _=>J) (fun k hk=>?_);obtain⟨h1,h2⟩:=hk;refine br J J J (fun hc20=>?_) (fun hc20=>?_)
  .
   obtain⟨s,hs0⟩: ∃s,c[k]? =some s:=⟨_,aZ (by omega)⟩;have hs:=hc s (bZ hs0);haveI:=hs.lb;haveI:=hs.v.lo;haveI:=hs.v.hi;haveI:=BQ.sample s.v;refine ix _ J (d9 hs0) J<|cl (fu:=⟨0⟩) J (Oy (v:=s.v)) J<|?_;generalize ht:s.v.sample=t at*;refine gx J<|cl J (CC (l:=s.l) (t:=t)) J<|cl J (Fj (l:=l) (p:=s.l.at t)) J<|?_;refine br J J J (fun hc32=>?_) (fun hc32=>?_)
   .
    have hsd:ni l s=(l.value (s.l.at t)).num.sign:=by unfold ni;rw[ht]
    exact rz J (by rw[hp,<-h2,FJ hs0,hsd,if_pos hc32];rfl)
   .
    refine cl J (Xp (l:=s.l) (m:=l)) J<|?_;refine bd J J J (fun hc37=>?_) (fun hc37=>?_)
    .
     have hsd:ni l s=(l.value (s.l.at t)).num.sign:=by unfold ni;rw[ht]
     exact rz J (by rw[hp,<-h2,FJ hs0,hsd,if_neg hc32,if_pos hc37];rfl)
    .
     have hsd:ni l s=(l.value (s.l.at t)).num.sign:=by unfold ni;rw[ht]
     exact at_ (k+1) ⟨⟨by omega,by rw[<-h2,FJ hs0,hsd,if_neg hc32,if_neg hc37]⟩,(by omega)⟩
  .
   exact rz J (by rw[hp,<-h2,gN (by omega)];rfl)
def Ra{vs rest:List Value}(h: ∀v∈vs,(aD v).length=17){i:Nat}(hi:i<=vs.length):cw (aF vs++rest) (i*17) ((vs.length-i)*17)=some (aF (vs.drop i)):=by
 have hl:=ew vs h;have hd:(aF (vs.drop i)).length=(vs.length-i)*17:=by
  rw[ew (s:=17) _ (fun v hv=>h v (iQ hv)),gL]
 rw[lg _ _ _ (by simp only[aY];omega)];congr 1;rw[jN (by omega),Dk vs i h hi,fS (by omega),aU (by omega)]
def SJ{vs rest vcs:List Value}(h: ∀v∈vs,(aD v).length=17)(hv:vcs.length=17){i:Nat}(hi:i<vs.length)(hr:17<=rest.length):
  cj (cj (aF vs++rest) ((i+1)*17) (aF (vs.drop i))) (i*17) vcs=aF (vs.take i)++vcs++aF (vs.drop i)++rest.drop 17:=by
 have hl:=ew vs h;have hd:(aF (vs.drop i)).length=(vs.length-i)*17:=by
  rw[ew (s:=17) _ (fun v hv=>h v (iQ hv)),gL]
 have ht:(aF (vs.take i)).length=i*17:=by
  rw[ew (s:=17) _ (fun v hv=>h v (fY hv)),cJ,iK (by omega)]
 rw[oF (aF (vs.drop i)) (aF vs++rest) _ (by rw[aY];omega)];rw[oF vcs _ _ (by simp only[aY,cJ,gL];omega)];have e1:(aF vs++rest).drop ((i+1)*17+(aF (vs.drop i)).length)=rest.drop 17:=by
  rw[hd,show(i+1)*17+(vs.length-i)*17=(aF vs).length+17 by omega,mU,jY (by omega),cY];congr 1;omega
 have e2:((aF vs++rest).take ((i+1)*17)++aF (vs.drop i)++rest.drop 17).take (i*17)=aF (vs.take i):=by
  rw[dY,fS (by simp only[cJ,aY];omega),List.take_take,iK (by omega),fS (by omega),DK vs i h (by omega)]
 have e3:((aF vs++rest).take ((i+1)*17)++aF (vs.drop i)++rest.drop 17).drop (i*17+vcs.length)=aF (vs.drop i)++rest.drop 17:=by
  rw[hv,dY,show i*17+17=((aF vs++rest).take ((i+1)*17)).length by simp only[cJ,aY];omega,List.drop_left]
 rw[e1,e2,e3];simp[dY]
def RD{vs rest vcs:List Value}(h: ∀v∈vs,(aD v).length=17)(hv:vcs.length=17)(hr:17<=rest.length):cj (aF vs++rest) (vs.length*17) vcs=aF vs++vcs++rest.drop 17:=by
 have hl:=ew vs h;rw[oF _ _ _ (by simp only[aY];omega),hv,<-hl,List.take_left,mU];simp
def Z5{G:Gh}{b bv cap i c2:Nat}{vs rest vcs r2:List Value}{lo lo2:Bool}(hvs: ∀v∈vs,(aD v).length=17)(hfl: ∀v∈vs,∀c∈aD v,flat c=true)(hv:vcs.length=17)(hvf: ∀c∈vcs,flat c=true)
  (hcap:vs.length*17+rest.length=cap*17)(hroom:vs.length+1<=cap)(hi:i<=vs.length)(hb:vs.length<=1125899906842624):
  mw prog 280 [.slice (some ⟨b,0,none⟩) vs.length cap, .int .i64 i, .slice (some ⟨bv,0,none⟩) 1 c2] [⟨b,aF vs++rest,222,lo⟩,⟨bv,vcs++r2,222,lo2⟩] G
   (fun u css _=>u= .slice (some ⟨b,0,none⟩) (vs.length+1) cap/\css=[aF (vs.take i)++vcs++aF (vs.drop i)++rest.drop 17,vcs++r2]):=by
 have hL:(aF vs++rest).length=cap*17:=by rw[aY,ew vs hvs];exact hcap
 have hr:17<=rest.length:=by omega
 have hD:(aF (vs.drop i)).length=(vs.length-i)*17:=by
  rw[ew (s:=17) _ (fun v hv=>hvs v (iQ hv)),gL]
 have hDf: ∀c∈aF (vs.drop i),flat c=true:=fun c hc=>by
  obtain⟨l,hl,hcl⟩:=List.mem_flatten.1 hc;obtain⟨v,hv,rfl⟩:=bM.1 hl;exact hfl v (iQ hv) c hcl
 have hvt:cw (vcs++r2) 0 (1*17)=some vcs:=by rw[lg _ _ _ (by rw[aY];omega),iW,fS (by omega),aU (by omega)]
 refine mw.intro func280 J J ntmps280 J ?_;intro C _ _;show St C _ _ [⟨b,aF vs++rest,222,false⟩,⟨bv,vcs++r2,222,false⟩] _ _;refine Wq (fun hne=>?_);simp only[] at hne;refine sR<|sa J J<|zE<|sR<|sm J J<|sm J J<|sy (He J J (by omega) (by omega)) J<|zE<|sR<|?_;refine sm J J<|cD J J<|sa J J<|zE<|bH<|sR<|sm J J<|sy (oc J J) J<|zE<|Aw J<|?_;refine zK<|sR<|sm J J<|cD J J<|sa J J<|zE<|bH<|sR<|sm J J<|sm J J<|sy (oc J J) J<|zE<|?_;refine gH J (fun hc=>?_) (fun hc=>?_) -- slot 22
 ·have hin:i=vs.length:=by omega
  subst hin;refine sR<|sm J J<|sm J J<|?_;refine sc (MC (s:=17) (m:=1) (ys:=vcs) J J (.hd ..) hL (vT inferInstance hvt) (by omega) hvf hroom J ?_);refine sa J J<|zE<|dO<|?_;refine DO (css:=[cj (aF vs++rest) (vs.length*17) vcs,vcs++r2]) (.tmp J .nil) J _ (List.Perm.refl _) (List.Sublist.refl _) ⟨J,?_⟩;rw[RD hvs hv hr,cM,fU];simp[aF]
 have hin:i<vs.length:=by omega
 have hn1:((vs.length:Int)+((1:Nat):Int)).toNat=vs.length+1:=by omega
 have ht1:((i:Int)+((1:Nat):Int)).toNat=i+1:=by omega
 refine zK<|bH<|sR<|sm J J<|sm J J<|sy (dH J J) J<|sm J J<|?_;refine sy (aCx J) J<|sy (s5 J J) J<|zE<|?_;refine gH J (fun hc2=>?_) (fun hc2=>?_) -- slot 31
 ·exact absurd hc2 (by omega)
 refine zK<|sR<|sm J J<|sm J J<|sm J J<|sy (dH J J) J<|sy (Au J J (by omega) (by omega)) J<|?_;rw[hn1];refine sa J J<|zE<|bH<|sR<|sm J J<|sm J J<|sm J J<|sm J J<|sy (dH J J) J<|sy (Ax J J (by omega) (by omega) (by omega)) J<|?_;refine sy (RT (tS:=130) (tR:=4) func355 (by kernel_rfl) (by kernel_rfl) (by kernel_rfl) (by kernel_rfl) J J (Ne.symm hne) (fun h=>by rw[h] at hL;simp at hL;omega)) J<|?_;refine sy (MU J) J<|zE<|Aq J<|?_;refine bH<|T4 (b:=b) (fun _=>false) [(0,true),(1,true),(2,true),(3,true),(4,true),(5,true),(6,true),(7,true),(8,false)] follows (.hd ..) (by kernel_rfl)<|dM J J J<|?_;refine dM J J J<|dM J J J<|dy J (fun _=>dH J J (by omega) (by omega)) J J<|dy J (fun _=>Ax J J (by omega) (by omega) (by omega)) J J<|?_;refine dM J J J<|dM J J J<|dy J (fun _=>Ax J J (by omega) (by omega) (by omega)) J J<|?_;rw[ht1,bW,dS,dS];refine dc J J (JX (s:=17) (m:=vs.length-i) (ys:=aF (vs.drop i)) J J (by show min _ _=_;omega) (vT inferInstance (Ra hvs hi)) hDf (by rw[hD,hL];omega) (.hd ..) J ?_);refine qa<|dn<|sR<|sm J J<|sm J J<|sy (Ax J J (by omega) (by omega) (by omega)) J<|sm J J<|?_;rw[bW,dS];refine sc (JX (s:=17) (m:=1) (ys:=vcs) J J (by show min _ _=_;omega) (vT inferInstance hvt) hvf (by rw[w4,hL,hv];omega) (.hd ..) J ?_);refine zE<|sR<|sm J J<|sa J J<|zE<|dO<|?_;refine DO (css:=[cj (cj (aF vs++rest) ((i+1)*17) (aF (vs.drop i))) (i*17) vcs,vcs++r2]) (.tmp J .nil) J _ (List.Perm.refl _) (List.Sublist.refl _) ⟨J,?_⟩;rw[SJ hvs hv hin hr]
def mw.toO{P:Program}{f:FuncId}{vs:List Value}{M:List ao}{G:Gh}{K:Value->List (List Value)->Gh->Prop}{K':Value->List ao->Gh->Prop}(h:mw P f vs M G K)(hk: ∀v css G',bz G G'->css.length=M.length->K v css G'-> ∃o,o.Sublist (j0 (asB M) css)/\K' v o G'):gO P f vs M G K':=
 ⟨h.able,fun w hw=>(h.run w hw).mono fun _ _ ⟨v,css,G',he,hl,hh,hK⟩=>let⟨o,h1,h2⟩:=hk v css G' hh.gle hl hK;⟨v,o,G',he,hh.drop h1,h2⟩⟩
def JL(c:aE):cC 17 (c.map bj):=fun d hd=>by
 obtain⟨f,_,rfl⟩:=bM.1 hd;exact⟨rfl,rfl⟩
def K4{G:Gh}{s:Nat}{ds:List DV}{vs:List Value}(hk:cC s ds)(h:IsLs G ds vs): ∀v∈vs,∀c∈aD v,flat c=true:=fun v hv=>by
 obtain⟨d,hd,h3⟩:=h.all v hv;exact(h3.cells (hk d hd).1).2
def SM{c:aE}{x:aG}{i cap:Nat}(hi:i<=c.length)(hc:c.length+1<=cap)(hn:c.length<=1000000):PI GB prog 280 (i:Nat) 17 222 222 (c.map bj) (bj x) cap ((c.take i++x::c.drop i).map bj):=by
 intro G w w2 B B2 _ hB hcap hB2;obtain⟨vs,q1,q2,q3,_⟩:=hB;obtain⟨us,u1,u2,u3,_⟩:=hB2;dsimp only at q1 q2 q3 u1 u2 u3;have hl:=q2.len;rw[aK] at hl;obtain⟨v,m,rfl,hv,hm⟩:=bt.1 u2
 cases dl.1 hm
 rcases q1 with⟨_,e,_⟩|⟨b,rest,lo,e,rfl,h5,h6,h7⟩
 ·rw[e] at hcap;simp at hcap;omega
 rcases u1 with⟨h,_⟩|⟨bv,r2,lo2,e2,rfl,h8,h9,h10⟩
 ·cases h
 have hx:(aD v).length=17:=u3 v aQ;have hxf:=K4 (s:=17) (ds:=[bj x]) (fun d hd=>by rw[aV.1 hd];exact⟨J,J⟩) u2 v aQ;have key:=Z5 (G:=G) (b:=b) (bv:=bv) (cap:=w.c) (i:=i) (c2:=w2.c) (vs:=vs) (rest:=rest) (vcs:=aD v) (r2:=r2) (lo:=lo) (lo2:=lo2) q3 (K4 (JL c) q2) hx hxf (by rw[<-h5];exact h6) (by omega) (by omega) (by omega);rw[e,e2];rw[ud];refine key.toO fun u css G' hg hl2 ⟨k1,k2⟩=>?_;subst k1 k2;have hall: ∀u∈vs.take i++v::vs.drop i,(aD u).length=17:=fun u hu=>by
  rcases cX.1 hu with hu|hu
  ·exact q3 u (fY hu)
  ·rcases aT.1 hu with rfl|hu
   ·exact hx
   ·exact q3 u (iQ hu)
 have hlen:(vs.take i++v::vs.drop i).length=vs.length+1:=by
  rw[aY,bU,cJ,gL];omega
 refine⟨[⟨b,aF (vs.take i)++aD v++aF (vs.drop i)++rest.drop 17,222,false⟩], .cons_cons _ (lT _),⟨some ⟨b,0,none⟩,vs.length+1,w.c⟩,J,vs.take i++v::vs.drop i, .inr ⟨b,rest.drop 17,false,by rw[hlen],?_,ew _ hall,?_,?_⟩,?_,hall,fun h=>by cases h⟩
 ·rw[oz];simp[aF]
 ·rw[ew _ hall,hlen,gL]
  rw[h5] at h6;have:=bV 17 (show vs.length+1<=w.c by omega);simp only[dQ] at this⊢;omega
 ·rw[hlen];show vs.length+1<=w.c;omega
 ·rw[bT,bJ,jZ,kK]
  exact((q2.take i).up hg).app (.cons (hv.up hg) ((q2.drop i).up hg))
def L4{s:aG}{l:aa}[hs:LB s.l][hl:LB l]:PF GB prog 278 [bj s,eB l] (vI (ir s.l.dir l.dir)):=by
 refine fn func278 J J ntmps278 J J (fun C=>?_);refine cl J (vY (l:=s.l)) J<|cl J (vY (l:=l)) J<|cl J (Z2 (u:=s.l.dir) (v:=l.dir)) J<|?_;exact rz J J
def x4(c:aE)(l:aa)(i:Nat):Bool:=match c[i]? with
 |some s=>decide (ir s.l.dir l.dir=0)
 |none=>false
def TY(i j:Nat):((i:Int)+(j:Int)).fdiv (2^min (1:Int).toNat IntKind.u64.bits)=((i+j)/2:Nat):=by
 rw[show(2:Int)^min (1:Int).toNat IntKind.u64.bits=((2:Nat):Int) from J,gT _ (by decide)];omega
def QC{c:aE}{l:aa}{k:Nat}{s:aG}(h:c[k]? =some s):mh c l k=decide (ir s.l.dir l.dir<0):=by unfold mh;rw[h]
def UI{c:aE}{l:aa}{k:Nat}{s:aG}(h:c[k]? =some s):x4 c l k=decide (ir s.l.dir l.dir=0):=by unfold x4;rw[h]
def Wv{c:aE}{l:aa}{k:Nat}(h: ¬k<c.length):x4 c l k=false:=by unfold x4;rw[eY (by omega)]
def Y6{p:Nat->Bool}{i j:Nat}(h:i<j)(hp:p ((i+j)/2)=true):iu p i j=iu p ((i+j)/2+1) j:=by rw[iu,dif_pos h,if_pos hp]
def Zl{p:Nat->Bool}{i j:Nat}(h:i<j)(hp: ¬p ((i+j)/2)=true):iu p i j=iu p i ((i+j)/2):=by rw[iu,dif_pos h,if_neg hp]
def OR{p:Nat->Bool}{i j:Nat}(h: ¬i<j):iu p i j=i:=by rw[iu,dif_neg h]
def VN{c:aE}{l:aa}[hl:LB l](hc:i5 c)(hn:c.length<=1000000):PF GB prog 277 [.sl (c.map bj),eB l, .v (.func (.func 278) #[] #[])] (.tp [vI (iu (mh c l) 0 c.length:Nat),vB (x4 c l (iu (mh c l) 0 c.length))]):=by
 have hm:=uJ bj c;refine fn (fu:=⟨11⟩) func277 J J ntmps277 J J (fun C=>?_);refine ak 13 (.d (vI (c.length:Nat))) J (by rw[hm]<;>rfl) ?_;refine gx J<|?_;refine lp (X:=Nat×Nat) (fun⟨i,j⟩=>[(9, .d (vI (i:Nat))),(10, .d (vI (j:Nat)))]) (fun⟨i,j⟩=>[]) (fun⟨i,j⟩=>i<=j/\j<=c.length/\iu (mh c l) i j=iu (mh c l) 0 c.length) (fun⟨i,j⟩=>j-i) (0,c.length) J ⟨bQ _,aL _,J⟩ (fun _=>J) (fun⟨i,j⟩ hk=>?_);dsimp only at hk⊢;obtain⟨h1,h2,h3⟩:=hk;refine br (fu1:=⟨10⟩) (fu2:=⟨11⟩) J J J (fun hc17=>?_) (fun hc17=>?_)
 .
  obtain⟨s,hs0⟩: ∃s,c[(i+j)/2]? =some s:=⟨_,aZ (by omega)⟩;haveI:=(hc s (bZ hs0)).lb;have hang:=QC (l:=l) hs0;refine ak 22 (.d (.v (.int .u64 ((i+j)/2:Nat)))) J (by rw[TY]) ?_;refine gx J<|ix _ J (d9 hs0) J<|cl J (L4 (s:=s) (l:=l)) J<|?_;refine br J J J (fun hc31=>?_) (fun hc31=>?_)
  .
   exact at_ ((i+j)/2+1,j) (by dsimp only;exact⟨⟨by omega,h2,by rw[<-h3,Y6 (i:=i) (j:=j) (by omega) (by rw[hang];exact decide_eq_true hc31)]⟩,(by omega)⟩)
  .
   exact at_ (i,(i+j)/2) (by dsimp only;exact⟨⟨by omega,by omega,by rw[<-h3,Zl (i:=i) (j:=j) (by omega) (by rw[hang,decide_eq_false hc31];exact Bool.false_ne_true)]⟩,(by omega)⟩)
 .
  refine l6 (v2:=fun hg39=>by simp only[ah];kernel_rfl) J J J J (fun hg39=>?_) (fun hg39=>?_)
  .
   have he:=OR (p:=mh c l) (i:=i) (j:=j) (by omega);obtain⟨s,hs0⟩: ∃s,c[i]? =some s:=⟨_,aZ (by omega)⟩;haveI:=(hc s (bZ hs0)).lb;refine ix _ J (d9 hs0) J<|cl J (L4 (s:=s) (l:=l)) J<|?_;exact rz J (by rw[<-h3,he,UI hs0];rfl)
  .
   have he:=OR (p:=mh c l) (i:=i) (j:=j) (by omega);exact rz J (by rw[<-h3,he,Wv (by omega)];rfl)
def O0{l:aa}[LB l](hlo:l.ok): ∀{c:aE} {v w:aj},i5 c->qO v->l5 l c v=some w->qO w
 |[],v,w,_,hv,h=>by cases h;exact hv
 |s::t,v,w,hc,hv,h=>by
  haveI:=(hc s aQ).lb;simp only[l5] at h;split at h
  ·exact O0 hlo (fun x hx=>hc x (aJ _ hx)) (hv.cut hlo.1) h
  ·cases h
def Cn{l:aa}[LB l]: ∀{c:aE},i5 c->i5 (fp l c)
 |[],_,s,h=>by cases h
 |a::t,hc,s,h=>by
  have ha:=hc a aQ;haveI:=ha.lb;have ht:=Cn (l:=l) (fun x hx=>hc x (aJ _ hx));unfold fp at h;split at h
  ·rcases aT.1 h with rfl|h
   ·exact⟨ha.lb,ha.ok,ha.v.cut ha.ok.1⟩
   ·exact ht s h
  ·exact ht s h
def A1{l:aa}[hl:LB l](hlo:l.ok){c:aE}(hc:i5 c):i5 (bD c l):=by
 unfold bD;split
 ·rename_i v hv
  intro s hs;unfold om at hs;rcases cX.1 hs with h|h
  ·exact Cn hc s (fY h)
  ·rcases aT.1 h with rfl|h
   ·exact⟨hl,hlo,O0 hlo hc .all hv⟩
   ·exact Cn hc s (iQ h)
 ·exact hc
def O3{l:aa}{c:aE}{k:Nat}{s:aG}(h:c[k]? =some s):fp l (c.drop k)=if s.l.cutB s.v l then⟨s.l,s.l.cutV s.v l⟩::fp l (c.drop (k+1)) else fp l (c.drop (k+1)):=by
 rw[EV h];rfl
def M3{c:aE}{l:aa}[hl:LB l](hlo:l.ok)(hc:i5 c)(hn:c.length<=100000):PF GB prog 183 [.sl (c.map bj),eB l] (.tp [.sl ((bD c l).map bj),vB (cx c l)]):=by
 have hm:=uJ bj c;refine fn func183 J J ntmps183 J J (fun C=>?_);refine cl J (KR (c:=c) (l:=l) hlo hc (by omega)) J<|?_;refine bb (fu2:=⟨6⟩) J J J (fun hc22=>?_) (fun hc22=>?_)
 .
  have hp:kC c l=none:=by simpa using hc22
  refine cl J (Q2 (c:=c) (l:=l) hlo hc (by omega)) J<|?_;exact rz J (by unfold bD cx;rw[hp];rfl)
 .
  obtain⟨v,hv⟩: ∃v,kC c l=some v:=Option.isSome_iff_exists.1 (by simpa using hc22);have hvd:H6 (kC c l)=v:=by rw[hv];rfl
  rw[hvd];refine ak 29 (.d (vI (c.length:Nat))) J (by rw[hm]<;>rfl) ?_;refine gx J<|Tg (fu:=⟨8⟩) (c.length+1) J J J<|?_;refine ak 33 (.d (vI (c.length:Nat))) J (by rw[hm]<;>rfl) ?_;refine gx J<|?_;refine lp (X:=aE×Nat) (fun⟨o,k⟩=>[(34, .d (vI (k:Nat))),(8, .rw 31)]) (fun⟨o,k⟩=>[(31,some (.c 222 17 (o.map bj) (c.length+1)))]) (fun⟨o,k⟩=>k<=c.length/\o.length<=k/\o++fp l (c.drop k)=fp l c) (fun⟨o,k⟩=>c.length-k) ([],0) J ⟨bQ _,aL _,J⟩ (fun _=>J) (fun⟨o,k⟩ hk=>?_);dsimp only at hk⊢;obtain⟨h1,h2,h3⟩:=hk;have hmo:=uJ bj o;refine br J J J (fun hc35=>?_) (fun hc35=>?_)
  .
   obtain⟨s,hs0⟩: ∃s,c[k]? =some s:=⟨_,aZ (by omega)⟩;have hs:=hc s (bZ hs0);haveI:=hs.lb;haveI:=hs.v.lo;haveI:=hs.v.hi;refine ix _ J (d9 hs0) J<|cl (fu:=⟨0⟩) J (Ak (l:=s.l) (m:=l) (v:=s.v)) J<|?_;generalize hw:s.l.cutV s.v l=w;generalize hb:s.l.cutB s.v l=b;refine gx J<|?_;refine bb J J J (fun hc47=>?_) (fun hc47=>?_)
   .
    refine rf J J<|apc ((o++[aG.mk s.l w]).map bj) J (by rw[bT];rfl) (JL [aG.mk s.l w]) (by rw[hmo];simp;omega) J<|?_;refine fA 54 31 J ?_;exact at_ (o++[aG.mk s.l w],k+1) (by dsimp only;exact⟨⟨by omega,by simp;omega,by rw[<-h3,O3 hs0,hb,if_pos hc47,hw,dY];rfl⟩,(by omega)⟩)
   .
    exact at_ (o,k+1) (by dsimp only;exact⟨⟨by omega,by omega,by rw[<-h3,O3 hs0,hb,if_neg (by simp[hc47])]⟩,(by omega)⟩)
  .
   obtain rfl:k=c.length:=by omega
   have ho:o=fp l c:=by rw[<-h3,fU];simp[fp]
   subst ho;have hbl:=(BW (mh (fp l c) l) (fp l c).length 0 (fp l c).length (by omega) (by omega)).2;refine cL J (VN (c:=fp l c) (l:=l) (Cn hc) (by omega)) J J<|ro J J<|ci ((om (fp l c) l v).map bj) J (SM (c:=fp l c) (x:=⟨l,v⟩) (i:=iu (mh (fp l c) l) 0 (fp l c).length) (cap:=c.length+1) hbl (by omega) (by omega)) J J<|?_;refine iA 68 J ?_;exact rz J (by unfold bD cx;rw[hv];rfl)
def IP{c:aE}{l:aa}[hl:LB l](hlo:l.ok)(hc:i5 c)(hn:c.length<=100000):PF GB prog 257 [.sl (c.map bj),eB l] (.tp [.sl ((bD c l).map bj), .sl ((bD c l.rev).map bj),vB (cx c l),vB (cx c l.rev)]):=by
 refine fn func257 J J ntmps257 J J (fun C=>?_);refine cl J (M3 (c:=c) (l:=l) hlo hc hn) J<|cl J (GY (l:=l)) J<|cl J (M3 (c:=c) (l:=l.rev) hlo.rev hc hn) J<|?_;exact rz J J
def cU:Tr->List DV
 | .leaf b=>[vI 0,vI 0, .v (.pointer none),vI 0,vI 0, .v (.pointer none),vI 0,vI 0, .v (.pointer none), .v (.pointer none), .v (.pointer none), .v (.bool b)]
 | .node l x y=>[vI (dm (l.a:Rat)),vI (dq (l.a:Rat)),c8 (l.a:Rat),vI (dm (l.b:Rat)),vI (dq (l.b:Rat)),c8 (l.b:Rat),vI (dm (l.c:Rat)),vI (dq (l.c:Rat)),c8 (l.c:Rat), .pt (cU x), .pt (cU y), .v (.bool false)]
def eU(t:Tr):DV:= .pt (cU t)
def Us{b:Bool}:PF GB prog 153 [.v (.bool b)] (eU (.leaf b)):=by
 refine fn func153 J J ntmps153 J J (fun C=>?_);refine iA 5 J ?_;exact rz J J
def Cr{l:aa}{x y:Tr}:PF GB prog 152 [eB l,eU x,eU y] (eU (.node l x y)):=by
 refine fn func152 J J ntmps152 J J (fun C=>?_);refine iA 11 J ?_;exact rz J J
def yh{b:Bool}:PF GB prog 171 [eU (.leaf b)] (.v (.bool true)):=by
 refine fn func171 J J ntmps171 J J (fun C=>?_);exact rz J J
def Bc{l:aa}{x y:Tr}:PF GB prog 171 [eU (.node l x y)] (.v (.bool false)):=by
 refine fn func171 J J ntmps171 J J (fun C=>?_);exact rz J J
def ZM{l l1:aa}{x y u:Tr}:PF GB prog 335 [eB l,eU (.node l1 x y),eU u] (eU (.node l (.node l1 x y) u)):=by
 refine fn func335 J J ntmps335 J J (fun C=>?_);refine cl (fu:=⟨0⟩) J Bc J<|d7 J J J<|cl J Cr J<|?_;exact rz J J
def Za{l l1:aa}{x y:Tr}{p:Bool}:PF GB prog 335 [eB l,eU (.leaf p),eU (.node l1 x y)] (eU (.node l (.leaf p) (.node l1 x y))):=by
 refine fn func335 J J ntmps335 J J (fun C=>?_);refine cl (fu:=⟨0⟩) J yh J<|dx J J J<|cl (fu:=⟨1⟩) J Bc J<|d7 J J J<|cl J Cr J<|?_;exact rz J J
def QG{l:aa}{p q:Bool}:PF GB prog 335 [eB l,eU (.leaf p),eU (.leaf q)] (eU (Tr.joinQ l (.leaf p) (.leaf q))):=by
 refine fn func335 J J ntmps335 J J (fun C=>?_);refine cl (fu:=⟨0⟩) J yh J<|dx J J J<|cl (fu:=⟨1⟩) J yh J<|dx J J J<|?_;refine bb J J J (fun hc23=>?_) (fun hc23=>?_)
 .
  exact rz J (by rw[show Tr.joinQ l (.leaf p) (.leaf q)= .leaf p by simp[Tr.joinQ,Tr.isLeaf,Tr.code,hc23]];rfl)
 .
  refine cl J Cr J<|?_;exact rz J (by rw[show Tr.joinQ l (.leaf p) (.leaf q)= .node l (.leaf p) (.leaf q) by simp[Tr.joinQ,Tr.isLeaf,Tr.code,hc23]];rfl)
def Yf{l:aa}: ∀{x y:Tr},PF GB prog 335 [eB l,eU x,eU y] (eU (Tr.joinQ l x y))
 | .leaf _, .leaf _=>QG
 | .leaf _, .node .. =>Za
 | .node ..,_=>ZM
def R6{b:Bool}{c:aE}:PF GB prog 235 [eU (.leaf b), .sl (c.map bj)] (eU (Tr.restrict (.leaf b) c)):=by
 refine fn func235 J J ntmps235 J J (fun C=>?_);refine cl (fu:=⟨0⟩) J yh J<|?_;refine py 10 J ?_;refine gx J<|?_;exact rz J J
def Xd{l:aa}{x y:Tr}{c:aE}(hl:LB l)(hlo:l.ok)(hc:i5 c)(hn:c.length+(Tr.node l x y).depth<=100000)(ihx: ∀{c:aE},i5 c->c.length+x.depth<=100000->PF GB prog 235 [eU x, .sl (c.map bj)] (eU (Tr.restrict x c)))(ihy: ∀{c:aE},i5 c->c.length+y.depth<=100000->PF GB prog 235 [eU y, .sl (c.map bj)] (eU (Tr.restrict y c))):PF GB prog 235 [eU (.node l x y), .sl (c.map bj)] (eU (Tr.restrict (.node l x y) c)):=by
 have hdp:(Tr.node l x y).depth=1+max x.depth y.depth:=J;have hdx:=Nat.le_max_left x.depth y.depth;have hdy:=Nat.le_max_right x.depth y.depth;have hca:=Cj c l;have hcb:=Cj c l.rev;refine fn func235 J J ntmps235 J J (fun C=>?_);refine cl (fu:=⟨0⟩) J Bc J<|?_;refine DS 10 J ?_;refine gx J<|cl J (IP (c:=c) (l:=l) hlo hc (by omega)) J<|?_;refine bb J J J (fun hc23=>?_) (fun hc23=>?_)
 .
  refine cl J (ihx hc (by omega)) J<|?_;exact rz J (by rw[Tr.restrict,if_pos hc23];rfl)
 .
  refine bb J J J (fun hc32=>?_) (fun hc32=>?_)
  .
   refine cl J (ihy hc (by omega)) J<|?_;exact rz J (by rw[Tr.restrict,if_neg (by simp[hc23]),if_pos hc32];rfl)
  .
   refine cl J (ihx (c:=bD c l) (A1 hlo hc) (by omega)) J<|cl J (ihy (c:=bD c l.rev) (A1 hlo.rev hc) (by omega)) J<|cl J Yf J<|?_;exact rz J (by rw[Tr.restrict,if_neg (by simp[hc23]),if_neg (by simp[hc32])];rfl)
def EF: ∀{t:Tr} {c:aE},t.all LB->t.all aa.ok->i5 c->c.length+t.depth<=100000->PF GB prog 235 [eU t, .sl (c.map bj)] (eU (Tr.restrict t c))
 | .leaf _,_,_,_,_,_=>R6
 | .node l x y,c,hb,ho,hc,hn=>Xd hb.1 ho.1 hc hn (fun h1 h2=>EF hb.2.1 ho.2.1 h1 h2) (fun h1 h2=>EF hb.2.2 ho.2.2 h1 h2)
def Uh{t:Tr}(hb:t.all LB)(ho:t.all aa.ok)(hd:t.depth<=100000):PF GB prog 143 [eU t] (eU (t.restrict [])):=by
 refine fn func143 J J ntmps143 J J (fun C=>?_);refine cl J (EF (t:=t) (c:=[]) hb ho (fun s h=>by cases h) (by simpa using hd)) J<|?_;exact rz J J
def Tr.compl:Tr->Tr
 | .leaf b=> .leaf !b
 | .node l x y=> .node l x.compl y.compl
def Tr.chooseQ(op:Int)(b:Bool)(t:Tr)(c:aE):Tr:=
 if op=1\/op=2 then(if b=decide (op=1) then .leaf b else t.restrict c)
 else if op=3/\b=false then .leaf false
 else if b then(t.restrict c).compl else t.restrict c
def Tr.mergeQ(op:Int):Tr->Tr->aE->Tr
 | .leaf b,u,c=>u.chooseQ op b c
 | .node l x y,u,c=>if !cx c l.rev then x.mergeQ op u c else if !cx c l then y.mergeQ op u c else joinQ l (x.mergeQ op u (bD c l)) (y.mergeQ op u (bD c l.rev))
def U7:DV:= .ag [vI 0,vI 0, .v (.pointer none),vI 0,vI 0, .v (.pointer none),vI 0,vI 0, .v (.pointer none)]
def lnR:Option aa->DV
 |some l=> .tp [eB l,vB true]
 |none=> .tp [U7,vB false]
def CT(n:Bool)(ds:List Nat):Prop:=dC ds/\(n=true->0<ds.length)
instance (n:Bool) (ds:List Nat):Decidable (CT n ds):=inferInstanceAs (Decidable (_/\_))
structure RL where
 na:Bool
 da:List Nat
 nb:Bool
 db:List Nat
 nc:Bool
 dc:List Nat
def RL.d(r:RL):DV:= .ag [.v (.bool r.na),fh r.da, .v (.bool r.nb),fh r.db, .v (.bool r.nc),fh r.dc]
def wy(n:Bool)(ds:List Nat):Int:=if n then-(dv ds:Int) else dv ds
def RL.l(r:RL):aa:=⟨wy r.na r.da,wy r.nb r.db,wy r.nc r.dc⟩
def RL.nm(r:RL):Prop:=CT r.na r.da/\CT r.nb r.db/\CT r.nc r.dc
instance (l:aa):Decidable l.ok:=inferInstanceAs (Decidable (_/\_))
instance (r:RL):Decidable r.nm:=inferInstanceAs (Decidable (_/\_/\_))
def RL.ln(r:RL):Option aa:=if r.nm/\r.l.ok then some r.l else none
structure RL.sm (r:RL):Prop where
 a:bw r.da/\r.da.length<=3
 b:bw r.db/\r.db.length<=3
 c:bw r.dc/\r.dc.length<=3
def aGL(n:Nat)(f:Nat->Bool):List Value:=(List.range n).map fun j=> .bool (f j)
def tK(f:Nat->Bool)(i:Nat):Nat->Bool:=fun j=>f j||Nat.beq j i
structure RN where
 g:RL
 l:Int
 r:Int
def RN.d(n:RN):DV:= .ag [.v (.bool n.g.na),fh n.g.da, .v (.bool n.g.nb),fh n.g.db, .v (.bool n.g.nc),fh n.g.dc, .v (.int .i64 n.l), .v (.int .i64 n.r)]
structure RS where
 f:Nat->Bool
 c:Nat
 b:Bool
inductive RR (ns:List RN):Int->RS->Tr->RS->Prop where
 |leaf (b:Bool) (s:RS):RR ns (AL b) s (.leaf b) s
 |mn (rt:Int) (s:RS) (h1:rt≠ -1) (h2:rt≠ -2) (h:rt<0\/(ns.length:Int)<=rt\/(∃k:Nat,rt=k/\k<ns.length/\s.f k=true)):RR ns rt s (.leaf false) ⟨s.f,s.c,true⟩
 |line (k:Nat) (n:RN) (s:RS) (h:ns[k]? =some n) (hf:s.f k=false) (hl:n.g.ln=none):RR ns (k:Int) s (.leaf false) ⟨tK s.f k,s.c+1,true⟩
 |node (k:Nat) (n:RN) (l:aa) (s s2 s3:RS) (x y:Tr) (h:ns[k]? =some n) (hf:s.f k=false) (hl:n.g.ln=some l) (h1:RR ns n.l ⟨tK s.f k,s.c+1,s.b⟩ x s2) (h2:RR ns n.r s2 y s3):RR ns (k:Int) s (.node l x y) s3
def Fq{G:Gh}{q:Rat}{v:Value}(h:Is G (c8 q) v): ∃p,v= .pointer p:=by
 rcases q6.1 h with⟨_,h⟩|⟨_,h⟩
 ·exact⟨_,h⟩
 ·obtain⟨b,m,h,_⟩:=oC.1 h;exact⟨_,h⟩
def Hw{G:Gh}{t:Tr}{v:Value}(h:Is G (eU t) v): ∃p,v= .pointer p:=by
 obtain⟨b,m,h,_⟩:=oC.1 h;exact⟨_,h⟩
def PF.fn0{P:Program}{f:FuncId}{ds:List DV}{r:DV}(h: ∀{GB:Gh},PF GB P f ds r){G:Gh}{vs:List Value}(hv:IsLs G ds vs):Fn P f vs G (fun v G'=>Is G' r v):=h (GB:=G) G vs (bz.refl G) hv
abbrev aId (x:SV) (ns:List RN) (A:Gh):Prop:= ∃es,ee A 8 x es/\IsLs A (ns.map RN.d) es
def VE:RS:=⟨fun _=>false,0,false⟩
def ofD(ns:List RN)(t:Tr)(s:RS):DV:=if s.b=false/\s.c=ns.length then .tp [eU t,vB true] else .tp [.v (.pointer none),vB false]
def Yb(rt:Int)(ns:List RN):DV:= .ag [vI rt, .sl (ns.map RN.d)]
end Go.Sx
end
