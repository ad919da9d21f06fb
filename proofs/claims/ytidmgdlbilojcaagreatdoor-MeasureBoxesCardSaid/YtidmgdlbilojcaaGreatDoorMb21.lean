import Derived.Test.YtidmgdlbilojcaaGreatDoorMb20
import Derived.Shelf.SlSortCmp.NoneTotal
import Derived.Test.YtidmgdlbilojcaaGreatDoorProg
import Derived.Test.YtidmgdlbilojcaaGreatDoorCards
import Derived.Test.YtidmgdlbilojcaaGreatDoorTie
import Derived.WalkKit
import Derived.ProofKit
import Derived.OpenShut
import Derived.Deep.DeepHandedRow
import Derived.Deep.DeepWitnessRowRef
import Derived.LaidMore
import Derived.Lib.LaidTab
import Derived.SizedLaws
import Derived.Stop.LaidErr
import Derived.MakeChecks
set_option linter.all false
set_option maxHeartbeats 4000000
set_option maxRecDepth 100000
section
namespace Go.Sx
open Go Go.Proofs Tryz
variable {GB:Gh}
structure InBox (p lo hi:ab):Prop where
 x1:lo.x<=p.x
 x2:p.x<=hi.x
 y1:lo.y<=p.y
 y2:p.y<=hi.y
def zX: ∀{l:List (ab×ab)} {a:ab},((l.foldl (fun s x=>boxL s x.1) a).x<=a.x/\(l.foldl (fun s x=>boxL s x.1) a).y<=a.y)/\ ∀z∈l,(l.foldl (fun s x=>boxL s x.1) a).x<=z.1.x/\(l.foldl (fun s x=>boxL s x.1) a).y<=z.1.y
 |[],a=>⟨⟨dR,dR⟩,fun z hz=>by cases hz⟩
 |y::l,a=>by
  obtain⟨h1,h2⟩:=zX (l:=l) (a:=boxL a y.1);rw[jZ];have b:(boxL a y.1).x<=a.x/\(boxL a y.1).x<=y.1.x/\(boxL a y.1).y<=a.y/\(boxL a y.1).y<=y.1.y:=by
   unfold boxL;dsimp only;refine⟨?_,?_,?_,?_⟩<;>split<;>grind
  refine⟨⟨by grind,by grind⟩,fun z hz=>?_⟩;rcases aW.1 hz with rfl|hz
  ·exact⟨by grind,by grind⟩
  ·exact h2 z hz
def zY: ∀{l:List (ab×ab)} {a:ab},(a.x<=(l.foldl (fun s x=>boxH s x.1) a).x/\a.y<=(l.foldl (fun s x=>boxH s x.1) a).y)/\ ∀z∈l,z.1.x<=(l.foldl (fun s x=>boxH s x.1) a).x/\z.1.y<=(l.foldl (fun s x=>boxH s x.1) a).y
 |[],a=>⟨⟨dR,dR⟩,fun z hz=>by cases hz⟩
 |y::l,a=>by
  obtain⟨h1,h2⟩:=zY (l:=l) (a:=boxH a y.1);rw[jZ];have b:a.x<=(boxH a y.1).x/\y.1.x<=(boxH a y.1).x/\a.y<=(boxH a y.1).y/\y.1.y<=(boxH a y.1).y:=by
   unfold boxH;dsimp only;refine⟨?_,?_,?_,?_⟩<;>split<;>grind
  refine⟨⟨by grind,by grind⟩,fun z hz=>?_⟩;rcases aW.1 hz with rfl|hz
  ·exact⟨by grind,by grind⟩
  ·exact h2 z hz
def zT{t:Tr}{c:aw}(hc:c∈aO t){v:ab}(hv:v∈ey (c.map (·.l))):InBox v (mO t) (nf t):=by
 have hcm:c.map (·.l)∈bH (aO t):=bQ.2 ⟨c,hc,J⟩;have hp:v∈ui (bH (aO t)):=by
  unfold ui;exact gQ.2 ⟨_,hcm,hv⟩
 rw[<-MJ] at hp;obtain⟨z,hz,e⟩:=bQ.1 hp;have h1:=(zX (l:=cd (bH (aO t))) (a:=qA (aO t))).2 z hz;have h2:=(zY (l:=cd (bH (aO t))) (a:=qA (aO t))).2 z hz;rw[e] at h1 h2;exact⟨h1.1,h2.1,h1.2,h2.2⟩
def wI{t:Tr}(ho:t.all aa.ok)(hbd:(aO t).all dw=true){p:ab}(h:qk t p≠0):InBox p (mO t) (nf t):=by
 obtain⟨c,hc,hp⟩:=Rl ho h;have key:=fun n=>below (vJ ho c hc) (vk ho c hc) (dK.1 hbd c hc) hp n;have k: ∀n:ab,∃v,InBox v (mO t) (nf t)/\n.x*v.x+n.y*v.y<=n.x*p.x+n.y*p.y:=fun n=>by
  obtain⟨v,hv,h⟩:=key n;exact⟨v,zT hc hv,h⟩
 obtain⟨v1,b1,h1⟩:=k ⟨1,0⟩;obtain⟨v2,b2,h2⟩:=k ⟨-1,0⟩;obtain⟨v3,b3,h3⟩:=k ⟨0,1⟩;obtain⟨v4,b4,h4⟩:=k ⟨0, -1⟩;dsimp only at*;exact⟨by have:=b1.x1;grind,by have:=b2.x2;grind,by have:=b3.y1;grind,by have:=b4.y2;grind⟩
def yK{α:Type}{f g:α->Rat}: ∀{l:List α},(∀x∈l,f x<=g x)->aE f l<=aE g l
 |[],_=>dR
 |a::t,h=>by
  have h1:=h a aQ;have h2:=yK (l:=t) fun x hx=>h x (aJ a hx);show f a+aE f t<=g a+aE g t;grind
def zJ(f:ab->ab->Rat)(cs:List aw):aE (fun x=>f x.1 x.2) (cd (bH cs))=aE (l5 f) cs:=by
 unfold cd bH;rw[He,vO];refine q8 fun c _=>?_;unfold l5 mA ww;rw[vO]
def xY(t:Tr):jn t=aE (l5 ab.cross) (aO t)*(1/2):=by
 unfold jn;rw[zJ ab.cross,show mkRat 1 2=(1:Rat)/2 from K4]
def wH(t:Tr):(ql t).x=aE (l5 fun p q=>(p.x+q.x)*p.cross q) (aO t)*(1/6)/\(ql t).y=aE (l5 fun p q=>(p.y+q.y)*p.cross q) (aO t)*(1/6):=by
 have h6:(((1:Int):Rat)/((6:Int):Rat))=1/6:=by decide+kernel
 unfold ql mG ab.scale;dsimp only;rw[h6,<-zJ,<-zJ];exact⟨J,J⟩
def wB{k a u v:Rat}(e:k*a=1)(k0:0<=k)(h:u*a<=v):u<=v*k:=by
 have h1:=cD (show 0<=v-u*a by grind) k0;have e2:u*a*k=u:=by rw[Rat.mul_assoc,Rat.mul_comm a k,e,Rat.mul_one]
 grind
def xK{k a u v:Rat}(e:k*a=1)(k0:0<=k)(h:v<=u*a):v*k<=u:=by
 have h1:=cD (show 0<=u*a-v by grind) k0;have e2:u*a*k=u:=by rw[Rat.mul_assoc,Rat.mul_comm a k,e,Rat.mul_one]
 grind
def wA{lo S X a m:Rat}(l:3*lo*S<=X)(ha:a=S*(1/2))(hm:m=X*(1/6)):lo*a<=m:=by subst ha hm;grind
def wC{hi S X a m:Rat}(l:3* -hi*S<= -X)(ha:a=S*(1/2))(hm:m=X*(1/6)):m<=hi*a:=by subst ha hm;grind
def xX{t:Tr}(ho:t.all aa.ok)(hbd:(aO t).all dw=true)(h0:(aO t).length≠0):InBox ((ql t).scale (jn t)⁻¹) (mO t) (nf t):=by
 have hA:0<jn t:=by
  rw[asO ho hbd];have hp:=OL (f:=vY) (l:=aO t) (fun c hc=>Wd (vJ ho c hc) (vk ho c hc) (dK.1 hbd c hc)) (fun e=>h0 (by rw[e];rfl));exact bO hp (by decide+kernel)
 obtain⟨m1,m2⟩:=wH t;have am:=xY t;have low: ∀(n:ab) (m:Rat),(∀v,InBox v (mO t) (nf t)->m<=n.dot v)->3*m*aE (l5 ab.cross) (aO t)<=aE (l5 fun p q=>n.dot (p.add q)*p.cross q) (aO t):=fun n m hm=>by
  rw[<-A'];exact yK fun c hc=>aDi (vJ ho c hc) (vk ho c hc) (dK.1 hbd c hc) fun v hv=>hm v (zT hc hv)
 have neg: ∀f:ab->ab->Rat,aE (l5 fun p q=> -(f p q)) (aO t)= -aE (l5 f) (aO t):=fun f=>by
  rw[<-zJ,<-zJ];have:=A' (-1) (fun x:ab×ab=>f x.1 x.2) (cd (bH (aO t)));rw[show-aE (fun x:ab×ab=>f x.1 x.2) (cd (bH (aO t)))=(-1)*aE (fun x:ab×ab=>f x.1 x.2) (cd (bH (aO t))) by grind,<-this];exact q8 fun x _=>by grind
 have ex: ∀n:ab,∀g:ab->ab->Rat,(∀p q,n.dot (p.add q)*p.cross q=g p q)->(fun p q=>n.dot (p.add q)*p.cross q)=g:=fun n g h=>by funext p q;exact h p q
 have l1:=low ⟨1,0⟩ (mO t).x fun v hv=>by have:=hv.x1;unfold ab.dot;grind
 have l2:=low ⟨-1,0⟩ (-(nf t).x) fun v hv=>by have:=hv.x2;unfold ab.dot;grind
 have l3:=low ⟨0,1⟩ (mO t).y fun v hv=>by have:=hv.y1;unfold ab.dot;grind
 have l4:=low ⟨0, -1⟩ (-(nf t).y) fun v hv=>by have:=hv.y2;unfold ab.dot;grind
 rw[ex ⟨1,0⟩ (fun p q=>(p.x+q.x)*p.cross q) fun p q=>by unfold ab.dot ab.add;grind] at l1;rw[ex ⟨-1,0⟩ (fun p q=> -((p.x+q.x)*p.cross q)) fun p q=>by unfold ab.dot ab.add;grind,neg] at l2;rw[ex ⟨0,1⟩ (fun p q=>(p.y+q.y)*p.cross q) fun p q=>by unfold ab.dot ab.add;grind] at l3;rw[ex ⟨0, -1⟩ (fun p q=> -((p.y+q.y)*p.cross q)) fun p q=>by unfold ab.dot ab.add;grind,neg] at l4;have e:(jn t)⁻¹*jn t=1:=by grind
 unfold ab.scale;generalize (jn t)⁻¹=k at*;generalize jn t=a at*;generalize aE (l5 ab.cross) (aO t)=S at*;generalize aE (l5 fun p q=>(p.x+q.x)*p.cross q) (aO t)=X at*;generalize aE (l5 fun p q=>(p.y+q.y)*p.cross q) (aO t)=Y at*;generalize (ql t).x=mx at*;generalize (ql t).y=my at*;have k0:0<=k:=by
  have:=(gy (s:=k) hA).1 (by rw[e];decide);exact dQ this
 exact⟨wB e k0 (wA l1 am m1),xK e k0 (wC l2 am m1),wB e k0 (wA l3 am m2),xK e k0 (wC l4 am m2)⟩
def yI{t:Tr}(ho:t.all aa.ok)(h0:(aO t).length=0)(p:ab):qk t p=0:=Classical.byContradiction fun k=>by
 obtain⟨c,hc,_⟩:=Rl ho k;rw[bU h0] at hc;cases hc
theorem yN{t:Tr}(hm:lB (aO t))(h:ay (qA (aO t)) 1200):ay (mO t) 1200/\ay (nf t) 1200:=
 ⟨By (fun s p=>ay.boxL) h fun x hx=>(hm.ed.pt x hx).1,By (fun s p=>ay.boxH) h fun x hx=>(hm.ed.pt x hx).1⟩
def xP{t:Tr}(ho:t.all aa.ok)(hbd:(aO t).all dw=true)(h0:(aO t).length≠0):(ui (bH (aO t))).getD 0 ⟨0,0⟩=qA (aO t)/\0<(ui (bH (aO t))).length/\qA (aO t)∈ui (bH (aO t)):=by
 cases hc:aO t with
 |nil=>rw[hc] at h0;exact absurd J h0
 |cons c l=>
  have hcm:c∈aO t:=by rw[hc];exact aQ
  have hve:=Ff (vJ ho c hcm) (vk ho c hcm) (dK.1 hbd c hcm);have h3:=Mv (vJ ho c hcm) (vk ho c hcm) (dK.1 hbd c hcm);have hl:0<(ey (c.map (·.l))).length:=by rw[hve,aK];exact h3
  have e:ui (bH (c::l))=ey (c.map (·.l))++ui (bH l):=J;have hf:qA (c::l)=(ey (c.map (·.l))).getD 0 ⟨0,0⟩:=J;rw[e,hf];rw[aX,aX,cN hl,aZ hl];exact⟨J,by rw[aV];omega,bT _ (bM _)⟩
theorem xU{t:Tr}(ho:t.all aa.ok)(hbd:(aO t).all dw=true)(h0:(aO t).length≠0)(hm:lB (aO t)):ay (qA (aO t)) 1200:=by
 have hq:=(xP ho hbd h0).2.2;rw[<-MJ] at hq;obtain⟨x,hx,e⟩:=bQ.1 hq;rw[<-e];exact(hm.ed.pt x hx).1
def yH(l:List ab):cP 6 (l.map eZ):=fun d hd=>by
 obtain⟨x,_,rfl⟩:=bQ.1 hd;exact⟨J,J⟩
instance ay.negp (p:ab) (i:Nat) [h:ay p i]:ay (bG p) i:=⟨inferInstanceAs (BQ (-p.x) i),inferInstanceAs (BQ (-p.y) i)⟩
instance ay.prip (l:aa) [LB l]:ay (dH l.dir) 500:=by
 have h:=(inferInstance:ay (l.dir.scale (rgcd l.dir.x l.dir.y)⁻¹) _);exact⟨h.x.mono (by decide),h.y.mono (by decide)⟩
def wF{p:ab}{i:Nat}[h:ay p i](hi:i<=900000000:=by decide):PF GB prog 193 [eZ p] (eZ (bG p)):=by
 refine fn func193 J J ntmps193 J J (fun C=>?_);refine cl J (qt (q:=p.x) (i:=i) hi) J<|cl J (qt (q:=p.y) (i:=i) hi) J<|?_;exact rz J J
def xS{p:ab}{i:Nat}[h:ay p i](hi:i<=900000000:=by decide):PF GB prog 186 [eZ p] (eZ (jh p)):=by
 refine fn func186 J J ntmps186 J J (fun C=>?_);refine cl J (qt (q:=p.y) (i:=i) hi) J<|?_;exact rz J J
def xT{p:ab}{i:Nat}[h:ay p i](hi:i<=1000000:=by decide):PF GB prog 192 [eZ p] (eZ (dH p)):=by
 refine fn func192 J J ntmps192 J J (fun C=>?_);refine cl J (tj (p:=p.x) (q:=p.y) (i:=i) (j:=i) (by omega) (by omega)) J<|cl J (Ic (q:=rgcd p.x p.y) (i:=i+i+(i+i)) (by omega)) J<|?_;refine cl J (Aw (p:=p) (c:=(rgcd p.x p.y)⁻¹) (i:=i) (j:=i+i+(i+i)) (by omega) (by omega)) J<|?_;exact rz J J
def zB(l:aa)(x y:Tr)(p:ab):dE (.node l x y) p=(if Int.sign (l.value p).num=0 then [dH l.dir,bG (dH l.dir)] else [])++((if 0<=Int.sign (l.value p).num then dE x p else [])++(if Int.sign (l.value p).num<=0 then dE y p else [])):=by
 unfold dE;rw[me,mN,mN];congr 1
 ·split<;>simp
 ·congr 1<;>split<;>simp
def zH: ∀(t:Tr) (p:ab),(dE t p).length<=2*t.size
 | .leaf _,_=>bV _
 | .node l x y,p=>by
  have h1:=zH x p;have h2:=zH y p;rw[zB,aV,aV,Tr.size];split<;>split<;>split<;>simp only[bX,fU]<;>omega
def zW{b:Bool}{p:ab}{o:List ab}:PB GB prog 139 (dG [some (eU (.leaf b)),some (eZ p),none]) 6 146 (o.map eZ) (fun w=> .v (.slice w.a w.n w.c)) ((o++dE (.leaf b) p).map eZ):=by
 refine ul func139 J J ntmps139 J J (fun C=>?_);refine cl (fu:=⟨0⟩) J Dn J<|?_;refine tO 10 J ?_;refine gx J<|?_;exact oG J J J (by show _=(o++[]).map eZ;rw[mS])
def xB{l:aa}{x y:Tr}{p:ab}{i:Nat}[hp:ay p i](hl:LB l)(hi:i<=10000000){o:List ab}(hs:o.length+2*(Tr.node l x y).size<=1000000)(hz:Int.sign (l.value p).num=0)(ihx: ∀{o:List ab},o.length+2*x.size<=1000000->PB GB prog 139 (dG [some (eU x),some (eZ p),none]) 6 146 (o.map eZ) (fun w=> .v (.slice w.a w.n w.c)) ((o++dE x p).map eZ))(ihy: ∀{o:List ab},o.length+2*y.size<=1000000->PB GB prog 139 (dG [some (eU y),some (eZ p),none]) 6 146 (o.map eZ) (fun w=> .v (.slice w.a w.n w.c)) ((o++dE y p).map eZ)):PB GB prog 139 (dG [some (eU (.node l x y)),some (eZ p),none]) 6 146 (o.map eZ) (fun w=> .v (.slice w.a w.n w.c)) ((o++dE (.node l x y) p).map eZ):=by
 haveI:=hl;have hz2:(Tr.node l x y).size=1+x.size+y.size:=J;have hp1:=zH x p;refine ul func139 J J ntmps139 J J (fun C=>?_);refine cl (fu:=⟨0⟩) J Ai J<|?_;refine wn 10 J ?_;refine gx J<|cl (fu:=⟨7⟩) J (A6 (l:=l) (p:=p) (i:=i) hi) J<|cB J (by show some (decide _)=some true;rw[decide_eq_true (by omega)]) J<|?_;refine cl J (xk (l:=l)) J<|cl J (xT (p:=l.dir) (i:=97)) J<|cl J (wF (p:=dH l.dir) (i:=500)) J<|rf J J<|?_;refine IF (fu:=⟨7⟩) ((o++[dH l.dir,bG (dH l.dir)]).map eZ) J (by rw[bS]<;>rfl) (yH [dH l.dir,bG (dH l.dir)]) J<|cB J (by show some (decide _)=some true;rw[decide_eq_true (by omega)]) J<|?_;refine cq (fu:=⟨7⟩) (((o++[dH l.dir,bG (dH l.dir)])++dE x p).map eZ) J (ihx (by rw[aV,bX,bX,fU];omega)) J J<|?_;refine cB J (by show some (decide _)=some true;rw[decide_eq_true (by omega)]) J<|cq _ J (ihy (by rw[aV,aV,bX,bX,fU];omega)) J J<|?_;exact oG J J J (by rw[zB,hz];simp)
def xC{l:aa}{x y:Tr}{p:ab}{i:Nat}[hp:ay p i](hl:LB l)(hi:i<=10000000){o:List ab}(hs:o.length+2*(Tr.node l x y).size<=1000000)(hz:Int.sign (l.value p).num=1)(ihx: ∀{o:List ab},o.length+2*x.size<=1000000->PB GB prog 139 (dG [some (eU x),some (eZ p),none]) 6 146 (o.map eZ) (fun w=> .v (.slice w.a w.n w.c)) ((o++dE x p).map eZ)):PB GB prog 139 (dG [some (eU (.node l x y)),some (eZ p),none]) 6 146 (o.map eZ) (fun w=> .v (.slice w.a w.n w.c)) ((o++dE (.node l x y) p).map eZ):=by
 haveI:=hl;have hz2:(Tr.node l x y).size=1+x.size+y.size:=J;refine ul func139 J J ntmps139 J J (fun C=>?_);refine cl (fu:=⟨0⟩) J Ai J<|?_;refine wn 10 J ?_;refine gx J<|cl (fu:=⟨7⟩) J (A6 (l:=l) (p:=p) (i:=i) hi) J<|cG (fu:=⟨9⟩) J (by show some (decide _)=some false;rw[decide_eq_false (by omega)]) J<|?_;refine cB J (by show some (decide _)=some true;rw[decide_eq_true (by omega)]) J<|cq (fu:=⟨7⟩) _ J (ihx (by omega)) J J<|cG J (by show some (decide _)=some false;rw[decide_eq_false (by omega)]) J<|?_;exact oG J J J (by rw[zB,hz];simp)
def xD{l:aa}{x y:Tr}{p:ab}{i:Nat}[hp:ay p i](hl:LB l)(hi:i<=10000000){o:List ab}(hs:o.length+2*(Tr.node l x y).size<=1000000)(hz:Int.sign (l.value p).num= -1)(ihy: ∀{o:List ab},o.length+2*y.size<=1000000->PB GB prog 139 (dG [some (eU y),some (eZ p),none]) 6 146 (o.map eZ) (fun w=> .v (.slice w.a w.n w.c)) ((o++dE y p).map eZ)):PB GB prog 139 (dG [some (eU (.node l x y)),some (eZ p),none]) 6 146 (o.map eZ) (fun w=> .v (.slice w.a w.n w.c)) ((o++dE (.node l x y) p).map eZ):=by
 haveI:=hl;have hz2:(Tr.node l x y).size=1+x.size+y.size:=J;refine ul func139 J J ntmps139 J J (fun C=>?_);refine cl (fu:=⟨0⟩) J Ai J<|?_;refine wn 10 J ?_;refine gx J<|cl (fu:=⟨7⟩) J (A6 (l:=l) (p:=p) (i:=i) hi) J<|cG (fu:=⟨9⟩) J (by show some (decide _)=some false;rw[decide_eq_false (by omega)]) J<|?_;refine cG (fu:=⟨9⟩) J (by show some (decide _)=some false;rw[decide_eq_false (by omega)]) J<|cB J (by show some (decide _)=some true;rw[decide_eq_true (by omega)]) J<|?_;refine cq _ J (ihy (by omega)) J J<|?_;exact oG J J J (by rw[zB,hz];simp)
def zP{p:ab}{i:Nat}[hp:ay p i](hi:i<=10000000:=by decide): ∀{t:Tr} {o:List ab},t.all LB->o.length+2*t.size<=1000000->PB GB prog 139 (dG [some (eU t),some (eZ p),none]) 6 146 (o.map eZ) (fun w=> .v (.slice w.a w.n w.c)) ((o++dE t p).map eZ)
 | .leaf _,_,_,_=>zW
 | .node l x y,_,hb,hs=>by
  have hz2:(Tr.node l x y).size=1+x.size+y.size:=J;rcases lU (l.value p).num 0 with h|h|h
  ·exact xD hb.1 hi hs (fK h) fun k=>zP hi hb.2.2 k
  ·exact xB hb.1 hi hs (by rw[h];rfl) (fun k=>zP hi hb.2.1 k) fun k=>zP hi hb.2.2 k
  ·exact xC hb.1 hi hs (fW h) fun k=>zP hi hb.2.1 k
def yS{t:Tr}{p v:ab}{i j:Nat}[hp:ay p i][hv:ay v j](hb:t.all LB)(hi:i<=10000000:=by decide)(hj:j<=10000000:=by decide):PF GB prog 140 [eU t,eZ p,eZ v] (.tp [vB (gq t p v).1,vB (gq t p v).2]):=by
 refine fn func140 J J ntmps140 J J (fun C=>?_);refine lp (X:=Tr) (fun s=>[(0, .d (eU s))]) (fun s=>[]) (fun s=>gq s p v=gq t p v/\s.all LB) (fun s=>s.size) t J ⟨J,hb⟩ (fun _=>J) (fun s hk=>?_);obtain⟨h1,hb2⟩:=hk;rcases s with b|⟨l,x,y⟩
 .
  have hA:gq t p v=(b,true):=h1.symm;refine cl (fu:=⟨0⟩) J Dn J<|?_;refine tO 10 J ?_;refine gx J<|?_;exact rz J (by rw[hA];rfl)
 .
  have hAn:=h1.symm;rw[gq,tE] at hAn;haveI:=hb2.1;refine cl (fu:=⟨0⟩) J Ai J<|?_;refine wn 10 J ?_;refine gx J<|cl (fu:=⟨4⟩) J (A6 (l:=l) (p:=p) (i:=i) hi) J<|?_;refine mg (X:=Int) (fun s8=>[(8, .d (vI s8))]) (fun s8=>[]) (fun s8=>s8=(if(l.value p).num.sign=0 then(l.nor.dot v).num.sign else(l.value p).num.sign)) [8] [] rfl ?_ (fun _=>J) (fun s8 hs8=>?_)
  .
   refine gx J<|?_;refine br J J J (fun hc19=>?_) (fun hc19=>?_)
   .
    refine cl J (yl (l:=l)) J<|cl J (Es (p:=l.nor) (q:=v) (i:=97) (j:=j) (by decide) (by omega)) J<|cl J (nF (q:=l.nor.dot v) (by omega)) J<|?_;exact at_ (l.nor.dot v).num.sign (if_pos hc19).symm
   .
    exact at_ (l.value p).num.sign (if_neg hc19).symm
  .
   rw[<-hs8] at hAn;refine br J J J (fun hc29=>?_) (fun hc29=>?_)
   .
    exact at_ x ⟨⟨by rw[hAn,hc29];rfl,hb2.2.1⟩,(by simp only[Tr.size];omega)⟩
   .
    refine br J J J (fun hc35=>?_) (fun hc35=>?_)
    .
     exact at_ y ⟨⟨by rw[hAn,hc35];rfl,hb2.2.2⟩,(by simp only[Tr.size];omega)⟩
    .
     exact rz J (by rw[hAn];split<;>first|rfl|contradiction)
def xZ{q:Rat}{i:Nat}[h:BQ q i](hi:i<=400000000:=by decide):PF GB prog 142 [eR q] (eF q):=by
 haveI:BN q.num.natAbs i:=⟨h.hn⟩;haveI:BN q.den i:=⟨h.hd⟩;refine fn func142 J J ntmps142 J J (fun C=>?_);refine cl (fu:=⟨0⟩) J (uR (n:=decide (q.num<0)) (a:=q.num.natAbs) (d:=q.den) (i:=i) (j:=i) (by omega) (by omega)) J<|?_;refine aj 7 (.d (eF q)) J (by rw[lP,tJ]) ?_;refine gx J<|?_;exact rz J J
def wE{p:ab}{i:Nat}[h:ay p i](hi:i<=400000000:=by decide):PF GB prog 79 [jG p] (eZ p):=by
 refine fn func79 J J ntmps79 J J (fun C=>?_);refine cl J (xZ (q:=p.x) (i:=i) hi) J<|cl J (xZ (q:=p.y) (i:=i) hi) J<|?_;exact rz J J
def wL(G:Gh)(y:Value)(h:Is G (.sl [.ag [vI (ce 1),vI (b9 1),cg 1,vI 0,vI 0, .v (.pointer none)]]) y):Is G (.sl ((lf []).map eZ)) y:=by
 obtain⟨s,x,es,rfl,h1,h2⟩:=iB.1 h;obtain⟨v,m,rfl,k,h3⟩:=bh.1 h2
 cases eG.1 h3
 refine iB.2 ⟨s,x,_,J,h1, .cons ?_ .nil⟩;obtain⟨m4,rfl,g4⟩:=d6.1 k;obtain⟨v1,m1,rfl,k1,g1⟩:=bh.1 g4;obtain⟨v2,m2,rfl,k2,g2⟩:=bh.1 g1;obtain⟨v3,m3,rfl,k3,g3⟩:=bh.1 g2;obtain⟨m5,q5,g5⟩:=d6.1 (y5 _ _ (d6.2 ⟨m3,rfl,g3⟩))
 cases q5
 exact d6.2 ⟨_,J, .cons k1 (.cons k2 (.cons k3 g5))⟩
def yL{ds:List ab}{k:Nat}{u w:ab}(h1:ds[k]? =some u)(h2:ds[(k+1)%ds.length]? =some w):ou ds k=if 0<Int.sign (u.cross w).num then u.add w else jh u:=by
 unfold ou;rw[aX,aX,h1,h2];rfl
def zS(ds:List ab)(k:Nat):(List.range (k+1)).map (ou ds)=(List.range k).map (ou ds)++[ou ds k]:=by rw[List.range_succ,bS];rfl
def xR:PF GB prog 137 [.sl []] (.sl ((lf []).map eZ)):=by
 refine fn (fu:=⟨10⟩) func137 J J ntmps137 J J (fun C=>?_);refine cB J (by rfl) J<|cl J (qa (by omega)) J<|rf J J<|?_;exact jo J wL
def xQ{ds:List ab}{i:Nat}(h0:0<ds.length)(hb: ∀d∈ds,ay d i)(hn:ds.length<=10000000)(hi:i<=1000000:=by decide):PF GB prog 137 [.sl (ds.map eZ)] (.sl ((lf ds).map eZ)):=by
 have hml:(ds.map eZ).length=ds.length:=aK ..;refine fn (fu:=⟨10⟩) func137 J J ntmps137 J J (fun C=>?_);refine aj 8 (.d (vI (ds.length:Nat))) J (by rw[hml]<;>rfl) ?_;refine gx (fu:=⟨0⟩) J<|cG (fu:=⟨15⟩) J (by show some (decide _)=some false;rw[decide_eq_false (by omega)]) J<|?_;refine aj 14 (.d (vI (ds.length:Nat))) J (by rw[hml]<;>rfl) ?_;refine gx J<|?_;refine nr 3 3 146 6 J J J ?_;refine lp (X:=List ab×Nat) (fun⟨acc,k⟩=>[(15, .d (vI (k:Nat))),(3, .rw 3)]) (fun⟨acc,k⟩=>[(3,some (.b 146 6 (acc.map eZ) true))]) (fun⟨acc,k⟩=>acc=(List.range k).map (ou ds)/\k<=ds.length) (fun⟨acc,k⟩=>ds.length-k) ⟨[],0⟩ J ⟨J,bV _⟩ (fun _=>J) (fun⟨acc,k⟩ hk=>?_)
 try dsimp only at hk⊢
 obtain⟨h1,h2⟩:=hk;have hal:acc.length=k:=by rw[h1,aK,rR]
 have ham:(acc.map eZ).length=acc.length:=aK ..;refine br J J J (fun hc16=>?_) (fun hc16=>?_)
 .
  obtain⟨u,hx⟩: ∃u,ds[k]? =some u:=⟨_,aZ (by omega)⟩;obtain⟨w,hw⟩: ∃w,ds[(k+1)%ds.length]? =some w:=⟨_,aZ (dX _ (by omega))⟩;haveI:=hb u (aT hx);haveI:=hb w (aT hw);refine ix (fu:=⟨13⟩) _ J (d8 hx) J<|?_;refine aj 24 (.d (vI (ds.length:Nat))) J (by rw[hml]<;>rfl) ?_;refine gx (fu:=⟨1⟩) J<|?_;refine aj 25 (.d (vI (((k+1)%ds.length:Nat):Int))) J J ?_;refine gx J<|ix _ J (d8 hw) J<|cl J (Bo (p:=u) (q:=w) (by omega) (by omega)) J<|cl J (nF (q:=u.cross w) (by omega)) J<|?_;refine br J J J (fun hc32=>?_) (fun hc32=>?_)
  .
   refine cl J (Ce (p:=u) (q:=w) (by omega) (by omega)) J<|rf J J<|ap ((acc++[u.add w]).map eZ) J (by rw[bS]<;>rfl) (yH [u.add w]) J<|?_;refine gI 38 3 J ?_;exact at_ ⟨acc++[u.add w],k+1⟩ (by dsimp only;exact⟨⟨by rw[zS,yL hx hw,if_pos hc32,<-h1],by omega⟩,(by omega)⟩)
  .
   refine cl J (xS (p:=u) (by omega)) J<|rf J J<|ap ((acc++[jh u]).map eZ) J (by rw[bS]<;>rfl) (yH [jh u]) J<|?_;refine gI 43 3 J ?_;exact at_ ⟨acc++[jh u],k+1⟩ (by dsimp only;exact⟨⟨by rw[zS,yL hx hw,if_neg hc32,<-h1],by omega⟩,(by omega)⟩)
 .
  obtain rfl:k=ds.length:=by omega
  have hS:lf ds=acc:=by unfold lf;rw[if_neg (by omega),h1]
  refine iE 3 J ?_;exact rz J (by rw[hS];rfl)
def yT{ds:List ab}{i:Nat}(hb: ∀d∈ds,ay d i)(hn:ds.length<=10000000)(hi:i<=1000000:=by decide):PF GB prog 137 [.sl (ds.map eZ)] (.sl ((lf ds).map eZ)):=by
 cases ds with
 |nil=>exact xR
 |cons d ds=>exact xQ (i:=i) (Nat.zero_lt_succ _) hb hn hi
def yM{u v:ab}{i j:Nat}[hp:ay u i][hq:ay v j](hi:i<=10000000:=by decide)(hj:j<=10000000:=by decide):PF GB prog 190 [eZ u,eZ v] (vB (decide (co u v=0))):=by
 refine fn func190 J J ntmps190 J J (fun C=>?_);refine cl J (Hw (u:=u) (v:=v) hi hj) J<|?_;exact rz J J
def zG(x:ab):List ab->List ab
 |[]=>[]
 |y::l=>if co y x=0 then zG y l else y::zG y l
def zI:List ab->List ab
 |[]=>[]
 |x::l=>x::zG x l
def zN{l:List ab}{k:Nat}{x y:ab}(h:l[k]? =some y):zG x (l.drop k)=if co y x=0 then zG y (l.drop (k+1)) else y::zG y (l.drop (k+1)):=by
 obtain⟨h1,h2⟩:=aS.1 h;rw[bZ h1,h2,zG]
def yQ{l:List ab}{k:Nat}{y:ab}(h:l[k]? =some y):l.take (k+1)=l.take k++[y]:=by
 rw[iQ,h];rfl
def vZ:DV:= .ag [vI 0,vI 0, .v (.pointer none),vI 0,vI 0, .v (.pointer none)]
def xH(l:List ab)(k:Nat)(y:ab):(l.map eZ).set k (eZ y)=(l.set k y).map eZ:=(kL ..).symm
def yD{l:List ab}(h:l.length<2):zI l=l:=by
 cases l with
 |nil=>rfl
 |cons x l=>cases l with
  |nil=>rfl
  |cons y l=>simp at h;omega
def xW{l:List ab}{x:ab}(h:l[0]? =some x):zI l=l.take 1++zG x (l.drop 1):=by
 cases l with
 |nil=>cases h
 |cons y l=>cases h;rfl
def yO{r l:List ab}{a b:Nat}(h:a<=b)(e:r.drop a=l.drop a):r[b]? =l[b]? :=by
 have:=congrArg (·[b-a]?) e;simpa[lM,show a+(b-a)=b by omega] using this
def yY{r l:List ab}{a b:Nat}(h:a<=b)(e:r.drop a=l.drop a):r.drop b=l.drop b:=by
 have:=congrArg (List.drop (b-a)) e;simpa[tK,show a+(b-a)=b by omega] using this
def zR{r:List ab}{i:Nat}{u:ab}(h:i<r.length):(r.set i u).take (i+1)=r.take i++[u]:=by
 rw[iQ,nZ h,List.take_set_of_le (aN _)];rfl
def yW{r:List ab}{i:Nat}(h:i<r.length):(r.map eZ)[(i:Int).toNat]? =some (eZ r[i]):=by simp[h]
def yU{l:List ab}{i0:Nat}(hb: ∀d∈l,ay d i0)(hn:l.length<=10000000)(hi:i0<=10000000):PB GB prog 189 (dG [none,some (.v (.func (.func 190) #[] #[]))]) 6 146 (l.map eZ) (fun w=> .v (.slice w.a w.n w.c)) ((zI l).map eZ):=by
 have hml:(l.map eZ).length=l.length:=aK ..;refine ul (fu:=⟨10⟩) func189 J J ntmps189 J J (fun C=>?_);refine aj 9 (.d (vI (l.length:Nat))) J (by rw[hml]<;>rfl) ?_;refine gx J<|?_;refine br J J J (fun hc10=>?_) (fun hc10=>?_)
 .
  exact oG J J J (by rw[yD (by omega)])
 .
  obtain⟨x0,hx0⟩: ∃x,l[0]? =some x:=⟨_,aZ (by omega)⟩;refine lp (fu:=⟨6⟩) (X:=Nat×ab) (fun⟨k,x⟩=>[(5, .d (vI (k:Nat)))]) (fun⟨k,x⟩=>[]) (fun⟨k,x⟩=>1<=k/\k<=l.length/\l[k-1]? =some x/\zI l=l.take k++zG x (l.drop k)) (fun⟨k,x⟩=>l.length-k) ⟨1,x0⟩ J ⟨aN _,by omega,hx0,by rw[xW hx0]⟩ (fun _=>J) (fun⟨k,x⟩ hk=>?_)
  try dsimp only at hk⊢
  obtain⟨h1,h2,h3,h4⟩:=hk;refine aj 14 (.d (vI (l.length:Nat))) J (by rw[hml]<;>rfl) ?_;refine gx J<|?_;refine br J J J (fun hc15=>?_) (fun hc15=>?_)
  .
   obtain⟨y,hy⟩: ∃y,l[k]? =some y:=⟨_,aZ (by omega)⟩;haveI:=hb y (aT hy);haveI:=hb x (aT h3);refine lb (fu:=⟨3⟩) _ J (d8 hy) J<|?_;refine aj 25 (.d (vI ((k-1:Nat):Int))) J (by rw[Int.ofNat_sub h1]<;>rfl) ?_;refine gx J<|lb (fu:=⟨0⟩) _ J (d8 h3) J<|cl J (yM (u:=y) (v:=x) hi hi) J<|?_;refine bd (fu1:=⟨4⟩) J J J (fun hc28=>?_) (fun hc28=>?_)
   .
    have hc28':=hc28;refine RO k (l.length-k) J J (by omega) (by omega) J<|?_;refine lp (fu:=⟨5⟩) (X:=Nat×Nat×ab×List ab) (fun⟨i,m,z,r⟩=>[(5, .d (vI (i:Nat))),(7, .d (vI (m:Nat)))]) (fun⟨i,m,z,r⟩=>[(1000000,some (.b 146 6 (r.map eZ) false))]) (fun⟨i,m,z,r⟩=>1<=m/\k+m<=l.length/\i+1<=k+m/\r.length=l.length/\r.drop (k+m-1)=l.drop (k+m-1)/\l[k+m-1]? =some z/\zI l=r.take i++zG z (l.drop (k+m))) (fun⟨i,m,z,r⟩=>l.length-m) ⟨k,1,y,l⟩ J ⟨aN _,by omega,by omega,J,J,by rw[lQ];exact hy,by rw[h4,zN hy,if_pos hc28']⟩ (fun _=>J) (fun⟨i,m,z,r⟩ hk=>?_)
    try dsimp only at hk⊢
    obtain⟨g1,g2,g3,g4,g5,g6,g7⟩:=hk;have hrl:(r.map eZ).length=r.length:=aK ..;refine ZJ J J<|?_;refine br (fu1:=⟨9⟩) (fu2:=⟨9⟩) J J J (fun hc35=>?_) (fun hc35=>?_)
    .
     obtain⟨u,hu⟩: ∃u,l[k+m]? =some u:=⟨_,aZ (by omega)⟩;haveI:=hb u (aT hu);haveI:=hb z (aT g6);have g8:r[k+m]? =some u:=by rw[<-hu];exact yO (by omega) g5
     have g10:r[k+m-1]? =some z:=by rw[<-g6];exact yO (aN _) g5
     have g9:r.drop (k+m)=l.drop (k+m):=yY (by omega) g5;refine KY (k+m) J (by omega) (by omega) (by omega) J<|lb (fu:=⟨3⟩) _ J (d8 g8) J<|KY (k+m-1) J (by omega) (by omega) (by omega) J<|?_;refine lb (fu:=⟨0⟩) _ J (d8 g10) J<|cl J (yM (u:=u) (v:=z) hi hi) J<|?_;refine bb (fu1:=⟨6⟩) J J J (fun hc49=>?_) (fun hc49=>?_)
     .
      have hc49': ¬co u z=0:=by simpa using hc49
      refine KY (k+m) J (by omega) (by omega) (by omega) J<|lb _ J (d8 g8) J<|sb _ ((r.set i u).map eZ) J (yW (by omega)) J (by rw[<-xH]<;>rfl) J<|?_;exact at_ ⟨i+1,m+1,u,r.set i u⟩ (by dsimp only;exact⟨⟨by omega,by omega,by omega,by rw[aM];exact g4,by rw[show k+(m+1)-1=k+m by omega,qU (by omega)];exact g9,by rw[show k+(m+1)-1=k+m by omega];exact hu,by rw[g7,zN hu,if_neg hc49',zR (by omega),gW];rfl⟩,(by omega)⟩)
     .
      have hc49':co u z=0:=by simpa using hc49
      exact at_ ⟨i,m+1,u,r⟩ (by dsimp only;exact⟨⟨by omega,by omega,by omega,g4,by rw[show k+(m+1)-1=k+m by omega];exact g9,by rw[show k+(m+1)-1=k+m by omega];exact hu,by rw[g7,zN hu,if_pos hc49'];rfl⟩,(by omega)⟩)
    .
     obtain hm:k+m=l.length:=by omega
     refine RO i (l.length-i) J J (by omega) (by omega) J<|YB (fu:=⟨6⟩) _ J (by rw[hrl];omega) (by omega) J J<|UH ((r.take i).map eZ) i J J (by rw[aV,cW,aY,hrl];omega) (by rw[eY (by rw[cW,hrl];omega),List.take_take,Nat.min_self,gR]) J<|?_;exact oG J J J (by rw[g7,hm,fV,zG,mS])
   .
    have hc28':=hc28;exact at_ ⟨k+1,y⟩ (by dsimp only;exact⟨⟨by omega,by omega,hy,by rw[h4,zN hy,if_neg hc28',yQ hy,gW];rfl⟩,(by omega)⟩)
  .
   exact oG J J J (by rw[h4,show k=l.length by omega,fV,zG,mS,dJ])
def yX{v:Value}(h:Go.Sx.flat v=true):v.oneCell'=true:=by cases v<;>first|rfl|cases h
def zL{α:Type}{k:Nat}: ∀(l:List (List α)) (t:Nat),(∀x∈l,x.length=k)->t<l.length*k->l.flatten[t]? =(l[t/k]?).bind (·[t%k]?)
 |[],t,_,h=>by simp at h
 |x::l,t,h,ht=>by
  have hx:=h x aQ;have hk:0<k:=by
   rcases fX k with e|e
   ·subst e;simp at ht
   ·exact e
  rw[lV];by_cases q:t<k
  ·rw[cN (by omega),jM q,eX q];rfl
  ·rw[fM (by omega),hx,zL l (t-k) (fun y hy=>h y (aJ _ hy)) (by rw[bX,cS] at ht;omega)]
   have e1:t/k=(t-k)/k+1:=by rw[Nat.div_eq_sub_div hk (by omega)]
   have e2:t%k=(t-k)%k:=by rw[Nat.mod_eq_sub_mod (by omega)]
   rw[e1,e2];rfl
section
variable {α:Type} [Inhabited α]
def xI(enc:α->List Value)(k:Nat)(hk: ∀x,(enc x).length=k)(d:Array α):(Go.Sort.flatK enc k d).toList=(d.toList.map enc).flatten:=by
 apply jW;intro t;have hlen:(d.toList.map enc).flatten.length=d.size*k:=by
  have: ∀l:List α,(l.map enc).flatten.length=l.length*k:=fun l=>by
   induction l with
   |nil=>simp
   |cons x l ih=>rw[cK,lV,aV,ih,hk,bX,cS];omega
  simpa using this d.toList
 by_cases ht:t<d.size*k
 ·have hk0:0<k:=by
   rcases fX k with e|e
   ·subst e;simp at ht
   ·exact e
  have hi:t/k<d.size:=sW (by rwa [bN]);rw[zL (k:=k) _ _ (fun x hx=>by obtain⟨y,_,rfl⟩:=bQ.1 hx;exact hk y) (by simpa using ht)];simp only[Go.Sort.flatK,pQ,Array.toList_range,cV];rw[oR ht];have hj:t%k<(enc d[t/k]).length:=by rw[hk];exact dX _ hk0
  simp only[jR];rw[getElem!_pos d (t/k) hi,getElem!_pos (enc d[t/k]) (t%k) hj];simp[hi,hj]
 ·rw[cM (by simp[Go.Sort.flatK];omega),cM (by rw[hlen];omega)]
def yJ(enc:α->List Value)(k:Nat)(w:World)(b m:Nat)(dk:Array α)(os:Array Obj){q:Nat}(hq:q<w.heap.size):
  (sortWorldK enc k w b 0 m dk os).heap[q]? =if q=b then(w.heap[q]?).map (Go.Sort.onCells (Go.Sort.putCells id 0 (Go.Sort.flatK enc k dk))) else w.heap[q]? :=by
 show((w.heap.modify b _)++os)[q]? =_;rw[kX (by simpa using hq),Array.getElem?_modify];by_cases e:b=q
 ·subst e;simp
 ·simp[e,Ne.symm e]
def yR{F:Array Value}{xs rest:List Value}(h:xs.length=F.size):Go.Sort.putCells id 0 F ⟨xs++rest⟩=⟨F.toList++rest⟩:=by
 apply Array.ext';apply jW;intro k;simp only[Go.Sort.putCells,Array.toList_mapIdx,List.getElem?_mapIdx];by_cases hk:k<F.size
 ·rw[cN (by omega),cN (by simpa using hk),aZ (by omega)]
  simp[hk]
 ·rw[fM (by omega),fM (by simp;omega),h]
  simp only[iU]
  cases rest[k-F.size]? with
  |none=>rfl
  |some v=>simp[hk]
end
def zM{A:Type}(cf:A->A->Int)(ds:List A):List A:=ds.mergeSort fun x y=>!decide (cf y x<0)
def zA{A:Type}(cf:A->A->Int)(ds:List A):(zM cf ds).Perm ds:=List.mergeSort_perm ..
def zU{A:Type}{cf:A->A->Int}(hO:Go.Sort.SWO (Go.Proofs.ltOf cf))(ds:List A):(zM cf ds).Pairwise fun x y=> ¬cf y x<0:=by
 have:=List.pairwise_mergeSort (le:=fun x y=>!decide (cf y x<0)) (fun a b c h1 h2=>by
  have h1':Go.Proofs.ltOf cf b a=false:=by simpa[Go.Proofs.ltOf] using h1
  have h2':Go.Proofs.ltOf cf c b=false:=by simpa[Go.Proofs.ltOf] using h2
  have:=hO.ntrans c b a h2' h1';simpa[Go.Proofs.ltOf] using this) (fun a b=>by
  cases h1:Go.Proofs.ltOf cf b a with
  |false=>have: ¬cf b a<0:=(by simpa[Go.Proofs.ltOf] using h1);simp;omega
  |true=>
   cases h2:Go.Proofs.ltOf cf a b with
   |false=>have: ¬cf a b<0:=(by simpa[Go.Proofs.ltOf] using h2);simp;omega
   |true=>have:=hO.trans _ _ _ h1 h2;rw[hO.irrefl] at this;cases this) ds
 exact this.imp fun h=>by simpa using h
def wK{P:Program}{ρ:Go.Shelf.Ren}{GB:Gh}(L:SlLaysF0.n6 P ρ)(ha:rh P (ρ.f 6)){s:Nat}(hAg: ∀w,(isAgg (ρ.t 24)).run P w= .ok true w)(hZs: ∀w,(sizeOf (ρ.t 24)).run P w= .ok s w)
  {A:Type}(e:A->DV)(V:A->Prop)(hA: ∀x,∃l,e x= .ag l/\(DV.ag l).okc=true/\l.length=s)(cf:A->A->Int)(hO:Go.Sort.SWO (Go.Proofs.ltOf cf)){g:FuncId}(hg:rh P g)
  (hc: ∀x y,V x->V y->PF GB P g [e x,e y] (.v (.int .i64 (cf x y)))){ty:TypeId}{ds:List A}(hV: ∀x∈ds,V x)(hn:ds.length<4611686018427387904)(hu: ∀x∈ds,∀y∈ds,¬cf x y<0-> ¬cf y x<0->x=y):
  PW GB P (ρ.f 6) [none,some (.v (.func (.func g) #[] #[]))] s ty (ds.map e) (.tp []) ((zM cf ds).map e):=by
 intro G z vs B hgb hB hvs;refine⟨ha,fun w hw=>?_⟩;obtain⟨v1,m1,rfl,q1,hvs⟩:=bh.1 hvs;obtain⟨v2,m2,rfl,q2,hvs⟩:=bh.1 hvs
 cases eG.1 hvs
 rw[aI] at q1 q2;subst q1 q2;obtain⟨es,k1,k2,k3,_⟩:=hB;simp only at k1 k2 k3;have hlen:es.length=ds.length:=by rw[k2.len,aK]
 by_cases h0:ds=[]
 ·subst h0
  have hes:es=[]:=bU (by simpa using hlen);have hz:z.n=0:=by rw[k1.len,hes];rfl
  rw[hz];refine(AnyF.slices_SortFunc_none L z.a z.c _ w).mono fun r w' ⟨h1,h2⟩=>?_;subst h2;exact⟨_,asB B,G,h1,hw,iH.2 ⟨[],J, .nil⟩,es,k1.asB,by subst hes;show IsLs G ((zM cf []).map e) [];unfold zM;rw[List.mergeSort_nil];exact .nil,k3,fun h=>by cases h⟩
 ·have hpos:0<es.length:=by rw[hlen];exact mM.2 h0
  rcases k1 with⟨e1,_,_⟩|⟨b,rest,lo,e1,e2,e3,e4,e5⟩
  ·rw[e1] at hpos;simp at hpos
  subst e2
  -- elements with their cells
  have lift: ∀{ds:List A} {es:List Value},IsLs G (ds.map e) es->(∀x∈ds,V x)-> ∃qs:List {q:A×List Value//V q.1/\Is G (e q.1) (.agg ⟨q.2⟩)},qs.map (·.1.1)=ds/\qs.map (fun q=>Value.agg ⟨q.1.2⟩)=es:=by
   intro ds
   induction ds with
   |nil=>intro es h _;cases eG.1 h;exact⟨[],rfl,rfl⟩
   |cons x ds ih=>
    intro es h hV;obtain⟨y,n,rfl,g1,g2⟩:=bh.1 h;obtain⟨qs,g3,g4⟩:=ih g2 fun x hx=>hV x (aJ _ hx);obtain⟨l,hl,_⟩:=hA x;have g1':=g1;rw[hl] at g1';obtain⟨m,rfl,_⟩:=d6.1 g1';exact⟨⟨(x,m),hV x aQ,g1⟩::qs,by simp[g3],by simp[g4]⟩
  obtain⟨qs,hq1,hq2⟩:=lift k2 hV;have:Inhabited {q:A×List Value//V q.1/\Is G (e q.1) (.agg ⟨q.2⟩)}:=⟨qs.head (fun e=>by rw[e] at hq1;exact h0 hq1.symm)⟩
  let enc:{q:A×List Value//V q.1/\Is G (e q.1) (.agg ⟨q.2⟩)}->List Value:=fun q=>q.1.2
  have henc: ∀q,(enc q).length=s/\ ∀v∈enc q,Go.Sx.flat v=true:=fun q=>by
   obtain⟨l,hl,h1,h2⟩:=hA q.1.1;have h3:=q.2.2;rw[hl] at h3;obtain⟨m,hm,h4⟩:=d6.1 h3
   cases hm
   exact⟨by show q.1.2.length=s;rw[h4.len,h2],fun v hv=>h4.flat h1 v hv⟩
  have hk: ∀q,(enc q).length=s:=fun q=>(henc q).1;have hqs:qs.toArray.size=es.length:=by rw[oQ,<-hq2,aK]
  have hfl: ∀d:Array {q:A×List Value//V q.1/\Is G (e q.1) (.agg ⟨q.2⟩)},(Go.Sort.flatK enc s d).toList=aA (d.toList.map fun q=>Value.agg ⟨q.1.2⟩):=fun d=>by
   rw[xI enc s hk];unfold aA;rw[pU];rfl
  have hfe:(Go.Sort.flatK enc s qs.toArray).toList=aA es:=by rw[hfl,<-hq2]
  have hown:=hw.hown ⟨b,aA es++rest,ty,false⟩ aQ;obtain⟨hb,hGb,_,_⟩:=hown;simp only at hb hGb;have hblt:=ic hb;have hH:Go.Sort.HoldsK enc s w b 0 qs.toArray:=by
   intro j hj;refine⟨?_,by simp[World.frozen?,hb]⟩;rw[Br hb,eK];have hj':j<(aA es).length:=by rw[<-hfe];simpa using hj
   rw[cN hj',<-hfe];show _=some ((Go.Sort.flatK enc s qs.toArray)[j]!);rw[getElem!_pos _ j hj];simp
  have hsz: ∀dk:Array {q:A×List Value//V q.1/\Is G (e q.1) (.agg ⟨q.2⟩)},dk.size=qs.toArray.size->(aA es).length=(Go.Sort.flatK enc s dk).size:=fun dk hd=>by rw[<-hfe];simp[hd]
  have hblk: ∀(m:Nat) (os:Array Obj) (dk:Array _),dk.size=qs.toArray.size->(sortWorldK enc s w b 0 m dk os).heap[b]? =some (.cells ⟨(Go.Sort.flatK enc s dk).toList++rest⟩ ty (0,0)):=fun m os dk hd=>by
   rw[yJ enc s w b m dk os hblt,if_pos J,hb];show some (Obj.cells (Go.Sort.putCells id 0 (Go.Sort.flatK enc s dk) ⟨aA es++rest⟩) ty (0,0))=_;rw[yR (hsz dk hd)]
  have hoth: ∀(m:Nat) (os:Array Obj) (dk:Array _) (q:Nat),q<w.heap.size->q≠b->(sortWorldK enc s w b 0 m dk os).heap[q]? =w.heap[q]? :=fun m os dk q hq hne=>by rw[yJ enc s w b m dk os hq,if_neg hne]
  have hsub: ∀(m:Nat) (os:Array Obj) (dk:Array _) (c:Nat) (cs:List Value),G c=some cs-> ∃ty fz,(sortWorldK enc s w b 0 m dk os).heap[c]? =some (.cells ⟨cs⟩ ty fz):=fun m os dk c cs hcs=>by
   obtain⟨ty',fz,h⟩:=hw.sub c cs hcs;exact⟨ty',fz,by rw[hoth m os dk c (ic h) (fun e=>by subst e;rw[hGb] at hcs;cases hcs)];exact h⟩
  have hsize: ∀(m:Nat) (os:Array Obj) (dk:Array _),w.heap.size<=(sortWorldK enc s w b 0 m dk os).heap.size:=fun m os dk=>by
   show _<=((w.heap.modify b _)++os).size;simp
  have hcmp:Go.Proofs.CmpLays P g #[] enc s (fun q r=>cf q.1.1 r.1.1) b 0 qs.toArray.size w:=by
   intro m os dk _ x y;have hF:=hc x.1.1 y.1.1 x.2.1 y.2.1 G [.agg ⟨x.1.2⟩, .agg ⟨y.1.2⟩] hgb (.cons x.2.2 (.cons y.2.2 .nil));refine(hF.run _ (hsub m os dk)).mono fun r W ⟨v,G',h1,h2,h3⟩=>?_;rw[aI] at h3;subst h3;refine⟨h1,W.drawn-(sortWorldK enc s w b 0 m dk os).drawn,W.heap.extract (sortWorldK enc s w b 0 m dk os).heap.size W.heap.size,?_⟩;have hdr:=h2.dr;have hos:=h2.os;have htp:=h2.tape;have hou:=h2.output;have hkp:=h2.keep;have hss:=h2.size;simp only at hdr hos htp hou hkp hss;generalize sortWorldK enc s w b 0 m dk os=W0 at*
   cases W with
   |mk heap tape drawn os' output=>
    simp only at*;unfold Go.Sort.grow World.drewN;simp only[World.mk.injEq];refine⟨?_,htp,by omega,hos,hou⟩;apply Array.ext_getElem?;intro k;rw[Array.getElem?_append];split
    ·rename_i hk';exact hkp k hk' (by simp)
    ·rename_i hk'
     rw[Array.getElem?_extract];split
     ·congr 1;omega
     ·rw[nQ (by omega)]
  have hO':Go.Sort.SWO (Go.Proofs.ltOf fun(q r:{q:A×List Value//V q.1/\Is G (e q.1) (.agg ⟨q.2⟩)})=>cf q.1.1 r.1.1):=⟨fun x=>hO.irrefl x.1.1,fun x y z=>hO.trans x.1.1 y.1.1 z.1.1,fun x y z=>hO.ntrans x.1.1 y.1.1 z.1.1⟩;have hrun:=AnyQ.slices_SortFunc L s hAg hZs enc hk (fun q v hv=>yX ((henc q).2 v hv)) (fun q r=>cf q.1.1 r.1.1) hO' g #[] b 0 z.c qs.toArray w (fun args w=>KK hg args w) hcmp hH hblt (by rw[hqs,hlen];exact hn);have ez:z=⟨some ⟨b,0,none⟩,qs.toArray.size,z.c⟩:=by rw[hqs];exact e1
  have ea:(⟨[Value.slice z.a z.n z.c, .func (.func g) #[] #[]]⟩:Array Value)= #[.slice (some ⟨b,0,none⟩) qs.toArray.size z.c, .func (.func g) #[] #[]]:=by rw[ez]
  rw[ea];refine hrun.mono fun r w' ⟨h1,d',n,os,hp,hs,h2⟩=>?_;subst h2;have hdz:d'.size=qs.toArray.size:=hp.1;have hperm:d'.toList.Perm qs:=by
   have:=hp.2.2;have e1:d'.toList.take qs.length=d'.toList:=aL (by rw[iU,hdz];simp);simpa[e1] using this
  have hasc:d'.toList.Pairwise fun x y=> ¬cf y.1.1 x.1.1<0:=by
   rw[kY];intro i j hi hj hij;have:=hs i j (bV _) hij (by rw[<-hdz];simpa using hj);rw[getElem!_pos d' j (by simpa using hj),getElem!_pos d' i (by simpa using hi)] at this;simpa[Go.Proofs.ltOf] using this
  have hds:d'.toList.map (·.1.1)=zM cf ds:=by
   refine List.Perm.eq_of_pairwise (le:=fun x y=> ¬cf y x<0) (fun x y hx hy k1 k2=>?_) ?_ (zU hO ds) ?_
   ·have m1:x∈ds:=by
     obtain⟨q,hq,rfl⟩:=bQ.1 hx;rw[<-hq1];exact bQ.2 ⟨q,hperm.mem_iff.1 hq,J⟩
    exact hu x m1 y ((zA cf ds).mem_iff.1 hy) k2 k1
   ·rw[rW];exact hasc
   ·refine(hperm.map _).trans ?_
    rw[hq1];exact(zA cf ds).symm
  have hlen':(d'.toList.map fun q=>Value.agg ⟨q.1.2⟩).length=es.length:=by rw[aK,iU,hdz,hqs]
  have hIs: ∀l:List {q:A×List Value//V q.1/\Is G (e q.1) (.agg ⟨q.2⟩)},IsLs G ((l.map (·.1.1)).map e) (l.map fun q=>Value.agg ⟨q.1.2⟩):=fun l=>by
   induction l with
   |nil=>exact .nil
   |cons q l ih=>exact .cons q.2.2 ih
  have hcell: ∀v∈d'.toList.map (fun q=>Value.agg ⟨q.1.2⟩),(aD v).length=s:=fun v hv=>by
   obtain⟨q,_,rfl⟩:=bQ.1 hv;exact hk q
  refine⟨_,[⟨b,aA (d'.toList.map fun q=>Value.agg ⟨q.1.2⟩)++rest,ty,false⟩],G,h1,?_,iH.2 ⟨[],J, .nil⟩,d'.toList.map (fun q=>Value.agg ⟨q.1.2⟩), .inr ⟨b,rest,false,by rw[hlen'];exact e1,J,eB _ hcell,?_,by rw[hlen'];exact e5⟩,by rw[<-hds];exact hIs _,hcell,fun h=>by cases h⟩
  ·refine⟨J,J,J,hsize n os d',fun q hq hqm=>hoth n os d' q hq fun e=>hqm (by rw[e];exact aQ),hsub n os d',bp.refl _,fun _ _=>J,fun o ho=>?_,List.pairwise_singleton _ _,?_,fun p hp=>(by cases hp)⟩
   ·rw[aU.1 ho]
    exact⟨by rw[<-hfl];exact hblk n os d' hdz,hGb,(fun h=>by cases h),fun _=>aQ⟩
   ·show w.drawn<=w.drawn+n
    omega
  ·rw[<-e4,eB _ hcell,e3,hlen']
def wJ{a b c:ab}(h:b7 c a):b7 c b\/b7 b a:=by
 by_cases h1:c.half<b.half
 ·exact .inl (.inl h1)
 ·by_cases h2:b.half<a.half
  ·exact .inr (.inl h2)
  ·rcases h with h|⟨h,k⟩
   ·omega
   ·have e1:c.half=b.half:=by omega
    have e2:b.half=a.half:=by omega
    by_cases q1:0<c.cross b
    ·exact .inl (.inr ⟨e1,q1⟩)
    ·by_cases q2:0<b.cross a
     ·exact .inr (.inr ⟨e2,q2⟩)
     ·exfalso
      have i1:b.y*c.cross a=a.y*c.cross b+c.y*b.cross a:=by unfold ab.cross;grind
      have i2:b.x*c.cross a=a.x*c.cross b+c.x*b.cross a:=by unfold ab.cross;grind
      have q1':c.cross b<=0:=by grind
      have q2':b.cross a<=0:=by grind
      rcases lc b with⟨eb,kb⟩|⟨eb,kb⟩|⟨eb,kb⟩<;>rcases lc a with⟨ea,ka⟩|⟨ea,ka⟩|⟨ea,ka⟩<;>rcases lc c with⟨ec,kc⟩|⟨ec,kc⟩|⟨ec,kc⟩<;>first|omega|skip
      ·have ha:0<=a.y:=by grind
       have hc:0<=c.y:=by grind
       rcases kb with kb|⟨kb,kb'⟩
       ·have g1:=pJ ha (show 0<= -c.cross b by grind)
        have g2:=pJ hc (show 0<= -b.cross a by grind);have g3:=bO kb k;grind
       ·have hx:b.cross a=b.x*a.y:=by unfold ab.cross;rw[kb];grind
        have ha0:a.y=0:=by
         rcases ka with ka|ka
         ·have:=bO kb' ka;grind
         ·exact ka.1
        have hax:0<a.x:=by grind
        have hy:c.cross a= -(c.y*a.x):=by unfold ab.cross;rw[ha0];grind
        have:=pJ hc (show 0<=a.x by grind);grind
      ·have ha:0<= -a.y:=by grind
       have hc:0<= -c.y:=by grind
       rcases kb with kb|⟨kb,kb'⟩
       ·have g1:=pJ ha (show 0<= -c.cross b by grind)
        have g2:=pJ hc (show 0<= -b.cross a by grind);have g3:=bO (show 0< -b.y by grind) k;grind
       ·have hx:b.cross a=b.x*a.y:=by unfold ab.cross;rw[kb];grind
        have ha0:a.y=0:=by
         rcases ka with ka|ka
         ·have:=bO (show 0< -b.x by grind) (show 0< -a.y by grind);grind
         ·exact ka.1
        have hax:0< -a.x:=by grind
        have hy:c.cross a= -(c.y*a.x):=by unfold ab.cross;rw[ha0];grind
        have:=pJ hc (show 0<= -a.x by grind);grind
      ·have hy:c.cross a=0:=by unfold ab.cross;rw[ka.1,ka.2];grind
       rw[hy] at k;exact absurd k (by decide)
def yP:Go.Sort.SWO (Go.Proofs.ltOf co):=by
 have e: ∀x y,Go.Proofs.ltOf co x y=true↔b7 x y:=fun x y=>by rw[<-nj];simp[Go.Proofs.ltOf]
 have e2: ∀x y,Go.Proofs.ltOf co x y=false↔ ¬b7 x y:=fun x y=>by rw[<-e];simp
 refine⟨fun x=>(e2 x x).2 (sI x),fun x y z h k=>(e x z).2 (uu ((e x y).1 h) ((e y z).1 k)),fun x y z h k=>(e2 x z).2 fun q=>?_⟩;rcases wJ (b:=y) q with q|q
 ·exact(e2 x y).1 h q
 ·exact(e2 y z).1 k q
def xL: ∀{l m:List ab},l.Pairwise b7->m.Pairwise b7->(∀x,x∈l↔x∈m)->l=m
 |[],[],_,_,_=>rfl
 |[],b::m,_,_,h=>absurd ((h b).2 aQ) (by simp)
 |a::l,[],_,_,h=>absurd ((h a).1 aQ) (by simp)
 |a::l,b::m,h1,h2,h=>by
  obtain⟨p1,p2⟩:=bR.1 h1;obtain⟨q1,q2⟩:=bR.1 h2;have e:a=b:=by
   rcases aW.1 ((h a).1 aQ) with e|e
   ·exact e
   ·rcases aW.1 ((h b).2 aQ) with f|f
    ·exact f.symm
    ·exact(AD (q1 a e) (p1 b f)).elim
  subst e;congr 1;refine xL p2 q2 fun x=>⟨fun hx=>?_,fun hx=>?_⟩
  ·rcases aW.1 ((h x).1 (aJ _ hx)) with e|e
   ·subst e;exact(sI _ (p1 _ hx)).elim
   ·exact e
  ·rcases aW.1 ((h x).2 (aJ _ hx)) with e|e
   ·subst e;exact(sI _ (q1 _ hx)).elim
   ·exact e
def zQ(l:List ab):Prop:= ∀x∈l,∀y∈l,co x y=0->x=y
def xJ: ∀{l:List ab} {x:ab},(x::l).Pairwise (fun a b=> ¬b7 b a)->zQ (x::l)->(zG x l).Pairwise b7/\(∀y∈zG x l,b7 x y)/\ ∀y,y∈x::zG x l↔y∈x::l
 |[],_,_,_=>⟨.nil,(fun y hy=>by cases hy),fun _=>Iff.rfl⟩
 |z::l,x,h,ht=>by
  obtain⟨p1,p2⟩:=bR.1 h;obtain⟨i1,i2,i3⟩:=xJ p2 fun a ha b hb=>ht a (aJ _ ha) b (aJ _ hb);rw[zG];by_cases e:co z x=0
  ·rw[if_pos e]
   obtain rfl:=ht z (by simp) x (by simp) e;exact⟨i1,i2,fun y=>by rw[i3];simp⟩
  ·rw[if_neg e]
   have hb:b7 x z:=by
    by_cases q:b7 x z
    ·exact q
    ·exact absurd (Fz (p1 z aQ) q) e
   refine⟨bR.2 ⟨i2,i1⟩,fun y hy=>?_,fun y=>?_⟩
   ·rcases aW.1 hy with rfl|hy
    ·exact hb
    ·exact uu hb (i2 y hy)
   ·rw[aW,i3,aW (b:=x) (l:=z::l)]
def yE: ∀(l:List ab) (x:ab),(zG x l).length<=l.length
 |[],_=>aN _
 |y::l,x=>by
  have:=yE l y;rw[zG];split<;>simp only[bX]<;>omega
def yZ(l:List ab):(zI l).length<=l.length:=by
 cases l with
 |nil=>exact aN _
 |cons x l=>have:=yE l x;simp only[zI,bX];omega
def xV{l:List ab}(h:l.Pairwise fun a b=> ¬b7 b a)(ht:zQ l):(zI l).Pairwise b7/\ ∀y,y∈zI l↔y∈l:=by
 cases l with
 |nil=>exact⟨.nil,fun _=>Iff.rfl⟩
 |cons x l=>
  obtain⟨i1,i2,i3⟩:=xJ h ht;exact⟨bR.2 ⟨i2,i1⟩,i3⟩
def yB{l:List ab}(ht:zQ l)(y:ab):y∈im l↔y∈l:=by
 have h2: ∀y,y∈im l->y∈l:=fun y hy=>by
  rcases Fj co hy with h|h
  ·exact h
  ·cases h
 refine⟨h2 y,fun hy=>?_⟩;obtain⟨e,e1,e2⟩:=IW co (o:=[]) hy;rcases e2 with rfl|e2
 ·exact e1
 ·rw[<-ht e (h2 e e1) y hy e2];exact e1
def yC{l:List ab}(ht:zQ l):zI (zM co l)=im l:=by
 have hm: ∀y,y∈zM co l↔y∈l:=fun y=>(zA co l).mem_iff;have h1:(zM co l).Pairwise fun a b=> ¬b7 b a:=(zU yP l).imp fun h=>by rw[<-nj];exact h
 obtain⟨k1,k2⟩:=xV h1 fun a ha b hb=>ht a ((hm a).1 ha) b ((hm b).1 hb);exact xL k1 (R2 l) fun x=>by rw[k2,hm,yB ht]
def xA{t:Tr}(ht:t.all aa.ok)(p:ab):zQ (dE t p):=fun x hx y hy h=>by
 obtain⟨l,k1,k2⟩:=pB.1 hx;obtain⟨m,k3,k4⟩:=pB.1 hy;obtain⟨a1,a2⟩:=pj k1;obtain⟨b1,b2⟩:=pj k3;exact Px (qP ht _ a1) (qP ht _ b1) a2 b2 k2 k4 h
end Go.Sx
end
section
namespace Go.Proofs
open Go.Shelf
def Tryz.sortPt_ren:Go.Shelf.Ren:=⟨fun|6=>187|15=>246|14=>245|28=>274|29=>292|20=>284|21=>285|22=>286|23=>287|24=>288|25=>289|26=>290|27=>291|46=>299|47=>300|48=>301|49=>302|50=>303|57=>306|n=>n,fun|22=>154|24=>146|25=>305|3=>3|39=>216|0=>0|53=>215|55=>214|4=>4|46=>386|45=>385|50=>337|5=>5|9=>9|66=>394|70=>398|76=>402|77=>403|n=>n,fun|n=>n⟩
def Tryz.sortPt:Go.Proofs.SlLaysF0.n6 Tryz.prog Tryz.sortPt_ren:={
 mixed:=by kernel_rfl
 f6:=⟨Tryz.f187.name,by decide,Tryz.func187.trans (congrArg some (by kernel_rfl))⟩
 f14:=⟨Tryz.f245.name,by decide,Tryz.func245.trans (congrArg some (by kernel_rfl))⟩
 f15:=Tryz.func246.trans (congrArg some (by kernel_rfl))
 f20:=⟨Tryz.f284.name,by decide,Tryz.func284.trans (congrArg some (by kernel_rfl))⟩
 f21:=⟨Tryz.f285.name,by decide,Tryz.func285.trans (congrArg some (by kernel_rfl))⟩
 f22:=⟨Tryz.f286.name,by decide,Tryz.func286.trans (congrArg some (by kernel_rfl))⟩
 f23:=⟨Tryz.f287.name,by decide,Tryz.func287.trans (congrArg some (by kernel_rfl))⟩
 f24:=⟨Tryz.f288.name,by decide,Tryz.func288.trans (congrArg some (by kernel_rfl))⟩
 f25:=⟨Tryz.f289.name,by decide,Tryz.func289.trans (congrArg some (by kernel_rfl))⟩
 f26:=⟨Tryz.f290.name,by decide,Tryz.func290.trans (congrArg some (by kernel_rfl))⟩
 f27:=⟨Tryz.f291.name,by decide,Tryz.func291.trans (congrArg some (by kernel_rfl))⟩
 f28:=Tryz.func274.trans (congrArg some (by kernel_rfl))
 f29:=Tryz.func292.trans (congrArg some (by kernel_rfl))
 f46:=⟨Tryz.f299.name,by decide,Tryz.func299.trans (congrArg some (by kernel_rfl))⟩
 f47:=Tryz.func300.trans (congrArg some (by kernel_rfl))
 f48:=Tryz.func301.trans (congrArg some (by kernel_rfl))
 f49:=⟨Tryz.f302.name,by decide,Tryz.func302.trans (congrArg some (by kernel_rfl))⟩
 f50:=⟨Tryz.f303.name,by decide,Tryz.func303.trans (congrArg some (by kernel_rfl))⟩
 f57:=⟨Tryz.f306.name,by decide,Tryz.func306.trans (congrArg some (by kernel_rfl))⟩
 t0:=Tryz.underlying0
 a0:=Tryz.isAgg0
 z0:=Tryz.sizeOf0
 v0:=Tryz.zeroValue0
 t3:=Tryz.underlying3
 a3:=Tryz.isAgg3
 z3:=Tryz.sizeOf3
 v3:=Tryz.zeroValue3
 t4:=Tryz.underlying4
 a4:=Tryz.isAgg4
 z4:=Tryz.sizeOf4
 v4:=Tryz.zeroValue4
 t5:=Tryz.underlying5
 a5:=Tryz.isAgg5
 z5:=Tryz.sizeOf5
 v5:=Tryz.zeroValue5
 t9:=Tryz.underlying9
 a9:=Tryz.isAgg9
 z9:=Tryz.sizeOf9
 v9:=Tryz.zeroValue9
 t22:=Tryz.underlying154
 a22:=Tryz.isAgg154
 z22:=Tryz.sizeOf154
 v22:=Tryz.zeroValue154
 t25:=Tryz.underlying305
 a25:=Tryz.isAgg305
 z25:=Tryz.sizeOf305
 v25:=Tryz.zeroValue305
 t39:=Tryz.underlying216
 a39:=Tryz.isAgg216
 z39:=Tryz.sizeOf216
 v39:=Tryz.zeroValue216
 t45:=Tryz.underlying385
 a45:=Tryz.isAgg385
 z45:=Tryz.sizeOf385
 v45:=Tryz.zeroValue385
 t46:=Tryz.underlying386
 a46:=Tryz.isAgg386
 z46:=Tryz.sizeOf386
 v46:=Tryz.zeroValue386
 t50:=Tryz.underlying337
 a50:=Tryz.isAgg337
 z50:=Tryz.sizeOf337
 v50:=Tryz.zeroValue337
 t53:=Tryz.underlying215
 a53:=Tryz.isAgg215
 z53:=Tryz.sizeOf215
 v53:=Tryz.zeroValue215
 t55:=Tryz.underlying214
 a55:=Tryz.isAgg214
 z55:=Tryz.sizeOf214
 v55:=Tryz.zeroValue214
 t66:=Tryz.underlying394
 a66:=Tryz.isAgg394
 z66:=Tryz.sizeOf394
 v66:=Tryz.zeroValue394
 t70:=Tryz.underlying398
 a70:=Tryz.isAgg398
 z70:=Tryz.sizeOf398
 v70:=Tryz.zeroValue398
 t76:=Tryz.underlying402
 a76:=Tryz.isAgg402
 z76:=Tryz.sizeOf402
 v76:=Tryz.zeroValue402
 t77:=Tryz.underlying403
 a77:=Tryz.isAgg403
 z77:=Tryz.sizeOf403
 v77:=Tryz.zeroValue403}
end Go.Proofs
end
section
namespace Go.Sx
open Go Go.Proofs Tryz
variable {GB:Gh}
def xF{ds:List ab}{i:Nat}(hb: ∀d∈ds,ay d i)(hi:i<=10000000)(hn:ds.length<=10000000)(ht:zQ ds):PW GB prog 187 [none,some (.v (.func (.func 188) #[] #[]))] 6 146 (ds.map eZ) (.tp []) ((zM co ds).map eZ):=
 wK (GB:=GB) Tryz.sortPt ⟨_,func187,J,J⟩ isAgg146 sizeOf146 eZ (fun d=>ay d i) (fun x=>⟨_,J,J,J⟩) co yP ⟨_,func188,J,J⟩ (fun x y hx hy=>Hw (i:=i) (j:=i) hi hi) hb (by omega)
  (fun x hx y hy h k=>ht x hx y hy (Fz (by rw[<-nj];exact h) (by rw[<-nj];exact k)))
def wG{ds:List ab}{i:Nat}(hb: ∀d∈ds,ay d i)(hi:i<=10000000)(hn:ds.length<=10000000)(ht:zQ ds):PB GB prog 138 (dG [none]) 6 146 (ds.map eZ) (fun w=> .v (.slice w.a w.n w.c)) ((im ds).map eZ):=by
 have hsm: ∀d∈zM co ds,ay d i:=fun d hd=>hb d ((zA co ds).mem_iff.1 hd);have hsl:(zM co ds).length=ds.length:=(zA co ds).length_eq;refine ul func138 J J ntmps138 J J (fun C=>?_);refine cw _ J (xF hb hi hn ht) J J<|cq ((im ds).map eZ) J (yU (i0:=i) hsm (by omega) hi) (by rw[yC ht]) J<|?_;exact oG J J J J
theorem xN{t:Tr}(hb:t.all LB)(p:ab): ∀d∈dE t p,ay d 500:=fun d hd=>by
 obtain⟨l,h1,h2⟩:=pB.1 hd;haveI:=sd.1 hb l (pj h1).1;rcases h2 with rfl|rfl<;>infer_instance
theorem wD{ds:List ab}{i:Nat}(h: ∀d∈ds,ay d i)(h2:2<=i): ∀v∈lf ds,ay v (i+i+1):=fun v hv=>by
 have up: ∀{q:ab},ay q i->ay q (i+i+1):=fun hq=>⟨hq.x.mono (by omega),hq.y.mono (by omega)⟩;unfold lf at hv;split at hv
 ·rw[aU] at hv
  subst hv;exact⟨BQ.mono (k:=2) ⟨by decide,by decide⟩ (by omega),BQ.mono (k:=2) ⟨by decide,by decide⟩ (by omega)⟩
 ·obtain⟨k,hk,rfl⟩:=bQ.1 hv
  have hk':=kJ.1 hk;have g: ∀{j:Nat},j<ds.length->ay (ds.getD j ⟨0,0⟩) i:=fun{j} hj=>by
   rw[aX,aZ hj];exact h _ (bM hj)
  haveI:=g hk';haveI:=g (dX (k+1) (show 0<ds.length by omega));unfold ou;split
  ·exact inferInstance
  ·exact up inferInstance
def xM(ds:List ab):(lf ds).length<=ds.length+1:=by
 unfold lf;split
 ·simp
 ·rw[aK,rR];omega
def yF{vs:List ab}{f:ab->Bool}{k:Nat}{v:ab}(h:vs[k]? =some v):(vs.drop k).any f=(f v||(vs.drop (k+1)).any f):=by
 obtain⟨h1,h2⟩:=aS.1 h;rw[bZ h1,h2,List.any_cons]
def yG{vs:List ab}{f:ab->Bool}{k:Nat}{v:ab}(h:vs[k]? =some v):(vs.drop k).all f=(f v&&(vs.drop (k+1)).all f):=by
 obtain⟨h1,h2⟩:=aS.1 h;rw[bZ h1,h2,List.all_cons]
def yV{b c:Bool}:PF GB prog 141 [vB b,vB c] (vI (if b&&c then 2 else if b then 1 else 0)):=by
 refine fn func141 J J ntmps141 J J (fun C=>?_);refine jd 7 J J J (fun hg7=>?_) (fun hg7=>?_)
 ·refine bb J J J (fun hc5=>?_) (fun hc5=>?_)
  ·exact rz J (by subst hg7 hc5;rfl)
  ·refine bb J J J (fun hc10=>?_) (fun hc10=>?_)
   ·exact rz J (by subst hg7 hc5;rfl)
   ·subst hg7;cases hc10
 ·refine bb J J J (fun hc10=>?_) (fun hc10=>?_)
  ·subst hg7;cases hc10
  ·exact rz J (by subst hg7;rfl)
def xE{t:Tr}{p:ab}{i:Nat}[hp:ay p i](hb:t.all LB)(ho:t.all aa.ok)(hs:t.size<=400000)(hi:i<=10000000:=by decide):PF GB prog 78 [eU t,eZ p] (vI (qk t p)):=by
 have hrl:=zH t p;have hrb:=xN hb p;have hrt:=xA ho p;have hdb: ∀d∈im (dE t p),ay d 500:=fun d hd=>hrb d ((yB hrt d).1 hd);have hdl:(im (dE t p)).length<=(dE t p).length:=by rw[<-yC hrt];exact cR (yZ _) (Nat.le_of_eq (zA co _).length_eq)
 have hsb:=wD hdb (by decide);obtain⟨vs,hvs⟩: ∃vs,vs=lf (im (dE t p)):=⟨_,rfl⟩;have hvl:vs.length<=(im (dE t p)).length+1:=by rw[hvs];exact xM _
 rw[<-hvs] at hsb;have hml:(vs.map eZ).length=vs.length:=aK ..;refine fn func78 J J ntmps78 J J (fun C=>?_);refine Mk ((dE t p).map eZ) J (zP (p:=p) (o:=[]) hi hb (by rw[fU];omega)) J J<|cq ((im (dE t p)).map eZ) J (wG hrb (by decide) (by omega) hrt) J J<|?_;refine fz 14 J J<|cl (fu:=⟨0⟩) J (yT (ds:=im (dE t p)) (i:=500) hdb (by omega)) J<|?_;refine aj 15 (.d (.sl (vs.map eZ))) J (by rw[hvs]) ?_;refine gx (fu:=⟨1⟩) J<|?_;refine aj 16 (.d (vI (vs.length:Nat))) J (by rw[hml]<;>rfl) ?_;refine gx J<|?_;refine M1 5 _ J J ?_;refine M1 6 _ J J ?_;refine lp (X:=Bool×Bool×Nat) (fun⟨a,c,k⟩=>[(17, .d (vI (k:Nat))),(5, .d (vB a)),(6, .d (vB c))]) (fun⟨a,c,k⟩=>[]) (fun⟨a,c,k⟩=>(a||(vs.drop k).any (fun v=>(gq t p v).1))=tq t p/\(c&&(vs.drop k).all (fun v=>(gq t p v).1))=E9 t p/\k<=vs.length) (fun⟨a,c,k⟩=>vs.length-k) ⟨false,true,0⟩ J ⟨by rw[hvs];simp[tq],by rw[hvs];simp[E9],bV _⟩ (fun _=>J) (fun⟨a,c,k⟩ hk=>?_)
 try dsimp only at hk⊢
 obtain⟨h1,h2,h3⟩:=hk;refine br J J J (fun hc18=>?_) (fun hc18=>?_)
 .
  obtain⟨v,hx⟩: ∃v,vs[k]? =some v:=⟨_,aZ (by omega)⟩;haveI:=hsb v (aT hx);refine ix _ J (d8 hx) J<|cl J (yS (t:=t) (p:=p) (v:=v) (i:=i) (j:=500+500+1) hb hi (by decide)) J<|?_;refine bb J J J (fun hc28=>?_) (fun hc28=>?_)
  .
   refine RP 5 _ J J ?_;exact at_ ⟨true,c,k+1⟩ (by dsimp only;exact⟨⟨by rw[<-h1,yF hx,hc28];simp,by rw[<-h2,yG hx,hc28];simp,by omega⟩,(by omega)⟩)
  .
   refine RP 6 _ J J ?_;exact at_ ⟨a,false,k+1⟩ (by dsimp only;exact⟨⟨by rw[<-h1,yF hx,hc28];simp,by rw[<-h2,yG hx,hc28];simp,by omega⟩,(by omega)⟩)
 .
  obtain rfl:k=vs.length:=by omega
  rw[fV] at h1 h2;have e1:a=tq t p:=by simpa using h1
  have e2:c=E9 t p:=by simpa using h2
  refine cl J (yV (b:=a) (c:=c)) J<|?_;exact rz J (by rw[e1,e2];rfl)
def xG{k i:Nat}{t:Tr}{p:ab}[hp:ay p i](h:gP k t)(hi:i<=10000000:=by decide):PF GB prog 28 [eA t,jG p] (.tp [vI (qk t p), .v .nilIface]):=by
 have hts:=h.s;refine fn func28 J J ntmps28 J J (fun C=>?_);refine cl (fu:=⟨11⟩) J (MG h) J<|?_;refine tO 13 J ?_;refine gx J<|cl J (wE (p:=p) (i:=i) (by omega)) J<|cl J (xE (t:=t) (p:=p) (i:=i) h.lb h.ok (by omega) hi) J<|?_;exact rz J J
def wP(L:List aa):DV:= .ag [.sl (L.map eL)]
def wM(v:List ab):Rat:=aE (fun x=>x.1.cross x.2) (mA v)
def xO{b:Nat}{es:List Int}(hes:es.length<=400){a d a':Nat}(ha:a<=es.length)(hd:d<=2){A:Tr}(hA:A=(er es d a).1)(ha':a'=(er es d a).2):PM GB prog 9 (i5 [none,some (.v (.int .i64 (d:Nat)))] b) b 87 [.sl (es.map vI), .v (.int .i64 (a:Nat))] (eT A) [.sl (es.map vI), .v (.int .i64 (a':Nat))]:=by
 subst hA ha';exact aBq hes ha hd
def wN(cs:List aw)(k:Nat):Rat:=aE (fun c=>wM (ey (c.map (·.l)))*mkRat 1 2) (cs.take k)
def q3(q:Rat):List DV:=[.v (.bool (decide (q.num<0))),dN q.num.natAbs,dD q.den]
def zV{p lo hi:ab}{i:Nat}[hp:ay p i][hl:ay lo 1200][hh:ay hi 1200](h:InBox p lo hi)(hi':i<=10000000:=by decide):PF GB prog 33 [jG p,jG lo,jG hi] (.v (.bool true)):=by
 refine fn func33 J J ntmps33 J J (fun C=>?_);refine cl J (Dg (p:=p) (i:=i) (by omega)) J<|cl J (Dg (p:=lo) (i:=1200)) J<|cl J (Dg (p:=hi) (i:=1200)) J<|cl (fu:=⟨0⟩) J (jm (a:=lo.x) (b:=p.x) (i:=1200) (j:=i) (by decide) (by omega)) J<|?_;refine cB J (by show some (decide (bg lo.x p.x<=0))=some true;rw[decide_eq_true ((Cp _ _).2 h.x1)]) J<|cl (fu:=⟨0⟩) J (jm (a:=p.x) (b:=hi.x) (i:=i) (j:=1200) (by omega) (by decide)) J<|?_;refine cB J (by show some (decide (bg p.x hi.x<=0))=some true;rw[decide_eq_true ((Cp _ _).2 h.x2)]) J<|cl (fu:=⟨0⟩) J (jm (a:=lo.y) (b:=p.y) (i:=1200) (j:=i) (by decide) (by omega)) J<|?_;refine cB J (by show some (decide (bg lo.y p.y<=0))=some true;rw[decide_eq_true ((Cp _ _).2 h.y1)]) J<|cl (fu:=⟨0⟩) J (jm (a:=p.y) (b:=hi.y) (i:=i) (j:=1200) (by omega) (by decide)) J<|?_;refine cB J (by show some (decide (bg p.y hi.y<=0))=some true;rw[decide_eq_true ((Cp _ _).2 h.y2)]) J<|?_;exact rz J J
def zO{ai al ae au:Addr}(hE:Ib GB ai al ae au){es0:List Int}(hb:es0.length<=1125899906842624):PF GB prog 6 [.sl (es0.map vI)] (.v (.bool true)):=by
 obtain⟨es,hee⟩: ∃es,es=es0.take 400:=⟨_,rfl⟩;have hes:es.length<=400:=by rw[hee];simp;omega
 obtain⟨A,hAe⟩: ∃A,A=(er es 1 0).1:=⟨_,rfl⟩;obtain⟨a1,ha1⟩: ∃a1,a1=(er es 1 0).2:=⟨_,rfl⟩;obtain⟨hA,hbd,hal,hr⟩:=X4 (es:=es) (a:=0) (d:=1) (bV _) (by decide);rw[<-hAe] at hA hbd hr;rw[<-ha1] at hal;have hm:=LE hA (by decide);obtain⟨hP,_⟩:=aBF (es:=es) hal;obtain⟨p,hpe⟩: ∃p,p=(uI es a1).1:=⟨_,rfl⟩;rw[<-hpe] at hP;haveI:=hP;refine fn func6 J J ntmps6 J J (fun C=>?_);refine cn J ((Uz hb hee)) (fun _=>J) (fun _=>?_);refine cm J (fun b=>(xO (d:=1) hes (bV _) (by decide) hAe ha1)) J<|cl J (Of hA) J<|?_;rcases fX (aO A).length with h0|h0
 .
  have hk0:=yI hA.ok h0 p;refine cl J (aDC hE hA (by decide) hbd h0) J<|cm (fu:=⟨0⟩) J (fun b=>(MM hes hal)) J<|?_;refine aj 25 (.d (eP p)) J (by rw[hpe]) ?_;refine gx J<|cl J (H' (p:=p) (i:=1200)) J<|cl (fu:=⟨21⟩) J (xG (p:=p) (i:=1200) hA) J<|cB J J J<|zh J N5 J<|?_;refine gl J hE.ErrEmpty J<|cl (fu:=⟨0⟩) J aHN J<|?_;refine tO 41 J ?_;refine gx (fu:=⟨3⟩) J<|cB J (by show some (decide (qk A p=0))=some true;rw[decide_eq_true hk0]) J<|?_;exact rz J J
 .
  have h0':(aO A).length≠0:=by omega
  have hfb:=xU hA.ok hbd h0' hm;haveI:=(yN hm hfb).1;haveI:=(yN hm hfb).2;haveI:=hm.mom;haveI:=hm.area;refine cl J (Yj hA (by decide) hbd hm h0') J<|cm (fu:=⟨0⟩) J (fun b=>(MM hes hal)) J<|?_;refine aj 25 (.d (eP p)) J (by rw[hpe]) ?_;refine gx J<|cl J (H' (p:=p) (i:=1200)) J<|cl (fu:=⟨21⟩) J (xG (p:=p) (i:=1200) hA) J<|cG J J J<|cl J (YH hA (by decide) hbd hm h0') J<|?_;refine zh (fu:=⟨2⟩) J N5 J<|cB J J J<|zh (fu:=⟨3⟩) J (zV (p:=(ql A).scale (jn A)⁻¹) (lo:=mO A) (hi:=nf A) (i:=3000005+2000003) (xX hA.ok hbd h0')) J<|?_;by_cases hk0:qk A p=0
  .
   refine gx (fu:=⟨0⟩) J<|cB J (by show some (decide (qk A p=0))=some true;rw[decide_eq_true hk0]) J<|?_;exact rz J J
  .
   refine gx (fu:=⟨0⟩) J<|cG J (by show some (decide (qk A p=0))=some false;rw[decide_eq_false hk0]) J<|zh J (zV (p:=p) (lo:=mO A) (hi:=nf A) (i:=1200) (wI hA.ok hbd hk0)) J<|?_;exact rz J J
end Go.Sx
end
section
namespace Go.Sx
open Go Go.Proofs Go.ChangeShapes Go.WideShapes Go.ChangeAt Go.RowKit
def GW(w:World):Gh:=fun b=>match w.heap[b]? with|some (.cells cs _ _)=>some cs.toList|_=>none
def GW.sub{w:World}{b:Nat}{cs:List Value}(h:GW w b=some cs): ∃ty fz,w.heap[b]? =some (.cells ⟨cs⟩ ty fz):=by
 unfold GW at h;split at h
 ·rename_i c t f e
  cases h
  exact⟨t,f,by rw[e]⟩
 ·cases h
def GW.of_cell{w:World}{b off:Nat}{v:Value}(h:w.cell? ⟨b,off,none⟩=some v): ∃cs,GW w b=some cs/\cs[off]? =some v:=by
 unfold World.cell? at h;unfold GW;split at h
 ·rename_i c t f e
  simp only at e;refine⟨c.toList,by rw[e],?_⟩;simpa using h
 all_goals first|(rename_i e;cases h)|cases h
def bt.below{w w':World}{G G':Gh}{own:List av}(h:bt ⟨w,G,[],[],[],none,fun _=>none⟩ own G' w'):Below w.heap.size w w':=
 ⟨h.os,h.tape,h.output,h.size,fun k hk=>h.keep k hk (by simp)⟩
def isLs_vI{G:Gh}: ∀es:List Int,IsLs G (es.map vI) (es.map fun n=>Value.int .i64 n)
 |[]=> .nil
 |n::t=> .cons (aI.2 J) (isLs_vI t)
def open_vI{base:Nat}{H:Type}{enc:TypeId×Value->H}{P:Program}{w:World}{t e:TypeId}{v:Value}{d:DataW H}{ps:List MemPlace}(ht:P.underlying t=some (.slice e))(he:P.underlying e=some (.int .i64))(hc:P.cellsOf e=1)
  (hv:Value.okWide P w .any base t v)(h:DataW.Trod enc P w 0 (fun _=>true) true t v d ps):
  ∃es:List Int,Is (GW w) (.sl (es.map vI)) v/\(d= .nil/\es=[]\/ ∃sp,d= .slice (lits .i64 es) sp)/\(∀n∈es,(Lit.int .i64 n).wf=true):=by
 obtain⟨a0,len,cap,rfl⟩:=okWide_slice ht hv;obtain⟨fuel,hf⟩:=h;rcases open_ints ht he hc hf with⟨hcs,hx⟩|⟨a,len',cap',zs,hcs,_,hl,hm,hz,hx,hcell,hwz⟩
 ·simp[Value.cells] at hcs
  obtain⟨rfl,rfl,rfl⟩:=hcs;simp only[Prod.mk.injEq] at hx;exact⟨[],iB.2 ⟨0,⟨none,0,0⟩,[],J,eH.nil _ 0, .nil⟩, .inl ⟨hx.1,J⟩,by simp⟩
 ·simp[Value.cells] at hcs
  obtain⟨rfl,rfl,rfl⟩:=hcs;simp only[Prod.mk.injEq] at hx;simp only[if_true] at hz;refine⟨zs.take len,iB.2 ⟨1,⟨some a,len,cap⟩,(zs.take len).map fun n=>Value.int .i64 n,J,⟨by simp;omega,hl,?_⟩,isLs_vI _⟩, .inr ⟨_,hx.1⟩,fun n hn=>hwz n (dZ hn)⟩;by_cases h0:len=0
  ·exact .inl (by simp[h0])
  ·right
   obtain⟨b,off,spot⟩:=a;have hspot:spot=none:=by simpa[Addr.add] using World.cell?_spot (hcell 0 (by omega))
   subst hspot;have c0: ∀i,i<zs.length->w.cell? ⟨b,off+i,none⟩=some (.int .i64 (zs.getD i 0)):=fun i hi=>by
    have:=hcell i hi;rwa [Go.WideShapes.add_plain] at this
   obtain⟨cs,hcs,_⟩:=GW.of_cell (by have h9:=c0 0 (by omega);rw[fQ] at h9;exact h9);refine⟨b,off,cs,J,hcs,fun i hi=>?_⟩;simp only[aK,cW] at hi;obtain⟨cs',hcs',hi'⟩:=GW.of_cell (c0 i (by omega));rw[hcs] at hcs'
   cases hcs'
   rw[iY,atT.2 hi'];simp[aD,List.getD,aZ (show i<zs.length by omega)]
inductive CSh where
 |b
 |i (k:IntKind)
 |sl (ag:Bool) (l:List CSh)
mutual
def Fit:CSh->DV->Prop
 | .b,d=> ∃b,d= .v (.bool b)
 | .i k,d=> ∃n,d= .v (.int k n)/\(Lit.int k n).wf=true
 | .sl ag l,d=> ∃m:List DV,d= .sl m/\m.length<=maxLen/\ ∀x∈m,∃ys,FitL l ys/\((ag=true/\x= .ag ys)\/(ag=false/\ys=[x]))
def FitL:List CSh->List DV->Prop
 |[],ds=>ds=[]
 |s::l,ds=> ∃d t,ds=d::t/\Fit s d/\FitL l t
end
def flatF(r:TypeId->Option (Bool×List CSh))(P:Program):List Field->Nat->Option (List CSh)
 |[],_=>some []
 |f::fs,o=>match r f.type with
  |some (_,l)=>if f.offset=o/\P.cellsOf f.type=l.length then(flatF r P fs (o+l.length)).map (l++ ·) else none
  |none=>none
def flatT(P:Program):Nat->TypeId->Option (Bool×List CSh)
 |0,_=>none
 |n+1,t=>match P.underlying t with
  |some .bool=>some (false,[.b])
  |some (.int k)=>some (false,[.i k])
  |some (.slice e)=>match flatT P n e with
   |some (a,l)=>if P.cellsOf e=l.length/\0<l.length then some (false,[.sl a l]) else none
   |none=>none
  |some (.struct fs)=>match flatF (flatT P n) P fs.toList 0 with
   |some l=>if P.cellsOf t=l.length then some (true,l) else none
   |none=>none
  |_=>none
section
variable {H:Type} {enc:TypeId×Value->H} {P:Program} {w:World}
end
def shI:List CSh:=[.b, .sl false [.i .u32]]
def shL:List CSh:=shI++(shI++shI)
def es_star: "*" ++ "errors.errorString" = "*errors.errorString" :=by decide
def es_row(u:TypeId)(h:Tryz.prog.typeName? 3 u=some "*errors.errorString"):u=405:=
 typeName_ptr_named (nm:= "errors.errorString") (by rw[es_star];kernel_rfl) (by kernel_rfl) (by decide) u (by rw[es_star];exact h)
def sent_of{W:World}{n:String}{g:Nat}{text:List UInt8}{r:List (String×DataW Unit)}(h:laidMet Tryz.prog ((n, .iface "*errors.errorString" (.ptr (.agg [.lit (.string text)])))::r) W)(hg:Tryz.prog.globalNamed n=some g)(ht:(Tryz.prog.globals[g]?).map (·.type)=some 38):
  ∃a,GW W g=some [.iface 405 (.pointer (some a))]:=by
 obtain⟨a,s,hv,_⟩:=laid_sentinel h hg ht Tryz.underlying38 es_row Tryz.underlying405 Tryz.underlying430 rfl rfl Tryz.underlying9 (by kernel_rfl) (by kernel_rfl);refine⟨a,?_⟩;unfold World.var? at hv;rw[hg,Option.bind_some] at hv;unfold GW;split at hv
 ·rename_i c t f e
  rw[e];cases hv;rfl
 ·cases hv
def laid_plain{W:World}{l:List (String×DataW Unit)}(h:laidMetH Tryz.prog l W)(hp:(l.all fun x=>x.2.handleName?.isNone)=true):laidMet Tryz.prog l W:=by rwa [Go.MakeChecks.laidMetH_plain _ _ _ hp] at h
end Go.Sx
end
section
namespace Go.Proofs.YtidmgdlbilojcaaGreatDoor.measureBoxes
open Go.ChangeShapes Go.WideShapes Go.ChangeAt Go.RowKit Go.Sx
theorem own:ownKnob Tryz.prog.godebug=none:=by kernel_rfl
theorem laidOut:laidOutB Tryz.prog=true:=by kernel_rfl
theorem cellsI:Tryz.prog.cellsOf 3=1:=by kernel_rfl
theorem bytesI:Tryz.prog.bytesOf 3=8:=by kernel_rfl
theorem door_met(os:Os)(args:Array Value):laidMetH Tryz.prog Rows.measureBoxesRow.laid ((World.doorLaid Tryz.prog 104 os).forCall (fun _ _=>0) ⟨#[],args,[]⟩).memory:=
 laidMetH_of_parts3 (fuel:=8) (laidMet_of_run' 8 (by kernel_rfl) (by kernel_rfl)) (by kernel_rfl) (by kernel_rfl)
theorem eg_of{W:World}(h:laidMetH Tryz.prog Rows.measureBoxesRow.laid W): ∃ai al ae au,Ib (GW W) ai al ae au:=by
 have h1:=laid_plain h J;obtain⟨ai,hi⟩:=sent_of (g:=2) h1 (by kernel_rfl) (by kernel_rfl);obtain⟨au,hu⟩:=sent_of (g:=1) h1.tail (by kernel_rfl) (by kernel_rfl);obtain⟨ae,he⟩:=sent_of (g:=0) h1.tail.tail (by kernel_rfl) (by kernel_rfl);obtain⟨al,hl⟩:=sent_of (g:=4) h1.tail.tail.tail (by kernel_rfl) (by kernel_rfl);exact⟨ai,al,ae,au,⟨⟨hi,hl⟩,hu⟩,he⟩
theorem contract(H:Type)(enc:TypeId×Value->H)(W:World)(base:Nat)(args:Array Value)(ds gs:List (DataW H))(before:List MemPlace)
  (hval: ∀(j:Nat) t v,Tryz.f6.params[j]? =some t->args[j]? =some v->Value.okWide Tryz.prog W .any base t v)
  (hW:DataW.Whole enc Tryz.prog Tryz.f6.params.toList Rows.measureBoxesSpec.vars false W args.toList ds gs before)
  (hz:(DataW.weightsEach Tryz.prog (Tryz.f6.params.toList++(OpenSpec.ofChange Rows.measureBoxesSpec).bare.plain.varTypes Tryz.prog) (ds++gs)).all (· <=reachBytes)=true)(hlaid:laidMetH Tryz.prog Rows.measureBoxesRow.laid W):
  Calls Tryz.prog 6 args W fun e W'=> ∃v,e= .returned v/\Rows.measureBoxesSpec.post enc Tryz.prog Tryz.f6 false true false false W args v W':=by
 have hW':=hW;obtain⟨p,q,hA0,hV,rfl,_,_⟩:=hW;have hA:DataW.TrodAll enc Tryz.prog W 0 (fun _=>true) true Tryz.f6.params.toList args.toList ds p:=hA0;rw[Tryz.params6] at hA hval hz;obtain⟨v0,d0,hargs,rfl,h0⟩:=trodAll_one hA;obtain rfl:args= #[v0]:=by cases args;simp_all
 obtain⟨rfl,rfl⟩:=trodVars_none hV;clear hA0;simp only[List.append_nil] at hW';have hlt: ∀x∈p,x.block<W.heap.size:=fun x hx=>by simpa using hW'.lt x hx
 obtain⟨es,hI,hd,_⟩:=open_vI Tryz.underlying22 Tryz.underlying3 cellsI (hval 0 22 v0 rfl rfl) h0;have hb:es.length<=1125899906842624:=by
  rcases hd with⟨rfl,rfl⟩|⟨sp,rfl⟩
  ·exact Nat.zero_le _
  ·have:=sized_slice hz (j:=0) (t:=22) (e:=3) J J Tryz.underlying22
   rw[bytesI] at this;have hr:=reachBytes_lt;have hl:(lits (H:=H) .i64 es).length=es.length:=by simp[lits]
   rw[hl] at this;omega
 obtain⟨ai,al,ae,au,hE⟩:=eg_of hlaid;have hf:=(zO hE (es0:=es) hb) (GW W) [v0] (bp.refl _) (.cons hI .nil);refine(hf.run W (fun b cs hg=>GW.sub hg)).mono fun e W' ⟨v,G',he,hr,hv⟩=>?_;rw[aI] at hv;subst hv;subst he;have hn:=hr.below;have t2:=trodAll_mk1 (Below.trod laidOut (by kernel_rfl) (of_decide_eq_true (by kernel_rfl)) h0 hn hlt);exact⟨_,J,⟨_,_,_,[],_,[],hW',trodAll_mk1 (shut_bool Tryz.underlying4 _),t2,J,hn.frame _,fun h=>by cases h⟩⟩
theorem reads(os:Os){H:Type}(enc:TypeId×Value->H): ∃places,DataW.whole enc Tryz.prog ((World.doorLaid Tryz.prog 104 os).forCall (fun _ _=>0) ⟨#[], #[.slice none 0 0],[]⟩).memory Tryz.f6.params.toList Rows.measureBoxesSpec.vars false #[Value.slice none 0 0].toList 8=some ([.nil],[],places):=
 ⟨[],by kernel_rfl⟩
theorem lifted(os:Os)(started:os.Started)(H:Type)(enc:TypeId×Value->H)(F:Stop.Interp):
  ReturnsInHanded {} Tryz.checked os 6 .any ((OpenSpec.ofChange Rows.measureBoxesSpec).preRow enc Tryz.prog Tryz.f6 Rows.measureBoxesRow.domain false Rows.measureBoxesRow.laid) (((OpenSpec.ofChange Rows.measureBoxesSpec).at F).post enc Tryz.prog Tryz.f6 false true false false):=by
 obtain⟨places,hx⟩:=reads os enc;refine returnsInHanded_of_row (C:=Tryz.checked) (s:=OpenSpec.ofChange Rows.measureBoxesSpec) own started (by kernel_rfl) Tryz.func6
  (witness_row_atRef (enc:=enc) (C:=Tryz.checked) false (World.doorLaid Tryz.prog 104 os) #[.slice none 0 0] rfl (by kernel_rfl) (by kernel_rfl) (by kernel_rfl)
   (OpenSpec.preRow_of_cond 8 hx (by kernel_rfl) (fun k hk=>by cases hk) (by kernel_rfl) (door_met os _))) ?_
 intro W base args ds gs before hval hW _ _ hz hlaid _ _;exact contract H enc W base args ds gs before hval hW hz hlaid
theorem j1:(Rows.measureBoxesRow.inPlace==Tryz.pinned.checked.prog.inPlace 6)=true:=by kernel_rfl
theorem j2:(Rows.measureBoxesRow.unfollowed==Tryz.pinned.checked.prog.unfollowed 6)=true:=by kernel_rfl
theorem j3:(Rows.measureBoxesRow.recurses==Tryz.pinned.checked.prog.recurses 6)=true:=by kernel_rfl
theorem j4:(Rows.measureBoxesRow.named==Tryz.pinned.checked.prog.varsNamed 6)=true:=by kernel_rfl
theorem j5:laidOutB Tryz.pinned.checked.prog=true:=laidOut
theorem j6:mapsRowed Tryz.pinned.checked.prog=true:=by kernel_rfl
theorem j7:Tryz.pinned.checked.prog.mainIs=some (Rows.measureBoxesCard.stood.harness.1,Rows.measureBoxesCard.stood.harness.2.toList):=by kernel_rfl
theorem j8:false=Rows.measureBoxesRow.goesBy Tryz.pinned.checked.prog:=by kernel_rfl
theorem closed:joinedFacts Tryz.pinned.checked.prog 6 Tryz.f6 (OpenSpec.ofChange Rows.measureBoxesSpec).bare Rows.measureBoxesRow=true:=by
 unfold joinedFacts;rw[j1,j2,j3,j4,j5,j6]
 kernel_rfl
theorem said:Rows.MeasureBoxesSaid:=
 OpenClaim.holds_of_cond 6 Tryz.f6 J J J J J J J ⟨J,J,J,J,J⟩ J J J J J (by kernel_rfl) Tryz.func6 closed
  (of_decide_eq_true (by kernel_rfl)) (by unfold Func.isWrapper;first|(rw[if_pos (by decide+kernel)];kernel_rfl)|(rw[if_neg (by decide+kernel)];exact⟨J,J⟩))
  (fun os started H enc _ F=>by rw[OpenClaim.pre_eq_preRow];exact lifted os started H enc F)
theorem plain(f:FuncId)(fn:Func)(hf:Tryz.pinned.checked.prog.funcNamed "bspregion/bspregionlaw21.MeasureBoxes" =some f)(hfn:Tryz.pinned.checked.prog.funcs[f]? =some fn):
  true=Tryz.pinned.checked.prog.looks []/\ ∀(j:Nat) t,fn.params[j]? =some t->Tryz.pinned.checked.prog.wantsStandIn t=false:=by
 obtain rfl:f=6:=Option.some.inj ((show Tryz.prog.funcNamed "bspregion/bspregionlaw21.MeasureBoxes" =some 6 by kernel_rfl).symm.trans hf) |>.symm;obtain rfl:fn=Tryz.f6:=(Option.some.inj (Tryz.func6.symm.trans hfn)).symm;refine⟨by kernel_rfl,fun j t ht=>?_⟩;rw[Tryz.params6] at ht;have hm:=Array.mem_of_getElem? ht;simp only[List.mem_toArray,List.mem_cons,List.not_mem_nil,or_false] at hm;subst hm;exact(show Tryz.prog.wantsStandIn 22=false by kernel_rfl)
theorem card:Rows.MeasureBoxesCardSaid:=
 Claim7.holds_tied_plain_at .later [] _ _ _ _ said (fun _ h=>by cases h) (by kernel_rfl) (fun _ h=>by cases h) measureBoxes_row_tie J ⟨J,J⟩ j7 J plain j8
#print axioms card
end Go.Proofs.YtidmgdlbilojcaaGreatDoor.measureBoxes
end
