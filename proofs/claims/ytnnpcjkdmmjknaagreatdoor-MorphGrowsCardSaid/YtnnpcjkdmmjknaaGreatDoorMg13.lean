import Derived.Test.YtnnpcjkdmmjknaaGreatDoorMg12
import Derived.WalkKit
import Derived.LaidEql
import Derived.Stop.Asserts
import Derived.RowKitTokens
set_option linter.all false
set_option maxHeartbeats 2000000
set_option maxRecDepth 100000
section
namespace Go.Sx
open Go Go.Proofs Tryz
variable {GB G A:Gh}{x y u t:Tr}{l1:aa}{op rt:Int}{ds:List Nat}{n i j k:Nat}{v:Value}{P:Program}{m c2:List Value}{C:aD}{fr:Fr}{K:Value->List av->Gh->Prop}
def cU:Tr->List DV
 | .leaf b=>[vI 0,vI 0, .v (.pointer none),vI 0,vI 0, .v (.pointer none),vI 0,vI 0, .v (.pointer none), .v (.pointer none), .v (.pointer none), .v (.bool b)]
 | .node l x y=>[vI (dw (l.a:Rat)),vI (dx (l.a:Rat)),dm (l.a:Rat),vI (dw (l.b:Rat)),vI (dx (l.b:Rat)),dm (l.b:Rat),vI (dw (l.c:Rat)),vI (dx (l.c:Rat)),dm (l.c:Rat), .pt (cU x), .pt (cU y), .v (.bool false)]
def eU(t:Tr):DV:= .pt (cU t)
def nP{b:Bool}:PF GB prog 180 [.v (.bool b)] (eU (.leaf b)):=by
 refine fn func180 J J ntmps180 J J (fun C=>?_);refine ir 5 J ?_;exact rz J J
def zd{l:aa}:PF GB prog 261 [cO l,eU x,eU y] (eU (.node l x y)):=by
 refine fn func261 J J ntmps261 J J (fun C=>?_);refine ir 11 J ?_;exact rz J J
def ql{b:Bool}:PF GB prog 189 [eU (.leaf b)] (.v (.bool true)):=by
 refine fn func189 J J ntmps189 J J (fun C=>?_);exact rz J J
def qG{l:aa}:PF GB prog 189 [eU (.node l x y)] (.v (.bool false)):=by
 refine fn func189 J J ntmps189 J J (fun C=>?_);exact rz J J
def Xs{l:aa}:PF GB prog 315 [cO l,eU (.node l1 x y),eU u] (eU (.node l (.node l1 x y) u)):=by
 refine fn func315 J J ntmps315 J J (fun C=>?_);refine cl (fu:=⟨0⟩) J qG J<|cd J J J<|cl J zd J<|?_;exact rz J J
def VM{l:aa}{p:Bool}:PF GB prog 315 [cO l,eU (.leaf p),eU (.node l1 x y)] (eU (.node l (.leaf p) (.node l1 x y))):=by
 refine fn func315 J J ntmps315 J J (fun C=>?_);refine cl (fu:=⟨0⟩) J ql J<|c6 J J J<|cl (fu:=⟨1⟩) J qG J<|cd J J J<|cl J zd J<|?_;exact rz J J
def Yh{l:aa}{p q:Bool}:PF GB prog 315 [cO l,eU (.leaf p),eU (.leaf q)] (eU (Tr.joinQ l (.leaf p) (.leaf q))):=by
 refine fn func315 J J ntmps315 J J (fun C=>?_);refine cl (fu:=⟨0⟩) J ql J<|c6 J J J<|cl (fu:=⟨1⟩) J ql J<|c6 J J J<|?_;refine bb J J J (fun hc23=>?_) (fun hc23=>?_)
 .
  exact rz J (by rw[show Tr.joinQ l (.leaf p) (.leaf q)= .leaf p by simp[Tr.joinQ,Tr.isLeaf,Tr.code,hc23]];rfl)
 .
  refine cl J zd J<|?_;exact rz J (by rw[show Tr.joinQ l (.leaf p) (.leaf q)= .node l (.leaf p) (.leaf q) by simp[Tr.joinQ,Tr.isLeaf,Tr.code,hc23]];rfl)
def O3{l:aa}: ∀{x y:Tr},PF GB prog 315 [cO l,eU x,eU y] (eU (Tr.joinQ l x y))
 | .leaf _, .leaf _=>Yh
 | .leaf _, .node .. =>VM
 | .node ..,_=>Xs
def ao6{b:Bool}:PF GB prog 175 [eU (.leaf b)] (vI (Tr.depth (.leaf b):Nat)):=by
 refine fn func175 J J ntmps175 J J (fun C=>?_);refine cl (fu:=⟨0⟩) J ql J<|?_;refine kG 4 J ?_;refine gx J<|?_;exact rz J J
def apt{l:aa}(hd:(Tr.node l x y).depth<=1000000)(ihx:PF GB prog 175 [eU x] (vI (Tr.depth x:Nat)))(ihy:PF GB prog 175 [eU y] (vI (Tr.depth y:Nat))):PF GB prog 175 [eU (.node l x y)] (vI (Tr.depth (.node l x y):Nat)):=by
 have hdp:(Tr.node l x y).depth=1+max x.depth y.depth:=J;have hdx:=rR x.depth y.depth;have hdy:=qL x.depth y.depth;refine fn func175 J J ntmps175 J J (fun C=>?_);refine cl (fu:=⟨0⟩) J qG J<|?_;refine r5 4 J ?_;refine gx J<|cl J ihx J<|cl (hv:=by simp only[aj];exact⟨by omega,by kernel_rfl⟩) J ihy J<|?_;exact rz J (by show DV.v (.int _ _)= .v (.int _ _);congr 2;split<;>omega)
def yp: ∀{t:Tr},t.depth<=1000000->PF GB prog 175 [eU t] (vI (Tr.depth t:Nat))
 | .leaf _,_=>ao6
 | .node l x y,h=>apt h (yp (by have:=rR x.depth y.depth;have:(Tr.node l x y).depth=1+max x.depth y.depth:=J;omega)) (yp (by have:=qL x.depth y.depth;have:(Tr.node l x y).depth=1+max x.depth y.depth:=J;omega))
def aky{b:Bool}{c:ar}:PF GB prog 259 [eU (.leaf b), .sl (c.map c7)] (eU (Tr.restrict (.leaf b) c)):=by
 refine fn func259 J J ntmps259 J J (fun C=>?_);refine cl (fu:=⟨0⟩) J ql J<|?_;refine kG 10 J ?_;refine gx J<|?_;exact rz J J
def Zy{l:aa}{c:ar}(hl:LB l)(hlo:l.ok)(hc:ek c)(hn:c.length+(Tr.node l x y).depth<=100000)(ihx: ∀{c:ar},ek c->c.length+x.depth<=100000->PF GB prog 259 [eU x, .sl (c.map c7)] (eU (Tr.restrict x c)))(ihy: ∀{c:ar},ek c->c.length+y.depth<=100000->PF GB prog 259 [eU y, .sl (c.map c7)] (eU (Tr.restrict y c))):PF GB prog 259 [eU (.node l x y), .sl (c.map c7)] (eU (Tr.restrict (.node l x y) c)):=by
 have hdp:(Tr.node l x y).depth=1+max x.depth y.depth:=J;have hdx:=rR x.depth y.depth;have hdy:=qL x.depth y.depth;have hca:=tq c l;have hcb:=tq c l.rev;refine fn func259 J J ntmps259 J J (fun C=>?_);refine cl (fu:=⟨0⟩) J qG J<|?_;refine r5 10 J ?_;refine gx J<|cl J (HN (c:=c) (l:=l) hlo hc) J<|?_;refine bb J J J (fun hc23=>?_) (fun hc23=>?_)
 .
  refine cl J (ihx hc (by omega)) J<|?_;exact rz J (by rw[Tr.restrict,if_pos hc23];rfl)
 .
  refine bb J J J (fun hc32=>?_) (fun hc32=>?_)
  .
   refine cl J (ihy hc (by omega)) J<|?_;exact rz J (by rw[Tr.restrict,if_neg (by simp[hc23]),if_pos hc32];rfl)
  .
   refine cl J (ihx (c:=bC c l) (si hlo hc) (by omega)) J<|cl J (ihy (c:=bC c l.rev) (si hlo.rev hc) (by omega)) J<|cl J O3 J<|?_;exact rz J (by rw[Tr.restrict,if_neg (by simp[hc23]),if_neg (by simp[hc32])];rfl)
def pu: ∀{t:Tr} {c:ar},t.all LB->t.all aa.ok->ek c->c.length+t.depth<=100000->PF GB prog 259 [eU t, .sl (c.map c7)] (eU (Tr.restrict t c))
 | .leaf _,_,_,_,_,_=>aky
 | .node l x y,c,hb,ho,hc,hn=>Zy hb.1 ho.1 hc hn (fun h1 h2=>pu hb.2.1 ho.2.1 h1 h2) (fun h1 h2=>pu hb.2.2 ho.2.2 h1 h2)
def R9(hb:t.all LB)(ho:t.all aa.ok)(hd:t.depth<=100000:=by omega):PF GB prog 176 [eU t] (eU (t.restrict [])):=by
 refine fn func176 J J ntmps176 J J (fun C=>?_);refine cl J (pu (t:=t) (c:=[]) hb ho (fun s h=>by cases h) (by simpa using hd)) J<|?_;exact rz J J
def Tr.compl:Tr->Tr
 | .leaf b=> .leaf !b
 | .node l x y=> .node l x.compl y.compl
def Tr.chooseQ(op:Int)(b:Bool)(t:Tr)(c:ar):Tr:=
 if op=1\/op=2 then(if b=decide (op=1) then .leaf b else t.restrict c)
 else if op=3/\b=false then .leaf false
 else if b then(t.restrict c).compl else t.restrict c
def Tr.mergeQ(op:Int):Tr->Tr->ar->Tr
 | .leaf b,u,c=>u.chooseQ op b c
 | .node l x y,u,c=>if !co c l.rev then x.mergeQ op u c else if !co c l then y.mergeQ op u c else joinQ l (x.mergeQ op u (bC c l)) (y.mergeQ op u (bC c l.rev))
def anY{b:Bool}:PF GB prog 182 [eU (.leaf b)] (eU (Tr.compl (.leaf b))):=by
 refine fn func182 J J ntmps182 J J (fun C=>?_);refine cl (fu:=⟨0⟩) J ql J<|?_;refine kG 4 J ?_;refine gx J<|cl J nP J<|?_;exact rz J J
def anR{l:aa}(ihx:PF GB prog 182 [eU x] (eU (Tr.compl x)))(ihy:PF GB prog 182 [eU y] (eU (Tr.compl y))):PF GB prog 182 [eU (.node l x y)] (eU (Tr.compl (.node l x y))):=by
 refine fn func182 J J ntmps182 J J (fun C=>?_);refine cl (fu:=⟨0⟩) J qG J<|?_;refine r5 4 J ?_;refine gx J<|cl J ihx J<|cl J ihy J<|cl J (zd (l:=l) (x:=x.compl) (y:=y.compl)) J<|?_;exact rz J J
def uS: ∀{t:Tr},PF GB prog 182 [eU t] (eU (Tr.compl t))
 | .leaf _=>anY
 | .node _ _ _=>anR uS uS
def azk{b:Bool}{c:ar}(hb:t.all LB)(ho:t.all aa.ok)(hc:ek c)(hn:c.length+t.depth<=100000):PF GB prog 319 [vI op, .v (.bool b),eU t, .sl (c.map c7)] (eU (t.chooseQ op b c)):=by
 refine fn func319 J J ntmps319 J J (fun C=>?_);refine br J J J (fun hc10=>?_) (fun hc10=>?_)
 .
  refine br J J J (fun hc10=>?_) (fun hc10=>?_)
  .
   refine bb J J J (fun hc18=>?_) (fun hc18=>?_)
   .
    refine cl J nP J<|?_;exact rz J (by unfold Tr.chooseQ;simp_all [fh]<;>omega)
   .
    refine cl J (pu (by assumption) (by assumption) (by assumption) (by omega)) J<|?_;exact rz J (by unfold Tr.chooseQ;simp_all [fh]<;>omega)
  .
   refine br J J J (fun hc13=>?_) (fun hc13=>?_)
   .
    refine bb J J J (fun hc22=>?_) (fun hc22=>?_)
    .
     refine cl J nP J<|?_;exact rz J (by unfold Tr.chooseQ;simp_all [fh]<;>omega)
    .
     refine bb J J J (fun hc24=>?_) (fun hc24=>?_)
     .
      refine cl J (pu (by assumption) (by assumption) (by assumption) (by omega)) J<|cl J (uS (t:=t.restrict c)) J<|?_;exact rz J (by unfold Tr.chooseQ;simp_all [fh]<;>omega)
     .
      refine cl J (pu (by assumption) (by assumption) (by assumption) (by omega)) J<|?_;exact rz J (by unfold Tr.chooseQ;simp_all [fh]<;>omega)
   .
    refine bb J J J (fun hc24=>?_) (fun hc24=>?_)
    .
     refine cl J (pu (by assumption) (by assumption) (by assumption) (by omega)) J<|cl J (uS (t:=t.restrict c)) J<|?_;exact rz J (by unfold Tr.chooseQ;simp_all [fh]<;>omega)
    .
     refine cl J (pu (by assumption) (by assumption) (by assumption) (by omega)) J<|?_;exact rz J (by unfold Tr.chooseQ;simp_all [fh]<;>omega)
 .
  refine br J J J (fun hc10=>?_) (fun hc10=>?_)
  .
   refine bb J J J (fun hc18=>?_) (fun hc18=>?_)
   .
    refine cl J nP J<|?_;exact rz J (by unfold Tr.chooseQ;simp_all [fh]<;>omega)
   .
    refine cl J (pu (by assumption) (by assumption) (by assumption) (by omega)) J<|?_;exact rz J (by unfold Tr.chooseQ;simp_all [fh]<;>omega)
  .
   refine br J J J (fun hc13=>?_) (fun hc13=>?_)
   .
    refine bb J J J (fun hc22=>?_) (fun hc22=>?_)
    .
     refine cl J nP J<|?_;exact rz J (by unfold Tr.chooseQ;simp_all [fh]<;>omega)
    .
     refine bb J J J (fun hc24=>?_) (fun hc24=>?_)
     .
      refine cl J (pu (by assumption) (by assumption) (by assumption) (by omega)) J<|cl J (uS (t:=t.restrict c)) J<|?_;exact rz J (by unfold Tr.chooseQ;simp_all [fh]<;>omega)
     .
      refine cl J (pu (by assumption) (by assumption) (by assumption) (by omega)) J<|?_;exact rz J (by unfold Tr.chooseQ;simp_all [fh]<;>omega)
   .
    refine bb J J J (fun hc24=>?_) (fun hc24=>?_)
    .
     refine cl J (pu (by assumption) (by assumption) (by assumption) (by omega)) J<|cl J (uS (t:=t.restrict c)) J<|?_;exact rz J (by unfold Tr.chooseQ;simp_all [fh]<;>omega)
    .
     refine cl J (pu (by assumption) (by assumption) (by assumption) (by omega)) J<|?_;exact rz J (by unfold Tr.chooseQ;simp_all [fh]<;>omega)
def aoc{b:Bool}{c:ar}(hbu:u.all LB)(hou:u.all aa.ok)(hc:ek c)(hn:c.length+u.depth<=100000):PF GB prog 264 [vI op,eU (.leaf b),eU u, .sl (c.map c7)] (eU (Tr.mergeQ op (.leaf b) u c)):=by
 refine fn func264 J J ntmps264 J J (fun C=>?_);refine cl (fu:=⟨0⟩) J ql J<|?_;refine kG 14 J ?_;refine gx J<|cl J (azk (t:=u) hbu hou hc hn) J<|?_;exact rz J J
def aoC{l:aa}{c:ar}(hl:LB l)(hlo:l.ok)(hc:ek c)(hn:c.length+(Tr.node l x y).depth+u.depth<=100000)(ihx: ∀{c:ar},ek c->c.length+x.depth+u.depth<=100000->PF GB prog 264 [vI op,eU x,eU u, .sl (c.map c7)] (eU (Tr.mergeQ op x u c)))(ihy: ∀{c:ar},ek c->c.length+y.depth+u.depth<=100000->PF GB prog 264 [vI op,eU y,eU u, .sl (c.map c7)] (eU (Tr.mergeQ op y u c))):PF GB prog 264 [vI op,eU (.node l x y),eU u, .sl (c.map c7)] (eU (Tr.mergeQ op (.node l x y) u c)):=by
 have hdp:(Tr.node l x y).depth=1+max x.depth y.depth:=J;have hdx:=rR x.depth y.depth;have hdy:=qL x.depth y.depth;have hca:=tq c l;have hcb:=tq c l.rev;refine fn func264 J J ntmps264 J J (fun C=>?_);refine cl (fu:=⟨0⟩) J qG J<|?_;refine r5 14 J ?_;refine gx J<|cl J (HN (c:=c) (l:=l) hlo hc) J<|?_;refine bb J J J (fun hc34=>?_) (fun hc34=>?_)
 .
  refine cl J (ihx hc (by omega)) J<|?_;exact rz J (by rw[Tr.mergeQ,if_pos hc34];rfl)
 .
  refine bb J J J (fun hc45=>?_) (fun hc45=>?_)
  .
   refine cl J (ihy hc (by omega)) J<|?_;exact rz J (by rw[Tr.mergeQ,if_neg (by simp[hc34]),if_pos hc45];rfl)
  .
   refine cl J (ihx (c:=bC c l) (si hlo hc) (by omega)) J<|cl J (ihy (c:=bC c l.rev) (si hlo.rev hc) (by omega)) J<|cl J O3 J<|?_;exact rz J (by rw[Tr.mergeQ,if_neg (by simp[hc34]),if_neg (by simp[hc45])];rfl)
def GQ{op:Int}{u:Tr}(hbu:u.all LB)(hou:u.all aa.ok): ∀{t:Tr} {c:ar},t.all LB->t.all aa.ok->ek c->c.length+t.depth+u.depth<=100000->PF GB prog 264 [vI op,eU t,eU u, .sl (c.map c7)] (eU (Tr.mergeQ op t u c))
 | .leaf _,_,_,_,hc,hn=>aoc hbu hou hc (by simp only[Tr.depth] at hn;omega)
 | .node l x y,c,hb,ho,hc,hn=>aoC hb.1 ho.1 hc hn (fun h1 h2=>GQ hbu hou hb.2.1 ho.2.1 h1 h2) (fun h1 h2=>GQ hbu hou hb.2.2 ho.2.2 h1 h2)
def T4:DV:= .ag [vI 0,vI 0, .v (.pointer none),vI 0,vI 0, .v (.pointer none),vI 0,vI 0, .v (.pointer none)]
def uL:Option aa->DV
 |some l=> .tp [cO l,vB true]
 |none=> .tp [T4,vB false]
def LU{l:aa}(h: ¬l.ok)(hz: ¬(l.a=0/\l.b=0)):decide (rgcd (rgcd (l.a:Rat) (l.b:Rat)) (l.c:Rat)=((1:Int):Rat))=false:=by
 rw[Cg,Cg];refine decide_eq_false fun e=>h ⟨hz,?_⟩;simp only[fU] at e;have:=pS.1 e;omega
def WK{l:aa}[hl:LB l](ha:l.a=0)(hb:l.b=0):PF GB prog 193 [eL l] (uL none):=by
 refine fn func193 J J ntmps193 J J (fun C=>?_);refine cl (fu:=⟨0⟩) J (r9 (m:=l.a)) J<|cd J J J<|cl (fu:=⟨0⟩) J (r9 (m:=l.b)) J<|cd J J J<|cl (fu:=⟨0⟩) J (r9 (m:=l.c)) J<|?_;refine cd J J J<|cl J (ux (m:=l.a)) J<|cl J (ux (m:=l.b)) J<|cl J (ux (m:=l.c)) J<|cl (fu:=⟨0⟩) J (uB (q:=(l.a:Rat))) J<|?_;refine c6 J (by show some (decide _)=some true;rw[ha];rfl) J<|cl (fu:=⟨0⟩) J (uB (q:=(l.b:Rat))) J<|c6 J (by show some (decide _)=some true;rw[hb];rfl) J<|?_;exact rz J J
def Tu{l:aa}[hl:LB l](hz: ¬(l.a=0/\l.b=0))(ho: ¬l.ok):PF GB prog 193 [eL l] (uL none):=by
 refine fn func193 J J ntmps193 J J (fun C=>?_);refine cl (fu:=⟨0⟩) J (r9 (m:=l.a)) J<|cd J J J<|cl (fu:=⟨0⟩) J (r9 (m:=l.b)) J<|cd J J J<|cl (fu:=⟨0⟩) J (r9 (m:=l.c)) J<|?_;refine cd J J J<|cl J (ux (m:=l.a)) J<|cl J (ux (m:=l.b)) J<|cl J (ux (m:=l.c)) J<|cl (fu:=⟨0⟩) J (uB (q:=(l.a:Rat))) J<|?_;refine jr (fu2:=⟨4⟩) J J J J (fun hg35=>?_) (fun hg35=>?_)
 .
  have ha:l.a=0:=cX.1 hg35;refine cl (fu:=⟨1⟩) J (uB (q:=(l.b:Rat))) J<|cd J (by first|rfl|(show some (decide _)=some false;rw[decide_eq_false (fun e=>hz ⟨ha,cX.1 e⟩)])) J<|?_;refine cl J (pE (p:=(l.a:Rat)) (q:=(l.b:Rat))) J<|cl J (pE (p:=rgcd l.a l.b) (q:=(l.c:Rat))) J<|cl J (tn (m:=1)) J<|?_;refine cl (fu:=⟨0⟩) J (x9 (p:=rgcd (rgcd l.a l.b) l.c) (q:=((1:Int):Rat))) J<|c6 J (by show some (!decide _)=some true;rw[LU ho hz];rfl) J<|?_;exact rz J J
 .
  refine cd J (by first|rfl|(show some (decide _)=some false;rw[decide_eq_false (fun e=>hz ⟨ha,cX.1 e⟩)])) J<|cl J (pE (p:=(l.a:Rat)) (q:=(l.b:Rat))) J<|?_;refine cl J (pE (p:=rgcd l.a l.b) (q:=(l.c:Rat))) J<|cl J (tn (m:=1)) J<|cl (fu:=⟨0⟩) J (x9 (p:=rgcd (rgcd l.a l.b) l.c) (q:=((1:Int):Rat))) J<|?_;refine c6 J (by show some (!decide _)=some true;rw[LU ho hz];rfl) J<|?_;exact rz J J
def TS{l:aa}[hl:LB l][Decidable l.ok]:PF GB prog 193 [eL l] (uL (if l.ok then some l else none)):=by
 split
 .rename_i h;exact aGd h
 .rename_i h
  by_cases hz:l.a=0/\l.b=0
  .exact WK hz.1 hz.2
  .exact Tu hz h
def gn(n:Bool)(ds:List Nat):Prop:=dC ds/\(n=true->0<ds.length)
instance (n:Bool) (ds:List Nat):Decidable (gn n ds):=inferInstanceAs (Decidable (_/\_))
def Ar{neg:Bool}(h:bB ds/\ds.length<=3):PF GB prog 266 [.ag [.v (.bool neg),eO ds]] (vB (decide (gn neg ds))):=O7 h.1 (by have:=h.2;omega)
structure RL where
 na:Bool
 da:List Nat
 nb:Bool
 db:List Nat
 nc:Bool
 dc:List Nat
def RL.d(r:RL):DV:= .ag [.v (.bool r.na),eO r.da, .v (.bool r.nb),eO r.db, .v (.bool r.nc),eO r.dc]
def oF(n:Bool)(ds:List Nat):Int:=if n then-(dv ds:Int) else dv ds
def RL.l(r:RL):aa:=⟨oF r.na r.da,oF r.nb r.db,oF r.nc r.dc⟩
def RL.nm(r:RL):Prop:=gn r.na r.da/\gn r.nb r.db/\gn r.nc r.dc
instance (l:aa):Decidable l.ok:=inferInstanceAs (Decidable (_/\_))
instance (r:RL):Decidable r.nm:=inferInstanceAs (Decidable (_/\_/\_))
def RL.ln(r:RL):Option aa:=if r.nm/\r.l.ok then some r.l else none
structure RL.sm (r:RL):Prop where
 a:bB r.da/\r.da.length<=3
 b:bB r.db/\r.db.length<=3
 c:bB r.dc/\r.dc.length<=3
def Sp(n:Bool)(ds:List Nat):(oF n ds).natAbs=dv ds:=by unfold oF;cases n<;>simp
def FC{n:Bool}(hd:bB ds)(h:gn n ds):decide (oF n ds<0)=n:=by
 unfold oF
 cases n with
 |false=>simp
 |true=>
  have h0:0<dv ds:=by
   refine iK fun e=>?_;have:=z8 hd h.1;rw[e,yq] at this;have h2:=h.2 J;rw[<-this] at h2;exact absurd h2 (by decide)
  simp only[if_true,decide_eq_true_eq];omega
def RL.eL{r:RL}(s:r.sm)(h:r.nm):r.d=Go.Sx.eL r.l:=by
 unfold RL.d Go.Sx.eL RL.l;simp only[Sp,FC s.a.1 h.1,FC s.b.1 h.2.1,FC s.c.1 h.2.2,dN,z8 s.a.1 h.1.1,z8 s.b.1 h.2.1.1,z8 s.c.1 h.2.2.1];rfl
theorem RL.lb{r:RL}(s:r.sm):LB r.l:=by
 have key: ∀(n:Bool) (ds:List Nat),bB ds/\ds.length<=3->(oF n ds).natAbs<2^96:=fun n ds h=>by
  rw[Sp];refine dZ (jA h.1) ?_;rw[show(2:Nat)^96=4294967296^3 by decide];exact bR (by decide) h.2
 exact⟨key _ _ s.a,key _ _ s.b,key _ _ s.c⟩
def W3{r:RL}(s:r.sm)(h: ¬gn r.na r.da):PF GB prog 193 [r.d] (uL none):=by
 refine fn func193 J J ntmps193 J J (fun C=>?_);refine cl (fu:=⟨0⟩) J (Ar (neg:=r.na) (ds:=r.da) s.a) J<|c6 J (by show some (!decide _)=some true;rw[decide_eq_false h];rfl) J<|?_;exact rz J J
def TY{r:RL}(s:r.sm)(h1:gn r.na r.da)(h: ¬gn r.nb r.db):PF GB prog 193 [r.d] (uL none):=by
 refine fn func193 J J ntmps193 J J (fun C=>?_);refine cl (fu:=⟨0⟩) J (Ar (neg:=r.na) (ds:=r.da) s.a) J<|cd J (by show some (!decide _)=some false;rw[decide_eq_true h1];rfl) J<|cl (fu:=⟨0⟩) J (Ar (neg:=r.nb) (ds:=r.db) s.b) J<|?_;refine c6 J (by show some (!decide _)=some true;rw[decide_eq_false h];rfl) J<|?_;exact rz J J
def Vk{r:RL}(s:r.sm)(h1:gn r.na r.da)(h2:gn r.nb r.db)(h: ¬gn r.nc r.dc):PF GB prog 193 [r.d] (uL none):=by
 refine fn func193 J J ntmps193 J J (fun C=>?_);refine cl (fu:=⟨0⟩) J (Ar (neg:=r.na) (ds:=r.da) s.a) J<|cd J (by show some (!decide _)=some false;rw[decide_eq_true h1];rfl) J<|cl (fu:=⟨0⟩) J (Ar (neg:=r.nb) (ds:=r.db) s.b) J<|?_;refine cd J (by show some (!decide _)=some false;rw[decide_eq_true h2];rfl) J<|cl (fu:=⟨0⟩) J (Ar (neg:=r.nc) (ds:=r.dc) s.c) J<|c6 J (by show some (!decide _)=some true;rw[decide_eq_false h];rfl) J<|?_;exact rz J J
def M9{r:RL}(s:r.sm):PF GB prog 193 [r.d] (uL r.ln):=by
 by_cases h1:gn r.na r.da
 .by_cases h2:gn r.nb r.db
  .by_cases h3:gn r.nc r.dc
   .haveI:=RL.lb s
    rw[RL.eL s ⟨h1,h2,h3⟩,show r.ln=if r.l.ok then some r.l else none by unfold RL.ln;simp[show r.nm from⟨h1,h2,h3⟩]];exact TS
   .rw[show r.ln=none from if_neg fun e=>h3 e.1.2.2]
    exact Vk s h1 h2 h3
  .rw[show r.ln=none from if_neg fun e=>h2 e.1.2.1]
   exact TY s h1 h2
 .rw[show r.ln=none from if_neg fun e=>h1 e.1.1]
  exact W3 s h1
def ge(n:Nat)(f:Nat->Bool):List Value:=(List.range n).map fun j=> .bool (f j)
def kp(f:Nat->Bool)(i:Nat):Nat->Bool:=fun j=>f j||Nat.beq j i
def ya(n:Nat)(f:Nat->Bool):(ge n f).length=n:=by simp[ge]
def ul{f:Nat->Bool}{b:Bool}(h:i<n)(hf:f i=b):(ge n f)[i]? =some (.bool b):=by simp[ge,h,hf]
def Cn{f:Nat->Bool}(e:j≠i):kp f i j=f j:=by
 unfold kp
 cases hb:Nat.beq j i with
 |false=>rw[Bool.or_false]
 |true=>exact absurd (aN hb) e
def L3{f:Nat->Bool}:kp f i i=true:=by
 unfold kp;rw[pW,sU]
def BO(n i:Nat)(f:Nat->Bool):(ge n f).set i (.bool true)=ge n (kp f i):=by
 apply lR;intro j;rw[mS];simp only[ge,aX,lQ,bS];by_cases hj:j<n
 .rw[oT hj]
  simp only[kJ];by_cases e:i=j
  .subst e;simp[hj,L3]
  .rw[Cn (fun h=>e h.symm)];simp[e]
 .rw[dY (by simpa using hj)]
  by_cases e:i=j
  .subst e;simp[hj]
  .simp[e]
def LX(n:Nat):de (.bool false) n=ge n (fun _=>false):=by
 apply lR;intro j;by_cases hj:j<n
 .rw[ul hj J]
  unfold de;rw[Ig (aE (.bool false)) n j (by simpa[aE] using hj)];simp[aE,Nat.mod_one]
 .rw[dY (by rw[pc];simp[aE];omega),dY (by rw[ya];omega)]
structure RN where
 g:RL
 l:Int
 r:Int
variable {ns:List RN}
def RN.d(n:RN):DV:= .ag [.v (.bool n.g.na),eO n.g.da, .v (.bool n.g.nb),eO n.g.db, .v (.bool n.g.nc),eO n.g.dc, .v (.int .i64 n.l), .v (.int .i64 n.r)]
structure RS where
 f:Nat->Bool
 c:Nat
 b:Bool
variable {s':RS}
inductive RR (ns:List RN):Int->RS->Tr->RS->Prop where
 |leaf (b:Bool) (s:RS):RR ns (rE b) s (.leaf b) s
 |bad (rt:Int) (s:RS) (h1:rt≠ -1) (h2:rt≠ -2) (h:rt<0\/(ns.length:Int)<=rt\/(∃k:Nat,rt=k/\k<ns.length/\s.f k=true)):RR ns rt s (.leaf false) ⟨s.f,s.c,true⟩
 |line (k:Nat) (n:RN) (s:RS) (h:ns[k]? =some n) (hf:s.f k=false) (hl:n.g.ln=none):RR ns (k:Int) s (.leaf false) ⟨kp s.f k,s.c+1,true⟩
 |node (k:Nat) (n:RN) (l:aa) (s s2 s3:RS) (x y:Tr) (h:ns[k]? =some n) (hf:s.f k=false) (hl:n.g.ln=some l) (h1:RR ns n.l ⟨kp s.f k,s.c+1,s.b⟩ x s2) (h2:RR ns n.r s2 y s3):RR ns (k:Int) s (.node l x y) s3
def RR.mono{s:RS}(h:RR ns rt s t s'):s.c<=s'.c:=by
 induction h with
 |leaf=>exact bX _
 |bad=>exact bX _
 |line=>exact Nat.le_succ _
 |node k n l s s2 s3 x y h hf hl h1 h2 i1 i2=>simp only at i1;omega
def yj{q:Rat}(h:Is G (dm q) v): ∃p,v= .pointer p:=by
 rcases ur.1 h with⟨_,h⟩|⟨_,h⟩
 .exact⟨_,h⟩
 .obtain⟨b,m,h,_⟩:=li.1 h;exact⟨_,h⟩
def XX{l:aa}(h:Is G (cO l) v): ∃n1 d1 p1 n2 d2 p2 n3 d3 p3,v= .agg ⟨[.int .i64 n1, .int .i64 d1, .pointer p1, .int .i64 n2, .int .i64 d2, .pointer p2, .int .i64 n3, .int .i64 d3, .pointer p3]⟩:=by
 obtain⟨m,rfl,g⟩:=d9.1 h;clear h;obtain⟨v1,m,rfl,h1,h⟩:=aI.1 g;obtain⟨v2,m,rfl,h2,h⟩:=aI.1 h;obtain⟨v3,m,rfl,h3,h⟩:=aI.1 h;obtain⟨v4,m,rfl,h4,h⟩:=aI.1 h;obtain⟨v5,m,rfl,h5,h⟩:=aI.1 h;obtain⟨v6,m,rfl,h6,h⟩:=aI.1 h;obtain⟨v7,m,rfl,h7,h⟩:=aI.1 h;obtain⟨v8,m,rfl,h8,h⟩:=aI.1 h;obtain⟨v9,m,rfl,h9,h⟩:=aI.1 h;rw[dE] at h;subst h;obtain⟨_,rfl⟩:=yj h3;obtain⟨_,rfl⟩:=yj h6;obtain⟨_,rfl⟩:=yj h9;rw[aB.1 h1,aB.1 h2,aB.1 h4,aB.1 h5,aB.1 h7,aB.1 h8];exact⟨_,_,_,_,_,_,_,_,_,J⟩
def OY{o:Option aa}(h:Is G (uL o) v): ∃n1 d1 p1 n2 d2 p2 n3 d3 p3,v= .tuple #[.agg ⟨[.int .i64 n1, .int .i64 d1, .pointer p1, .int .i64 n2, .int .i64 d2, .pointer p2, .int .i64 n3, .int .i64 d3, .pointer p3]⟩, .bool o.isSome]/\
  ∀l,o=some l->Is G (cO l) (.agg ⟨[.int .i64 n1, .int .i64 d1, .pointer p1, .int .i64 n2, .int .i64 d2, .pointer p2, .int .i64 n3, .int .i64 d3, .pointer p3]⟩):=by
 cases o with
 |some l=>
  obtain⟨m,rfl,g⟩:=jj.1 h;obtain⟨v1,m,rfl,h1,h⟩:=aI.1 g;obtain⟨v2,m,rfl,h2,h⟩:=aI.1 h;rw[dE] at h;subst h;obtain⟨n1,d1,p1,n2,d2,p2,n3,d3,p3,rfl⟩:=XX h1;rw[aB.1 h2];exact⟨n1,d1,p1,n2,d2,p2,n3,d3,p3,J,fun k e=>by cases e;exact h1⟩
 |none=>
  obtain⟨m,rfl,g⟩:=jj.1 h;obtain⟨v1,m,rfl,h1,h⟩:=aI.1 g;obtain⟨v2,m,rfl,h2,h⟩:=aI.1 h;rw[dE] at h;subst h;clear g h;obtain⟨m,rfl,g⟩:=d9.1 h1;obtain⟨w1,m,rfl,k1,h⟩:=aI.1 g;obtain⟨w2,m,rfl,k2,h⟩:=aI.1 h;obtain⟨w3,m,rfl,k3,h⟩:=aI.1 h;obtain⟨w4,m,rfl,k4,h⟩:=aI.1 h;obtain⟨w5,m,rfl,k5,h⟩:=aI.1 h;obtain⟨w6,m,rfl,k6,h⟩:=aI.1 h;obtain⟨w7,m,rfl,k7,h⟩:=aI.1 h;obtain⟨w8,m,rfl,k8,h⟩:=aI.1 h;obtain⟨w9,m,rfl,k9,h⟩:=aI.1 h;rw[dE] at h;subst h;rw[aB.1 k1,aB.1 k2,aB.1 k3,aB.1 k4,aB.1 k5,aB.1 k6,aB.1 k7,aB.1 k8,aB.1 k9];rw[aB.1 h2];exact⟨_,_,_,_,_,_,_,_,_,J,fun k e=>by cases e⟩
def AW{n:RN}(h:Is G n.d v): ∃x1 x2 x3:SV,v= .agg ⟨[.bool n.g.na, .slice x1.a x1.n x1.c, .bool n.g.nb, .slice x2.a x2.n x2.c, .bool n.g.nc, .slice x3.a x3.n x3.c, .int .i64 n.l, .int .i64 n.r]⟩/\
  Is G n.g.d (.agg ⟨[.bool n.g.na, .slice x1.a x1.n x1.c, .bool n.g.nb, .slice x2.a x2.n x2.c, .bool n.g.nc, .slice x3.a x3.n x3.c]⟩):=by
 obtain⟨m,rfl,g⟩:=d9.1 h;clear h;obtain⟨v1,m,rfl,h1,h⟩:=aI.1 g;obtain⟨v2,m,rfl,h2,h⟩:=aI.1 h;obtain⟨v3,m,rfl,h3,h⟩:=aI.1 h;obtain⟨v4,m,rfl,h4,h⟩:=aI.1 h;obtain⟨v5,m,rfl,h5,h⟩:=aI.1 h;obtain⟨v6,m,rfl,h6,h⟩:=aI.1 h;obtain⟨v7,m,rfl,h7,h⟩:=aI.1 h;obtain⟨v8,m,rfl,h8,h⟩:=aI.1 h;rw[dE] at h;subst h;obtain⟨_,x1,_,rfl,_,_⟩:=gw.1 (id h2);obtain⟨_,x2,_,rfl,_,_⟩:=gw.1 (id h4);obtain⟨_,x3,_,rfl,_,_⟩:=gw.1 (id h6)
 cases aB.1 h1;cases aB.1 h3;cases aB.1 h5;cases aB.1 h7;cases aB.1 h8
 exact⟨x1,x2,x3,J,d9.2 ⟨_,J, .cons h1 (.cons h2 (.cons h3 (.cons h4 (.cons h5 (.cons h6 .nil)))))⟩⟩
def rg(h:Is G (eU t) v): ∃p,v= .pointer p:=by
 obtain⟨b,m,h,_⟩:=li.1 h;exact⟨_,h⟩
def PF.fn0{f:FuncId}{ds:List DV}{r:DV}(h: ∀{GB:Gh},PF GB P f ds r){vs:List Value}(hv:IsLs G ds vs):Fn P f vs G (fun v G'=>Is G' r v):=h (GB:=G) G vs (bI.refl G) hv
abbrev Fy (x:SV) (ns:List RN) (A:Gh):Prop:= ∃es,fw A 8 x es/\IsLs A (ns.map RN.d) es
def aC3{x:SV}(hx:Fy x ns A)(hs: ∀n∈ns,n.g.sm)(hn:ns.length<=1000000){s:RS}(h:RR ns rt s t s'): ∀{G:Gh} {rb sb:Nat} {lo lo2:Bool},[GL A G]->s'.c<=1000000->
  iE prog 186 [.pointer (some ⟨rb,0,none⟩), .int .i64 rt] [⟨rb,[.slice x.a x.n x.c, .slice (some ⟨sb,0,none⟩) ns.length ns.length, .int .i64 s.c, .bool s.b],287,lo⟩,⟨sb,ge ns.length s.f,4,lo2⟩] G
   (fun v css G'=> ∃p,v= .pointer p/\Is G' (eU t) (.pointer p)/\css=[[.slice x.a x.n x.c, .slice (some ⟨sb,0,none⟩) ns.length ns.length, .int .i64 s'.c, .bool s'.b],ge ns.length s'.f]):=by
 obtain⟨es,hx,hes⟩:=hx;have hel:=hes.len;rw[aX] at hel;have hlen:=hx.len;rw[hel] at hlen;obtain⟨xa,xn,xc⟩:=x;simp only[] at hlen;subst hlen
 induction h with
 |leaf bb s=>
  intro G rb sb lo lo2 _ hc;refine iE.intro func186 J J ntmps186 J ?_;intro C _ _;show St C _ _ [⟨rb,_,_,false⟩,⟨sb,_,_,false⟩] _ _
  cases bb
  case true=>
   refine sR<|sa J J<|zE<|bi<|du<|sR<|sm J J<|sy (fk J J) J<|sm J J<|ss J J J J<|ss J J J J<|?_;refine sy (m5 J J) J<|sa J J<|zE<|js J<|sR<|sm J J<|sy (fk J J) J<|?_;refine sc (zC J J (PF.fn0 (nP (b:=true)) (.cons (aB.2 J) .nil)) J ?_);rintro _ G1 _ hp;obtain⟨p,rfl⟩:=rg hp;refine sa J J<|zE<|cg<|?_;exact lj (css:=[_,_]) (.tmp J .nil) J _ (List.Perm.refl _) (List.Sublist.refl _) ⟨p,J,hp,J⟩
  refine sR<|sa J J<|zE<|bi<|du<|sR<|sm J J<|sy (fk J J) J<|sm J J<|aO J J (c8 J) J<|aO J J (fk J J) J<|?_;refine sy (gm J J) J<|sa J J<|zE<|js J<|sR<|sm J J<|sy (fk J J) J<|?_;refine sc (zC J J (PF.fn0 (nP (b:=false)) (.cons (aB.2 J) .nil)) J ?_);rintro _ G1 _ hp;obtain⟨p,rfl⟩:=rg hp;refine sa J J<|zE<|cg<|?_;exact lj (css:=[_,_]) (.tmp J .nil) J _ (List.Perm.refl _) (List.Sublist.refl _) ⟨p,J,hp,J⟩
 |bad rt s h1 h2 h=>
  intro G rb sb lo lo2 _ hc;refine iE.intro func186 J J ntmps186 J ?_;intro C _ _;show St C _ [(0, .pointer (some ⟨rb,0,none⟩)),(1, .int .i64 rt)] [⟨rb,[.slice xa ns.length xc, .slice (some ⟨sb,0,none⟩) ns.length ns.length, .int .i64 s.c, .bool s.b],_,false⟩,⟨sb,ge ns.length s.f,_,false⟩] _ _;refine sR<|sa J J<|zE<|bi<|du<|sR<|sm J J<|sy (fk J J) J<|sm J J<|?_;refine iD 12 J (fun hg=>absurd hg (by omega)) (fun hg=>?_);refine aO J J (c8 J) J<|aO J J (fk J J) J<|sy (gm J J) J<|sa J J<|zE<|?_;refine fq J (fun hc=>absurd hc (by omega)) (fun _=>?_);refine sR<|sm J J<|sy (gG J J) J<|sm J J<|?_;refine iD 22 J (fun hg=>?_) (fun hg=>?_)
  .refine ss J J J J<|ss J J J J<|ss J J J J<|ss J J J J<|ss J J J J<|ss J J J J<|ss J J J J<|sy (m5 J J) J<|sm J J<|ss J J J J<|ss J J J J<|?_
   refine ss J J J J<|ss J J J J<|ss J J J J<|ss J J J J<|ss J J J J<|sy (m5 J J) J<|sa J J<|zE<|js J<|bi<|?_;refine dl<|sm J J<|sn J J<|sf J J<|?_;refine sc (qH J J J (.hd ..) (nb J) J J ?_);refine zE<|sR<|?_;refine sc (zC J J (PF.fn0 (nP (b:=false)) (.cons (aB.2 J) .nil)) J ?_);rintro _ G1 _ hp;obtain⟨p,rfl⟩:=rg hp;refine sa J J<|zE<|cg<|?_;exact lj (css:=[_,_]) (.tmp J .nil) J _ (List.Perm.refl _) (List.Sublist.refl _) ⟨p,J,hp,J⟩
  refine aO J J (c8 J) J<|aO J J (c8 J) J<|aO J J (kI J) J<|aO J J (mh J) J<|aO J J (ik J J) J<|aO J J (my J) J<|aO J J (qi J J) J<|sy (gm J J) J<|sm J J<|?_;refine iD 31 J (fun hg=>?_) (fun hg=>?_)
  .refine ss J J J J<|ss J J J J<|ss J J J J<|ss J J J J<|ss J J J J<|ss J J J J<|ss J J J J<|?_
   refine sy (m5 J J) J<|sa J J<|zE<|js J<|sR<|sm J J<|sn J J<|sf J J<|?_;refine sc (qH J J J (.hd ..) (nb J) J J ?_);refine zE<|sR<|?_;refine sc (zC J J (PF.fn0 (nP (b:=false)) (.cons (aB.2 J) .nil)) J ?_);rintro _ G1 _ hp;obtain⟨p,rfl⟩:=rg hp;refine sa J J<|zE<|cg<|?_;exact lj (css:=[_,_]) (.tmp J .nil) J _ (List.Perm.refl _) (List.Sublist.refl _) ⟨p,J,hp,J⟩
  obtain⟨k,rfl,hk,hf⟩: ∃k:Nat,rt=k/\k<ns.length/\s.f k=true:=by
   rcases h with h|h|h
   .omega
   .exact absurd h hg
   .exact h
  refine aO J J (c8 J) J<|aO J J (kI J) J<|aO J J (mh J) J<|aO J J (ik J J) J<|aO J J (c8 J) J<|aO J J (dO J J) J<|?_;refine aO J J (ik (v:= .bool true) J (by rw[aR,fV];exact ul hk hf)) J<|sy (gm J J) J<|sa J J<|zE<|js J<|?_;refine sR<|sm J J<|sn J J<|sf J J<|?_;refine sc (qH J J J (.hd ..) (nb J) J J ?_);refine zE<|sR<|?_;refine sc (zC J J (PF.fn0 (nP (b:=false)) (.cons (aB.2 J) .nil)) J ?_);rintro _ G1 _ hp;obtain⟨p,rfl⟩:=rg hp;refine sa J J<|zE<|cg<|?_;exact lj (css:=[_,_]) (.tmp J .nil) J _ (List.Perm.refl _) (List.Sublist.refl _) ⟨p,J,hp,J⟩
 |line base n s h0 hfb hl=>
  intro G rb sb lo lo2 _ hc;have hbn:base<ns.length:=(aY.1 h0).1;simp only at hc;obtain⟨z,hzi,hz⟩:=hes.get (i:=base) (d:=n.d) (by rw[bS,h0];rfl);obtain⟨x1,x2,x3,rfl,hzg⟩:=AW hz;refine iE.intro func186 J J ntmps186 J ?_;intro C _ _;show St C _ [(0, .pointer (some ⟨rb,0,none⟩)),(1, .int .i64 (base:Int))] [⟨rb,[.slice xa ns.length xc, .slice (some ⟨sb,0,none⟩) ns.length ns.length, .int .i64 s.c, .bool s.b],_,false⟩,⟨sb,ge ns.length s.f,_,false⟩] _ _;refine sR<|sa J J<|zE<|bi<|du<|sR<|sm J J<|sy (fk J J) J<|sm J J<|?_;refine iD 12 J (fun hg=>absurd hg (by omega)) (fun hg=>?_);refine aO J J (c8 J) J<|aO J J (fk J J) J<|sy (gm J J) J<|sa J J<|zE<|?_;refine fq J (fun hc=>absurd hc (by omega)) (fun _=>?_);refine sR<|sm J J<|sy (gG J J) J<|sm J J<|?_;refine iD 22 J (fun hg=>absurd hg (by omega)) (fun hg=>?_);refine aO J J (c8 J) J<|aO J J (c8 J) J<|aO J J (kI J) J<|aO J J (mh J) J<|aO J J (ik J J) J<|aO J J (my J) J<|aO J J (qi J J) J<|sy (gm J J) J<|sm J J<|?_;refine iD 31 J (fun hg=>absurd hg (by omega)) (fun hg=>?_);refine aO J J (c8 J) J<|aO J J (kI J) J<|aO J J (mh J) J<|aO J J (ik J J) J<|aO J J (c8 J) J<|aO J J (dO J J) J<|?_;refine aO J J (ik (v:= .bool false) J (by rw[aR,fV];exact ul hbn hfb)) J<|sy (gm J J) J<|sa J J<|zE<|mP J<|zK<|?_;refine sR<|sm J J<|sn J J<|sf J J<|kv J J J<|sm J J<|sy (dO J J) J<|?_;refine sc (pG J J (.tl _ _ _ _ _ _ _ _ (.hd ..)) (by rw[ya,aR,fV];exact hbn) J J ?_);rw[aR,fV,BO];refine zE<|sR<|sm J J<|sn J J<|sf J J<|kv J J J<|sy (dt J J) J<|sn J J<|sf J J<|?_
  refine sc (qH J J J (by repeat (first|exact .hd .. |apply fC.tl)) (nb J) J J ?_);rw[show(s.c:Int)+1=((s.c+1:Nat):Int) by omega];refine zE<|sR<|sm J J<|sn J J<|sf J J<|kv J J J<|sm J J<|sy (JP (z:=⟨xa,ns.length,xc⟩) hx J J (by omega) (by show(base:Int)<(ns.length:Int);omega)) J<|?_;rw[aR];refine sy (Oo (i:=base) hx J (by rw[hel];exact hbn) hzi) J<|?_;refine sc (qg J ?_);intro b5;refine sc (vi J J J (by repeat (first|exact .hd .. |apply fC.tl)) J (nb J) J J ?_);refine zE<|sR<|sf J J<|B7 J J J<|?_;refine sc (zC J J (PF.fn0 (M9 (hs n (aV h0))) (.cons (hzg.up GL.le) .nil)) J ?_);rintro _ G6 _ hw;rw[hl] at hw;obtain⟨n1,d1,p1,n2,d2,p2,n3,d3,p3,rfl,hw⟩:=OY hw;refine sm J J<|sx J J J<|sx J J J<|?_;refine sc (qg J ?_);intro b6;refine sc (vi J J J (by repeat (first|exact .hd .. |apply fC.tl)) J (nb J) J J ?_);refine sa J J<|zE<|bi<|sR<|sm J J<|sy (ph J) J<|zE<|js J<|?_;refine sR<|sm J J<|sn J J<|sf J J<|?_;refine sc (qH J J J (by repeat (first|exact .hd .. |apply fC.tl)) (nb J) J J ?_);refine zE<|sR<|?_;refine sc (zC J J (PF.fn0 (nP (b:=false)) (.cons (aB.2 J) .nil)) J ?_);rintro _ G7 _ hp;obtain⟨p,rfl⟩:=rg hp;refine sa J J<|zE<|cg<|?_;exact lj (css:=[_,_]) (.tmp J .nil) J _ (fJ (l₁:=[_,_]) (l₂:=[_,_])) (.cons_cons _ (.cons_cons _ (fM _))) ⟨p,J,hp,J⟩
 |node base n l s s2 s3 tx ty h0 hfb hl h1 h2 ih1 ih2=>
  intro G rb sb lo lo2 _ hc;have hbn:base<ns.length:=(aY.1 h0).1;have hm1:=h1.mono;have hm2:=h2.mono;simp only at hm1;obtain⟨z,hzi,hz⟩:=hes.get (i:=base) (d:=n.d) (by rw[bS,h0];rfl);obtain⟨x1,x2,x3,rfl,hzg⟩:=AW hz;refine iE.intro func186 J J ntmps186 J ?_;intro C _ _;show St C _ [(0, .pointer (some ⟨rb,0,none⟩)),(1, .int .i64 (base:Int))] [⟨rb,[.slice xa ns.length xc, .slice (some ⟨sb,0,none⟩) ns.length ns.length, .int .i64 s.c, .bool s.b],_,false⟩,⟨sb,ge ns.length s.f,_,false⟩] _ _;refine sR<|sa J J<|zE<|bi<|du<|sR<|sm J J<|sy (fk J J) J<|sm J J<|?_;refine iD 12 J (fun hg=>absurd hg (by omega)) (fun hg=>?_);refine aO J J (c8 J) J<|aO J J (fk J J) J<|sy (gm J J) J<|sa J J<|zE<|?_;refine fq J (fun hc=>absurd hc (by omega)) (fun _=>?_);refine sR<|sm J J<|sy (gG J J) J<|sm J J<|?_;refine iD 22 J (fun hg=>absurd hg (by omega)) (fun hg=>?_);refine aO J J (c8 J) J<|aO J J (c8 J) J<|aO J J (kI J) J<|aO J J (mh J) J<|aO J J (ik J J) J<|aO J J (my J) J<|aO J J (qi J J) J<|sy (gm J J) J<|sm J J<|?_;refine iD 31 J (fun hg=>absurd hg (by omega)) (fun hg=>?_);refine aO J J (c8 J) J<|aO J J (kI J) J<|aO J J (mh J) J<|aO J J (ik J J) J<|aO J J (c8 J) J<|aO J J (dO J J) J<|?_;refine aO J J (ik (v:= .bool false) J (by rw[aR,fV];exact ul hbn hfb)) J<|sy (gm J J) J<|sa J J<|zE<|mP J<|zK<|?_;refine sR<|sm J J<|sn J J<|sf J J<|kv J J J<|sm J J<|sy (dO J J) J<|?_;refine sc (pG J J (.tl _ _ _ _ _ _ _ _ (.hd ..)) (by rw[ya,aR,fV];exact hbn) J J ?_);rw[aR,fV,BO]
  refine zE<|sR<|sm J J<|sn J J<|sf J J<|kv J J J<|sy (dt J J) J<|sn J J<|sf J J<|?_;refine sc (qH J J J (by repeat (first|exact .hd .. |apply fC.tl)) (nb J) J J ?_);rw[show(s.c:Int)+1=((s.c+1:Nat):Int) by omega];refine zE<|sR<|sm J J<|sn J J<|sf J J<|kv J J J<|sm J J<|sy (JP (z:=⟨xa,ns.length,xc⟩) hx J J (by omega) (by show(base:Int)<(ns.length:Int);omega)) J<|?_;rw[aR];refine sy (Oo (i:=base) hx J (by rw[hel];exact hbn) hzi) J<|?_;refine sc (qg J ?_);intro b5;refine sc (vi J J J (by repeat (first|exact .hd .. |apply fC.tl)) J (nb J) J J ?_);refine zE<|sR<|sf J J<|B7 J J J<|?_;refine sc (zC J J (PF.fn0 (M9 (hs n (aV h0))) (.cons (hzg.up GL.le) .nil)) J ?_);rintro _ G6 _ hw;rw[hl] at hw;obtain⟨n1,d1,p1,n2,d2,p2,n3,d3,p3,rfl,hw'⟩:=OY hw;replace hw:=hw' l J;refine sm J J<|sx J J J<|sx J J J<|?_;refine sc (qg J ?_);intro b6;refine sc (vi J J J (by repeat (first|exact .hd .. |apply fC.tl)) J (nb J) J J ?_);refine sa J J<|zE<|bi<|sR<|sm J J<|sy (ph J) J<|zE<|mP J<|zK<|?_;refine sR<|sm J J<|sf J J<|kv J J J<|?_;have hrp:=ih1 (G:=G6) (rb:=rb) (sb:=sb) (lo:=false) (lo2:=false) (by omega);refine sc (uO J J (fJ (l₁:=[_,_]) (l₂:=[_,_])) hrp J ?_);rintro _ css G7 _ _ ⟨q1,rfl,hp1,rfl⟩;show St C _ _ [⟨rb,[.slice xa ns.length xc, .slice (some ⟨sb,0,none⟩) ns.length ns.length, .int .i64 s2.c, .bool s2.b],287,false⟩,⟨sb,ge ns.length s2.f,4,false⟩,⟨b6,[.int .i64 n1, .int .i64 d1, .pointer p1, .int .i64 n2, .int .i64 d2, .pointer p2, .int .i64 n3, .int .i64 d3, .pointer p3],291,true⟩,⟨b5,[.bool n.g.na, .slice x1.a x1.n x1.c, .bool n.g.nb, .slice x2.a x2.n x2.c, .bool n.g.nc, .slice x3.a x3.n x3.c, .int .i64 n.l, .int .i64 n.r],167,true⟩] _ _
  refine sa J J<|zE<|bi<|?_;refine uC [⟨b6,[.int .i64 n1, .int .i64 d1, .pointer p1, .int .i64 n2, .int .i64 d2, .pointer p2, .int .i64 n3, .int .i64 d3, .pointer p3],291,true⟩,⟨b5,[.bool n.g.na, .slice x1.a x1.n x1.c, .bool n.g.nb, .slice x2.a x2.n x2.c, .bool n.g.nc, .slice x3.a x3.n x3.c, .int .i64 n.l, .int .i64 n.r],167,true⟩] (fun _=>false) [(0,true),(1,true),(2,true),(3,true),(4,true),(5,false),(6,false),(7,true)] follows (by kernel_rfl)<|?_;refine dL J J J J<|dM J J J<|dM J J J<|dF J J J<|pg J J J J<|?_;have hrp:=ih2 (G:=G7) (rb:=rb) (sb:=sb) (lo:=false) (lo2:=false) hc;refine dc J J (uO J J (M:=[_,_]) (rest:=[_,_]) (List.Perm.refl _) hrp J ?_);rintro _ css G8 _ _ ⟨q2,rfl,hp2,rfl⟩;show St C _ _ [⟨rb,[.slice xa ns.length xc, .slice (some ⟨sb,0,none⟩) ns.length ns.length, .int .i64 s3.c, .bool s3.b],287,false⟩,⟨sb,ge ns.length s3.f,4,false⟩,⟨b6,[.int .i64 n1, .int .i64 d1, .pointer p1, .int .i64 n2, .int .i64 d2, .pointer p2, .int .i64 n3, .int .i64 d3, .pointer p3],291,true⟩,⟨b5,[.bool n.g.na, .slice x1.a x1.n x1.c, .bool n.g.nb, .slice x2.a x2.n x2.c, .bool n.g.nc, .slice x3.a x3.n x3.c, .int .i64 n.l, .int .i64 n.r],167,true⟩] _ _;refine kP<|?_;refine dc J J (zC J J (PF.fn0 (zd (l:=l) (x:=tx) (y:=ty)) (.cons (hw.up GL.le) (.cons (hp1.up GL.le) (.cons hp2 .nil)))) J ?_);rintro _ G9 _ hp;obtain⟨p,rfl⟩:=rg hp;refine kP<|dA J J J<|dn<|cg<|?_;exact lj (css:=[_,_]) (.tmp J .nil) J _ (List.Perm.refl _) (.cons_cons _ (.cons_cons _ (fM _))) ⟨p,J,hp,J⟩
def ki:RS:=⟨fun _=>false,0,false⟩
def BE(ns:List RN)(t:Tr)(s:RS):DV:=if s.b=false/\s.c=ns.length then .tp [eU t,vB true] else .tp [.v (.pointer none),vB false]
def vA(rt:Int)(ns:List RN):DV:= .ag [vI rt, .sl (ns.map RN.d)]
def aJ1{s:RS}(hs: ∀n∈ns,n.g.sm)(hn:ns.length<=65536)(h:RR ns rt ki t s)(hc:s.c<=1000000):PF GB prog 103 [vA rt ns] (BE ns t s):=by
 intro G vs _ hv;obtain⟨v0,m,rfl,h0,hm⟩:=aI.1 hv;rw[dE] at hm;subst hm;obtain⟨m,rfl,g⟩:=d9.1 h0;obtain⟨v1,m,rfl,h1,hm⟩:=aI.1 g;obtain⟨v2,m,rfl,h2,hm⟩:=aI.1 hm;rw[dE] at hm;subst hm;obtain⟨s0,x,es,rfl,hsl,hes⟩:=gw.1 h2;rw[aB.1 h1];have hel:=hes.len;rw[aX] at hel;have hlen:=hsl.len;rw[hel] at hlen;have hx:Fy x ns G:=by
  refine⟨es,?_,hes⟩;rcases Ad (s:=8) hsl hes (fun d hd=>by obtain⟨n,_,rfl⟩:=aT.1 hd;exact⟨rfl,rfl⟩) with e|e
  .exact⟨hsl.len,hsl.cap, .inl e⟩
  .rw[e] at hsl;exact hsl
 obtain⟨xa,xn,xc⟩:=x;simp only[] at hlen;subst hlen;show Fn _ _ [.agg ⟨[.int .i64 rt, .slice xa ns.length xc]⟩] _ _;refine Fn.intro func103 J J ntmps103 J ?_;intro C _ _;refine sR<|?_;refine sc (p7 J J ?_);intro b1;refine sa J J<|sa J J<|zE<|bi<|sR<|sf J J<|kv J J J<|cB J J<|sy (q7 J J) J<|zE<|?_;refine fq J (fun hc=>absurd hc (by omega)) (fun _=>?_);refine zK<|bi<|dr (fun _=>false) [(0,true),(1,true),(2,true),(3,true),(4,true),(5,false),(6,true),(7,false),(8,true)] follows (by kernel_rfl)<|dF J J J<|?_;refine pg J J J J<|dF J J J<|pg J J J J<|dy J (fun _=>my J) J J<|?_;refine dc J J (s9 J J (by omega) (by omega) (by omega) (by rfl) J ?_);intro b2;rw[aR,LX];refine kP<|dy J (fun _=>wo J) J J<|?_;refine dc J J (p7 J J ?_);intro b3;refine kP<|dA J J J<|dn<|sR<|sm J J<|sf J J<|kv J J J<|?_;have hrp:=aC3 hx hs (by omega) h (G:=G) (rb:=b3) (sb:=b2) (lo:=true) (lo2:=true) hc;refine sc (uO J J (M:=[_,_]) (rest:=[_]) (List.Perm.refl _) hrp J ?_);rintro _ css G4 _ _ ⟨p,rfl,hp,rfl⟩;show St C _ _ [⟨b3,[.slice xa ns.length xc, .slice (some ⟨b2,0,none⟩) ns.length ns.length, .int .i64 s.c, .bool s.b],287,true⟩,⟨b2,ge ns.length s.f,4,true⟩,⟨b1,[.int .i64 rt, .slice xa ns.length xc],71,true⟩] _ _;refine sa J J<|zE<|bi<|bi<|dr (fun _=>false) [(0,true),(1,true),(2,true),(3,true),(4,true),(5,true),(6,true),(7,true),(8,true),(9,true),(10,true),(11,true),(12,true),(13,true)] follows (by kernel_rfl)<|?_;obtain⟨sf_,sc_,sb_⟩:=s
 cases sb_
 case true=>
  refine dM J J J<|dy J (fun _=>kI J) J J<|dF J J J<|pg J J J J<|dM J J J<|?_;refine uV J J J J J J<|uV J J J J J J<|uV J J J J J J<|uV J J J J J J<|uV J J J J J J<|uV J J J J J J<|?_;refine uV J J J J J J<|uV J J J J J J<|dy J (fun _=>m5 J J) J J<|dn<|js J<|?_;refine sR<|sa J J<|sa J J<|zE<|cg<|?_;refine zD (.tmp J (.tmp J .nil)) ?_;rw[BE,if_neg (fun e=>by cases e.1)];exact jj.2 ⟨_,J, .cons (aB.2 J) (.cons (aB.2 J) .nil)⟩
 refine dM J J J<|dy J (fun _=>kI J) J J<|dF J J J<|pg J J J J<|dM J J J<|?_;refine vL J J J J (fun _=>c8 J) J<|vL J J J J (fun _=>kI J) J<|vL J J J J (fun _=>mh J) J<|vL J J J J (fun _=>ik J J) J<|?_;refine vL J J J J (fun _=>mh J) J<|vL J J J J (fun _=>ik J J) J<|vL J J J J (fun _=>my J) J<|vL J J J J (fun _=>vP J J) J<|?_;refine dy J (fun _=>gm J J) J J<|dn<|?_;refine fq J (fun hc=>?_) (fun hc=>?_) -- slot 35
 .refine sR<|sa J J<|sa J J<|zE<|cg<|?_
  refine zD (.tmp J (.tmp J .nil)) ?_;rw[BE,if_neg (fun e=>hc (by have:=e.2;simp only at this;omega))];exact jj.2 ⟨_,J, .cons (aB.2 J) (.cons (aB.2 J) .nil)⟩
 refine zK<|sR<|sm J J<|sa J J<|sa J J<|zE<|cg<|?_;refine zD (.tmp J (.tmp J .nil)) ?_;rw[BE,if_pos ⟨J,by have h9:=hc;simp at h9;show sc_=_;omega⟩];exact jj.2 ⟨_,J, .cons hp (.cons (aB.2 J) .nil)⟩
def MJ{l:aa}(h:IsLs G (cU (.node l x y)) m): ∃n1 d1 p1 n2 d2 p2 n3 d3 p3 q r,m=[.int .i64 n1, .int .i64 d1, .pointer p1, .int .i64 n2, .int .i64 d2, .pointer p2, .int .i64 n3, .int .i64 d3, .pointer p3, .pointer q, .pointer r, .bool false]/\
  Is G (cO l) (.agg ⟨[.int .i64 n1, .int .i64 d1, .pointer p1, .int .i64 n2, .int .i64 d2, .pointer p2, .int .i64 n3, .int .i64 d3, .pointer p3]⟩)/\Is G (eU x) (.pointer q)/\Is G (eU y) (.pointer r):=by
 obtain⟨v1,m,rfl,h1,h⟩:=aI.1 h;obtain⟨v2,m,rfl,h2,h⟩:=aI.1 h;obtain⟨v3,m,rfl,h3,h⟩:=aI.1 h;obtain⟨v4,m,rfl,h4,h⟩:=aI.1 h;obtain⟨v5,m,rfl,h5,h⟩:=aI.1 h;obtain⟨v6,m,rfl,h6,h⟩:=aI.1 h;obtain⟨v7,m,rfl,h7,h⟩:=aI.1 h;obtain⟨v8,m,rfl,h8,h⟩:=aI.1 h;obtain⟨v9,m,rfl,h9,h⟩:=aI.1 h;obtain⟨va,m,rfl,ha,h⟩:=aI.1 h;obtain⟨vb,m,rfl,hb,h⟩:=aI.1 h;obtain⟨vc,m,rfl,hc,h⟩:=aI.1 h;rw[dE] at h;subst h;obtain⟨_,rfl⟩:=yj h3;obtain⟨_,rfl⟩:=yj h6;obtain⟨_,rfl⟩:=yj h9;obtain⟨_,rfl⟩:=rg ha;obtain⟨_,rfl⟩:=rg hb
 cases aB.1 h1;cases aB.1 h2;cases aB.1 h4;cases aB.1 h5;cases aB.1 h7;cases aB.1 h8;cases aB.1 hc
 exact⟨_,_,_,_,_,_,_,_,_,_,_,J,d9.2 ⟨_,J, .cons h1 (.cons h2 (.cons h3 (.cons h4 (.cons h5 (.cons h6 (.cons h7 (.cons h8 (.cons h9 .nil))))))))⟩,ha,hb⟩
def aDb{b:Bool}(h:IsLs G (cU (.leaf b)) m):m=[.int .i64 0, .int .i64 0, .pointer none, .int .i64 0, .int .i64 0, .pointer none, .int .i64 0, .int .i64 0, .pointer none, .pointer none, .pointer none, .bool b]:=by
 obtain⟨v1,m,rfl,h1,h⟩:=aI.1 h;obtain⟨v2,m,rfl,h2,h⟩:=aI.1 h;obtain⟨v3,m,rfl,h3,h⟩:=aI.1 h;obtain⟨v4,m,rfl,h4,h⟩:=aI.1 h;obtain⟨v5,m,rfl,h5,h⟩:=aI.1 h;obtain⟨v6,m,rfl,h6,h⟩:=aI.1 h;obtain⟨v7,m,rfl,h7,h⟩:=aI.1 h;obtain⟨v8,m,rfl,h8,h⟩:=aI.1 h;obtain⟨v9,m,rfl,h9,h⟩:=aI.1 h;obtain⟨va,m,rfl,ha,h⟩:=aI.1 h;obtain⟨vb,m,rfl,hb,h⟩:=aI.1 h;obtain⟨vc,m,rfl,hc,h⟩:=aI.1 h;rw[dE] at h;subst h
 cases aB.1 h1;cases aB.1 h2;cases aB.1 h3;cases aB.1 h4;cases aB.1 h5;cases aB.1 h6;cases aB.1 h7;cases aB.1 h8;cases aB.1 h9;cases aB.1 ha;cases aB.1 hb;cases aB.1 hc
 rfl
def Iy: ∀{t:Tr} {A A2 G:Gh} {p:Option Addr} {ob wb:Nat} {lo lo2:Bool} {x:SV} {zs:List ND} {ns:List NQ} {B:List av},Is A (eU t) (.pointer p)->t.all LB->[GL A G]->[GL A2 G]->jI 8 167 x (zs.map ND.val) B->gP (rO 96 A2) zs ns->zs.length+t.size<=1000000->
  iu prog 188 [.pointer p, .pointer (some ⟨ob,0,none⟩), .pointer (some ⟨wb,0,none⟩)] (⟨ob,[.int .i64 0, .slice x.a x.n x.c],71,lo⟩::⟨wb,[oA ob wb],289,lo2⟩::B) G
   (fun v own' G'=> ∃x' zs' B',v= .int .i64 (t.num zs.length)/\own'=⟨ob,[.int .i64 0, .slice x'.a x'.n x'.c],71,false⟩::⟨wb,[oA ob wb],289,false⟩::B'/\jI 8 167 x' (zs'.map ND.val) B'/\gP (rO 96 G') zs' (ns++t.wr zs.length))
 | .leaf bb,A,A2,G,p,ob,wb,lo,lo2,x,zs,ns,B,h,_,_,_,hB,hz,hle=>by
  obtain⟨n,m,e,hg,hm⟩:=li.1 (id h)
  cases e
  cases aDb hm
  have hG:pw A n _:=⟨hg⟩;have hz':gP (rO 96 G) zs (ns++[]):=by rw[gK];exact hz.imp fun _ _ h=>h.up
  refine iu.intro func188 J J ntmps188 J ?_;intro C _ _;show St C _ _ (⟨ob,[.int .i64 0, .slice x.a x.n x.c],71,false⟩::⟨wb,[oA ob wb],289,false⟩::asB B) _ _;refine sR<|sa J J<|zE<|bi<|sR<|sm J J<|?_;refine sc (zC J J (PF.fn0 ql (.cons (h.up GL.le) .nil)) J ?_);rintro _ G1 _ hv
  cases aB.1 hv
  refine zE<|js J<|?_;refine bi<|sR<|sm J J<|sn J J<|sf J J<|aJP J J J<|zE<|?_
  cases bb
  case true=>
   refine js J<|sR<|sa J J<|zE<|cg<|?_;exact wK (.tmp J .nil) _ _ (List.Perm.refl _) (List.Sublist.refl _) ⟨x,zs,_,J,J,hB.asB,hz'.imp fun _ _ h=>h.up⟩
  refine mP J<|zK<|sR<|sa J J<|zE<|cg<|?_;exact wK (.tmp J .nil) _ _ (List.Perm.refl _) (List.Sublist.refl _) ⟨x,zs,_,J,J,hB.asB,hz'.imp fun _ _ h=>h.up⟩
 | .node l s u,A,A2,G,p,ob,wb,lo,lo2,x,zs,ns,B,h,hall,_,_,hB,hz,hle=>by
  obtain⟨hlb,hall1,hall2⟩:=id hall;haveI:LB l:=hlb;obtain⟨n,m,e,hg,hm⟩:=li.1 (id h)
  cases e
  obtain⟨n1,d1,p1,n2,d2,p2,n3,d3,p3,q,r,rfl,hzl,hs,hu⟩:=MJ hm;have hG:pw A n _:=⟨hg⟩;have hxn:=hB.len;have hzn:=hz.len;simp only[Tr.size] at hle;obtain⟨xa,xn,xc⟩:=x;rw[aX] at hxn;simp only[] at hxn;subst hxn;refine iu.intro func188 J J ntmps188 J ?_;intro C _ _;show St C _ _ (⟨ob,[.int .i64 0, .slice xa zs.length xc],71,false⟩::⟨wb,[oA ob wb],289,false⟩::asB B) _ _;replace hB:=hB.asB;generalize asB B=B at hB;refine sR<|sa J J<|zE<|bi<|sR<|sm J J<|?_;refine sc (zC J J (PF.fn0 qG (.cons (h.up GL.le) .nil)) J ?_);rintro _ G1 _ hv
  cases aB.1 hv
  refine zE<|mP J<|?_;refine zK<|sR<|sf J J<|kv J J J<|cB J J<|sa J J<|zE<|bi<|?_;refine uC [⟨ob,[.int .i64 0, .slice xa zs.length xc],71,false⟩] (fun i=>Nat.beq i 11) [(0,true),(1,true),(2,true),(3,true),(4,true),(5,true),(6,false),(7,true),(8,false),(9,false),(10,true),(11,false)] follows (by kernel_rfl)<|?_;refine dF J J J<|pg J J J J<|dM J J J<|dy J (fun _=>kI J) J J<|?_;refine dF J J J<|dy J (fun _=>E8 J tM J) J J<|?_;refine dc J J (zC J J (PF.fn0 (VF (l:=l)) (.cons (hzl.up GL.le) .nil)) J ?_);rintro _ G2 _ hv;obtain⟨ia,ib,ic,rfl,hia,hib,hic⟩:=aGZ hlb.bl hv;refine kP<|dy J (fun _=>wo J) J J<|?_;refine dc J J (SJ J (by rfl) (by rfl) (by decide) (by decide) J ?_);intro b3;refine kP<|?_;refine dc J J (alV (v:=ND.val ⟨ia,ib,ic,0,0⟩) (vs:=zs.map ND.val) [_,_,_] rfl hB J J (xk inferInstance J) J (ND.flat [⟨ia,ib,ic,0,0⟩] _ aQ) (by decide) (by rw[aX];omega) J J ?_);intro x1 B1 hB1;rw[show zs.map ND.val++[ND.val ⟨ia,ib,ic,0,0⟩]=(zs++[(⟨ia,ib,ic,0,0⟩:ND)]).map ND.val by simp] at hB1;show St C _ _ (⟨b3,_,_,true⟩::⟨ob,[.int .i64 0, .slice xa zs.length xc],71,false⟩::⟨wb,[oA ob wb],289,false⟩::B1) _ _;refine kP<|dF J J J<|?_;refine dc J J (qH (cs':=[.int .i64 0, .slice x1.a x1.n x1.c]) J J J (.tl _ _ _ _ _ _ _ _ (.hd ..)) (nb J) J J ?_);refine Z0 J<|dn<|?_;refine F8 _ (nQ _ _) ?_;have hz1:gP (rO 96 G2) (zs++[(⟨ia,ib,ic,0,0⟩:ND)]) (ns++[⟨l,0,0⟩]):=(hz.imp fun _ _ h=>h.up).app (.cons ⟨hia,hib,hic,J,J⟩ .nil);refine bi<|uC [⟨wb,[oA ob wb],289,false⟩] (fun _=>false) [(0,true),(1,true),(2,true),(3,true),(4,true),(5,false),(6,true)] follows (by kernel_rfl)<|?_
  refine pg J J J J<|dM J J J<|dy J (fun _=>kI J) J J<|dF J J J<|dy J (fun _=>p8 J tM J) J J<|?_;refine dc J J (A8 (c1:=[]) (M:=_::_::B1) (rest:=[]) J J (by rw[gK]) (Iy (lo:=false) (lo2:=false) hs hall1 hB1 hz1 (by simp;omega)) J ?_);rintro _ _ G3 fl _ hf _ ⟨x2,Ru,B2,rfl,rfl,hB2,hz2⟩;have e1:fl ob=false:=hf _ aQ J;have e2:fl wb=false:=hf _ (aJ _ aQ) J;replace hB2:=hB2.relo fl;refine Hc (own':=⟨ob,[.int .i64 0, .slice x2.a x2.n x2.c],71,false⟩::⟨wb,[oA ob wb],289,false⟩::B2.map (relo fl)) (by simp only[bT,relo,e1,e2,gK]) ?_;generalize B2.map (relo fl)=B2 at hB2;have hl2:=hz2.len;simp only[aU,Tr.wr_len,gV] at hl2;refine kP<|dA J J J<|dn<|bi<|uC [⟨wb,[oA ob wb],289,false⟩] (fun _=>false) [(0,true),(1,true),(2,true),(3,true),(4,true),(5,false),(6,true)] follows (by kernel_rfl)<|?_;refine pg J J J J<|dM J J J<|dy J (fun _=>kI J) J J<|dF J J J<|dy J (fun _=>p8 J tM J) J J<|?_;refine dc J J (A8 (c1:=[]) (M:=_::_::B2) (rest:=[]) J J (by rw[gK]) (Iy (lo:=false) (lo2:=false) hu hall2 hB2 hz2 (by omega)) J ?_);rintro _ _ G4 fl _ hf _ ⟨x3,xt,B3,rfl,rfl,hB3,hz3⟩;have e3:fl ob=false:=hf _ aQ J;have e4:fl wb=false:=hf _ (aJ _ aQ) J;replace hB3:=hB3.relo fl;refine Hc (own':=⟨ob,[.int .i64 0, .slice x3.a x3.n x3.c],71,false⟩::⟨wb,[oA ob wb],289,false⟩::B3.map (relo fl)) (by simp only[bT,relo,e3,e4,gK]) ?_;generalize B3.map (relo fl)=B3 at hB3;have hl3:=hz3.len;simp only[aU,Tr.wr_len,gV] at hl3;have hn3:zs.length<xt.length:=by omega
  rcases hB3 with⟨h1,_,_⟩|⟨nb,rest,lo3,hx3,rfl,hf1,hf2,hf3⟩
  .have:=congrArg List.length h1;rw[aX,eX] at this;omega
  obtain⟨x3a,x3n,x3c⟩:=x3;simp only[SV.mk.injEq] at hx3;obtain⟨rfl,rfl,_⟩:=hx3;rw[aX] at hf3;have hzz:ns.length=zs.length:=hzn.symm;obtain⟨zn,hzn1,hzn2⟩:=hz3.get (i:=zs.length) (b:=⟨l,0,0⟩) (by rw[dW,dW,<-hzz,jT (bX _),sX];rfl);obtain⟨_,hzn3⟩:=aY.1 hzn1;have hL1:(zs++[(⟨ia,ib,ic,0,0⟩:ND)]).length=zs.length+1:=by simp
  have hL2:Ru.length=zs.length+1+s.size:=by omega
  rw[hL1] at hz3;rw[hL1,hL2];rw[hL2] at hz3;refine kP<|dA J J J<|dn<|?_;refine bi<|uC [⟨ob,[.int .i64 0, .slice (some ⟨nb,0,none⟩) (xt.map ND.val).length x3c],71,false⟩] (fun _=>false) [(0,true),(1,true),(2,true),(3,true),(4,true),(5,true),(6,true),(7,true),(8,true),(9,true),(10,false),(11,true),(12,true),(13,false)] follows (by kernel_rfl)<|?_;refine dF J J J<|pg J J J J<|dM J J J<|dF J J J<|?_;refine pg J J J J<|dM J J J<|dM J J J<|dM J J J<|dy J (fun _=>dO J J (by omega) (by rw[aX];omega)) J J<|?_;refine dF J J J<|?_;refine dc J J (pG J J (.tl _ _ _ _ _ _ _ _ (.tl _ _ _ _ _ _ _ _ (.hd ..))) (by rw[aU,hf1,aX,aR];omega) J J ?_);rw[aR,MK xt rest zs.length 6 _ {zn with l:=s.num (zs.length+1)} hn3 (by decide) (by rw[hzn3];rfl)];refine kP<|dy J (fun _=>dO J J (by omega) (by rw[aX];omega)) J J<|dF J J J<|?_;refine dc J J (pG J J (.tl _ _ _ _ _ _ _ _ (.tl _ _ _ _ _ _ _ _ (.hd ..))) (by rw[aU,eG (s:=8) _ (ND.len8 _),aX,bY,aR];omega) J J ?_);rw[aR,MK (xt.set zs.length _) rest zs.length 7 _ {zn with l:=s.num (zs.length+1),r:=u.num (zs.length+1+s.size)} (by rw[bY];exact hn3) (by decide) (by rw[List.getElem_set_self];rfl)];refine kP<|dn<|sR<|sm J J<|sa J J<|zE<|cg<|?_;have hfin:=hz3.set (a:={zn with l:=s.num (zs.length+1),r:=u.num (zs.length+1+s.size)}) (b:=⟨l,s.num (zs.length+1),u.num (zs.length+1+s.size)⟩) ⟨hzn2.a,hzn2.b,hzn2.c,J,J⟩ zs.length;have hns:(ns++[(⟨l,0,0⟩:NQ)]++s.wr (zs.length+1)++u.wr (zs.length+1+s.size)).set zs.length ⟨l,s.num (zs.length+1),u.num (zs.length+1+s.size)⟩=ns++(Tr.node l s u).wr zs.length:=by
   rw[dW,dW,nT _ _ (by omega),hzz,sX];simp[Tr.wr]
  rw[hns] at hfin;refine wK (.tmp J .nil) _ _ (List.Perm.refl _) (List.Sublist.refl _) ⟨⟨some ⟨nb,0,none⟩,(xt.map ND.val).length,x3c⟩,_,_,J,J,?_,hfin⟩;refine .inr ⟨nb,rest,lo3,by simp,by rw[List.set_set],?_,?_,?_⟩
  .rw[eG (s:=8) _ (ND.len8 _)]
  .rw[eG (s:=8) _ (ND.len8 _),aX,bY];rw[hf1,aX] at hf2;exact hf2
  .rw[aX,bY];exact hf3
def XY(hb:t.all LB)(hs:t.size<=1000000):PF GB prog 106 [eU t] (eA t):=by
 intro G vs _ hv;obtain⟨v0,m,rfl,h,hm⟩:=aI.1 hv;rw[dE] at hm;subst hm;obtain⟨p,rfl⟩:=rg h;refine Fn.intro func106 J J ntmps106 J ?_;intro C _ hC;refine sR<|?_;refine sc (qg J ?_);intro b1;refine zE<|sR<|?_;refine sc (qg J ?_);intro b2;refine zE<|sR<|?_;refine sc (qg J ?_);intro b3;refine zE<|sR<|sy (GY J J) J<|?_;refine sc (qH (cs':=[oA b2 b3]) J J J (.hd ..) (nb J) J J ?_);refine zE<|sR<|kv J J J<|sm J J<|?_;refine sc (A8 (c1:=[]) (M:=[⟨b2,[.int .i64 0, .slice none 0 0],71,true⟩,⟨b3,[oA b2 b3],289,true⟩]) (rest:=[⟨b1,[.int .i64 0, .slice none 0 0],71,true⟩]) J J (List.Perm.swap ..) (Iy (A:=G) (A2:=G) (x:=⟨none,0,0⟩) (zs:=[]) (ns:=[]) (B:=[]) h hb (jI.nil ..) .nil (by simpa using hs)) J ?_);rintro _ _ G4 fl _ _ hf ⟨x,zs,B,rfl,rfl,hB,hz⟩;have e1:=hf (by simp) b2;have e2:=hf (by simp) b3;replace hB:=hB.relo fl;refine Hc (own':=⟨b2,[.int .i64 0, .slice x.a x.n x.c],71,true⟩::⟨b3,[oA b2 b3],289,true⟩::(B.map (relo fl)++[⟨b1,[.int .i64 0, .slice none 0 0],71,true⟩])) (by simp only[bT,relo,e1,e2,iJ]) ?_;generalize B.map (relo fl)=B at hB;refine Ck (⟨b2,[.int .i64 0, .slice x.a x.n x.c],71,true⟩::⟨b3,[oA b2 b3],289,true⟩::⟨b1,[.int .i64 0, .slice none 0 0],71,true⟩::B) ((fJ (l₁:=B) (l₂:=[_])).cons _ |>.cons _) ?_;refine sf J J<|?_;refine sc (qH (cs':=[.int .i64 (t.num 0), .slice x.a x.n x.c]) J J J (.hd ..) (nb J) J J ?_);refine zE<|sR<|B7 J J J<|?_;refine sc (vi (cs':=[.int .i64 (t.num 0), .slice x.a x.n x.c]) J J J (.tl _ _ _ _ _ _ _ _ (.tl _ _ _ _ _ _ _ _ (.hd ..))) J (nb J) J J ?_)
 refine zE<|?_;refine aoh (L:=[_,_,_]) hC hB (ND.len8 _) ?_;intro G5 _ hsl;show St C _ _ [⟨b2,_,_,true⟩,⟨b3,_,_,true⟩,⟨b1,[.int .i64 (t.num 0), .slice x.a x.n x.c],71,true⟩] _ _;refine cg<|?_;exact zD (.agg J ii ii J .nil) (Xm (k:=96) ⟨zs,hsl,by rw[jN] at hz;exact hz.imp fun _ _ h=>h.up⟩)
def Tr.pre:Tr->List Tr
 | .leaf b=>[.leaf b]
 | .node l x y=> .node l x y::(x.pre++y.pre)
structure Qk (f:FuncId) (c2:List Value) (σ:Type) (step:σ->Tr->σ) (ok:σ->Tr->Prop) (Inv:σ->List av->Gh->Prop):Prop where
 up: ∀{s B G G'},bI G G'->Inv s B G->Inv s B G'
 re: ∀{s B G} (fl:Nat->Bool),Inv s B G->Inv s (B.map (relo fl)) G
 go: ∀{s t p B G},ok s t->Inv s B G->Is G (eU t) (.pointer p)->iu prog f (.pointer p::c2) B G (fun _ B' G'=>Inv (step s t) B' G')
section
variable {own:List av}
def Ij{fn:Func}{vs:List Value}(hr:kz P fr own fn.results.toList vs)(own2 own3:List av)(hp:own.Perm own2)(hs:own3.Sublist own2)(hk:K (gI vs) own3 G):St C n fr own G (fg C P fn (sE C K) .normal):=
 fun a w rl hmk=>⟨rl.df.trans hmk,_,tC hr rl.fr rl.h,_,own3,G,J,(rl.h.perm hp).drop hs,hk⟩
end
def wR{σ:Type}(step:σ->Tr->σ)(ok:σ->Tr->Prop):σ->List Tr->Prop
 |_,[]=>True
 |s,t::ts=>ok s t/\wR step ok (step s t) ts
structure EX (σ:Type) where
 ts:List Tr
 vs:List Value
 rest:List Value
 b:Nat
 cap:Nat
 lo:Bool
 s:σ
 B:List av
def r8(t:Tr):Nat:=2*t.size+1
def T7(ts:List Tr):ts.length<=(ts.map r8).sum:=by
 induction ts with
 |nil=>exact bX _
 |cons t ts ih=>simp only[bJ,bT,tQ,r8];omega
def rp(ts:List Tr):List Tr:=ts.reverse.flatMap Tr.pre
structure EI (A:Gh) {σ:Type} (step:σ->Tr->σ) (ok:σ->Tr->Prop) (Inv:σ->List av->Gh->Prop) (N:Nat) (fin:σ) (x:EX σ) (G:Gh):Prop where
 rel:gP (fun v t=> ∃p,v= .pointer p/\Is A (eU t) (.pointer p)) x.vs x.ts
 cap:x.vs.length+x.rest.length=x.cap
 inv:Inv x.s x.B G
 mu:(x.ts.map r8).sum<=N
 okf:wR step ok x.s (rp x.ts)
 fin:(rp x.ts).foldl step x.s=fin
def H2{α β:Type}{R:α->β->Prop}{v:α}{t:β}: ∀{vs:List α} {ts:List β},gP R (vs++[v]) (ts++[t])->gP R vs ts/\R v t
 |[],[], .cons h .nil=>⟨.nil,h⟩
 |[],_::b, .cons _ h=>by cases b<;>cases h
 |_::a,[], .cons _ h=>by cases a<;>cases h
 |_::_,_::_, .cons h k=>⟨.cons h (H2 k).1,(H2 k).2⟩
def aGv{f:FuncId}{σ:Type}{step:σ->Tr->σ}{ok:σ->Tr->Prop}{Inv:σ->List av->Gh->Prop}(V:Qk f c2 σ step ok Inv){p:Option Addr}{s:σ}{B:List av}
  (h:Is G (eU t) (.pointer p))(hI:Inv s B G)(hok:wR step ok s t.pre)(hs:t.size<=1000000000000):
  iu prog 320 [.pointer p, .func (.func f) #[] ⟨c2⟩] B G (fun _ B' G'=>Inv (t.pre.foldl step s) B' G'):=by
 refine iu.intro func320 J J ntmps320 J ?_;intro C _ _;refine sR<|sm J J<|?_;refine sc (SJ J (by rfl) (by rfl) (by decide) (by decide) J ?_);intro b1;refine sa J J<|zE<|du<|?_;refine lx (X:=EX σ) (fun x=>[(4, .slice (some ⟨x.b,0,none⟩) x.vs.length x.cap),(1, .func (.func f) #[] ⟨c2⟩)]) (fun x=>⟨x.b,x.vs++x.rest,171,x.lo⟩::x.B) (EI G step ok Inv (r8 t) (t.pre.foldl step s)) (fun x=>(x.ts.map r8).sum)
  ⟨[t],[.pointer p],[],b1,1,true,s,asB B⟩ ⟨.cons ⟨p,J,h⟩ .nil,J,V.re (fun _=>false) hI,by simp,by simpa[rp] using hok,by simp[rp]⟩ (.cons J (.cons J .nil)) J ?_
 rintro ⟨ts,vs,rest,b,cap,lo,s1,B1⟩ Gx _ ⟨hrel,hcap,hinv,hmu,hokf,hfin⟩;simp only at hrel hcap hinv hmu hokf hfin;have hln:=hrel.len;have hlt:=T7 ts;unfold r8 at hmu hlt;refine bi<|sR<|sm J J<|cB J J<|sy (q7 J J) J<|zE<|?_;refine lB J (fun hc=>?_) (fun hc=>?_)
 .refine jl<|dP<|dP<|jg<|?_
  refine Ij .nil _ _ (List.Perm.refl _) (nQ _ _) ?_;obtain rfl:ts=[]:=by
   cases ts with
   |nil=>rfl
   |cons a l=>simp only[bJ] at hln;exfalso;apply hc;show(0:Int)<(vs.length:Int);omega
  have:s1=t.pre.foldl step s:=hfin;rw[<-this];exact hinv
 refine zK<|?_;obtain⟨vs,v,rfl⟩: ∃vs' v',vs=vs'++[v']:=by
  rcases nR vs with e|⟨a,b,e⟩
  .subst e;simp at hc
  .exact⟨a,b,by rw[e,nS]⟩
 obtain⟨ts,u,rfl⟩: ∃vs' v',ts=vs'++[v']:=by
  rcases nR ts with e|⟨a,b,e⟩
  .subst e;simp at hln
  .exact⟨a,b,by rw[e,nS]⟩
 obtain⟨hrel1,q,rfl,hq⟩:=H2 hrel;have hl1:(vs++[Value.pointer q]).length=vs.length+1:=by simp
 have hst:rp (ts++[u])=u.pre++rp ts:=by simp[rp]
 rw[hst] at hokf hfin;simp only[bV,tJ,bT,iZ,tQ,List.sum_nil,fK,aU,gV] at hmu hlt hln hcap;refine Uo [(4,Value.slice (some ⟨b,0,none⟩) (vs.length+1:Nat) cap),(1, .func (.func f) #[] ⟨c2⟩)] (.cons (by show some (Value.slice _ (vs++[Value.pointer q]).length _)=_;rw[hl1]) (.cons J .nil)) ?_;refine du<|sR<|sm J J<|cB J J<|sy (jy J J) J<|sa J J<|zE<|sR<|sm J J<|?_;rw[show((vs.length+1:Nat):Int)-1=(vs.length:Nat) by omega];refine sm J J<|sy (dO J J) J<|?_;refine sy (ik (v:=Value.pointer q) J (by rw[aR,fV,dW,jT (bX _),sX];rfl)) J<|sa J J<|zE<|sR<|sm J J<|sm J J<|sy (yg J J) J<|?_;rw[aR];refine sa J J<|zE<|sR<|sm J J<|sm J J<|?_;have hokq:ok s1 u/\wR step ok (step s1 u) (u.pre.tail++rp ts):=by cases u<;>exact hokf
 refine sc (A8 (c1:=[]) (M:=B1) (rest:=[⟨b,vs++[Value.pointer q]++rest,171,lo⟩]) J J (fJ (l₁:=[_])) (V.go hokq.1 hinv (hq.up GL.le)) J ?_);rintro _ B2 G2 fl _ _ _ hinv2;replace hinv2:=V.re fl hinv2;refine Ck (⟨b,vs++Value.pointer q::rest,171,lo⟩::B2.map (relo fl)) (by rw[dW];exact(fJ (l₂:=[_]))) ?_;generalize B2.map (relo fl)=B2 at*;refine zE<|sR<|sm J J<|?_
 cases u with
 |leaf bb=>
  refine sc (zC J J (PF.fn0 ql (.cons (hq.up GL.le) .nil)) J ?_);rintro _ G3 _ hv
  cases aB.1 hv
  refine sy (ph J) J<|zE<|mP J<|zK<|?_;exact i7 ⟨ts,vs,Value.pointer q::rest,b,cap,lo,step s1 (.leaf bb),B2⟩ ⟨hrel1,by simp only[bJ];omega,V.up GL.le hinv2,by simp only;unfold r8;omega,hokq.2,hfin⟩ (by simp only[bV,tJ,bT,iZ,tQ,List.sum_nil];unfold r8;omega) (.cons J (.cons J .nil)) J
 |node l x y=>
  obtain⟨nbk,m,e,hg,hm⟩:=li.1 (id hq)
  cases e
  obtain⟨n1,d1,p1,n2,d2,p2,n3,d3,p3,q1,q2,rfl,_,hx,hy⟩:=MJ hm;have hgg:pw G nbk _:=⟨hg⟩;refine sc (zC J J (PF.fn0 qG (.cons (hq.up GL.le) .nil)) J ?_);rintro _ G3 _ hv
  cases aB.1 hv
  refine sy (ph J) J<|zE<|js J<|?_;refine uC [] (fun _=>false) [(0,true),(1,true),(2,true),(3,true),(4,true),(5,true),(6,true),(7,true),(8,true),(9,false),(10,false),(11,true)] follows (by kernel_rfl)<|dM J J J<|?_;refine dM J J J<|dy J (fun _=>kI J) J J<|dF J J J<|dy J (fun _=>p8 J tM J) J J<|?_;refine dM J J J<|dy J (fun _=>kI J) J J<|dF J J J<|dy J (fun _=>p8 J tM J) J J<|?_;refine dc J J (DB (by rfl) (by rfl) (by rfl) (by rfl) J ?_);intro b3;refine kP<|?_;refine dc J J (JO (m:=2) (xs:=vs) (ys:=[Value.pointer q2,Value.pointer q1]) (rest:=Value.pointer (some ⟨nbk,0,none⟩)::rest) J J (.tl _ _ _ _ (.hd ..)) (by omega) (by simp only[bJ];omega) (by omega) (xk inferInstance J) J (by simp[Sx.flat]) (by decide) (by omega) (by rfl) J ?_);intro b4 lo4 cap4 rest4 h1 h2;refine kP<|dA J J J<|dn<|?_;have hsz:(Tr.node l x y).size=1+x.size+y.size:=J;refine F8 (⟨b4,vs++[Value.pointer q2,Value.pointer q1]++rest4,171,lo4⟩::B2) (.cons_cons _ (nQ _ _)) ?_;have hs2:rp (ts++[y,x])=x.pre++y.pre++rp ts:=by simp[rp]
  refine i7 ⟨ts++[y,x],vs++[Value.pointer q2,Value.pointer q1],rest4,b4,cap4,lo4,step s1 (.node l x y),B2⟩ ⟨hrel1.app (.cons ⟨_,J,hy⟩ (.cons ⟨_,J,hx⟩ .nil)),by simp only[aU,bJ,eX];omega,V.up GL.le hinv2,?_,?_,?_⟩ ?_ (.cons (by show some (Value.slice _ (vs.length+2) _)=some (Value.slice _ (vs++[_,_]).length _);rw[aU];rfl) (.cons J .nil)) J
  .simp only[bV,tJ,bT,iZ,tQ,List.sum_nil];unfold r8;omega
  .simp only;rw[hs2];exact hokq.2
  .simp only;rw[hs2];exact hfin
  .simp only[bV,tJ,bT,iZ,tQ,List.sum_nil];unfold r8;omega
def auT{own:List av}{Φ:Act->World->Prop}{dst:Option Nat}{ty':TypeId}{pos:String}{af:Array Edge}{gd:Option (Nat×Bool)}{f:FuncId}{fo:Operand}{args:Array Operand}{tys:Array TypeId}{vs:List Value}{M rest:List av}(ho:aA fr fo=some (.func (.func f) #[] #[]))(hv:fy fr args.toList=some vs)
  (hp:own.Perm (M++rest))(hF:iu P f vs M G K)(hd:b7 n dst=true)
  (h: ∀v own1 (G':Gh) (fl:Nat->Bool),[GE G G']->(∀m∈M,m.lo=false->fl m.b=false)->((∀m∈M,m.lo=true)-> ∀b,fl b=true)->K v own1 G'->St C n (put fr dst v) (own1.map (relo fl)++rest) G' Φ):
  Ch P C n fr own G ⟨dst, .call ⟨.value fo,args,tys⟩,ty',pos,af,gd⟩ Φ:=
 A8 (c1:=[]) (c2:=[]) ho hv hp (by simpa using hF) hd h
def Vs(nbk:Nat)(s:Nat)(B:List av)(_:Gh):Prop:= ∃lo,B=[⟨nbk,[.int .i64 s],3,lo⟩]
def t6(s:Nat):Tr->Nat
 | .leaf _=>s
 | .node .. =>s+1
def ayi(nbk:Nat):Qk 321 [.pointer (some ⟨nbk,0,none⟩)] Nat t6 (fun s _=>s<1000000000000) (Vs nbk) where
 up:=fun _ h=>h
 re:=fun{s B G} fl h=>by obtain⟨lo,rfl⟩:=h;exact⟨_,rfl⟩
 go:=by
  intro s t p B G hs hI ht;obtain⟨lo,rfl⟩:=hI;refine iu.intro func321 J J ntmps321 J ?_;intro C _ _;show St C _ _ [⟨nbk,_,_,false⟩] _ _
  cases t with
  |node l x y=>
   refine sR<|sm J J<|?_;refine sc (zC J J (PF.fn0 qG (.cons ht .nil)) J ?_);rintro _ G1 _ hv
   cases aB.1 hv
   refine sy (ph J) J<|zE<|js J<|dl<|kv J J J<|sy (dt J J) J<|?_;refine sc (qH J J J (.hd ..) (nb J) J J ?_);refine zE<|?_;exact Ij .nil _ _ (List.Perm.refl _) (List.Sublist.refl _) ⟨false,by show [_]=[_];rfl⟩
  |leaf b=>
   refine sR<|sm J J<|?_;refine sc (zC J J (PF.fn0 ql (.cons ht .nil)) J ?_);rintro _ G1 _ hv
   cases aB.1 hv
   refine sy (ph J) J<|zE<|mP J<|zK<|?_;exact Ij .nil _ _ (List.Perm.refl _) (List.Sublist.refl _) ⟨false,J⟩
def JC: ∀(t:Tr) (s:Nat),t.pre.foldl t6 s=s+t.size
 | .leaf _,s=>rfl
 | .node l x y,s=>by
  simp only[Tr.pre,kK,oV,t6,JC x,JC y,Tr.size];omega
def I7: ∀(t:Tr) (s:Nat) (L:List Tr),s+t.size<1000000000000->(∀s',s'=s+t.size->wR t6 (fun s _=>s<1000000000000) s' L)->wR t6 (fun s _=>s<1000000000000) s (t.pre++L)
 | .leaf _,s,L,h,k=>⟨by simp only[Tr.size] at h;omega,k _ J⟩
 | .node l x y,s,L,h,k=>by
  simp only[Tr.size] at h k;simp only[Tr.pre,iJ,dW];exact⟨by omega,I7 x _ _ (by simp only[t6];omega) fun s1 e1=>I7 y _ _ (by subst e1;simp only[t6];omega) fun s2 e2=>k _ (by subst e1 e2;simp only[t6];omega)⟩
def YP(hs:t.size<1000000000000):PF GB prog 265 [eU t] (vI (t.size:Nat)):=by
 intro G vs _ hv;obtain⟨v0,m,rfl,h,hm⟩:=aI.1 hv;rw[dE] at hm;subst hm;obtain⟨p,rfl⟩:=rg h;refine Fn.intro func265 J J ntmps265 J ?_;intro C _ _;refine sR<|sa J J<|zE<|sR<|?_;refine sc (qg J ?_);intro b1;refine sc (qH J J J (.hd ..) (nb J) J J ?_);refine zE<|sR<|sm J J<|sy (GY J J) J<|?_;have hok:wR t6 (fun s _=>s<1000000000000) 0 t.pre:=by
  have:=I7 t 0 [] (by omega) (fun _ _=>trivial);rwa [gK] at this
 refine sc (auT (M:=[⟨b1,[.int .i64 0],3,true⟩]) (rest:=[]) J J (List.Perm.refl _) (aGv (ayi b1) h ⟨true,J⟩ hok (by omega)) J ?_);rintro _ B G2 fl _ _ _ ⟨lo,rfl⟩;rw[JC,eJ];show St C _ _ [⟨b1,[.int .i64 t.size],3,_⟩] _ _;refine zE<|sR<|kv J J J<|sa J J<|zE<|cg<|?_;exact zD (.tmp J .nil) (aB.2 J)
def qn(n:Nat)(f:Nat->Bool):Nat:=((List.range n).filter fun j=>!f j).length
def atl{f:Nat->Bool}(hk:k<n)(hf:f k=false):qn n (kp f k)+1=qn n f:=by
 unfold qn;have key: ∀l:List Nat,l.Nodup->((l.filter fun j=>!kp f k j).length+(if k∈l then 1 else 0)=(l.filter fun j=>!f j).length):=fun l=>by
  induction l with
  |nil=>intro _;rfl
  |cons a l ih=>
   intro hn;obtain⟨h1,h2⟩:=List.nodup_cons.1 hn;have:=ih h2;by_cases e:a=k
   .subst e
    simp only[qS,L3,hf,aW,true_or,if_true] at this⊢;rw[if_neg h1] at this;simp at this⊢;omega
   .have e': ¬k=a:=fun h=>e h.symm
    simp only[qS,Cn e,aW,e',false_or] at this⊢
    cases f a<;>simp at this⊢ <;>omega
 have:=key (List.range n) List.nodup_range;rwa [if_pos (kQ.2 hk)] at this
def nB(ns:List RN):Nat->Int->RS->Tr×RS
 |0,_,s=>(.leaf false,s)
 |m+1,rt,s=>
  if rt= -1 then(.leaf false,s) else if rt= -2 then(.leaf true,s) else
  match ns[rt.toNat]? with
  |none=>(.leaf false,⟨s.f,s.c,true⟩)
  |some n=>if rt<0\/s.f rt.toNat=true then(.leaf false,⟨s.f,s.c,true⟩) else
   match n.g.ln with
   |none=>(.leaf false,⟨kp s.f rt.toNat,s.c+1,true⟩)
   |some l=>let a:=nB ns m n.l ⟨kp s.f rt.toNat,s.c+1,s.b⟩;let b:=nB ns m n.r a.2;(.node l a.1 b.1,b.2)
def AX{ns:List RN}: ∀{m:Nat} {rt:Int} {s:RS},qn ns.length s.f<m->RR ns rt s (nB ns m rt s).1 (nB ns m rt s).2/\(nB ns m rt s).2.c+qn ns.length (nB ns m rt s).2.f=s.c+qn ns.length s.f
 |0,_,_,h=>absurd h (pT _)
 |m+1,rt,s,h=>by
  rw[nB];split
  .rename_i e;subst e;exact⟨.leaf false s,rfl⟩
  rename_i e1;split
  .rename_i e;subst e;exact⟨.leaf true s,rfl⟩
  rename_i e2;split
  .rename_i hn
   have:=List.getElem?_eq_none_iff.1 hn;exact⟨.bad rt s e1 e2 (by omega),J⟩
  rename_i n hn;have hlt:=(aY.1 hn).1;split
  .rename_i hb
   refine⟨.bad rt s e1 e2 ?_,J⟩;rcases hb with hb|hb
   .exact .inl hb
   .by_cases h0:rt<0
    .exact .inl h0
    .exact .inr (.inr ⟨rt.toNat,by omega,hlt,hb⟩)
  rename_i hb;obtain⟨k,rfl⟩: ∃k:Nat,rt=k:=⟨rt.toNat,by omega⟩;rw[aR] at hn hlt hb⊢;have hf:s.f k=false:=by
   cases hh:s.f k with
   |false=>rfl
   |true=>exact absurd (Or.inr hh) hb
  have hu:=atl hlt hf;split
  .rename_i hl;exact⟨.line k n s hn hf hl,by simp only;omega⟩
  rename_i l hl;have h1:=AX (ns:=ns) (m:=m) (rt:=n.l) (s:=⟨kp s.f k,s.c+1,s.b⟩) (by simp only;omega);have hc:=h1.1.mono;simp only at h1 hc;have h2:=AX (ns:=ns) (m:=m) (rt:=n.r) (s:=(nB ns m n.l ⟨kp s.f k,s.c+1,s.b⟩).2) (by omega);exact⟨.node k n l s _ _ _ _ hn hf hl h1.1 h2.1,by have:=h1.2;have:=h2.2;dsimp only;omega⟩
def tg(ns:List RN)(rt:Int):Option Tr:=
 let r:=nB ns (ns.length+1) rt ki
 if r.2.b=false/\r.2.c=ns.length then some r.1 else none
def Ua:Option Tr->DV
 |some t=> .tp [eU t,vB true]
 |none=> .tp [.v (.pointer none),vB false]
def Du(n:Nat)(f:Nat->Bool):qn n f<=n:=by
 unfold qn;refine cS (nL _ _) ?_;rw[lQ];exact bX _
def TP(hs: ∀n∈ns,n.g.sm)(hn:ns.length<=65536):PF GB prog 103 [vA rt ns] (Ua (tg ns rt)):=by
 have h:=AX (ns:=ns) (m:=ns.length+1) (rt:=rt) (s:=ki) (by have:=Du ns.length ki.f;omega);have hu:=Du ns.length ki.f;have h0:ki.c=0:=J;have h2:=aJ1 (GB:=GB) hs hn h.1 (by have:=h.2;omega);unfold BE at h2;unfold tg;simp only;split
 .rename_i e;rw[if_pos e] at h2;exact h2
 .rename_i e;rw[if_neg e] at h2;exact h2
def RL.ln_some{r:RL}{l:aa}(h:r.ln=some l):r.nm/\l.ok/\r.l=l:=by
 unfold RL.ln at h;split at h
 .rename_i e;cases h;exact⟨e.1,e.2,rfl⟩
 .cases h
end Go.Sx
end
section
namespace Go.Sx
open Go Go.Proofs Go.RowKit Go.Extern.Stop Go.Stop Go.Extern
def Le(a:Addr):DV:= .v (.iface 464 (.pointer (some a)))
end Go.Sx
end
section
namespace Go.Sx
open Go Go.Proofs Tryz
variable {n g d nm0 nm k ty s:Nat}{own' own1:aH}{f:FX}{Φ:Act->World->Prop}{K:List Kt}{c:Code}{ty0:TypeId}{lo:Bool}
section
variable {GB:Gh}{C:aD}{Q0:Exit->Act->World->Prop}{fr fr':aC}{own:aH}{cf cf':Cf}{vc:List Prop}
def Q4(fr:aC)(cf:Cf):Option Nat:=match dd fr cf with
 |some ⟨_, .load t (.global g),_,_,_,_⟩=>(match d8 tt t with
  |some i=>match i.ag with
   |some none=>some g
   |_=>none
  |none=>none)
 |_=>none
def gl[fu:Fu]{v:Value}(h:Q4 fr cf=some g)(hg:GB g=some [v])(hgo:cI tt n fu.n fr own cf (.d (.v v)) [] []=⟨vc,fr',own',cf'⟩)(k:aw prog GB C n Q0 fr' own' cf')
  (hv:autoParam (aj vc) cL._auto_1):aw prog GB C n Q0 fr own cf:=by
 unfold Q4 at h;split at h<;>try (cases h;done)
 rename_i hh;split at h<;>try (cases h;done)
 rename_i i hT;split at h<;>cases h;rename_i ha;haveI:=wI (eE _ _ hT) ha;refine us (f:= .d (.v v)) hh (bP.yd fun ρ G ov a w r=>⟨v,(aB (G:=G)).2 J,?_⟩) hgo hv k;haveI:pw G g [v]:=⟨r.gb _ _ hg⟩;exact p8 (b:=g) (off:=0) J tM J
def Tb{x:DV}(hl:bh fr d=some f)(e:jO f=some x)(h:SX GB C n (bh ((d, .d x)::fr)) (bp own) Φ):SX GB C n (bh fr) (bp own) Φ:=qj (g:= .d x) hl (fun _ _ _ k=>nq k e) h
def O4(d:Nat)(x:DV){e:Exit}(hl:bh fr d=some f)(e1:jO f=some x)(k:aw prog GB C n Q0 ((d, .d x)::fr) own (.ex e K)):aw prog GB C n Q0 fr own (.ex e K):=Tb hl e1 k
def Pb(d:Nat)(x:DV)(hl:bh fr d=some f)(e1:jO f=some x)(k:aw prog GB C n Q0 ((d, .d x)::fr) own (.code c K)):aw prog GB C n Q0 fr own (.code c K):=Tb hl e1 k
def aH7{B1 B2:Option Bk}:bp (pj (pj own nm0 B1) nm B2)=upB (upB (bp own) [(nm0,B1)]) [(nm,B2)]:=by
 funext j;rw[B6];simp only[upB];rw[B6]
def X'(hnm:Nat.blt nm 2000000=true){cs:List FX}(hb:bp own nm0=some (.o ty0 cs lo))(hk:cs[k]? =some .nl)(hne:nm0≠nm)(hf:lv [nm] none (bh fr) (bp own))
  (h:SX GB C n (bh fr) (bp (pj (pj own nm0 (some (.o ty0 (cs.set k (.rw nm)) lo))) nm (some (.b ty s [] true)))) Φ):SX GB C n (bh fr) (bp own) Φ:=by
 refine⟨fun ρ G ov a w r=>?_⟩;obtain⟨f1,f2⟩:=hf nm aQ;rw[aH7] at h;refine h.run (fun k=>if k=nm then⟨none,0,0⟩ else ρ k) G ov a w ⟨r.gb,r.h,r.sz,r.df,fun k f e=>?_,fun m B e=>?_,fun m m' B B' e e' hne=>?_,fun m p h1 h2 e=>by
  have:nm<2000000:=by simpa[mM] using hnm
  show(if m=nm then(⟨none,0,0⟩:SV) else ρ m).a=_;rw[if_neg (by omega)];exact r.fxd m p h1 h2 e⟩
 .obtain⟨v,h1,h2⟩:=r.fx k f e
  exact⟨v,h1,h2.ren fun m hm=>vS _ fun hc=>f1 k f (by simp) e (by rw[hm,hc])⟩
 .simp only[upB] at e
  by_cases hm:m=nm
  .subst hm;simp only[if_true] at e;cases e
   exact⟨[],⟨[],by simp only[if_true];exact .inl ⟨J,J,J⟩, .nil,by simp,fun _ o ho=>by cases ho⟩,fun o ho=>by cases ho⟩
  .simp only[hm,if_false] at e
   by_cases hm0:m=nm0
   .subst hm0;simp only[if_true] at e;cases e
    obtain⟨os,h1,h2⟩:=r.bx m _ hb;have h1':ma (fun k=>if k=nm then⟨none,0,0⟩ else ρ k) G m (.o ty0 cs lo) os:=h1.ren (if_neg hm) fun q hq=>vS _ fun hc=>f2 m _ hm hb (by rw[<-hc];exact hq);obtain⟨b,ms,k1,k2,k3⟩:=h1';refine⟨os,⟨b,ms,k1,k2,?_⟩,h2⟩;obtain⟨y,e1,e2⟩:=k3.get hk;have:=k3.set (f:= .rw nm) (y:=y) k (by show y=_;simp only[if_true];exact e2);rwa [show ms.set k y=ms by apply lR;intro j;rw[mS];split<;>(try rfl);rename_i hj;subst hj;split<;>simp_all] at this
   .simp only[hm0,if_false] at e
    obtain⟨os,h1,h2⟩:=r.bx m B e;exact⟨os,h1.ren (if_neg hm) fun q hq=>vS _ fun hc=>f2 m B hm e (by rw[<-hc];exact hq),h2⟩
 .intro b hbb hb'
  have key: ∀q B,upB (upB (bp own) [(nm0,some (.o ty0 (cs.set k (.rw nm)) lo))]) [(nm,some (.b ty s [] true))] q=some B->q≠nm-> ∃B0,bp own q=some B0:=fun q B eq hq=>by
   simp only[upB,hq,if_false] at eq;by_cases hq0:q=nm0
   .subst hq0;exact⟨_,hb⟩
   .simp only[hq0,if_false] at eq;exact⟨_,eq⟩
  by_cases hm:m=nm
  .simp[hm] at hbb
  .by_cases hm':m'=nm
   .simp[hm'] at hb'
   .obtain⟨B0,g0⟩:=key m B e hm
    obtain⟨B1,g1⟩:=key m' B' e' hm';simp only[hm,hm',if_false] at hbb hb';exact r.dj m m' B0 B1 g0 g1 hne b hbb hb'
def JW(nm0 k nm ty s:Nat){cs:List FX}(hb:bp own nm0=some (.o ty0 cs lo))(hk:cs[k]? =some .nl)(hf:uN [nm] none fr own=true)(hne:Nat.beq nm0 nm=false)
  (ho:pj (pj own nm0 (some (.o ty0 (cs.set k (.rw nm)) lo))) nm (some (.b ty s [] true))=own1)(h:aw prog GB C n Q0 fr own1 (.code c K))(hnm:Nat.blt nm 2000000=true:=by rfl):aw prog GB C n Q0 fr own (.code c K):=by
 subst ho;exact X' hnm hb hk (fun e=>by subst e;rw[pW] at hne;cases hne) (Bh hf) h
def N1{ρ:NE}{G:Gh}: ∀{a b:List FX} {m:List Value},dk ρ G (a++b) m-> ∃m1 m2,m=m1++m2/\dk ρ G a m1/\dk ρ G b m2
 |[],b,m,h=>⟨[],m,J,J,h⟩
 |f::t,b,m,⟨y,n,e,h1,h2⟩=>by
  obtain⟨m1,m2,rfl,k1,k2⟩:=N1 h2;exact⟨y::m1,m2,e,⟨y,m1,J,h1,k1⟩,k2⟩
end
end Go.Sx
end
