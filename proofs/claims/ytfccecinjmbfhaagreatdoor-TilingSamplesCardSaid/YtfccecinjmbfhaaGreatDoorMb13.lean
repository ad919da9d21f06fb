/- Part 13 of a proof. -/
import Derived.Test.YtfccecinjmbfhaaGreatDoorMb12
import Derived.WalkKit
import Derived.LaidEql
import Derived.Stop.Asserts
import Derived.RowKitTokens
set_option linter.unusedSimpArgs false
set_option maxHeartbeats 2000000
set_option maxRecDepth 100000
set_option linter.unusedVariables false
section
namespace Go.Sx
open Go Go.Proofs Tryz
variable {GB:Gh}
def cU:Tr→List DV
 | .leaf b=>[vI 0,vI 0, .v (.pointer none),vI 0,vI 0, .v (.pointer none),vI 0,vI 0, .v (.pointer none), .v (.pointer none), .v (.pointer none), .v (.bool b)]
 | .node l x y=>[vI (fn_ (l.a:Rat)),vI (fd_ (l.a:Rat)),fp_ (l.a:Rat),vI (fn_ (l.b:Rat)),vI (fd_ (l.b:Rat)),fp_ (l.b:Rat),vI (fn_ (l.c:Rat)),vI (fd_ (l.c:Rat)),fp_ (l.c:Rat), .pt (cU x), .pt (cU y), .v (.bool false)]
def eU(t:Tr):DV:= .pt (cU t)
theorem akh{b:Bool}:PF GB prog 226 [.v (.bool b)] (eU (.leaf b)):=by
 refine fn func226 J J ntmps226 J J (fun C=>?_)
 refine fzE 5 rfl ?_
 exact rz J J
theorem avx{l:LnQ}{x y:Tr}:PF GB prog 227 [eLn l,eU x,eU y] (eU (.node l x y)):=by
 refine fn func227 J J ntmps227 J J (fun C=>?_)
 refine fzE 11 rfl ?_
 exact rz J J
theorem ad4{b:Bool}:PF GB prog 175 [eU (.leaf b)] (.v (.bool true)):=by
 refine fn func175 J J ntmps175 J J (fun C=>?_)
 exact rz J J
theorem afg{l:LnQ}{x y:Tr}:PF GB prog 175 [eU (.node l x y)] (.v (.bool false)):=by
 refine fn func175 J J ntmps175 J J (fun C=>?_)
 exact rz J J
theorem awV{l l1:LnQ}{x y u:Tr}:PF GB prog 246 [eLn l,eU (.node l1 x y),eU u] (eU (.node l (.node l1 x y) u)):=by
 refine fn func246 J J ntmps246 J J (fun C=>?_)
 refine cl (fu:=⟨0⟩) rfl afg rfl<|knF J J J<|cl rfl avx rfl<|?_
 exact rz J J
theorem aur{l l1:LnQ}{x y:Tr}{p:Bool}:PF GB prog 246 [eLn l,eU (.leaf p),eU (.node l1 x y)] (eU (.node l (.leaf p) (.node l1 x y))):=by
 refine fn func246 J J ntmps246 J J (fun C=>?_)
 refine cl (fu:=⟨0⟩) rfl ad4 rfl<|knT J J J<|cl (fu:=⟨1⟩) rfl afg rfl<|knF J J J<|cl rfl avx rfl<|?_
 exact rz J J
theorem auc{l:LnQ}{p q:Bool}:PF GB prog 246 [eLn l,eU (.leaf p),eU (.leaf q)] (eU (Tr.joinQ l (.leaf p) (.leaf q))):=by
 refine fn func246 J J ntmps246 J J (fun C=>?_)
 refine cl (fu:=⟨0⟩) rfl ad4 rfl<|knT J J J<|cl (fu:=⟨1⟩) rfl ad4 rfl<|knT J J J<|?_
 refine bb J J J (fun hc23=>?_) (fun hc23=>?_)
 ·
  exact rz rfl (by rw[show Tr.joinQ l (.leaf p) (.leaf q)= .leaf p by simp[Tr.joinQ,Tr.isLeaf,Tr.code,hc23]];rfl)
 ·
  refine cl rfl avx rfl<|?_
  exact rz rfl (by rw[show Tr.joinQ l (.leaf p) (.leaf q)= .node l (.leaf p) (.leaf q) by simp[Tr.joinQ,Tr.isLeaf,Tr.code,hc23]];rfl)
theorem aAO{l:LnQ}: ∀{x y:Tr},PF GB prog 246 [eLn l,eU x,eU y] (eU (Tr.joinQ l x y))
 | .leaf _, .leaf _=>auc
 | .leaf _, .node .. =>aur
 | .node ..,_=>awV
theorem am3{b:Bool}:PF GB prog 125 [eU (.leaf b)] (vI (Tr.depth (.leaf b):Nat)):=by
 refine fn func125 J J ntmps125 J J (fun C=>?_)
 refine cl (fu:=⟨0⟩) rfl ad4 rfl<|?_
 refine kbT 4 rfl ?_
 refine gx rfl<|?_
 exact rz J J
theorem amL{l:LnQ}{x y:Tr}(hd:(Tr.node l x y).depth≤1000000)(ihx:PF GB prog 125 [eU x] (vI (Tr.depth x:Nat)))(ihy:PF GB prog 125 [eU y] (vI (Tr.depth y:Nat))):PF GB prog 125 [eU (.node l x y)] (vI (Tr.depth (.node l x y):Nat)):=by
 have hdp:(Tr.node l x y).depth=1+max x.depth y.depth:=rfl
 have hdx:=nS x.depth y.depth
 have hdy:=nZ x.depth y.depth
 refine fn func125 J J ntmps125 J J (fun C=>?_)
 refine cl (fu:=⟨0⟩) rfl afg rfl<|?_
 refine kbF 4 rfl ?_
 refine gx rfl<|cl rfl ihx rfl<|cl (hv:=by simp only[aah];exact⟨by omega,by kernel_rfl⟩) rfl ihy rfl<|?_
 exact rz rfl (by show DV.v (.int _ _)= .v (.int _ _);congr 2;split<;>omega)
theorem alk: ∀{t:Tr},t.depth≤1000000→PF GB prog 125 [eU t] (vI (Tr.depth t:Nat))
 | .leaf _,_=>am3
 | .node l x y,h=>amL h (alk (by have:=nS x.depth y.depth;have:(Tr.node l x y).depth=1+max x.depth y.depth:=rfl;omega)) (alk (by have:=nZ x.depth y.depth;have:(Tr.node l x y).depth=1+max x.depth y.depth:=rfl;omega))
theorem aiE{b:Bool}{c:aag}:PF GB prog 189 [eU (.leaf b), .sl (c.map eFr)] (eU (Tr.restrict (.leaf b) c)):=by
 refine fn func189 J J ntmps189 J J (fun C=>?_)
 refine cl (fu:=⟨0⟩) rfl ad4 rfl<|?_
 refine kbT 10 rfl ?_
 refine gx rfl<|?_
 exact rz J J
theorem ajl{l:LnQ}{x y:Tr}{c:aag}(hl:LB l)(hlo:l.ok)(hc:abI c)(hn:c.length+(Tr.node l x y).depth≤100000)(ihx: ∀{c:aag},abI c→c.length+x.depth≤100000→PF GB prog 189 [eU x, .sl (c.map eFr)] (eU (Tr.restrict x c)))(ihy: ∀{c:aag},abI c→c.length+y.depth≤100000→PF GB prog 189 [eU y, .sl (c.map eFr)] (eU (Tr.restrict y c))):PF GB prog 189 [eU (.node l x y), .sl (c.map eFr)] (eU (Tr.restrict (.node l x y) c)):=by
 have hdp:(Tr.node l x y).depth=1+max x.depth y.depth:=rfl
 have hdx:=nS x.depth y.depth
 have hdy:=nZ x.depth y.depth
 have hca:=ad3 c l
 have hcb:=ad3 c l.rev
 refine fn func189 J J ntmps189 J J (fun C=>?_)
 refine cl (fu:=⟨0⟩) rfl afg rfl<|?_
 refine kbF 10 rfl ?_
 refine gx rfl<|cl rfl (apT (c:=c) (l:=l) hlo hc (by omega)) rfl<|?_
 refine bb J J J (fun hc23=>?_) (fun hc23=>?_)
 ·
  refine cl rfl (ihx hc (by omega)) rfl<|?_
  exact rz rfl (by rw[Tr.restrict,if_pos hc23];rfl)
 ·
  refine bb J J J (fun hc32=>?_) (fun hc32=>?_)
  ·
   refine cl rfl (ihy hc (by omega)) rfl<|?_
   exact rz rfl (by rw[Tr.restrict,if_neg (by simp[hc23]),if_pos hc32];rfl)
  ·
   refine cl rfl (ihx (c:=aaN c l) (afV hlo hc) (by omega)) rfl<|cl rfl (ihy (c:=aaN c l.rev) (afV hlo.rev hc) (by omega)) rfl<|cl rfl aAO rfl<|?_
   exact rz rfl (by rw[Tr.restrict,if_neg (by simp[hc23]),if_neg (by simp[hc32])];rfl)
theorem ahi: ∀{t:Tr} {c:aag},t.all LB→t.all LnQ.ok→abI c→c.length+t.depth≤100000→PF GB prog 189 [eU t, .sl (c.map eFr)] (eU (Tr.restrict t c))
 | .leaf _,_,_,_,_,_=>aiE
 | .node l x y,c,hb,ho,hc,hn=>ajl hb.1 ho.1 hc hn (fun h1 h2=>ahi hb.2.1 ho.2.1 h1 h2) (fun h1 h2=>ahi hb.2.2 ho.2.2 h1 h2)
theorem aqg{t:Tr}(hb:t.all LB)(ho:t.all LnQ.ok)(hd:t.depth≤100000):PF GB prog 126 [eU t] (eU (t.restrict [])):=by
 refine fn func126 J J ntmps126 J J (fun C=>?_)
 refine cl rfl (ahi (t:=t) (c:=[]) hb ho (fun s h=>by cases h) (by simpa using hd)) rfl<|?_
 exact rz J J
def Tr.compl:Tr→Tr
 | .leaf b=> .leaf !b
 | .node l x y=> .node l x.compl y.compl
def Tr.chooseQ(op:Int)(b:Bool)(t:Tr)(c:aag):Tr:=
 if op=1∨op=2 then(if b=decide (op=1) then .leaf b else t.restrict c)
 else if op=3∧b=false then .leaf false
 else if b then(t.restrict c).compl else t.restrict c
def Tr.mergeQ(op:Int):Tr→Tr→aag→Tr
 | .leaf b,u,c=>u.chooseQ op b c
 | .node l x y,u,c=>if !abo c l.rev then x.mergeQ op u c else if !abo c l then y.mergeQ op u c else joinQ l (x.mergeQ op u (aaN c l)) (y.mergeQ op u (aaN c l.rev))
def lnZ:DV:= .ag [vI 0,vI 0, .v (.pointer none),vI 0,vI 0, .v (.pointer none),vI 0,vI 0, .v (.pointer none)]
def lnR:Option LnQ→DV
 |some l=> .tp [eLn l,vB true]
 |none=> .tp [lnZ,vB false]
theorem aDd{l:LnQ}(h: ¬l.ok)(hz: ¬(l.a=0∧l.b=0)):decide (rgcd (rgcd (l.a:Rat) (l.b:Rat)) (l.c:Rat)=((1:Int):Rat))=false:=by
 rw[agG,agG]
 refine decide_eq_false fun e=>h ⟨hz,?_⟩
 simp only[iR] at e
 have:=mZ.1 e
 omega
theorem avg{l:LnQ}[hl:LB l](ha:l.a=0)(hb:l.b=0):PF GB prog 222 [eL l] (lnR none):=by
 refine fn func222 J J ntmps222 J J (fun C=>?_)
 refine cl (fu:=⟨0⟩) rfl (ab4 (m:=l.a)) rfl<|knF J J J<|cl (fu:=⟨0⟩) rfl (ab4 (m:=l.b)) rfl<|knF J J J<|cl (fu:=⟨0⟩) rfl (ab4 (m:=l.c)) rfl<|?_
 refine knF J J J<|cl rfl (aey (m:=l.a)) rfl<|cl rfl (aey (m:=l.b)) rfl<|cl rfl (aey (m:=l.c)) rfl<|cl (fu:=⟨0⟩) rfl (ai9 (q:=(l.a:Rat))) rfl<|?_
 refine knT rfl (by show some (decide _)=some true;rw[ha];rfl) rfl<|cl (fu:=⟨0⟩) rfl (ai9 (q:=(l.b:Rat))) rfl<|knT rfl (by show some (decide _)=some true;rw[hb];rfl) rfl<|?_
 exact rz J J
theorem awJ{l:LnQ}[hl:LB l](hz: ¬(l.a=0∧l.b=0))(ho: ¬l.ok):PF GB prog 222 [eL l] (lnR none):=by
 refine fn func222 J J ntmps222 J J (fun C=>?_)
 refine cl (fu:=⟨0⟩) rfl (ab4 (m:=l.a)) rfl<|knF J J J<|cl (fu:=⟨0⟩) rfl (ab4 (m:=l.b)) rfl<|knF J J J<|cl (fu:=⟨0⟩) rfl (ab4 (m:=l.c)) rfl<|?_
 refine knF J J J<|cl rfl (aey (m:=l.a)) rfl<|cl rfl (aey (m:=l.b)) rfl<|cl rfl (aey (m:=l.c)) rfl<|cl (fu:=⟨0⟩) rfl (ai9 (q:=(l.a:Rat))) rfl<|?_
 refine csS (fu2:=⟨4⟩) J J J J (fun hg35=>?_) (fun hg35=>?_)
 ·
  have ha:l.a=0:=cR.1 hg35
  refine cl (fu:=⟨1⟩) rfl (ai9 (q:=(l.b:Rat))) rfl<|knF rfl (by first|rfl|(show some (decide _)=some false;rw[decide_eq_false (fun e=>hz ⟨ha,cR.1 e⟩)])) rfl<|?_
  refine cl rfl (ahH (p:=(l.a:Rat)) (q:=(l.b:Rat))) rfl<|cl rfl (ahH (p:=rgcd l.a l.b) (q:=(l.c:Rat))) rfl<|cl rfl (aip (m:=1) (by decide)) rfl<|?_
  refine cl (fu:=⟨0⟩) rfl (aid (p:=rgcd (rgcd l.a l.b) l.c) (q:=((1:Int):Rat))) rfl<|knT rfl (by show some (!decide _)=some true;rw[aDd ho hz];rfl) rfl<|?_
  exact rz J J
 ·
  refine knF rfl (by first|rfl|(show some (decide _)=some false;rw[decide_eq_false (fun e=>hz ⟨ha,cR.1 e⟩)])) rfl<|cl rfl (ahH (p:=(l.a:Rat)) (q:=(l.b:Rat))) rfl<|?_
  refine cl rfl (ahH (p:=rgcd l.a l.b) (q:=(l.c:Rat))) rfl<|cl rfl (aip (m:=1) (by decide)) rfl<|cl (fu:=⟨0⟩) rfl (aid (p:=rgcd (rgcd l.a l.b) l.c) (q:=((1:Int):Rat))) rfl<|?_
  refine knT rfl (by show some (!decide _)=some true;rw[aDd ho hz];rfl) rfl<|?_
  exact rz J J
theorem ayN{l:LnQ}[hl:LB l][Decidable l.ok]:PF GB prog 222 [eL l] (lnR (if l.ok then some l else none)):=by
 split
 ·rename_i h;exact aCx h
 ·rename_i h
  by_cases hz:l.a=0∧l.b=0
  ·exact avg hz.1 hz.2
  ·exact awJ hz h
def anE(n:Bool)(ds:List Nat):Prop:=Nrm ds∧(n=true→0<ds.length)
instance (n:Bool) (ds:List Nat):Decidable (anE n ds):=inferInstanceAs (Decidable (_∧_))
theorem adl{neg:Bool}{ds:List Nat}(h:DOk ds∧ds.length≤3):PF GB prog 262 [.ag [.v (.bool neg),dLi ds]] (vB (decide (anE neg ds))):=amF h.1 (by have:=h.2;omega)
structure RL where
 na:Bool
 da:List Nat
 nb:Bool
 db:List Nat
 nc:Bool
 dc:List Nat
def RL.d(r:RL):DV:= .ag [.v (.bool r.na),dLi r.da, .v (.bool r.nb),dLi r.db, .v (.bool r.nc),dLi r.dc]
def ahj(n:Bool)(ds:List Nat):Int:=if n then-(dv ds:Int) else dv ds
def RL.l(r:RL):LnQ:=⟨ahj r.na r.da,ahj r.nb r.db,ahj r.nc r.dc⟩
def RL.nm(r:RL):Prop:=anE r.na r.da∧anE r.nb r.db∧anE r.nc r.dc
instance (l:LnQ):Decidable l.ok:=inferInstanceAs (Decidable (_∧_))
instance (r:RL):Decidable r.nm:=inferInstanceAs (Decidable (_∧_∧_))
def RL.ln(r:RL):Option LnQ:=if r.nm∧r.l.ok then some r.l else none
structure RL.sm (r:RL):Prop where
 a:DOk r.da∧r.da.length≤3
 b:DOk r.db∧r.db.length≤3
 c:DOk r.dc∧r.dc.length≤3
theorem anB(n:Bool)(ds:List Nat):(ahj n ds).natAbs=dv ds:=by unfold ahj;cases n<;>simp
theorem aje{n:Bool}{ds:List Nat}(hd:DOk ds)(h:anE n ds):decide (ahj n ds<0)=n:=by
 unfold ahj
 cases n with
 |false=>simp
 |true=>
  have h0:0<dv ds:=by
   refine iQ fun e=>?_
   have:=aqp hd h.1
   rw[e,ahh] at this
   have h2:=h.2 rfl
   rw[←this] at h2
   exact absurd h2 (by decide)
  simp only[if_true,decide_eq_true_eq]
  omega
theorem RL.eL{r:RL}(s:r.sm)(h:r.nm):r.d=Go.Sx.eL r.l:=by
 unfold RL.d Go.Sx.eL RL.l
 simp only[anB,aje s.a.1 h.1,aje s.b.1 h.2.1,aje s.c.1 h.2.2,dN,aqp s.a.1 h.1.1,aqp s.b.1 h.2.1.1,aqp s.c.1 h.2.2.1]
 rfl
theorem RL.lb{r:RL}(s:r.sm):LB r.l:=by
 have key: ∀(n:Bool) (ds:List Nat),DOk ds∧ds.length≤3→(ahj n ds).natAbs<2^96:=fun n ds h=>by
  rw[anB]
  refine cM (aee h.1) ?_
  rw[show(2:Nat)^96=4294967296^3 by decide]
  exact bK (by decide) h.2
 exact⟨key _ _ s.a,key _ _ s.b,key _ _ s.c⟩
theorem avd{r:RL}(s:r.sm)(h: ¬anE r.na r.da):PF GB prog 222 [r.d] (lnR none):=by
 refine fn func222 J J ntmps222 J J (fun C=>?_)
 refine cl (fu:=⟨0⟩) rfl (adl (neg:=r.na) (ds:=r.da) s.a) rfl<|knT rfl (by show some (!decide _)=some true;rw[decide_eq_false h];rfl) rfl<|?_
 exact rz J J
theorem avf{r:RL}(s:r.sm)(h1:anE r.na r.da)(h: ¬anE r.nb r.db):PF GB prog 222 [r.d] (lnR none):=by
 refine fn func222 J J ntmps222 J J (fun C=>?_)
 refine cl (fu:=⟨0⟩) rfl (adl (neg:=r.na) (ds:=r.da) s.a) rfl<|knF rfl (by show some (!decide _)=some false;rw[decide_eq_true h1];rfl) rfl<|cl (fu:=⟨0⟩) rfl (adl (neg:=r.nb) (ds:=r.db) s.b) rfl<|?_
 refine knT rfl (by show some (!decide _)=some true;rw[decide_eq_false h];rfl) rfl<|?_
 exact rz J J
theorem avE{r:RL}(s:r.sm)(h1:anE r.na r.da)(h2:anE r.nb r.db)(h: ¬anE r.nc r.dc):PF GB prog 222 [r.d] (lnR none):=by
 refine fn func222 J J ntmps222 J J (fun C=>?_)
 refine cl (fu:=⟨0⟩) rfl (adl (neg:=r.na) (ds:=r.da) s.a) rfl<|knF rfl (by show some (!decide _)=some false;rw[decide_eq_true h1];rfl) rfl<|cl (fu:=⟨0⟩) rfl (adl (neg:=r.nb) (ds:=r.db) s.b) rfl<|?_
 refine knF rfl (by show some (!decide _)=some false;rw[decide_eq_true h2];rfl) rfl<|cl (fu:=⟨0⟩) rfl (adl (neg:=r.nc) (ds:=r.dc) s.c) rfl<|knT rfl (by show some (!decide _)=some true;rw[decide_eq_false h];rfl) rfl<|?_
 exact rz J J
theorem arE{r:RL}(s:r.sm):PF GB prog 222 [r.d] (lnR r.ln):=by
 by_cases h1:anE r.na r.da
 ·by_cases h2:anE r.nb r.db
  ·by_cases h3:anE r.nc r.dc
   ·haveI:=RL.lb s
    rw[RL.eL s ⟨h1,h2,h3⟩,show r.ln=if r.l.ok then some r.l else none by unfold RL.ln;simp[show r.nm from⟨h1,h2,h3⟩]]
    exact ayN
   ·rw[show r.ln=none from if_neg fun e=>h3 e.1.2.2]
    exact avE s h1 h2 h3
  ·rw[show r.ln=none from if_neg fun e=>h2 e.1.2.1]
   exact avf s h1 h2
 ·rw[show r.ln=none from if_neg fun e=>h1 e.1.1]
  exact avd s h1
def afG(n:Nat)(f:Nat→Bool):List Value:=(List.range n).map fun j=> .bool (f j)
def amK(f:Nat→Bool)(i:Nat):Nat→Bool:=fun j=>f j||Nat.beq j i
theorem aiS(n:Nat)(f:Nat→Bool):(afG n f).length=n:=by simp[afG]
theorem aga{n i:Nat}{f:Nat→Bool}{b:Bool}(h:i<n)(hf:f i=b):(afG n f)[i]? =some (.bool b):=by simp[afG,h,hf]
theorem aio{f:Nat→Bool}{i j:Nat}(e:j≠i):amK f i j=f j:=by
 unfold amK
 cases hb:Nat.beq j i with
 |false=>rw[Bool.or_false]
 |true=>exact absurd (aT hb) e
theorem atv{f:Nat→Bool}{i:Nat}:amK f i i=true:=by
 unfold amK;rw[nT,Bool.or_true]
theorem amn(n i:Nat)(f:Nat→Bool):(afG n f).set i (.bool true)=afG n (amK f i):=by
 apply kN
 intro j
 rw[oX]
 simp only[afG,aJ,List.length_range,cN]
 by_cases hj:j<n
 ·rw[rK hj]
  simp only[kJ]
  by_cases e:i=j
  ·subst e;simp[hj,atv]
  ·rw[aio (fun h=>e h.symm)];simp[e]
 ·rw[dX (by simpa using hj)]
  by_cases e:i=j
  ·subst e;simp[hj]
  ·simp[e]
theorem aoB(n:Nat):abC (.bool false) n=afG n (fun _=>false):=by
 apply kN
 intro j
 by_cases hj:j<n
 ·rw[aga hj rfl]
  unfold abC
  rw[afa (aaf (.bool false)) n j (by simpa[aaf] using hj)]
  simp[aaf,Nat.mod_one]
 ·rw[dX (by rw[abY];simp[aaf];omega),dX (by rw[aiS];omega)]
structure RN where
 g:RL
 l:Int
 r:Int
def RN.d(n:RN):DV:= .ag [.v (.bool n.g.na),dLi n.g.da, .v (.bool n.g.nb),dLi n.g.db, .v (.bool n.g.nc),dLi n.g.dc, .v (.int .i64 n.l), .v (.int .i64 n.r)]
structure RS where
 f:Nat→Bool
 c:Nat
 b:Bool
inductive RR (ns:List RN):Int→RS→Tr→RS→Prop where
 |leaf (b:Bool) (s:RS):RR ns (acS b) s (.leaf b) s
 |bad (rt:Int) (s:RS) (h1:rt≠ -1) (h2:rt≠ -2) (h:rt<0∨(ns.length:Int)≤rt∨(∃k:Nat,rt=k∧k<ns.length∧s.f k=true)):RR ns rt s (.leaf false) ⟨s.f,s.c,true⟩
 |line (k:Nat) (n:RN) (s:RS) (h:ns[k]? =some n) (hf:s.f k=false) (hl:n.g.ln=none):RR ns (k:Int) s (.leaf false) ⟨amK s.f k,s.c+1,true⟩
 |node (k:Nat) (n:RN) (l:LnQ) (s s2 s3:RS) (x y:Tr) (h:ns[k]? =some n) (hf:s.f k=false) (hl:n.g.ln=some l) (h1:RR ns n.l ⟨amK s.f k,s.c+1,s.b⟩ x s2) (h2:RR ns n.r s2 y s3):RR ns (k:Int) s (.node l x y) s3
theorem RR.mono{ns:List RN}{rt:Int}{s s':RS}{t:Tr}(h:RR ns rt s t s'):s.c≤s'.c:=by
 induction h with
 |leaf=>exact aL _
 |bad=>exact aL _
 |line=>exact Nat.le_succ _
 |node k n l s s2 s3 x y h hf hl h1 h2 i1 i2=>simp only at i1;omega
theorem atW{G:Gh}{q:Rat}{v:Value}(h:Is G (fp_ q) v): ∃p,v= .pointer p:=by
 rcases aoo.1 h with⟨_,h⟩|⟨_,h⟩
 ·exact⟨_,h⟩
 ·obtain⟨b,m,h,_⟩:=akV.1 h;exact⟨_,h⟩
theorem aBQ{G:Gh}{l:LnQ}{v:Value}(h:Is G (eLn l) v): ∃n1 d1 p1 n2 d2 p2 n3 d3 p3,v= .agg ⟨[.int .i64 n1, .int .i64 d1, .pointer p1, .int .i64 n2, .int .i64 d2, .pointer p2, .int .i64 n3, .int .i64 d3, .pointer p3]⟩:=by
 obtain⟨m,rfl,g⟩:=acn.1 h
 clear h
 obtain⟨v1,m,rfl,h1,h⟩:=aac.1 g
 obtain⟨v2,m,rfl,h2,h⟩:=aac.1 h
 obtain⟨v3,m,rfl,h3,h⟩:=aac.1 h
 obtain⟨v4,m,rfl,h4,h⟩:=aac.1 h
 obtain⟨v5,m,rfl,h5,h⟩:=aac.1 h
 obtain⟨v6,m,rfl,h6,h⟩:=aac.1 h
 obtain⟨v7,m,rfl,h7,h⟩:=aac.1 h
 obtain⟨v8,m,rfl,h8,h⟩:=aac.1 h
 obtain⟨v9,m,rfl,h9,h⟩:=aac.1 h
 rw[aaM] at h;subst h
 obtain⟨_,rfl⟩:=atW h3
 obtain⟨_,rfl⟩:=atW h6
 obtain⟨_,rfl⟩:=atW h9
 rw[aa2.1 h1,aa2.1 h2,aa2.1 h4,aa2.1 h5,aa2.1 h7,aa2.1 h8]
 exact⟨_,_,_,_,_,_,_,_,_,rfl⟩
theorem axq{G:Gh}{o:Option LnQ}{v:Value}(h:Is G (lnR o) v): ∃n1 d1 p1 n2 d2 p2 n3 d3 p3,v= .tuple #[.agg ⟨[.int .i64 n1, .int .i64 d1, .pointer p1, .int .i64 n2, .int .i64 d2, .pointer p2, .int .i64 n3, .int .i64 d3, .pointer p3]⟩, .bool o.isSome]∧
  ∀l,o=some l→Is G (eLn l) (.agg ⟨[.int .i64 n1, .int .i64 d1, .pointer p1, .int .i64 n2, .int .i64 d2, .pointer p2, .int .i64 n3, .int .i64 d3, .pointer p3]⟩):=by
 cases o with
 |some l=>
  obtain⟨m,rfl,g⟩:=ad1.1 h
  obtain⟨v1,m,rfl,h1,h⟩:=aac.1 g
  obtain⟨v2,m,rfl,h2,h⟩:=aac.1 h
  rw[aaM] at h;subst h
  obtain⟨n1,d1,p1,n2,d2,p2,n3,d3,p3,rfl⟩:=aBQ h1
  rw[aa2.1 h2]
  exact⟨n1,d1,p1,n2,d2,p2,n3,d3,p3,rfl,fun k e=>by cases e;exact h1⟩
 |none=>
  obtain⟨m,rfl,g⟩:=ad1.1 h
  obtain⟨v1,m,rfl,h1,h⟩:=aac.1 g
  obtain⟨v2,m,rfl,h2,h⟩:=aac.1 h
  rw[aaM] at h;subst h
  clear g h
  obtain⟨m,rfl,g⟩:=acn.1 h1
  obtain⟨w1,m,rfl,k1,h⟩:=aac.1 g
  obtain⟨w2,m,rfl,k2,h⟩:=aac.1 h
  obtain⟨w3,m,rfl,k3,h⟩:=aac.1 h
  obtain⟨w4,m,rfl,k4,h⟩:=aac.1 h
  obtain⟨w5,m,rfl,k5,h⟩:=aac.1 h
  obtain⟨w6,m,rfl,k6,h⟩:=aac.1 h
  obtain⟨w7,m,rfl,k7,h⟩:=aac.1 h
  obtain⟨w8,m,rfl,k8,h⟩:=aac.1 h
  obtain⟨w9,m,rfl,k9,h⟩:=aac.1 h
  rw[aaM] at h;subst h
  rw[aa2.1 k1,aa2.1 k2,aa2.1 k3,aa2.1 k4,aa2.1 k5,aa2.1 k6,aa2.1 k7,aa2.1 k8,aa2.1 k9]
  rw[aa2.1 h2]
  exact⟨_,_,_,_,_,_,_,_,_,rfl,fun k e=>by cases e⟩
theorem aBF{G:Gh}{n:RN}{v:Value}(h:Is G n.d v): ∃x1 x2 x3:SV,v= .agg ⟨[.bool n.g.na, .slice x1.a x1.n x1.c, .bool n.g.nb, .slice x2.a x2.n x2.c, .bool n.g.nc, .slice x3.a x3.n x3.c, .int .i64 n.l, .int .i64 n.r]⟩∧
  Is G n.g.d (.agg ⟨[.bool n.g.na, .slice x1.a x1.n x1.c, .bool n.g.nb, .slice x2.a x2.n x2.c, .bool n.g.nc, .slice x3.a x3.n x3.c]⟩):=by
 obtain⟨m,rfl,g⟩:=acn.1 h
 clear h
 obtain⟨v1,m,rfl,h1,h⟩:=aac.1 g
 obtain⟨v2,m,rfl,h2,h⟩:=aac.1 h
 obtain⟨v3,m,rfl,h3,h⟩:=aac.1 h
 obtain⟨v4,m,rfl,h4,h⟩:=aac.1 h
 obtain⟨v5,m,rfl,h5,h⟩:=aac.1 h
 obtain⟨v6,m,rfl,h6,h⟩:=aac.1 h
 obtain⟨v7,m,rfl,h7,h⟩:=aac.1 h
 obtain⟨v8,m,rfl,h8,h⟩:=aac.1 h
 rw[aaM] at h;subst h
 obtain⟨_,x1,_,rfl,_,_⟩:=adH.1 (id h2)
 obtain⟨_,x2,_,rfl,_,_⟩:=adH.1 (id h4)
 obtain⟨_,x3,_,rfl,_,_⟩:=adH.1 (id h6)
 cases aa2.1 h1;cases aa2.1 h3;cases aa2.1 h5;cases aa2.1 h7;cases aa2.1 h8
 exact⟨x1,x2,x3,rfl,acn.2 ⟨_,rfl, .cons h1 (.cons h2 (.cons h3 (.cons h4 (.cons h5 (.cons h6 .nil)))))⟩⟩
theorem ajr{G:Gh}{t:Tr}{v:Value}(h:Is G (eU t) v): ∃p,v= .pointer p:=by
 obtain⟨b,m,h,_⟩:=akV.1 h;exact⟨_,h⟩
theorem PF.fn0{P:Program}{f:FuncId}{ds:List DV}{r:DV}(h: ∀{GB:Gh},PF GB P f ds r){G:Gh}{vs:List Value}(hv:IsLs G ds vs):Fn P f vs G (fun v G'=>Is G' r v):=h (GB:=G) G vs (GLe.refl G) hv
abbrev aE4 (x:SV) (ns:List RN) (A:Gh):Prop:= ∃es,afb A 8 x es∧IsLs A (ns.map RN.d) es
theorem aAm{A:Gh}{ns:List RN}{x:SV}(hx:aE4 x ns A)(hs: ∀n∈ns,n.g.sm)(hn:ns.length≤1000000){rt:Int}{s s':RS}{t:Tr}(h:RR ns rt s t s'): ∀{G:Gh} {rb sb:Nat} {lo lo2:Bool},[GL A G]→s'.c≤1000000→
  FnM prog 172 [.pointer (some ⟨rb,0,none⟩), .int .i64 rt] [⟨rb,[.slice x.a x.n x.c, .slice (some ⟨sb,0,none⟩) ns.length ns.length, .int .i64 s.c, .bool s.b],292,lo⟩,⟨sb,afG ns.length s.f,4,lo2⟩] G
   (fun v css G'=> ∃p,v= .pointer p∧Is G' (eU t) (.pointer p)∧css=[[.slice x.a x.n x.c, .slice (some ⟨sb,0,none⟩) ns.length ns.length, .int .i64 s'.c, .bool s'.b],afG ns.length s'.f]):=by
 obtain⟨es,hx,hes⟩:=hx
 have hel:=hes.len
 rw[aJ] at hel
 have hlen:=hx.len
 rw[hel] at hlen
 obtain⟨xa,xn,xc⟩:=x
 simp only[] at hlen
 subst hlen
 induction h with
 |leaf bb s=>
  intro G rb sb lo lo2 _ hc
  refine FnM.intro func172 J J ntmps172 rfl ?_
  intro C _ _
  show St C _ _ [⟨rb,_,_,false⟩,⟨sb,_,_,false⟩] _ _
  cases bb
  case true=>
   refine sR<|sa J J<|zE<|aaj<|aat<|sR<|sm J J<|sy (abV J J) rfl<|sm J J<|ss J J J J<|ss J J J J<|?_
   refine sy (acW J J) rfl<|sa J J<|zE<|acU rfl<|sR<|sm J J<|sy (abV J J) rfl<|?_
   refine sc (zC J J (PF.fn0 (akh (b:=true)) (.cons (aa2.2 rfl) .nil)) rfl ?_)
   rintro _ G1 _ hp
   obtain⟨p,rfl⟩:=ajr hp
   refine sa J J<|zE<|aaK<|?_
   exact acV (css:=[_,_]) (.tmp rfl .nil) rfl _ (List.Perm.refl _) (List.Sublist.refl _) ⟨p,rfl,hp,rfl⟩
  refine sR<|sa J J<|zE<|aaj<|aat<|sR<|sm J J<|sy (abV J J) rfl<|sm J J<|syg J J (aaR rfl) rfl<|syg J J (abV J J) rfl<|?_
  refine sy (abr J J) rfl<|sa J J<|zE<|acU rfl<|sR<|sm J J<|sy (abV J J) rfl<|?_
  refine sc (zC J J (PF.fn0 (akh (b:=false)) (.cons (aa2.2 rfl) .nil)) rfl ?_)
  rintro _ G1 _ hp
  obtain⟨p,rfl⟩:=ajr hp
  refine sa J J<|zE<|aaK<|?_
  exact acV (css:=[_,_]) (.tmp rfl .nil) rfl _ (List.Perm.refl _) (List.Sublist.refl _) ⟨p,rfl,hp,rfl⟩
 |bad rt s h1 h2 h=>
  intro G rb sb lo lo2 _ hc
  refine FnM.intro func172 J J ntmps172 rfl ?_
  intro C _ _
  show St C _ [(0, .pointer (some ⟨rb,0,none⟩)),(1, .int .i64 rt)] [⟨rb,[.slice xa ns.length xc, .slice (some ⟨sb,0,none⟩) ns.length ns.length, .int .i64 s.c, .bool s.b],_,false⟩,⟨sb,afG ns.length s.f,_,false⟩] _ _
  refine sR<|sa J J<|zE<|aaj<|aat<|sR<|sm J J<|sy (abV J J) rfl<|sm J J<|?_
  refine ab1 12 rfl (fun hg=>absurd hg (by omega)) (fun hg=>?_)
  refine syg J J (aaR rfl) rfl<|syg J J (abV J J) rfl<|sy (abr J J) rfl<|sa J J<|zE<|?_
  refine aaG rfl (fun hc=>absurd hc (by omega)) (fun _=>?_)
  refine sR<|sm J J<|sy (ach J J) rfl<|sm J J<|?_
  refine ab1 22 rfl (fun hg=>?_) (fun hg=>?_)
  ·refine ss J J J J<|ss J J J J<|ss J J J J<|ss J J J J<|ss J J J J<|ss J J J J<|ss J J J J<|sy (acW J J) rfl<|sm J J<|ss J J J J<|ss J J J J<|?_
   refine ss J J J J<|ss J J J J<|ss J J J J<|ss J J J J<|ss J J J J<|sy (acW J J) rfl<|sa J J<|zE<|acU rfl<|aaj<|?_
   refine aal<|sm J J<|sn J J<|sf J J<|?_
   refine sc (adm J J J (.hd ..) (nb rfl) J J ?_)
   refine zE<|sR<|?_
   refine sc (zC J J (PF.fn0 (akh (b:=false)) (.cons (aa2.2 rfl) .nil)) rfl ?_)
   rintro _ G1 _ hp
   obtain⟨p,rfl⟩:=ajr hp
   refine sa J J<|zE<|aaK<|?_
   exact acV (css:=[_,_]) (.tmp rfl .nil) rfl _ (List.Perm.refl _) (List.Sublist.refl _) ⟨p,rfl,hp,rfl⟩
  refine syg J J (aaR rfl) rfl<|syg J J (aaR rfl) rfl<|syg J J (aaT rfl) rfl<|syg J J (aaS rfl) rfl<|syg J J (aaD J J) rfl<|syg J J (aeM rfl) rfl<|syg J J (ahE J J) rfl<|sy (abr J J) rfl<|sm J J<|?_
  refine ab1 31 rfl (fun hg=>?_) (fun hg=>?_)
  ·refine ss J J J J<|ss J J J J<|ss J J J J<|ss J J J J<|ss J J J J<|ss J J J J<|ss J J J J<|?_
   refine sy (acW J J) rfl<|sa J J<|zE<|acU rfl<|sR<|sm J J<|sn J J<|sf J J<|?_
   refine sc (adm J J J (.hd ..) (nb rfl) J J ?_)
   refine zE<|sR<|?_
   refine sc (zC J J (PF.fn0 (akh (b:=false)) (.cons (aa2.2 rfl) .nil)) rfl ?_)
   rintro _ G1 _ hp
   obtain⟨p,rfl⟩:=ajr hp
   refine sa J J<|zE<|aaK<|?_
   exact acV (css:=[_,_]) (.tmp rfl .nil) rfl _ (List.Perm.refl _) (List.Sublist.refl _) ⟨p,rfl,hp,rfl⟩
  obtain⟨k,rfl,hk,hf⟩: ∃k:Nat,rt=k∧k<ns.length∧s.f k=true:=by
   rcases h with h|h|h
   ·omega
   ·exact absurd h hg
   ·exact h
  refine syg J J (aaR rfl) rfl<|syg J J (aaT rfl) rfl<|syg J J (aaS rfl) rfl<|syg J J (aaD J J) rfl<|syg J J (aaR rfl) rfl<|syg J J (abh J J (by omega) (by omega)) rfl<|?_
  refine syg J J (aaD (v:= .bool true) rfl (by rw[bZ,gR];exact aga hk hf)) rfl<|sy (abr J J) rfl<|sa J J<|zE<|acU rfl<|?_
  refine sR<|sm J J<|sn J J<|sf J J<|?_
  refine sc (adm J J J (.hd ..) (nb rfl) J J ?_)
  refine zE<|sR<|?_
  refine sc (zC J J (PF.fn0 (akh (b:=false)) (.cons (aa2.2 rfl) .nil)) rfl ?_)
  rintro _ G1 _ hp
  obtain⟨p,rfl⟩:=ajr hp
  refine sa J J<|zE<|aaK<|?_
  exact acV (css:=[_,_]) (.tmp rfl .nil) rfl _ (List.Perm.refl _) (List.Sublist.refl _) ⟨p,rfl,hp,rfl⟩
 |line base n s h0 hfb hl=>
  intro G rb sb lo lo2 _ hc
  have hbn:base<ns.length:=(bJ.1 h0).1
  simp only at hc
  obtain⟨z,hzi,hz⟩:=hes.get (i:=base) (d:=n.d) (by rw[cN,h0];rfl)
  obtain⟨x1,x2,x3,rfl,hzg⟩:=aBF hz
  refine FnM.intro func172 J J ntmps172 rfl ?_
  intro C _ _
  show St C _ [(0, .pointer (some ⟨rb,0,none⟩)),(1, .int .i64 (base:Int))] [⟨rb,[.slice xa ns.length xc, .slice (some ⟨sb,0,none⟩) ns.length ns.length, .int .i64 s.c, .bool s.b],_,false⟩,⟨sb,afG ns.length s.f,_,false⟩] _ _
  refine sR<|sa J J<|zE<|aaj<|aat<|sR<|sm J J<|sy (abV J J) rfl<|sm J J<|?_
  refine ab1 12 rfl (fun hg=>absurd hg (by omega)) (fun hg=>?_)
  refine syg J J (aaR rfl) rfl<|syg J J (abV J J) rfl<|sy (abr J J) rfl<|sa J J<|zE<|?_
  refine aaG rfl (fun hc=>absurd hc (by omega)) (fun _=>?_)
  refine sR<|sm J J<|sy (ach J J) rfl<|sm J J<|?_
  refine ab1 22 rfl (fun hg=>absurd hg (by omega)) (fun hg=>?_)
  refine syg J J (aaR rfl) rfl<|syg J J (aaR rfl) rfl<|syg J J (aaT rfl) rfl<|syg J J (aaS rfl) rfl<|syg J J (aaD J J) rfl<|syg J J (aeM rfl) rfl<|syg J J (ahE J J) rfl<|sy (abr J J) rfl<|sm J J<|?_
  refine ab1 31 rfl (fun hg=>absurd hg (by omega)) (fun hg=>?_)
  refine syg J J (aaR rfl) rfl<|syg J J (aaT rfl) rfl<|syg J J (aaS rfl) rfl<|syg J J (aaD J J) rfl<|syg J J (aaR rfl) rfl<|syg J J (abh J J (by omega) (by omega)) rfl<|?_
  refine syg J J (aaD (v:= .bool false) rfl (by rw[bZ,gR];exact aga hbn hfb)) rfl<|sy (abr J J) rfl<|sa J J<|zE<|agJ rfl<|zK<|?_
  refine sR<|sm J J<|sn J J<|sf J J<|awK J J J<|sm J J<|sy (abh J J (by omega) (by omega)) rfl<|?_
  refine sc (ado J J (.tl _ _ _ _ _ _ _ _ (.hd ..)) (by rw[aiS,bZ,gR];exact hbn) J J ?_)
  rw[bZ,gR,amn]
  refine zE<|sR<|sm J J<|sn J J<|sf J J<|awK J J J<|sy (aar J J) rfl<|sn J J<|sf J J<|?_
  refine sc (adm J J J (by repeat (first|exact .hd .. |apply agl.tl)) (nb rfl) J J ?_)
  rw[show(s.c:Int)+1=((s.c+1:Nat):Int) by omega]
  refine zE<|sR<|sm J J<|sn J J<|sf J J<|awK J J J<|sm J J<|sy (ayn (z:=⟨xa,ns.length,xc⟩) hx J J (by omega) (by show(base:Int)<(ns.length:Int);omega)) rfl<|?_
  rw[bZ]
  refine sy (axz (i:=base) hx rfl (by rw[hel];exact hbn) hzi) rfl<|?_
  refine sc (agf rfl ?_)
  intro b5
  refine sc (agC J J J (by repeat (first|exact .hd .. |apply agl.tl)) rfl (nb rfl) J J ?_)
  refine zE<|sR<|sf J J<|slo J J J<|?_
  refine sc (zC J J (PF.fn0 (arE (hs n (aM h0))) (.cons (hzg.up GL.le) .nil)) rfl ?_)
  rintro _ G6 _ hw
  rw[hl] at hw
  obtain⟨n1,d1,p1,n2,d2,p2,n3,d3,p3,rfl,hw⟩:=axq hw
  refine sm J J<|sx J J J<|sx J J J<|?_
  refine sc (agf rfl ?_)
  intro b6
  refine sc (agC J J J (by repeat (first|exact .hd .. |apply agl.tl)) rfl (nb rfl) J J ?_)
  refine sa J J<|zE<|aaj<|sR<|sm J J<|sy (aqc rfl) rfl<|zE<|acU rfl<|?_
  refine sR<|sm J J<|sn J J<|sf J J<|?_
  refine sc (adm J J J (by repeat (first|exact .hd .. |apply agl.tl)) (nb rfl) J J ?_)
  refine zE<|sR<|?_
  refine sc (zC J J (PF.fn0 (akh (b:=false)) (.cons (aa2.2 rfl) .nil)) rfl ?_)
  rintro _ G7 _ hp
  obtain⟨p,rfl⟩:=ajr hp
  refine sa J J<|zE<|aaK<|?_
  exact acV (css:=[_,_]) (.tmp rfl .nil) rfl _ (List.perm_append_comm (l₁:=[_,_]) (l₂:=[_,_])) (.cons_cons _ (.cons_cons _ (kW _))) ⟨p,rfl,hp,rfl⟩
 |node base n l s s2 s3 tx ty h0 hfb hl h1 h2 ih1 ih2=>
  intro G rb sb lo lo2 _ hc
  have hbn:base<ns.length:=(bJ.1 h0).1
  have hm1:=h1.mono
  have hm2:=h2.mono
  simp only at hm1
  obtain⟨z,hzi,hz⟩:=hes.get (i:=base) (d:=n.d) (by rw[cN,h0];rfl)
  obtain⟨x1,x2,x3,rfl,hzg⟩:=aBF hz
  refine FnM.intro func172 J J ntmps172 rfl ?_
  intro C _ _
  show St C _ [(0, .pointer (some ⟨rb,0,none⟩)),(1, .int .i64 (base:Int))] [⟨rb,[.slice xa ns.length xc, .slice (some ⟨sb,0,none⟩) ns.length ns.length, .int .i64 s.c, .bool s.b],_,false⟩,⟨sb,afG ns.length s.f,_,false⟩] _ _
  refine sR<|sa J J<|zE<|aaj<|aat<|sR<|sm J J<|sy (abV J J) rfl<|sm J J<|?_
  refine ab1 12 rfl (fun hg=>absurd hg (by omega)) (fun hg=>?_)
  refine syg J J (aaR rfl) rfl<|syg J J (abV J J) rfl<|sy (abr J J) rfl<|sa J J<|zE<|?_
  refine aaG rfl (fun hc=>absurd hc (by omega)) (fun _=>?_)
  refine sR<|sm J J<|sy (ach J J) rfl<|sm J J<|?_
  refine ab1 22 rfl (fun hg=>absurd hg (by omega)) (fun hg=>?_)
  refine syg J J (aaR rfl) rfl<|syg J J (aaR rfl) rfl<|syg J J (aaT rfl) rfl<|syg J J (aaS rfl) rfl<|syg J J (aaD J J) rfl<|syg J J (aeM rfl) rfl<|syg J J (ahE J J) rfl<|sy (abr J J) rfl<|sm J J<|?_
  refine ab1 31 rfl (fun hg=>absurd hg (by omega)) (fun hg=>?_)
  refine syg J J (aaR rfl) rfl<|syg J J (aaT rfl) rfl<|syg J J (aaS rfl) rfl<|syg J J (aaD J J) rfl<|syg J J (aaR rfl) rfl<|syg J J (abh J J (by omega) (by omega)) rfl<|?_
  refine syg J J (aaD (v:= .bool false) rfl (by rw[bZ,gR];exact aga hbn hfb)) rfl<|sy (abr J J) rfl<|sa J J<|zE<|agJ rfl<|zK<|?_
  refine sR<|sm J J<|sn J J<|sf J J<|awK J J J<|sm J J<|sy (abh J J (by omega) (by omega)) rfl<|?_
  refine sc (ado J J (.tl _ _ _ _ _ _ _ _ (.hd ..)) (by rw[aiS,bZ,gR];exact hbn) J J ?_)
  rw[bZ,gR,amn]
  refine zE<|sR<|sm J J<|sn J J<|sf J J<|awK J J J<|sy (aar J J) rfl<|sn J J<|sf J J<|?_
  refine sc (adm J J J (by repeat (first|exact .hd .. |apply agl.tl)) (nb rfl) J J ?_)
  rw[show(s.c:Int)+1=((s.c+1:Nat):Int) by omega]
  refine zE<|sR<|sm J J<|sn J J<|sf J J<|awK J J J<|sm J J<|sy (ayn (z:=⟨xa,ns.length,xc⟩) hx J J (by omega) (by show(base:Int)<(ns.length:Int);omega)) rfl<|?_
  rw[bZ]
  refine sy (axz (i:=base) hx rfl (by rw[hel];exact hbn) hzi) rfl<|?_
  refine sc (agf rfl ?_)
  intro b5
  refine sc (agC J J J (by repeat (first|exact .hd .. |apply agl.tl)) rfl (nb rfl) J J ?_)
  refine zE<|sR<|sf J J<|slo J J J<|?_
  refine sc (zC J J (PF.fn0 (arE (hs n (aM h0))) (.cons (hzg.up GL.le) .nil)) rfl ?_)
  rintro _ G6 _ hw
  rw[hl] at hw
  obtain⟨n1,d1,p1,n2,d2,p2,n3,d3,p3,rfl,hw'⟩:=axq hw
  replace hw:=hw' l rfl
  refine sm J J<|sx J J J<|sx J J J<|?_
  refine sc (agf rfl ?_)
  intro b6
  refine sc (agC J J J (by repeat (first|exact .hd .. |apply agl.tl)) rfl (nb rfl) J J ?_)
  refine sa J J<|zE<|aaj<|sR<|sm J J<|sy (aqc rfl) rfl<|zE<|agJ rfl<|zK<|?_
  refine sR<|sm J J<|sf J J<|awK J J J<|?_
  have hrp:=ih1 (G:=G6) (rb:=rb) (sb:=sb) (lo:=false) (lo2:=false) (by omega)
  refine sc (aic J J (List.perm_append_comm (l₁:=[_,_]) (l₂:=[_,_])) hrp rfl ?_)
  rintro _ css G7 _ _ ⟨q1,rfl,hp1,rfl⟩
  show St C _ _ [⟨rb,[.slice xa ns.length xc, .slice (some ⟨sb,0,none⟩) ns.length ns.length, .int .i64 s2.c, .bool s2.b],292,false⟩,⟨sb,afG ns.length s2.f,4,false⟩,⟨b6,[.int .i64 n1, .int .i64 d1, .pointer p1, .int .i64 n2, .int .i64 d2, .pointer p2, .int .i64 n3, .int .i64 d3, .pointer p3],188,true⟩,⟨b5,[.bool n.g.na, .slice x1.a x1.n x1.c, .bool n.g.nb, .slice x2.a x2.n x2.c, .bool n.g.nc, .slice x3.a x3.n x3.c, .int .i64 n.l, .int .i64 n.r],221,true⟩] _ _
  refine sa J J<|zE<|aaj<|?_
  refine drS [⟨b6,[.int .i64 n1, .int .i64 d1, .pointer p1, .int .i64 n2, .int .i64 d2, .pointer p2, .int .i64 n3, .int .i64 d3, .pointer p3],188,true⟩,⟨b5,[.bool n.g.na, .slice x1.a x1.n x1.c, .bool n.g.nb, .slice x2.a x2.n x2.c, .bool n.g.nc, .slice x3.a x3.n x3.c, .int .i64 n.l, .int .i64 n.r],221,true⟩] (fun _=>false) [(0,true),(1,true),(2,true),(3,true),(4,true),(5,false),(6,false),(7,true)] follows (by kernel_rfl)<|?_
  refine dL J J J J<|dM J J J<|dM J J J<|dF J J J<|dL1 J J J J<|?_
  have hrp:=ih2 (G:=G7) (rb:=rb) (sb:=sb) (lo:=false) (lo2:=false) hc
  refine dc J J (aic J J (M:=[_,_]) (rest:=[_,_]) (List.Perm.refl _) hrp rfl ?_)
  rintro _ css G8 _ _ ⟨q2,rfl,hp2,rfl⟩
  show St C _ _ [⟨rb,[.slice xa ns.length xc, .slice (some ⟨sb,0,none⟩) ns.length ns.length, .int .i64 s3.c, .bool s3.b],292,false⟩,⟨sb,afG ns.length s3.f,4,false⟩,⟨b6,[.int .i64 n1, .int .i64 d1, .pointer p1, .int .i64 n2, .int .i64 d2, .pointer p2, .int .i64 n3, .int .i64 d3, .pointer p3],188,true⟩,⟨b5,[.bool n.g.na, .slice x1.a x1.n x1.c, .bool n.g.nb, .slice x2.a x2.n x2.c, .bool n.g.nc, .slice x3.a x3.n x3.c, .int .i64 n.l, .int .i64 n.r],221,true⟩] _ _
  refine az8<|?_
  refine dc J J (zC J J (PF.fn0 (avx (l:=l) (x:=tx) (y:=ty)) (.cons (hw.up GL.le) (.cons (hp1.up GL.le) (.cons hp2 .nil)))) rfl ?_)
  rintro _ G9 _ hp
  obtain⟨p,rfl⟩:=ajr hp
  refine az8<|dA J J J<|dn<|aaK<|?_
  exact acV (css:=[_,_]) (.tmp rfl .nil) rfl _ (List.Perm.refl _) (.cons_cons _ (.cons_cons _ (kW _))) ⟨p,rfl,hp,rfl⟩
def rs0:RS:=⟨fun _=>false,0,false⟩
def ofD(ns:List RN)(t:Tr)(s:RS):DV:=if s.b=false∧s.c=ns.length then .tp [eU t,vB true] else .tp [.v (.pointer none),vB false]
def eRT(rt:Int)(ns:List RN):DV:= .ag [vI rt, .sl (ns.map RN.d)]
theorem aFM{ns:List RN}{rt:Int}{t:Tr}{s:RS}(hs: ∀n∈ns,n.g.sm)(hn:ns.length≤65536)(h:RR ns rt rs0 t s)(hc:s.c≤1000000):PF GB prog 108 [eRT rt ns] (ofD ns t s):=by
 intro G vs _ hv
 obtain⟨v0,m,rfl,h0,hm⟩:=aac.1 hv
 rw[aaM] at hm;subst hm
 obtain⟨m,rfl,g⟩:=acn.1 h0
 obtain⟨v1,m,rfl,h1,hm⟩:=aac.1 g
 obtain⟨v2,m,rfl,h2,hm⟩:=aac.1 hm
 rw[aaM] at hm;subst hm
 obtain⟨s0,x,es,rfl,hsl,hes⟩:=adH.1 h2
 rw[aa2.1 h1]
 have hel:=hes.len
 rw[aJ] at hel
 have hlen:=hsl.len
 rw[hel] at hlen
 have hx:aE4 x ns G:=by
  refine⟨es,?_,hes⟩
  rcases afh (s:=8) hsl hes (fun d hd=>by obtain⟨n,_,rfl⟩:=bW.1 hd;exact⟨rfl,rfl⟩) with e|e
  ·exact⟨hsl.len,hsl.cap, .inl e⟩
  ·rw[e] at hsl;exact hsl
 obtain⟨xa,xn,xc⟩:=x
 simp only[] at hlen
 subst hlen
 show Fn _ _ [.agg ⟨[.int .i64 rt, .slice xa ns.length xc]⟩] _ _
 refine Fn.intro func108 J J ntmps108 rfl ?_
 intro C _ _
 refine sR<|?_
 refine sc (auj J J ?_)
 intro b1
 refine sa J J<|sa J J<|zE<|aaj<|sR<|sf J J<|awK J J J<|ac9 J J<|sy (agE J J) rfl<|zE<|?_
 refine aaG rfl (fun hc=>absurd hc (by omega)) (fun _=>?_)
 refine zK<|aaj<|dr (fun _=>false) [(0,true),(1,true),(2,true),(3,true),(4,true),(5,false),(6,true),(7,false),(8,true)] follows (by kernel_rfl)<|dF J J J<|?_
 refine dL1 J J J J<|dF J J J<|dL1 J J J J<|dy rfl (fun _=>aeM rfl) J J<|?_
 refine dc J J (aes J J (by omega) (by omega) (by omega) (by rfl) rfl ?_)
 intro b2
 rw[bZ,aoB]
 refine az8<|dy rfl (fun _=>alp rfl) J J<|?_
 refine dc J J (auj J J ?_)
 intro b3
 refine az8<|dA J J J<|dn<|sR<|sm J J<|sf J J<|awK J J J<|?_
 have hrp:=aAm hx hs (by omega) h (G:=G) (rb:=b3) (sb:=b2) (lo:=true) (lo2:=true) hc
 refine sc (aic J J (M:=[_,_]) (rest:=[_]) (List.Perm.refl _) hrp rfl ?_)
 rintro _ css G4 _ _ ⟨p,rfl,hp,rfl⟩
 show St C _ _ [⟨b3,[.slice xa ns.length xc, .slice (some ⟨b2,0,none⟩) ns.length ns.length, .int .i64 s.c, .bool s.b],292,true⟩,⟨b2,afG ns.length s.f,4,true⟩,⟨b1,[.int .i64 rt, .slice xa ns.length xc],34,true⟩] _ _
 refine sa J J<|zE<|aaj<|aaj<|dr (fun _=>false) [(0,true),(1,true),(2,true),(3,true),(4,true),(5,true),(6,true),(7,true),(8,true),(9,true),(10,true),(11,true),(12,true),(13,true)] follows (by kernel_rfl)<|?_
 obtain⟨sf_,sc_,sb_⟩:=s
 cases sb_
 case true=>
  refine dM J J J<|dy rfl (fun _=>aaT rfl) J J<|dF J J J<|dL1 J J J J<|dM J J J<|?_
  refine dys J J J J J J<|dys J J J J J J<|dys J J J J J J<|dys J J J J J J<|dys J J J J J J<|dys J J J J J J<|?_
  refine dys J J J J J J<|dys J J J J J J<|dy rfl (fun _=>acW J J) J J<|dn<|acU rfl<|?_
  refine sR<|sa J J<|sa J J<|zE<|aaK<|?_
  refine zD (.tmp rfl (.tmp rfl .nil)) ?_
  rw[ofD,if_neg (fun e=>by cases e.1)]
  exact ad1.2 ⟨_,rfl, .cons (aa2.2 rfl) (.cons (aa2.2 rfl) .nil)⟩
 refine dM J J J<|dy rfl (fun _=>aaT rfl) J J<|dF J J J<|dL1 J J J J<|dM J J J<|?_
 refine dyg J J J J (fun _=>aaR rfl) rfl<|dyg J J J J (fun _=>aaT rfl) rfl<|dyg J J J J (fun _=>aaS rfl) rfl<|dyg J J J J (fun _=>aaD J J) rfl<|?_
 refine dyg J J J J (fun _=>aaS rfl) rfl<|dyg J J J J (fun _=>aaD J J) rfl<|dyg J J J J (fun _=>aeM rfl) rfl<|dyg J J J J (fun _=>ahI J J) rfl<|?_
 refine dy rfl (fun _=>abr J J) J J<|dn<|?_
 refine aaG rfl (fun hc=>?_) (fun hc=>?_) -- slot 35
 ·refine sR<|sa J J<|sa J J<|zE<|aaK<|?_
  refine zD (.tmp rfl (.tmp rfl .nil)) ?_
  rw[ofD,if_neg (fun e=>hc (by have:=e.2;simp only at this;omega))]
  exact ad1.2 ⟨_,rfl, .cons (aa2.2 rfl) (.cons (aa2.2 rfl) .nil)⟩
 refine zK<|sR<|sm J J<|sa J J<|sa J J<|zE<|aaK<|?_
 refine zD (.tmp rfl (.tmp rfl .nil)) ?_
 rw[ofD,if_pos ⟨rfl,by have h9:=hc;simp at h9;show sc_=_;omega⟩]
 exact ad1.2 ⟨_,rfl, .cons hp (.cons (aa2.2 rfl) .nil)⟩

def Tr.pre:Tr→List Tr
 | .leaf b=>[.leaf b]
 | .node l x y=> .node l x y::(x.pre++y.pre)
structure Vis (f:FuncId) (c2:List Value) (σ:Type) (step:σ→Tr→σ) (ok:σ→Tr→Prop) (Inv:σ→List Own→Gh→Prop):Prop where
 up: ∀{s B G G'},GLe G G'→Inv s B G→Inv s B G'
 re: ∀{s B G} (fl:Nat→Bool),Inv s B G→Inv s (B.map (relo fl)) G
 go: ∀{s t p B G},ok s t→Inv s B G→Is G (eU t) (.pointer p)→FnO prog f (.pointer p::c2) B G (fun _ B' G'=>Inv (step s t) B' G')
section
variable {P:Program} {C:Ctx} {n:Nat} {fr:Fr} {own:List Own} {G:Gh}
end
def axb{σ:Type}(step:σ→Tr→σ)(ok:σ→Tr→Prop):σ→List Tr→Prop
 |_,[]=>True
 |s,t::ts=>ok s t∧axb step ok (step s t) ts
structure EX (σ:Type) where
 ts:List Tr
 vs:List Value
 rest:List Value
 b:Nat
 cap:Nat
 lo:Bool
 s:σ
 B:List Own
def tsz(t:Tr):Nat:=2*t.size+1
def stk(ts:List Tr):List Tr:=ts.reverse.flatMap Tr.pre
structure EI (A:Gh) {σ:Type} (step:σ→Tr→σ) (ok:σ→Tr→Prop) (Inv:σ→List Own→Gh→Prop) (N:Nat) (fin:σ) (x:EX σ) (G:Gh):Prop where
 rel:awh (fun v t=> ∃p,v= .pointer p∧Is A (eU t) (.pointer p)) x.vs x.ts
 cap:x.vs.length+x.rest.length=x.cap
 inv:Inv x.s x.B G
 mu:(x.ts.map tsz).sum≤N
 okf:axb step ok x.s (stk x.ts)
 fin:(stk x.ts).foldl step x.s=fin
/-! ### Size -/
def szI(nbk:Nat)(s:Nat)(B:List Own)(_:Gh):Prop:= ∃lo,B=[⟨nbk,[.int .i64 s],3,lo⟩]
def szS(s:Nat):Tr→Nat
 | .leaf _=>s
 | .node .. =>s+1
def ahA(n:Nat)(f:Nat→Bool):Nat:=((List.range n).filter fun j=>!f j).length
theorem aq2{n k:Nat}{f:Nat→Bool}(hk:k<n)(hf:f k=false):ahA n (amK f k)+1=ahA n f:=by
 unfold ahA
 have key: ∀l:List Nat,l.Nodup→((l.filter fun j=>!amK f k j).length+(if k∈l then 1 else 0)=(l.filter fun j=>!f j).length):=fun l=>by
  induction l with
  |nil=>intro _;rfl
  |cons a l ih=>
   intro hn
   obtain⟨h1,h2⟩:=List.nodup_cons.1 hn
   have:=ih h2
   by_cases e:a=k
   ·subst e
    simp only[oL,atv,hf,aS,true_or,if_true] at this⊢
    rw[if_neg h1] at this
    simp at this⊢
    omega
   ·have e': ¬k=a:=fun h=>e h.symm
    simp only[oL,aio e,aS,e',false_or] at this⊢
    cases f a<;>simp at this⊢ <;>omega
 have:=key (List.range n) List.nodup_range
 rwa [if_pos (qQ.2 hk)] at this
def rdF(ns:List RN):Nat→Int→RS→Tr×RS
 |0,_,s=>(.leaf false,s)
 |m+1,rt,s=>
  if rt= -1 then(.leaf false,s) else if rt= -2 then(.leaf true,s) else
  match ns[rt.toNat]? with
  |none=>(.leaf false,⟨s.f,s.c,true⟩)
  |some n=>if rt<0∨s.f rt.toNat=true then(.leaf false,⟨s.f,s.c,true⟩) else
   match n.g.ln with
   |none=>(.leaf false,⟨amK s.f rt.toNat,s.c+1,true⟩)
   |some l=>let a:=rdF ns m n.l ⟨amK s.f rt.toNat,s.c+1,s.b⟩;let b:=rdF ns m n.r a.2;(.node l a.1 b.1,b.2)
theorem apI{ns:List RN}: ∀{m:Nat} {rt:Int} {s:RS},ahA ns.length s.f<m→RR ns rt s (rdF ns m rt s).1 (rdF ns m rt s).2∧(rdF ns m rt s).2.c+ahA ns.length (rdF ns m rt s).2.f=s.c+ahA ns.length s.f
 |0,_,_,h=>absurd h (Nat.not_lt_zero _)
 |m+1,rt,s,h=>by
  rw[rdF]
  split
  ·rename_i e;subst e;exact⟨.leaf false s,rfl⟩
  rename_i e1
  split
  ·rename_i e;subst e;exact⟨.leaf true s,rfl⟩
  rename_i e2
  split
  ·rename_i hn
   have:=List.getElem?_eq_none_iff.1 hn
   exact⟨.bad rt s e1 e2 (by omega),rfl⟩
  rename_i n hn
  have hlt:=(bJ.1 hn).1
  split
  ·rename_i hb
   refine⟨.bad rt s e1 e2 ?_,rfl⟩
   rcases hb with hb|hb
   ·exact .inl hb
   ·by_cases h0:rt<0
    ·exact .inl h0
    ·exact .inr (.inr ⟨rt.toNat,by omega,hlt,hb⟩)
  rename_i hb
  obtain⟨k,rfl⟩: ∃k:Nat,rt=k:=⟨rt.toNat,by omega⟩
  rw[bZ] at hn hlt hb⊢
  have hf:s.f k=false:=by
   cases hh:s.f k with
   |false=>rfl
   |true=>exact absurd (Or.inr hh) hb
  have hu:=aq2 hlt hf
  split
  ·rename_i hl;exact⟨.line k n s hn hf hl,by simp only;omega⟩
  rename_i l hl
  have h1:=apI (ns:=ns) (m:=m) (rt:=n.l) (s:=⟨amK s.f k,s.c+1,s.b⟩) (by simp only;omega)
  have hc:=h1.1.mono
  simp only at h1 hc
  have h2:=apI (ns:=ns) (m:=m) (rt:=n.r) (s:=(rdF ns m n.l ⟨amK s.f k,s.c+1,s.b⟩).2) (by omega)
  exact⟨.node k n l s _ _ _ _ hn hf hl h1.1 h2.1,by have:=h1.2;have:=h2.2;dsimp only;omega⟩
def ofQ(ns:List RN)(rt:Int):Option Tr:=
 let r:=rdF ns (ns.length+1) rt rs0
 if r.2.b=false∧r.2.c=ns.length then some r.1 else none
def ofR:Option Tr→DV
 |some t=> .tp [eU t,vB true]
 |none=> .tp [.v (.pointer none),vB false]
theorem ajq(n:Nat)(f:Nat→Bool):ahA n f≤n:=by
 unfold ahA
 refine cJ (lM _ _) ?_
 rw[List.length_range];exact aL _
theorem aET{ns:List RN}{rt:Int}(hs: ∀n∈ns,n.g.sm)(hn:ns.length≤65536):PF GB prog 108 [eRT rt ns] (ofR (ofQ ns rt)):=by
 have h:=apI (ns:=ns) (m:=ns.length+1) (rt:=rt) (s:=rs0) (by have:=ajq ns.length rs0.f;omega)
 have hu:=ajq ns.length rs0.f
 have h0:rs0.c=0:=rfl
 have h2:=aFM (GB:=GB) hs hn h.1 (by have:=h.2;omega)
 unfold ofD at h2
 unfold ofQ
 simp only
 split
 ·rename_i e;rw[if_pos e] at h2;exact h2
 ·rename_i e;rw[if_neg e] at h2;exact h2
end Go.Sx
end
section
namespace Go.Sx
open Go Go.Proofs Go.RowKit Go.Extern.Stop Go.Stop Go.Extern
theorem ava(v:Value)(w:World):(Extern.ReflectliteType.typeOf #[.iface 427 v]).run Tryz.prog w= .ok (.iface 238 (.agg #[.pointer (some ⟨Tryz.prog.globals.size,427,none⟩)])) w:=by kernel_rfl
def aFi:TypeId→Sem Value:=fun t=>do Go.Extern.Rtype.noPackHeld "Comparable" t;pure (.bool (←typeInfo t).comparable)
theorem ann(w:World):((Extern.ReflectliteType.method aFi) #[.agg #[.pointer (some ⟨Tryz.prog.globals.size,427,none⟩)]]).run Tryz.prog w= .ok (.bool true) w:=by kernel_rfl
theorem aAR:(Tryz.prog.info? 427).map (·.comparable)=some true:=by kernel_rfl
theorem aCG:(Tryz.prog.info? 452).map (·.size)=some 1:=by kernel_rfl
theorem agq(n:Nat)(v:Value)(w:World):(Go.method (n+1) 238 v "Comparable").run Tryz.prog w= .ok (349,v) w:=by
 kernel_rfl
theorem ayS(a:Addr)(w:World):Calls Tryz.prog 17 #[.iface 427 (.pointer (some a)), .iface 427 (.pointer (some a))] w fun e w'=>e= .returned (.bool true)∧w'=w:=by
 obtain⟨i,hi,hcmp⟩:=Option.map_eq_some_iff.1 aAR
 obtain⟨j,hj,hjs⟩:=Option.map_eq_some_iff.1 aCG
 have h8:= @run_callFunc_extern Tryz.prog 67 _ Extern.ReflectliteType.typeOf Tryz.func67 (by kernel_rfl) (by kernel_rfl) (by kernel_rfl) (by kernel_rfl)
 have h32:= @run_callFunc_extern Tryz.prog 349 _ (Extern.ReflectliteType.method aFi) Tryz.func349 (by kernel_rfl) (by kernel_rfl) (by kernel_rfl) (by kernel_rfl)
 have tT:=ava
 have cT:=ann
 obtain⟨g,hg⟩: ∃g,g=Tryz.prog.globals.size:=⟨_,rfl⟩
 simp only[←hg] at tT cT
 clear hg
 have mR:=agq
 have heq:=run_eql_iface_ptr_same (P:=Tryz.prog) w a Tryz.underlying29 Tryz.underlying427 hi hcmp hj
 go_enter Tryz.func17,Tryz.ntmps17
 go_wp2
 refine wp_loop_rounds 1 ?_
 rw[rounds_succ]
 go_wp2
 go_ret
 exact⟨rfl,rfl⟩
theorem ay5:adN Tryz.prog 17:=⟨_,Tryz.func17,by kernel_rfl,by kernel_rfl⟩
def ara(a:Addr):DV:= .v (.iface 427 (.pointer (some a)))
theorem au0{GB:Gh}{a:Addr}:PF GB Tryz.prog 17 [ara a,ara a] (.v (.bool true)):=by
 intro G vs _ hv
 obtain⟨v1,m,rfl,h1,hm⟩:=aac.1 hv
 obtain⟨v2,m,rfl,h2,hm⟩:=aac.1 hm
 rw[aaM] at hm;subst hm
 cases aa2.1 h1;cases aa2.1 h2
 exact(Fn.of_calls ay5 (ayS a)).mono fun v G' _ h=>aa2.2 h
end Go.Sx
end
section
namespace Go.Sx
open Go Go.Proofs Tryz
section
variable {GB:Gh} {C:Ctx} {n:Nat} {Q0:Exit→Act→World→Prop} {fr fr':FrX} {own own':OwX} {cf cf':Cf} {vc:List Prop}
def glA(fr:FrX)(cf:Cf):Option Nat:=match opC fr cf with
 |some ⟨_, .load t (.global g),_,_,_,_⟩=>(match abD tt t with
  |some i=>match i.ag with
   |some none=>some g
   |_=>none
  |none=>none)
 |_=>none
theorem gl[fu:Fu]{g:Nat}{v:Value}(h:glA fr cf=some g)(hg:GB g=some [v])(hgo:goA tt n fu.n fr own cf (.d (.v v)) [] []=⟨vc,fr',own',cf'⟩)(k:CfS prog GB C n Q0 fr' own' cf')
  (hv:aah vc:=by first|exact trivial|(simp only[aah];kernel_rfl)|(simp only[aah];omega)):CfS prog GB C n Q0 fr own cf:=by
 unfold glA at h
 split at h<;>try (cases h;done)
 rename_i hh
 split at h<;>try (cases h;done)
 rename_i i hT
 split at h<;>cases h
 rename_i ha
 haveI:=aiQ (ab2 _ _ hT) ha
 refine us (f:= .d (.v v)) hh (OpR.yd fun ρ G ov a w r=>⟨v,(aa2 (G:=G)).2 rfl,?_⟩) hgo hv k
 haveI:aBf G g [v]:=⟨r.gb _ _ hg⟩
 exact afR (b:=g) (off:=0) rfl ghi rfl
theorem anq{d:Nat}{f:FX}{x:DV}(hl:aaw fr d=some f)(e:aj8 f=some x){Φ:Act→World→Prop}(h:SX GB C n (aaw ((d, .d x)::fr)) (aaz own) Φ):SX GB C n (aaw fr) (aaz own) Φ:=abB (g:= .d x) hl (fun _ _ _ k=>aco k e) h
theorem dvE(d:Nat){f:FX}(x:DV){e:Exit}{K:List Kt}(hl:aaw fr d=some f)(e1:aj8 f=some x)(k:CfS prog GB C n Q0 ((d, .d x)::fr) own (.ex e K)):CfS prog GB C n Q0 fr own (.ex e K):=anq hl e1 k
theorem dvC(d:Nat){f:FX}(x:DV){c:Code}{K:List Kt}(hl:aaw fr d=some f)(e1:aj8 f=some x)(k:CfS prog GB C n Q0 ((d, .d x)::fr) own (.code c K)):CfS prog GB C n Q0 fr own (.code c K):=anq hl e1 k
theorem aDU{nm0 nm:Nat}{B1 B2:Option Bk}:aaz (aqZ (aqZ own nm0 B1) nm B2)=upB (upB (aaz own) [(nm0,B1)]) [(nm,B2)]:=by
 funext j;rw[afj];simp only[upB];rw[afj]
theorem awl{nm0 nm k:Nat}{ty0:TypeId}{cs:List FX}{lo:Bool}(hb:aaz own nm0=some (.o ty0 cs lo))(hk:cs[k]? =some .nl)(hne:nm0≠nm){Φ:Act→World→Prop}{ty s:Nat}(hf:acH [nm] none (aaw fr) (aaz own))
  (h:SX GB C n (aaw fr) (aaz (aqZ (aqZ own nm0 (some (.o ty0 (cs.set k (.rw nm)) lo))) nm (some (.b ty s [] true)))) Φ):SX GB C n (aaw fr) (aaz own) Φ:=by
 refine⟨fun ρ G ov a w r=>?_⟩
 obtain⟨f1,f2⟩:=hf nm aZ
 rw[aDU] at h
 refine h.run (fun k=>if k=nm then⟨none,0,0⟩ else ρ k) G ov a w ⟨r.gb,r.h,r.sz,r.df,fun k f e=>?_,fun m B e=>?_,fun m m' B B' e e' hne=>?_⟩
 ·obtain⟨v,h1,h2⟩:=r.fx k f e
  exact⟨v,h1,h2.ren fun m hm=>neN _ fun hc=>f1 k f (by simp) e (by rw[hm,hc])⟩
 ·simp only[upB] at e
  by_cases hm:m=nm
  ·subst hm;simp only[if_true] at e;cases e
   exact⟨[],⟨[],by simp only[if_true];exact .inl ⟨rfl,rfl,rfl⟩, .nil,by simp,fun _ o ho=>by cases ho⟩,fun o ho=>by cases ho⟩
  ·simp only[hm,if_false] at e
   by_cases hm0:m=nm0
   ·subst hm0;simp only[if_true] at e;cases e
    obtain⟨os,h1,h2⟩:=r.bx m _ hb
    have h1':amP (fun k=>if k=nm then⟨none,0,0⟩ else ρ k) G m (.o ty0 cs lo) os:=h1.ren (if_neg hm) fun q hq=>neN _ fun hc=>f2 m _ hm hb (by rw[←hc];exact hq)
    obtain⟨b,ms,k1,k2,k3⟩:=h1'
    refine⟨os,⟨b,ms,k1,k2,?_⟩,h2⟩
    obtain⟨y,e1,e2⟩:=k3.get hk
    have:=k3.set (f:= .rw nm) (y:=y) k (by show y=_;simp only[if_true];exact e2)
    rwa [show ms.set k y=ms by apply kN;intro j;rw[oX];split<;>(try rfl);rename_i hj;subst hj;split<;>simp_all] at this
   ·simp only[hm0,if_false] at e
    obtain⟨os,h1,h2⟩:=r.bx m B e
    exact⟨os,h1.ren (if_neg hm) fun q hq=>neN _ fun hc=>f2 m B hm e (by rw[←hc];exact hq),h2⟩
 ·intro b hbb hb'
  have key: ∀q B,upB (upB (aaz own) [(nm0,some (.o ty0 (cs.set k (.rw nm)) lo))]) [(nm,some (.b ty s [] true))] q=some B→q≠nm→ ∃B0,aaz own q=some B0:=fun q B eq hq=>by
   simp only[upB,hq,if_false] at eq
   by_cases hq0:q=nm0
   ·subst hq0;exact⟨_,hb⟩
   ·simp only[hq0,if_false] at eq;exact⟨_,eq⟩
  by_cases hm:m=nm
  ·simp[hm] at hbb
  ·by_cases hm':m'=nm
   ·simp[hm'] at hb'
   ·obtain⟨B0,g0⟩:=key m B e hm
    obtain⟨B1,g1⟩:=key m' B' e' hm'
    simp only[hm,hm',if_false] at hbb hb'
    exact r.dj m m' B0 B1 g0 g1 hne b hbb hb'
theorem nro(nm0 k nm ty s:Nat){ty0:TypeId}{cs:List FX}{lo:Bool}{own1:OwX}{c:Code}{K:List Kt}(hb:aaz own nm0=some (.o ty0 cs lo))(hk:cs[k]? =some .nl)(hf:ahG [nm] none fr own=true)(hne:Nat.beq nm0 nm=false)
  (ho:aqZ (aqZ own nm0 (some (.o ty0 (cs.set k (.rw nm)) lo))) nm (some (.b ty s [] true))=own1)(h:CfS prog GB C n Q0 fr own1 (.code c K)):CfS prog GB C n Q0 fr own (.code c K):=by
 subst ho
 exact awl hb hk (fun e=>by subst e;rw[nT] at hne;cases hne) (afe hf) h
theorem aj2{ρ:NE}{G:Gh}: ∀{a b:List FX} {m:List Value},adu ρ G (a++b) m→ ∃m1 m2,m=m1++m2∧adu ρ G a m1∧adu ρ G b m2
 |[],b,m,h=>⟨[],m,rfl,rfl,h⟩
 |f::t,b,m,⟨y,n,e,h1,h2⟩=>by
  obtain⟨m1,m2,rfl,k1,k2⟩:=aj2 h2
  exact⟨y::m1,m2,e,⟨y,m1,rfl,h1,k1⟩,k2⟩
def bzA(fr:FrX)(cf:Cf):Option (Nat×List FX):=match opC fr cf with
 |some ⟨some d, .build t ⟨[]⟩,_,_,_,_⟩=>match abD tt t with
  |some ⟨.st _,_,some zx,_⟩=>some (d,zx)
  |_=>none
 |_=>none
end
structure EG (GB:Gh) (ai al ae:Addr):Prop where
 ErrInvalid:GB 3=some [.iface 427 (.pointer (some ai))]
 ErrLimit:GB 4=some [.iface 427 (.pointer (some al))]
structure EGE (GB:Gh) (ai al ae:Addr):Prop extends EG GB ai al ae where
 ErrEmpty:GB 2=some [.iface 427 (.pointer (some ae))]
structure Tr.gd (t:Tr):Prop where
 lb:t.all LB
 ok:t.all LnQ.ok
theorem Tr.compl_all(p:LnQ→Prop): ∀t:Tr,t.all p→t.compl.all p
 | .leaf _,h=>h
 | .node l x y,⟨h0,h1,h2⟩=>⟨h0,x.compl_all p h1,y.compl_all p h2⟩
theorem Tr.compl_depth: ∀t:Tr,t.compl.depth=t.depth
 | .leaf _=>rfl
 | .node l x y=>by simp only[Tr.compl,Tr.depth,x.compl_depth,y.compl_depth]
theorem Tr.chooseQ_all(p:LnQ→Prop)(op:Int)(b:Bool)(t:Tr)(c:aag)(h:t.all p):(t.chooseQ op b c).all p:=by
 have:=t.restrict_all p c h
 unfold chooseQ
 split
 ·split
  ·trivial
  ·exact this
 ·split
  ·trivial
  ·split
   ·exact(t.restrict c).compl_all p this
   ·exact this
theorem Tr.mergeQ_all(p:LnQ→Prop)(op:Int){u:Tr}(hu:u.all p): ∀(t:Tr) (c:aag),t.all p→(t.mergeQ op u c).all p
 | .leaf b,c,_=>u.chooseQ_all p op b c hu
 | .node l x y,c,⟨h0,h1,h2⟩=>by
  rw[Tr.mergeQ]
  split
  ·exact Tr.mergeQ_all p op hu x c h1
  ·split
   ·exact Tr.mergeQ_all p op hu y c h2
   ·rcases Tr.joinQ_cases l (x.mergeQ op u (aaN c l)) (y.mergeQ op u (aaN c l.rev)) with⟨h,_⟩|⟨h,_⟩
    ·rw[h];exact Tr.mergeQ_all p op hu x _ h1
    ·rw[h];exact⟨h0,Tr.mergeQ_all p op hu x _ h1,Tr.mergeQ_all p op hu y _ h2⟩
theorem Tr.depth_size: ∀t:Tr,t.depth≤t.size
 | .leaf _=>aL _
 | .node l x y=>by
  have h1:=x.depth_size
  have h2:=y.depth_size
  simp only[Tr.depth,Tr.size]
  omega
def aFf(op:Int)(a b:Tr):Option Tr:=if 1024<a.depth+b.depth then none else if 65536<(a.mergeQ op b []).size then none else some (a.mergeQ op b [])
def aGS(al:Addr):Option Tr→DV
 |some t=> .tp [eU t, .v .nilIface]
 |none=> .tp [.v (.pointer none),ara al]
def aE0(op:Int):Tr→List Tr→Option Tr
 |t,[]=>some t
 |t,u::us=>match aFf op t u with
  |none=>none
  |some r=>aE0 op r us
theorem anW{t:Tr}(h:t.gd)(c:aag):(t.restrict c).gd:=⟨t.restrict_all LB c h.lb,t.restrict_all LnQ.ok c h.ok⟩
theorem aEP{GB:Gh}{ns:List RN}{rt:Int}{t:Tr}(hs: ∀n∈ns,n.g.sm)(hn:ns.length≤65536)(h:ofQ ns rt=some t):PF GB prog 108 [eRT rt ns] (.tp [eU t,vB true]):=by
 have:=aET (GB:=GB) (rt:=rt) hs hn;rw[h] at this;exact this
def trZ:DV:= .ag [vI 0, .sl []]
def aGE:Tr ⊕ Addr→DV
 | .inl t=> .tp [eA t, .v .nilIface]
 | .inr e=> .tp [trZ,ara e]
def aGc(ai:Addr):Option Tr→Tr ⊕ Addr
 |some t=> .inl t.compl
 |none=> .inr ai
def aFc(al:Addr):Option Tr→Tr ⊕ Addr
 |some t=> .inl t
 |none=> .inr al
def aE1(ai al:Addr)(op:Int):Option Tr→Option Tr→Tr ⊕ Addr
 |some a,some b=>if 1≤op∧op≤4 then aFc al (aFf op a b) else .inr ai
 |_,_=> .inr ai
theorem avY{t:Tr}(h:t.gd):t.compl.gd:=⟨t.compl_all LB h.lb,t.compl_all LnQ.ok h.ok⟩
abbrev TIn:=Int×List RN
def TIn.d(x:TIn):DV:=eRT x.1 x.2
def TIn.q(x:TIn):Option Tr:=ofQ x.2 x.1
def ofP:Option Tr→DV
 |some t=>eU t
 |none=> .v (.pointer none)
def aD1(op:Int)(ts:List TIn):Bool:=decide (1≤op∧op≤4)&&ts.all fun x=>x.q.isSome
def aGy(ai al ae:Addr)(op:Int)(ts:List TIn):Tr ⊕ Addr:=
 if aD1 op ts then(match ts.filterMap TIn.q with
  |[]=> .inr ae
  |a::us=>if 1024<a.depth then .inr al else aFc al (aE0 op (a.restrict []) us)) else .inr ai
def aGF(ts:List TIn):List DV:=ts.map fun x=>ofP x.q
structure TIn.ok (x:TIn):Prop where
 s: ∀n∈x.2,n.g.sm
 n:x.2.length≤65536
def Tr.val:Tr→PtQ→Bool
 | .leaf b,_=>b
 | .node l x y,p=>if 0<l.value p then x.val p else y.val p
def Tr.lns:Tr→List LnQ
 | .leaf _=>[]
 | .node l x y=>l::(x.lns++y.lns)
theorem aeY{P:LnQ→Prop}: ∀{t:Tr},t.all P↔ ∀l∈t.lns,P l
 | .leaf _=>⟨fun _ l hl=>(by cases hl),fun _=>trivial⟩
 | .node l x y=>by
  show(P l∧x.all P∧y.all P)↔ ∀m∈l::(x.lns++y.lns),P m
  rw[aeY (t:=x),aeY (t:=y)]
  constructor
  ·rintro ⟨h0,h1,h2⟩ m hm
   rcases aS.1 hm with rfl|hm
   ·exact h0
   ·rcases bS.1 hm with hm|hm
    ·exact h1 m hm
    ·exact h2 m hm
  ·intro h
   exact⟨h l aZ,fun m hm=>h m (aK _ (cX _ hm)),fun m hm=>h m (aK _ (cW _ hm))⟩
theorem axw{t:Tr}(h:t.all LnQ.ok): ∀l∈t.lns,l.ok:=aeY.1 h
def Off(L:List LnQ)(p:PtQ):Prop:= ∀l∈L,l.value p≠0
theorem Off.sub{L M:List LnQ}{p:PtQ}(h:Off L p)(k: ∀l∈M,l∈L):Off M p:=fun l hl=>h l (k l hl)
theorem Off.l{l:LnQ}{x y:Tr}{p:PtQ}(h:Off (Tr.node l x y).lns p):l.value p≠0:=h l aZ
theorem Off.x{l:LnQ}{x y:Tr}{p:PtQ}(h:Off (Tr.node l x y).lns p):Off x.lns p:=h.sub fun m hm=>aK _ (cX _ hm)
theorem Off.y{l:LnQ}{x y:Tr}{p:PtQ}(h:Off (Tr.node l x y).lns p):Off y.lns p:=h.sub fun m hm=>aK _ (cW _ hm)
def opB(op:Int)(a b:Bool):Bool:=if op=1 then a||b else if op=2 then a&&b else if op=3 then a&&!b else a !=b
theorem Tr.val_join(l:LnQ)(X Y:Tr)(p:PtQ):(Tr.joinQ l X Y).val p=(Tr.node l X Y).val p:=by
 unfold Tr.joinQ
 split
 ·rename_i h
  cases X<;>cases Y<;>simp[Tr.isLeaf,Tr.code] at h
  subst h
  simp[Tr.val]
 ·rfl
theorem Tr.val_pos{l:LnQ}{x y:Tr}{p:PtQ}(h:0<l.value p):(Tr.node l x y).val p=x.val p:=by rw[Tr.val,if_pos h]
theorem Tr.val_neg{l:LnQ}{x y:Tr}{p:PtQ}(h: ¬0<l.value p):(Tr.node l x y).val p=y.val p:=by rw[Tr.val,if_neg h]
theorem awd{c:aag}{l:LnQ}(hc:aba c)(hl:l.ok)(hb:abo c l.rev=false){p:PtQ}(hp:InD c p)(h0:l.value p≠0):0<l.value p:=by
 by_cases h:0<l.value p
 ·exact h
 ·exfalso
  have:abo c l.rev=true:=(adP hc hl.rev).2 ⟨p,hp,by rw[aaW];grind⟩
  rw[hb] at this;cases this
theorem au8{c:aag}{l:LnQ}(hc:aba c)(hl:l.ok)(hb:abo c l=false){p:PtQ}(hp:InD c p): ¬0<l.value p:=fun h=>by
 have:abo c l=true:=(adP hc hl).2 ⟨p,hp,h⟩
 rw[hb] at this;cases this
theorem Tr.val_restrict: ∀(t:Tr) (c:aag) (p:PtQ),t.all LnQ.ok→aba c→InD c p→Off t.lns p→(t.restrict c).val p=t.val p
 | .leaf _,_,_,_,_,_,_=>rfl
 | .node l x y,c,p,⟨hl,hx,hy⟩,hc,hp,ho=>by
  cases hb:abo c l.rev with
  |false=>rw[Tr.restrict_A _ _ hb,x.val_restrict c p hx hc hp ho.x,Tr.val_pos (awd hc hl hb hp ho.l)]
  |true=>
   cases hb2:abo c l with
   |false=>rw[Tr.restrict_B _ _ hb hb2,y.val_restrict c p hy hc hp ho.y,Tr.val_neg (au8 hc hl hb2 hp)]
   |true=>
    rw[Tr.restrict_C _ _ hb hb2,Tr.val_join]
    obtain⟨g1,i1⟩:=abl hc hl hb2
    obtain⟨g2,i2⟩:=abl hc hl.rev hb
    by_cases h:0<l.value p
    ·rw[Tr.val_pos h,Tr.val_pos h,x.val_restrict _ p hx g1 ((i1 p).2 ⟨hp,h⟩) ho.x]
    ·rw[Tr.val_neg h,Tr.val_neg h,y.val_restrict _ p hy g2 ((i2 p).2 ⟨hp,by rw[aaW];have:=ho.l;grind⟩) ho.y]
theorem apa: ∀(L:List LnQ) (u:PtQ) (p:PtQ),Off L p→ ∃e:Rat,0<e∧ ∀d,0≤d→d≤e→Off L (acu p u d)
 |[],u,p,_=>⟨1,by decide,fun d _ _ l hl=>by cases hl⟩
 |l::L,u,p,h=>by
  obtain⟨e,he,hm⟩:=apa L u p (h.sub fun m hm=>aK _ hm)
  have h0:=h l aZ
  have key: ∃f:Rat,0<f∧ ∀d,0≤d→d≤f→l.value (acu p u d)≠0:=by
   by_cases hk:l.nor.dot u=0
   ·exact⟨1,by decide,fun d _ _=>by rw[abL,hk];grind⟩
   ·generalize hA:l.value p=A at*
    generalize hB:l.nor.dot u=B at*
    rcases acO A with h|h|h
    ·exact absurd h h0
    ·rcases acO B with k|k|k
     ·exact absurd k hk
     ·exact⟨1,by decide,fun d hd _=>by rw[abL,hA,hB];have:=aad hd (dR k);grind⟩
     ·refine⟨A/(-B)/2,?_,fun d hd h2=>?_⟩
      ·have:0<A/(-B):=by
        have e1:A/(-B)*(-B)=A:=by grind
        exact(aau (k:= -B) (by grind)).1 (by rw[e1];exact h)
       grind
      ·rw[abL,hA,hB]
       have e1:A/(-B)*(-B)=A:=by grind
       generalize A/(-B)=q at*
       have h4:=aad (a:=q/2-d) (b:= -B) (by grind) (by grind)
       grind
    ·rcases acO B with k|k|k
     ·exact absurd k hk
     ·refine⟨(-A)/B/2,?_,fun d hd h2=>?_⟩
      ·have:0<(-A)/B:=by
        have e1:(-A)/B*B= -A:=by grind
        exact(aau (k:=B) k).1 (by rw[e1];grind)
       grind
      ·rw[abL,hA,hB]
       have e1:(-A)/B*B= -A:=by grind
       generalize (-A)/B=q at*
       have h4:=aad (a:=q/2-d) (b:=B) (by grind) (by grind)
       grind
     ·exact⟨1,by decide,fun d hd _=>by rw[abL,hA,hB];have:=aad hd (b:= -B) (by grind);grind⟩
  obtain⟨f,hf,hk⟩:=key
  refine⟨if e≤f then e else f,by split<;>assumption,fun d hd hde m hm'=>?_⟩
  have h1:d≤e∧d≤f:=by split at hde<;>grind
  rcases aS.1 hm' with rfl|hm'
  ·exact hk d hd h1.2
  ·exact hm d hd h1.1 m hm'
theorem aoW{c:aag}{p:PtQ}(hp:InD c p): ∀(L:List LnQ),(∀l∈L,l.ok)→ ∃q,InD c q∧Off L q
 |[],_=>⟨p,hp,fun l hl=>by cases hl⟩
 |l::L,h=>by
  obtain⟨q,hq,ho⟩:=aoW hp L fun m hm=>h m (aK _ hm)
  by_cases h0:l.value q=0
  ·have hn:=afJ (h l aZ).ne
   obtain⟨e,he,hm⟩:=hq.open l.nor
   obtain⟨f,hf,hk⟩:=apa L l.nor q ho
   refine⟨acu q l.nor (if e≤f then e else f),hm _ (by split<;>grind) (by split<;>grind),fun m hm'=>?_⟩
   rcases aS.1 hm' with rfl|hm'
   ·rw[abL,h0]
    have:=aao (a:=if e≤f then e else f) (b:=m.nor.dot m.nor) (by split<;>assumption) hn
    grind
   ·exact hk _ (by split<;>grind) (by split<;>grind) m hm'
  ·exact⟨q,hq,fun m hm=>by rcases aS.1 hm with rfl|hm;exact h0;exact ho m hm⟩
theorem aCI{c:aag}(hc:aba c)(L:List LnQ)(h: ∀l∈L,l.ok): ∃q,InD c q∧Off L q:=by
 obtain⟨p,hp⟩:=hc.ne
 exact aoW hp L h
def Tr.Red:Tr→aag→Prop
 | .leaf _,_=>True
 | .node l x y,c=>abo c l=true∧abo c l.rev=true∧x.Red (aaN c l)∧y.Red (aaN c l.rev)∧ ¬(x.isLeaf=true∧y.isLeaf=true∧x.code=y.code)
theorem Tr.red_leaf{t:Tr}(h:t.isLeaf=true)(c:aag):t.Red c:=by
 cases t with
 |leaf b=>trivial
 |node l x y=>cases h
theorem Tr.join_red{l:LnQ}{x y:Tr}{c:aag}(h1:abo c l=true)(h2:abo c l.rev=true)(hx:x.Red (aaN c l))(hy:y.Red (aaN c l.rev)):(Tr.joinQ l x y).Red c:=by
 rcases Tr.joinQ_cases l x y with⟨e,h⟩|⟨e,h⟩
 ·rw[e];exact Tr.red_leaf h c
 ·rw[e];exact⟨h1,h2,hx,hy,h⟩
theorem Tr.restrict_red: ∀(t:Tr) (c:aag),(t.restrict c).Red c
 | .leaf _,_=>trivial
 | .node l x y,c=>by
  cases hb:abo c l.rev with
  |false=>rw[Tr.restrict_A _ _ hb];exact x.restrict_red c
  |true=>
   cases hb2:abo c l with
   |false=>rw[Tr.restrict_B _ _ hb hb2];exact y.restrict_red c
   |true=>rw[Tr.restrict_C _ _ hb hb2];exact Tr.join_red hb2 hb (x.restrict_red _) (y.restrict_red _)
theorem Tr.compl_leaf{t:Tr}:t.compl.isLeaf=t.isLeaf:=by cases t<;>rfl
theorem Tr.compl_code{t:Tr}(h:t.isLeaf=true):t.compl.code=!t.code:=by
 cases t with
 |leaf b=>rfl
 |node l x y=>cases h
theorem Tr.compl_red: ∀{t:Tr} {c:aag},t.Red c→t.compl.Red c
 | .leaf _,_,_=>trivial
 | .node l x y,c,⟨h1,h2,h3,h4,h5⟩=>by
  refine⟨h1,h2,Tr.compl_red h3,Tr.compl_red h4,fun⟨a,b,e⟩=>?_⟩
  rw[Tr.compl_leaf] at a b
  rw[Tr.compl_code a,Tr.compl_code b] at e
  exact h5 ⟨a,b,by simpa using e⟩
theorem Tr.red_restrict: ∀{t:Tr} {c:aag},t.Red c→t.restrict c=t
 | .leaf _,_,_=>rfl
 | .node l x y,c,⟨h1,h2,h3,h4,h5⟩=>by
  rw[Tr.restrict_C _ _ h2 h1,Tr.red_restrict h3,Tr.red_restrict h4]
  rcases Tr.joinQ_cases l x y with⟨e,h⟩|⟨e,h⟩
  ·exfalso
   unfold Tr.joinQ at e
   split at e
   ·rename_i k;simp at k;exact h5 k
   ·cases x with
    |leaf b=>cases e
    |node a b d=>cases h
  ·exact e
def LnQ.same(l m:LnQ):Prop:=m=l∨m=l.rev
instance (l m:LnQ):Decidable (l.same m):=inferInstanceAs (Decidable (_∨_))
def Tr.cnt(l:LnQ):Tr→Nat
 | .leaf _=>0
 | .node m x y=>(if l.same m then 1 else 0)+(x.cnt l+y.cnt l)
theorem aib{l m:LnQ}(h:l.same m){p:PtQ}(hp:l.value p=0):m.value p=0:=by
 rcases h with rfl|rfl
 ·exact hp
 ·rw[aaW,hp];rfl
def aAA(l:LnQ)(c:aag):Prop:= ∃p,InD c p∧l.value p=0
theorem Tr.cnt_zero{l:LnQ}: ∀{t:Tr} {c:aag},t.Red c→t.all LnQ.ok→aba c→ ¬aAA l c→t.cnt l=0
 | .leaf _,_,_,_,_,_=>rfl
 | .node m x y,c,⟨h1,h2,h3,h4,_⟩,⟨hm,hx,hy⟩,hc,hn=>by
  obtain⟨g1,i1⟩:=abl hc hm h1
  obtain⟨g2,i2⟩:=abl hc hm.rev h2
  have e1:=Tr.cnt_zero (l:=l) h3 hx g1 (fun⟨p,hp,h0⟩=>hn ⟨p,((i1 p).1 hp).1,h0⟩)
  have e2:=Tr.cnt_zero (l:=l) h4 hy g2 (fun⟨p,hp,h0⟩=>hn ⟨p,((i2 p).1 hp).1,h0⟩)
  rw[Tr.cnt,e1,e2]
  by_cases hs:l.same m
  ·exfalso
   -- m crosses the cell
   obtain⟨p,hp,k1⟩:=(adP hc hm).1 h1
   obtain⟨q,hq,k2⟩:=(adP hc hm.rev).1 h2
   rw[aaW] at k2
   generalize hA:m.value p=A at*
   generalize hB:m.value q=B at*
   have hAB:0<A-B:=by grind
   have e:A/(A-B)*(A-B)=A:=by grind
   generalize A/(A-B)=r at*
   have r0:0≤r:=(aan hAB).1 (by rw[e];exact dR k1)
   have r1:r≤1:=by
    have:=(aan (s:=1-r) hAB).1 (by grind)
    grind
   have hz:=hp.seg hq r0 r1
   have hv:m.value (abg p q r)=0:=by rw[acB,hA,hB];grind
   refine hn ⟨_,hz,?_⟩
   rcases hs with rfl|rfl
   ·exact hv
   ·rw[aaW] at hv;grind
  ·rw[if_neg hs]
def inB(c:aag)(p:PtQ):Bool:=c.all fun s=>decide (0<s.l.value p)
theorem aeK{c:aag}{p:PtQ}:inB c p=true↔InD c p:=by
 unfold inB InD;rw[eX];simp
def axS(P:List PtQ)(l:LnQ)(t:Tr):Prop:=t.all fun m=>l.same m∨ ∀p,l.value p=0→m.value p=0→p∈P
theorem ail{α:Type}{p q r:α→Bool}: ∀(P:List α),(∀x∈P,q x=true→p x=true)→(∀x∈P,r x=true→p x=true)→(∀x∈P,¬(q x=true∧r x=true))→P.countP q+P.countP r≤P.countP p
 |[],_,_,_=>aL _
 |x::P,h1,h2,h3=>by
  have ih:=ail (p:=p) (q:=q) (r:=r) P (fun y hy=>h1 y (aK _ hy)) (fun y hy=>h2 y (aK _ hy)) (fun y hy=>h3 y (aK _ hy))
  have a:=h1 x aZ
  have b:=h2 x aZ
  have c:=h3 x aZ
  rw[nK,nK,nK]
  cases hq:q x<;>cases hr:r x<;>simp_all<;>omega
theorem ajb{α:Type}{p q r:α→Bool}: ∀(P:List α),(∀x∈P,q x=true→p x=true)→(∀x∈P,r x=true→p x=true)→(∀x∈P,¬(q x=true∧r x=true))→(∃x∈P,p x=true∧q x=false∧r x=false)→P.countP q+P.countP r+1≤P.countP p
 |[],_,_,_,⟨x,hx,_⟩=>by cases hx
 |x::P,h1,h2,h3,h4=>by
  have i2:=ail (p:=p) (q:=q) (r:=r) P (fun y hy=>h1 y (aK _ hy)) (fun y hy=>h2 y (aK _ hy)) (fun y hy=>h3 y (aK _ hy))
  have a:=h1 x aZ
  have b:=h2 x aZ
  have c:=h3 x aZ
  rw[nK,nK,nK]
  obtain⟨z,hz,k1,k2,k3⟩:=h4
  rcases aS.1 hz with rfl|hz
  ·simp only[k1,k2,k3];simp;omega
  ·have ih:=ajb (p:=p) (q:=q) (r:=r) P (fun y hy=>h1 y (aK _ hy)) (fun y hy=>h2 y (aK _ hy)) (fun y hy=>h3 y (aK _ hy)) ⟨z,hz,k1,k2,k3⟩
   cases hq:q x<;>cases hr:r x<;>simp_all<;>omega
theorem Tr.cnt_le{l:LnQ}(hl:l.ok){P:List PtQ}: ∀{t:Tr} {c:aag},t.Red c→t.all LnQ.ok→aba c→axS P l t→t.cnt l≤1+P.countP (inB c)
 | .leaf _,_,_,_,_,_=>aR _
 | .node m x y,c,⟨h1,h2,h3,h4,_⟩,⟨hm,hx,hy⟩,hc,⟨v0,v1,v2⟩=>by
  obtain⟨g1,i1⟩:=abl hc hm h1
  obtain⟨g2,i2⟩:=abl hc hm.rev h2
  have q1: ∀p∈P,inB (aaN c m) p=true→inB c p=true:=fun p _ h=>aeK.2 ((i1 p).1 (aeK.1 h)).1
  have q2: ∀p∈P,inB (aaN c m.rev) p=true→inB c p=true:=fun p _ h=>aeK.2 ((i2 p).1 (aeK.1 h)).1
  have q3: ∀p∈P,¬(inB (aaN c m) p=true∧inB (aaN c m.rev) p=true):=fun p _ ⟨a,b⟩=>by
   have a:=((i1 p).1 (aeK.1 a)).2
   have b:=((i2 p).1 (aeK.1 b)).2
   rw[aaW] at b;grind
  have ct:=ail P q1 q2 q3
  rw[Tr.cnt]
  by_cases hs:l.same m
  ·have e1:=Tr.cnt_zero (l:=l) h3 hx g1 (fun⟨p,hp,h0⟩=>by have:=((i1 p).1 hp).2;rw[aib hs h0] at this;grind)
   have e2:=Tr.cnt_zero (l:=l) h4 hy g2 (fun⟨p,hp,h0⟩=>by have:=((i2 p).1 hp).2;rw[aaW,aib hs h0] at this;grind)
   rw[e1,e2,if_pos hs];omega
  ·rw[if_neg hs]
   have b1:=Tr.cnt_le hl h3 hx g1 v1
   have b2:=Tr.cnt_le hl h4 hy g2 v2
   by_cases w1:aAA l (aaN c m)
   ·by_cases w2:aAA l (aaN c m.rev)
    ·-- the crossing lies in the cell
     obtain⟨p,hp,k1⟩:=w1
     obtain⟨q,hq,k2⟩:=w2
     obtain⟨hp,ap⟩:=(i1 p).1 hp
     obtain⟨hq,aq⟩:=(i2 q).1 hq
     rw[aaW] at aq
     generalize hA:m.value p=A at*
     generalize hB:m.value q=B at*
     have hAB:0<A-B:=by grind
     have e:A/(A-B)*(A-B)=A:=by grind
     generalize A/(A-B)=r at*
     have r0:0≤r:=(aan hAB).1 (by rw[e];exact dR ap)
     have r1:r≤1:=by
      have:=(aan (s:=1-r) hAB).1 (by grind)
      grind
     have hz:=hp.seg hq r0 r1
     have hv:m.value (abg p q r)=0:=by rw[acB,hA,hB];grind
     have hv2:l.value (abg p q r)=0:=by rw[acB,k1,k2];grind
     have hmem:abg p q r∈P:=by
      rcases v0 with h|h
      ·exact absurd h hs
      ·exact h _ hv2 hv
     have c3:=ajb P q1 q2 q3 ⟨_,hmem,aeK.2 hz,by
      rw[←lU,aeK,i1];rintro ⟨_,h⟩;rw[hv] at h;grind,by
      rw[←lU,aeK,i2];rintro ⟨_,h⟩;rw[aaW,hv] at h;grind⟩
     omega
    ·rw[Tr.cnt_zero h4 hy g2 w2];omega
   ·rw[Tr.cnt_zero h3 hx g1 w1];omega
theorem ate(l:LnQ):l.rev.rev=l:=by cases l;simp[LnQ.rev]
theorem LnQ.same.symm{l m:LnQ}(h:l.same m):m.same l:=by
 rcases h with rfl|rfl
 ·exact .inl rfl
 ·exact .inr (ate l).symm
theorem LnQ.same.trans{l m n:LnQ}(h:l.same m)(k:m.same n):l.same n:=by
 rcases h with rfl|rfl
 ·exact k
 ·rcases k with rfl|rfl
  ·exact .inr rfl
  ·exact .inl (ate l)
def adW(K:List LnQ)(t:Tr):Prop:=t.all fun n=> ∃m∈K,m.same n
def apu(l m:LnQ):PtQ:=l.at (-(l.cutC m/l.cutK m))
theorem an0{l m:LnQ}(hl:l.ok)(hm:m.ok){p:PtQ}(h1:l.value p=0)(h2:m.value p=0):l.same m∨p=apu l m:=by
 obtain⟨t,rfl⟩:=awU hl.ne h1
 rw[ab7] at h2
 by_cases hk:l.cutK m=0
 ·left
  have hc:l.cutC m=0:=by rw[hk] at h2;grind
  rcases afd hm hl (fun s=>by rw[ab7,hk,hc];grind) with h|h
  ·exact .inl h
  ·exact .inr h
 ·right
  unfold apu
  congr 1
  grind
theorem adW.covers{K:List LnQ}(hK: ∀m∈K,m.ok){l:LnQ}(hl:l.ok): ∀{t:Tr},adW K t→axS (K.map (apu l)) l t
 | .leaf _,_=>trivial
 | .node n x y,⟨⟨m,hm,hs⟩,h1,h2⟩=>by
  refine⟨?_,adW.covers hK hl h1,adW.covers hK hl h2⟩
  by_cases h:l.same n
  ·exact .inl h
  ·right
   intro p k1 k2
   rcases an0 hl (hK m hm) k1 (aib hs.symm k2) with h3|h3
   ·exact absurd (h3.trans hs) h
   ·rw[h3];exact gS hm
def Kc(t:Tr):List LnQ→Nat
 |[]=>0
 |l::K=>t.cnt l+Kc t K
def Ks(n:LnQ):List LnQ→Nat
 |[]=>0
 |l::K=>(if l.same n then 1 else 0)+Ks n K
theorem aq9{n:LnQ}{x y:Tr}: ∀K,Kc (.node n x y) K=Ks n K+(Kc x K+Kc y K)
 |[]=>rfl
 |l::K=>by
  have:=aq9 (n:=n) (x:=x) (y:=y) K
  show(Tr.node n x y).cnt l+Kc (.node n x y) K=_
  rw[this,Tr.cnt]
  show _=(if l.same n then 1 else 0)+Ks n K+(x.cnt l+Kc x K+(y.cnt l+Kc y K))
  omega
theorem aw1{n m:LnQ}(hs:m.same n): ∀{K:List LnQ},m∈K→1≤Ks n K
 |[],h=>by cases h
 |l::K,h=>by
  show 1≤(if l.same n then 1 else 0)+Ks n K
  rcases aS.1 h with rfl|h
  ·rw[if_pos hs];omega
  ·have:=aw1 hs h;omega
theorem an8{K:List LnQ}: ∀{t:Tr},adW K t→t.size≤Kc t K
 | .leaf _,_=>aR _
 | .node n x y,⟨⟨m,hm,hs⟩,h1,h2⟩=>by
  have a:=an8 h1
  have b:=an8 h2
  have c:=aw1 hs hm
  rw[aq9,Tr.size];omega
theorem aC4{t:Tr}{B:Nat}: ∀{K:List LnQ},(∀l∈K,t.cnt l≤B)→Kc t K≤K.length*B
 |[],_=>aR _
 |l::K,h=>by
  have:=aC4 (t:=t) (B:=B) (K:=K) fun m hm=>h m (aK _ hm)
  have:=h l aZ
  show t.cnt l+Kc t K≤(K.length+1)*B
  rw[iJ];omega
theorem Tr.size_le{K:List LnQ}(hK: ∀m∈K,m.ok){t:Tr}{c:aag}(hr:t.Red c)(ht:t.all LnQ.ok)(hc:aba c)(h:adW K t):t.size≤K.length*(1+K.length):=by
 refine cJ (an8 h) (aC4 fun l hl=>?_)
 refine cJ (Tr.cnt_le (hK l hl) hr ht hc (h.covers hK (hK l hl))) ?_
 have:=List.countP_le_length (p:=inB c) (l:=K.map (apu l))
 rw[aJ] at this
 omega
theorem auJ{K:List LnQ}{t:Tr}(h: ∀l∈t.lns,l∈K):adW K t:=aeY.2 fun l hl=>⟨l,h l hl, .inl rfl⟩
theorem adW.mono{K M:List LnQ}{t:Tr}(h:adW K t)(k: ∀l∈K,∃m∈M,m.same l):adW M t:=aeY.2 fun l hl=>by
 obtain⟨m,hm,hs⟩:=aeY.1 h l hl
 obtain⟨n,hn,hs2⟩:=k m hm
 exact⟨n,hn,hs2.trans hs⟩
theorem adW.restrict{K:List LnQ}{t:Tr}(h:adW K t)(c:aag):adW K (t.restrict c):=t.restrict_all _ c h
theorem adW.compl{K:List LnQ}{t:Tr}(h:adW K t):adW K t.compl:=t.compl_all _ h
theorem adW.merge{K:List LnQ}{op:Int}{t u:Tr}(h:adW K t)(hu:adW K u)(c:aag):adW K (t.mergeQ op u c):=Tr.mergeQ_all _ op hu t c h
def Tr.chooseL(op:Int)(b:Bool)(t:Tr)(c:List LnQ):Tr:=
 if op=1∧b=true then .leaf true
 else if(op=2∨op=3)∧b=false then .leaf false
 else if(op=3∨op=4)∧b=true then(t.restrictL c).compl else t.restrictL c
def Tr.mergeL(op:Int):Tr→Tr→List LnQ→Tr
 | .leaf b,u,c=>u.chooseL op b c
 | .node l x y,u,c=>if adQ c l=1 then x.mergeL op u c else if adQ c l= -1 then y.mergeL op u c else joinQ l (x.mergeL op u (aaJ (c++[l]))) (y.mergeL op u (aaJ (c++[l.rev])))
theorem Tr.chooseL_eq{op:Int}(ho:1≤op∧op≤4)(b:Bool)(t:Tr)(c:List LnQ)(d:aag)(ht:t.all LnQ.ok)(hc: ∀l∈c,l.ok)(hd:aba d)(he: ∀p,InD d p↔InL c p):t.chooseL op b c=t.chooseQ op b d:=by
 have h:=t.restrictL_eq c d ht hc hd he
 unfold Tr.chooseL Tr.chooseQ
 rw[h]
 have:op=1∨op=2∨op=3∨op=4:=by omega
 rcases this with rfl|rfl|rfl|rfl<;>cases b<;>simp
theorem Tr.mergeL_eq{op:Int}(ho:1≤op∧op≤4)(u:Tr)(hu:u.all LnQ.ok): ∀(t:Tr) (c:List LnQ) (d:aag),t.all LnQ.ok→(∀l∈c,l.ok)→aba d→(∀p,InD d p↔InL c p)→t.mergeL op u c=t.mergeQ op u d
 | .leaf b,c,d,_,hc,hd,he=>u.chooseL_eq ho b c d hu hc hd he
 | .node l x y,c,d,h,hc,hd,he=>by
  obtain⟨hl,hx,hy⟩:=h
  have i1:=aei (abO hc hl)
  have i2:=aei (abO hc hl.rev)
  obtain⟨p0,hp0⟩:=hd.ne
  rcases lies hd hl with⟨a1,a⟩|⟨a1,a2,a⟩|⟨a1,a2,ag1,ag2,ae1,ae2⟩
  ·have b1:abZ (c++[l])=true:=i1.2 ⟨p0,abz.2 ⟨(he p0).1 hp0,a p0 hp0⟩⟩
   have b2:abZ (c++[l.rev])=false:=by
    rw[←lU,i2]
    rintro ⟨p,hp⟩
    have hp:=abz.1 hp
    have:=a p ((he p).2 hp.1)
    rw[aaW] at hp
    grind
   rw[Tr.mergeQ,a1,if_pos (show(!false)=true from rfl),Tr.mergeL,adQ,b1,b2]
   exact Tr.mergeL_eq ho u hu x c d hx hc hd he
  ·have b2:abZ (c++[l.rev])=true:=i2.2 ⟨p0,abz.2 ⟨(he p0).1 hp0,by rw[aaW];have:=a p0 hp0;grind⟩⟩
   have b1:abZ (c++[l])=false:=by
    rw[←lU,i1]
    rintro ⟨p,hp⟩
    have hp:=abz.1 hp
    have:=a p ((he p).2 hp.1)
    grind
   rw[Tr.mergeQ,a1,a2,if_neg (by decide),if_pos (show(!false)=true from rfl),Tr.mergeL,adQ,b1,b2]
   exact Tr.mergeL_eq ho u hu y c d hy hc hd he
  ·have n1: ∃p,InL (c++[l]) p:=by
    obtain⟨p,hp⟩:=ag1.ne
    exact⟨p,abz.2 ⟨(he p).1 ((ae1 p).1 hp).1,((ae1 p).1 hp).2⟩⟩
   have n2: ∃p,InL (c++[l.rev]) p:=by
    obtain⟨p,hp⟩:=ag2.ne
    exact⟨p,abz.2 ⟨(he p).1 ((ae2 p).1 hp).1,by rw[aaW];have:=((ae2 p).1 hp).2;grind⟩⟩
   rw[Tr.mergeQ,a1,a2,if_neg (by decide),if_neg (by decide),Tr.mergeL,adQ,i1.2 n1,i2.2 n2]
   have k1:=Tr.mergeL_eq ho u hu x (aaJ (c++[l])) (aaN d l) hx (fun m hm=>abO hc hl m (aa4.1 hm).1) ag1 fun p=>by
    rw[ae4 (abO hc hl) n1,ae1,abz,he]
   have k2:=Tr.mergeL_eq ho u hu y (aaJ (c++[l.rev])) (aaN d l.rev) hy (fun m hm=>abO hc hl.rev m (aa4.1 hm).1) ag2 fun p=>by
    rw[ae4 (abO hc hl.rev) n2,ae2,abz,he,aaW]
    constructor<;>rintro ⟨a,b⟩<;>exact⟨a,by grind⟩
   rw[k1,k2]
   rfl
theorem az5(p:PtQ):InD [] p↔InL [] p:=by unfold InD InL;simp
theorem Tr.mergeL_nil{op:Int}(ho:1≤op∧op≤4){t u:Tr}(ht:t.all LnQ.ok)(hu:u.all LnQ.ok):t.mergeL op u []=t.mergeQ op u []:=
 Tr.mergeL_eq ho u hu t [] [] ht (fun l hl=>by cases hl) aba.nil az5
theorem Tr.mergeQ_depth(op:Int)(u:Tr): ∀(t:Tr) (c:aag),(t.mergeQ op u c).depth≤t.depth+u.depth
 | .leaf b,c=>by
  have:=u.restrict_depth c
  have h2:=(u.restrict c).compl_depth
  show(u.chooseQ op b c).depth≤_
  unfold Tr.chooseQ
  split
  ·split
   ·exact aR _
   ·simp only[Tr.depth];omega
  ·split
   ·exact aR _
   ·split
    ·simp only[Tr.depth];omega
    ·simp only[Tr.depth];omega
 | .node l x y,c=>by
  have hx:=fun c=>Tr.mergeQ_depth op u x c
  have hy:=fun c=>Tr.mergeQ_depth op u y c
  rw[Tr.mergeQ]
  simp only[Tr.depth]
  split
  ·have:=hx c;omega
  ·split
   ·have:=hy c;omega
   ·have h1:=hx (aaN c l)
    have h2:=hy (aaN c l.rev)
    rcases Tr.joinQ_cases l (x.mergeQ op u (aaN c l)) (y.mergeQ op u (aaN c l.rev)) with⟨h,_⟩|⟨h,_⟩<;>rw[h]<;>(try simp only[Tr.depth])<;>omega
structure Gen (L:List LnQ) (a b:Tr):Prop where
 oa:a.all LnQ.ok
 ob:b.all LnQ.ok
 ok: ∀l∈L,l.ok
 la: ∀l∈a.lns,l∈L
 lb: ∀l∈b.lns,l∈L
def aob(x:Rat):List Rat→List Rat
 |[]=>[x]
 |u::t=>if u<x then u::aob x t else if u=x then u::t else x::u::t
def ayy(l:List Rat):List Rat:=l.foldl (fun out x=>aob x out) []
def ady:List Rat→List Rat
 |a::b::t=>(a+b)/2::ady (b::t)
 |_=>[]
def abW:List Rat→List Rat
 |[]=>[0]
 |a::t=>(a-1)::(ady (a::t)++[(a::t).getLast (by simp)+1])
theorem acD{x y:Rat}: ∀{l:List Rat},y∈aob x l↔y=x∨y∈l
 |[]=>by simp[aob]
 |u::t=>by
  rw[aob]
  split
  ·rw[aS,acD (l:=t),aS];grind
  ·split
   ·rename_i h;subst h;simp
   ·simp
theorem ags{x:Rat}: ∀{l:List Rat},l.Pairwise (· < ·)→(aob x l).Pairwise (· < ·)
 |[],_=>by simp[aob]
 |u::t,h=>by
  rw[bN] at h
  rw[aob]
  split
  ·rename_i hu
   rw[bN]
   refine⟨fun y hy=>?_,ags h.2⟩
   rcases acD.1 hy with rfl|hy
   ·exact hu
   ·exact h.1 y hy
  ·rename_i hu
   split
   ·rw[bN];exact h
   ·rename_i hn
    have hx:x<u:=by grind
    rw[bN,bN]
    refine⟨fun y hy=>?_,h⟩
    rcases aS.1 hy with rfl|hy
    ·exact hx
    ·have:=h.1 y hy;grind
theorem asa: ∀{l:List Rat} (h:l.Pairwise (· < ·)) (hn:l≠[]),∀y∈l,y≤l.getLast hn
 |[a],_,_,y,hy=>by rw[aY] at hy;subst hy;exact fR
 |a::b::t,h,_,y,hy=>by
  rw[bN] at h
  rw[List.getLast_cons (by simp)]
  have ih:=asa h.2 (by simp)
  rcases aS.1 hy with rfl|hy
  ·have:=h.1 b aZ
   have:=ih b aZ
   grind
  ·exact ih y hy
def xsQ:List LnQ→List Rat
 |[]=>[]
 |a::t=>(if a.b=0 then [a.base.x] else [])++(t.filterMap (fun b=>if crossI a b=0 then none else some (abH a b).x)++xsQ t)
def yA(a:LnQ)(x:Rat):Rat:= -(((a.a:Rat)*x+(a.c:Rat))/(a.b:Rat))
def ysQ(l:List LnQ)(x:Rat):List Rat:=l.filterMap fun a=>if a.b=0 then none else some (yA a x)
def axo(l:List LnQ):List PtQ:=(abW (ayy (xsQ l))).flatMap fun x=>(abW (ayy (ysQ l x))).map fun y=>⟨x,y⟩
def aFk(l:LnQ)(p:PtQ):LnQ:=if 0<l.value p then l else l.rev
end Go.Sx
end
