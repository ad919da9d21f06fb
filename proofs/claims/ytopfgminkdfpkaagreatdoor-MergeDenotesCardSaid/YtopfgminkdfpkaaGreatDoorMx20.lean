/- Part 20 of a proof. -/
import Derived.Test.YtopfgminkdfpkaaGreatDoorMx19
import Derived.Test.YtopfgminkdfpkaaGreatDoorCards
import Derived.Test.YtopfgminkdfpkaaGreatDoorTie
import Derived.WalkKit
import Derived.ProofKit
import Derived.OpenShut
import Derived.Deep.DeepHandedRow
import Derived.Deep.DeepWitnessRowRef
import Derived.LaidMore
import Derived.Lib.LaidTab
import Derived.SizedLaws
import Derived.Stop.LaidErr
import Derived.MakeChecks
set_option linter.unusedSimpArgs false
set_option maxHeartbeats 4000000
set_option maxRecDepth 100000
set_option linter.unusedVariables false
section
namespace Go.Sx
open Go Go.Proofs Tryz
variable {GB:Gh}
def cvxE(r:List ZP)(i k:Nat):Bool:=decide (k=i)||decide (k=(i+1)%r.length)||decide (0<ak5 (r.getD i (0,0)).q (afX r i).q (r.getD k (0,0)).q)
def convexZ(r:List ZP):Bool:=(List.range r.length).all fun i=>(List.range r.length).all fun k=>cvxE r i k
theorem one_ok{r:List ZP}(h:aby r): ∀x∈[r],aby x:=fun x hx=>by rw[aR] at hx;subst hx;exact h
theorem two_ok{r s:List ZP}(h:aby r)(k:aby s): ∀x∈[r,s],aby x:=fun x hx=>by
 simp only[aT,lN,or_false] at hx
 rcases hx with rfl|rfl
 ·exact h
 ·exact k
theorem q_bounded{b:Nat}{es:List Int}(hes:es.length≤400){a:Nat}(ha:a≤es.length):PM GB prog 98 (mkP [none] b) b 94 [.sl (es.map vI), .v (.int .i64 (a:Nat))] (eT (adT es a).1) [.sl (es.map vI), .v (.int .i64 ((adT es a).2:Nat))]:=by
 obtain⟨r1,r2⟩:=ain ha
 have hk3:=aaB (n:=3) r2
 refine fnM func98 J J ntmps98 J J (fun C b m lo hmb=>?_)
 refine cm rfl (fun b=>(atL hes ha)) rfl<|ro (fu:=⟨4⟩) J J<|?_
 refine mg (X:=List (List ZP)×Nat) (fun⟨rs,a2⟩=>[(3, .rw 6)]) (fun⟨rs,a2⟩=>[(1000000,some (.o 94 [.d (.sl (es.map vI)), .d (.v (.int .i64 (a2:Nat)))] false)),(6,some (.b 73 1 (rs.map eRg) true))]) (fun⟨rs,a2⟩=>adT es a=(ajq rs (1+((aaf es 2 a2).1:Int)),(aaf es 2 a2).2)∧a2≤es.length∧(∀r∈rs,aby r)∧rs.length≤2) [3] [1000000,6] rfl ?_ (fun _=>rfl) (fun⟨rs,a2⟩ ⟨hB,ha2,hrs,hrl⟩=>?_)
 ·
  refine gx rfl<|cm rfl (fun b=>(abW (n:=3) hes r2 (by decide) (by decide))) rfl<|?_
  refine br J J J (fun hc9=>?_) (fun hc9=>?_)
  ·
   obtain⟨s1,s2⟩:=ain hk3
   refine cm rfl (fun b=>(atL hes hk3)) rfl<|rf J J<|ap (hbd:=by simp) ([(acV es a).1,(acV es (aaf es 3 (acV es a).2).2).1].map eRg) J J (axK [(acV es (aaf es 3 (acV es a).2).2).1]) rfl<|?_
   refine rnE 14 6 rfl ?_
   exact at_ ⟨[(acV es a).1,(acV es (aaf es 3 (acV es a).2).2).1],(acV es (aaf es 3 (acV es a).2).2).2⟩ ⟨if_pos hc9,s2,two_ok r1 s1,by simp⟩
  ·
   exact at_ ⟨[(acV es a).1],(aaf es 3 (acV es a).2).2⟩ ⟨if_neg hc9,hk3,one_ok r1,by simp⟩
 ·
  try dsimp only at hB ha2 hrs hrl⊢
  have hf2:=abB (es:=es) (n:=2) (a:=a2) (by decide)
  refine fz 6 J J<|cl rfl (aET (rs:=rs) hrs (by omega)) rfl<|cm rfl (fun b=>(abW (n:=2) hes ha2 (by decide) (by decide))) rfl<|cl rfl (azy (rs:=rs) (fill:=1+((aaf es 2 a2).1:Int)) hrs (by omega)) rfl<|?_
  refine cl rfl (azO (rs:=rs) (fill:=1+((aaf es 2 a2).1:Int)) hrs (by omega)) rfl<|?_
  exact rzM hmb J J (by rw[hB];rfl) (by rw[hB])
theorem q_Region_zero{b:Nat}{es:List Int}(hes:es.length≤400){a:Nat}(ha:a≤es.length){n:Int}(hn:n=0):PM GB prog 41 (mkP [none,some (.v (.int .i64 n))] b) b 94 [.sl (es.map vI), .v (.int .i64 (a:Nat))] (eT (aah es 0 a).1) [.sl (es.map vI), .v (.int .i64 ((aah es 0 a).2:Nat))]:=by
 have hk0:=aaB (n:=6) ha
 obtain⟨hl,hl2⟩:=aq1 hk0
 obtain⟨ht,ht2⟩:=agF hk0
 obtain⟨hb,hb2⟩:=aeu hk0
 refine fnM func41 J J ntmps41 J J (fun C b m lo hmb=>?_)
 refine cm (fu:=⟨5⟩) rfl (fun b=>(abW (n:=6) hes ha (by decide) (by decide))) rfl<|?_
 refine mg (X:=Unit) (fun _=>[(9, .ff)]) (fun _=>[]) (fun _=>True) [9] [] rfl ?_ (fun _=>rfl) (fun _ _=>?_)
 ·
  refine gx rfl<|?_
  refine cs (fu1:=⟨1⟩) 12 J J J (fun hg12=>?_) (fun hg12=>?_)
  ·
   refine knF rfl (by show some (decide _)=some false;rw[decide_eq_false (by omega)]) rfl<|?_
   exact at_ () trivial
  ·
   exact at_ () trivial
 ·
  refine br J J J (fun hc29=>?_) (fun hc29=>?_)
  ·
   refine cm rfl (fun b=>(aD9 hes hk0)) rfl<|cl rfl (acy (p:=true)) rfl<|cl (fu:=⟨1⟩) rfl (acy (p:=false)) rfl<|bxf J J<|cl rfl (afw (t:= .node (lF es (aaf es 6 a).2).1 (.leaf true) (.leaf false)) ⟨⟨hl.bl⟩,trivial,trivial⟩ ⟨hl.ok,trivial,trivial⟩ (by simp[Tr.depth])) rfl<|?_
   exact rzM hmb J J (by rw[show aah es 0 a=_ from if_pos hc29];rfl) (by rw[show aah es 0 a=_ from if_pos hc29])
  ·
   refine br J J J (fun hc39=>?_) (fun hc39=>?_)
   ·
    refine cm rfl (fun b=>(alQ (d:=3) hes hk0 (by decide))) rfl<|cl rfl (afw (t:=(aa8 es 3 (aaf es 6 a).2).1) ht.lb ht.ok (by have:=ht.dp;omega)) rfl<|?_
    exact rzM hmb J J (by rw[show aah es 0 a=_ from(if_neg hc29).trans (if_pos hc39)];rfl) (by rw[show aah es 0 a=_ from(if_neg hc29).trans (if_pos hc39)])
   ·
    refine br J J J (fun hc45=>?_) (fun hc45=>?_)
    ·
     refine cm rfl (fun b=>(q_bounded hes hk0)) rfl<|cl rfl af1 rfl<|?_
     exact rzM hmb J J (by rw[show aah es 0 a=_ from(if_neg hc29).trans ((if_neg hc39).trans (if_pos hc45))];rfl) (by rw[show aah es 0 a=_ from(if_neg hc29).trans ((if_neg hc39).trans (if_pos hc45))])
    ·
     refine cm rfl (fun b=>(q_bounded hes hk0)) rfl<|?_
     exact rzM hmb J J (by rw[show aah es 0 a=_ from(if_neg hc29).trans ((if_neg hc39).trans (if_neg hc45))];rfl) (by rw[show aah es 0 a=_ from(if_neg hc29).trans ((if_neg hc39).trans (if_neg hc45))])
theorem q_Region_node{b:Nat}{es:List Int}(hes:es.length≤400){a:Nat}(ha:a≤es.length){d:Nat}{n:Int}(hn:n=((d+1:Nat):Int))(hd:d≤3)(ih: ∀{GB:Gh} {b a:Nat} {n:Int},a≤es.length→n=(d:Int)→PM GB prog 41 (mkP [none,some (.v (.int .i64 n))] b) b 94 [.sl (es.map vI), .v (.int .i64 (a:Nat))] (eT (aah es d a).1) [.sl (es.map vI), .v (.int .i64 ((aah es d a).2:Nat))]):PM GB prog 41 (mkP [none,some (.v (.int .i64 n))] b) b 94 [.sl (es.map vI), .v (.int .i64 (a:Nat))] (eT (aah es (d+1) a).1) [.sl (es.map vI), .v (.int .i64 ((aah es (d+1) a).2:Nat))]:=by
 have hk0:=aaB (n:=6) ha
 obtain⟨hl,hl2⟩:=aq1 hk0
 obtain⟨ht,ht2⟩:=agF hk0
 obtain⟨hb,hb2⟩:=aeu hk0
 obtain⟨g1,g2⟩:=aeE (d:=d) hk0
 have hj:=aaB (n:=4) g2
 have hjl:=abB (es:=es) (n:=4) (a:=(aah es d (aaf es 6 a).2).2) (by decide)
 obtain⟨g3,g4⟩:=aeE (d:=d) hj
 have hpw:18*2^d≤18*2^3:=eY _ (bW (by decide) hd)
 refine fnM func41 J J ntmps41 J J (fun C b m lo hmb=>?_)
 refine cm rfl (fun b=>(abW (n:=6) hes ha (by decide) (by decide))) rfl<|?_
 refine cs (fu1:=⟨1⟩) 12 J J J (fun hg12=>?_) (fun hg12=>?_)
 ·
  refine knT rfl (by show some (decide _)=some true;rw[decide_eq_true (by omega)]) rfl<|cm rfl (fun b=>(ih hk0 (by omega))) rfl<|cm rfl (fun b=>(abW (n:=4) hes g2 (by decide) (by decide))) rfl<|?_
  refine cm rfl (fun b=>(ih hj (by omega))) rfl<|cl rfl (ak4 (op:=1+((aaf es 4 (aah es d (aaf es 6 a).2).2).1:Int)) (t:=(aah es d (aaf es 6 a).2).1) (u:=(aah es d (aaf es 4 (aah es d (aaf es 6 a).2).2).2).1) (c:=[]) g3.gd.lb g3.gd.ok g1.gd.lb g1.gd.ok (fun m h=>by cases h) (fun m h=>by cases h) (by have:=g1.dp;have:=g3.dp;rw[dV];omega)) rfl<|?_
  exact rzM hmb J J (by rw[show aah es (d+1) a=_ from if_pos hg12];show eT (Tr.mergeL _ _ _ _)=eT (Tr.mergeQ _ _ _ _);rw[Tr.mergeL_nil (by omega) g1.gd.ok g3.gd.ok]) (by rw[show aah es (d+1) a=_ from if_pos hg12])
 ·
  refine br J J J (fun hc29=>?_) (fun hc29=>?_)
  ·
   refine cm rfl (fun b=>(aD9 hes hk0)) rfl<|cl rfl (acy (p:=true)) rfl<|cl (fu:=⟨1⟩) rfl (acy (p:=false)) rfl<|bxf J J<|cl rfl (afw (t:= .node (lF es (aaf es 6 a).2).1 (.leaf true) (.leaf false)) ⟨⟨hl.bl⟩,trivial,trivial⟩ ⟨hl.ok,trivial,trivial⟩ (by simp[Tr.depth])) rfl<|?_
   exact rzM hmb J J (by rw[show aah es (d+1) a=_ from(if_neg hg12).trans (if_pos hc29)];rfl) (by rw[show aah es (d+1) a=_ from(if_neg hg12).trans (if_pos hc29)])
  ·
   refine br J J J (fun hc39=>?_) (fun hc39=>?_)
   ·
    refine cm rfl (fun b=>(alQ (d:=3) hes hk0 (by decide))) rfl<|cl rfl (afw (t:=(aa8 es 3 (aaf es 6 a).2).1) ht.lb ht.ok (by have:=ht.dp;omega)) rfl<|?_
    exact rzM hmb J J (by rw[show aah es (d+1) a=_ from(if_neg hg12).trans ((if_neg hc29).trans (if_pos hc39))];rfl) (by rw[show aah es (d+1) a=_ from(if_neg hg12).trans ((if_neg hc29).trans (if_pos hc39))])
   ·
    refine br J J J (fun hc45=>?_) (fun hc45=>?_)
    ·
     refine cm rfl (fun b=>(q_bounded hes hk0)) rfl<|cl rfl af1 rfl<|?_
     exact rzM hmb J J (by rw[show aah es (d+1) a=_ from(if_neg hg12).trans ((if_neg hc29).trans ((if_neg hc39).trans (if_pos hc45)))];rfl) (by rw[show aah es (d+1) a=_ from(if_neg hg12).trans ((if_neg hc29).trans ((if_neg hc39).trans (if_pos hc45)))])
    ·
     refine cm rfl (fun b=>(q_bounded hes hk0)) rfl<|?_
     exact rzM hmb J J (by rw[show aah es (d+1) a=_ from(if_neg hg12).trans ((if_neg hc29).trans ((if_neg hc39).trans (if_neg hc45)))];rfl) (by rw[show aah es (d+1) a=_ from(if_neg hg12).trans ((if_neg hc29).trans ((if_neg hc39).trans (if_neg hc45)))])
theorem q_RegionI{es:List Int}(hes:es.length≤400): ∀{d:Nat} {GB:Gh} {b a:Nat} {n:Int},d≤4→a≤es.length→n=(d:Int)→PM GB prog 41 (mkP [none,some (.v (.int .i64 n))] b) b 94 [.sl (es.map vI), .v (.int .i64 (a:Nat))] (eT (aah es d a).1) [.sl (es.map vI), .v (.int .i64 ((aah es d a).2:Nat))]
 |0,_,_,_,_,_,ha,hn=>q_Region_zero hes ha hn
 |d+1,_,_,_,_,hd,ha,hn=>q_Region_node hes ha hn (by omega) (fun h1 h2=>q_RegionI hes (by omega) h1 h2)
theorem q_RegionT{es:List Int}(hes:es.length≤400){a d b:Nat}(ha:a≤es.length)(hd:d≤4):PM GB prog 41 (mkP [none,some (.v (.int .i64 (d:Nat)))] b) b 94 [.sl (es.map vI), .v (.int .i64 (a:Nat))] (eT (aah es d a).1) [.sl (es.map vI), .v (.int .i64 ((aah es d a).2:Nat))]:=q_RegionI (GB:=GB) hes hd ha rfl
section
variable {GB:Gh} {C:Ctx} {n:Nat} {Q0:Exit→Act→World→Prop} {fr fr' fr1 fr2:FrX} {own own' own1 own2:OwX} {cf cf' cf1 cf2:Cf} {vc vc1 vc2:List Prop}
def an3A(fr:FrX)(cf:Cf):Option Int:=match opC fr cf with
 |some ⟨_, .binOp .and _ x (.const (.int .i64 3)) _,_,_,_,_⟩=>match evX (lkC fr cf) x with
  |some (.d (.v (.int .i64 p)))=>some p
  |_=>none
 |_=>none
end
theorem q_both{b:Nat}{es:List Int}(hes:es.length≤400){a:Nat}(ha:a≤es.length):PM GB prog 29 (mkP [none] b) b 94 [.sl (es.map vI), .v (.int .i64 (a:Nat))] (.tp [eT (afY es a).1.1,eT (afY es a).1.2]) [.sl (es.map vI), .v (.int .i64 ((afY es a).2:Nat))]:=by
 obtain⟨x1,x2⟩:=afI ha
 obtain⟨y1,y2⟩:=afI x2
 have hk0:=aaB (n:=3) y2
 refine fnM func29 J J ntmps29 J J (fun C b m lo hmb=>?_)
 refine cm rfl (fun b=>(q_RegionT (d:=0) hes ha (by decide))) rfl<|cm (fu:=⟨5⟩) rfl (fun b=>(q_RegionT (d:=0) hes x2 (by decide))) rfl<|?_
 refine mg (X:=Tr×Nat) (fun⟨u,a2⟩=>[(4, .d (eT u))]) (fun⟨u,a2⟩=>[(1000000,some (.o 94 [.d (.sl (es.map vI)), .d (.v (.int .i64 (a2:Nat)))] false))]) (fun⟨u,a2⟩=>(if((aaf es 3 (aah es 0 (aah es 0 a).2).2).1:Int)=0 then aa8 es 3 (aaf es 3 (aah es 0 (aah es 0 a).2).2).2 else((aah es 0 a).1,(aaf es 3 (aah es 0 (aah es 0 a).2).2).2))=(u,a2)∧a2≤es.length) [4] [1000000] rfl ?_ (fun _=>rfl) (fun⟨u,a2⟩ ⟨hU,ha2⟩=>?_)
 ·
  refine gx rfl<|cm rfl (fun b=>(abW (n:=3) hes y2 (by decide) (by decide))) rfl<|?_
  refine br J J J (fun hc12=>?_) (fun hc12=>?_)
  ·
   refine cm rfl (fun b=>(alQ (d:=3) hes hk0 (by decide))) rfl<|?_
   exact at_ ⟨(aa8 es 3 (aaf es 3 (aah es 0 (aah es 0 a).2).2).2).1,(aa8 es 3 (aaf es 3 (aah es 0 (aah es 0 a).2).2).2).2⟩ ⟨if_pos hc12,(agF hk0).2⟩
  ·
   exact at_ ⟨(aah es 0 a).1,(aaf es 3 (aah es 0 (aah es 0 a).2).2).2⟩ ⟨if_neg hc12,hk0⟩
 ·
  try dsimp only at hU ha2
  have hj:=aaB (n:=3) ha2
  refine cm rfl (fun b=>(abW (n:=3) hes ha2 (by decide) (by decide))) rfl<|?_
  refine br J J J (fun hc17=>?_) (fun hc17=>?_)
  ·
   have hB:afY es a=((u,(aa8 es 3 (aaf es 3 a2).2).1),(aa8 es 3 (aaf es 3 a2).2).2):=by unfold afY;dsimp only;rw[hU];dsimp only;rw[if_pos hc17]
   refine cm rfl (fun b=>(alQ (d:=3) hes hj (by decide))) rfl<|?_
   exact rzM hmb J J (by rw[hB];rfl) (by rw[hB])
  ·
   have hB:afY es a=((u,(aah es 0 (aah es 0 a).2).1),(aaf es 3 a2).2):=by unfold afY;dsimp only;rw[hU];dsimp only;rw[if_neg hc17]
   exact rzM hmb J J (by rw[hB];rfl) (by rw[hB])
theorem q_NewT{es0 es:List Int}(hb:es0.length≤1125899906842624)(he:es=es0.take 400):PN GB prog 9 [.sl (es0.map vI)] 94 Unit (fun _=>[.sl (es.map vI), .v (.int .i64 (0:Nat))]):=by
 subst he;exact aD8 hb
theorem q_bothN{b:Nat}{es:List Int}(hes:es.length≤400){A B:Tr}(hA:A=(afY es 0).1.1)(hB:B=(afY es 0).1.2):PM GB prog 29 (mkP [none] b) b 94 [.sl (es.map vI), .v (.int .i64 (0:Nat))] (.tp [eT A,eT B]) [.sl (es.map vI), .v (.int .i64 ((afY es 0).2:Nat))]:=by
 subst hA hB;exact q_both hes (bX _)
theorem p_MMergeX{ai al ae:Addr}(hE:EG GB ai al ae){op:Int}{j k:Nat}{a b:Tr}(ho:1≤op∧op≤4)(ha:TrX j a)(hb:TrX k b)(hk:j+k≤200):PF GB prog 30 [vI op,eA a,eA b] (.tp [eA (a.mergeQ op b []), .v .nilIface]):=
 ai0 hE ho ha.gd hb.gd (by have:=ha.s;omega) (by have:=hb.s;omega) (ha.lim hb hk)
theorem q_WriteX{k:Nat}{t:Tr}(h:TrX k t):PF GB prog 11 [eT t] (eA t):=auD h.bl (by have:=h.s;omega)
section
variable {GB:Gh} {C:Ctx} {n:Nat} {Q0:Exit→Act→World→Prop} {fr fr':FrX} {own own':OwX} {cf cf':Cf} {vc:List Prop} {ops:Array Oper} {r:List Oper} {K:List Kt}
def mkFA(fr:FrX)(cf:Cf):Option (FuncId×Value):=match opC fr cf with
 |some ⟨_, .makeFunc (.func f) ⟨[x]⟩ ⟨[]⟩,_,_,_,_⟩=>match evX (lkC fr cf) x with
  |some (.d (.v pv))=>some (f,pv)
  |_=>none
 |_=>none
def cfvA(fr:FrX)(cf:Cf):Option (FuncId×List Value×List DV):=match opC fr cf with
 |some ⟨_, .call ⟨.value fo,args,_⟩,_,_,_,_⟩=>match evX (lkC fr cf) fo,evDs (lkC fr cf) args.toList with
  |some (.d (.v (.func (.func f) ⟨c1⟩ ⟨[]⟩))),some ds=>some (f,c1,ds)
  |_,_=>none
 |_=>none
/-! an array of constants -/
def constL:List (Nat×Operand)→Option (List (Nat×Value))
 |[]=>some []
 |(i, .const v)::t=>match constL t with
  |some l=>some ((i,v)::l)
  |none=>none
 |_::_=>none
def bakA(cf:Cf)(fr:FrX):Option (TypeId×List (Nat×Value)):=match opC fr cf with
 |some ⟨_, .build t ⟨ps⟩,_,_,_,_⟩=>match constL ps with
  |some vs=>some (t,vs)
  |none=>none
 |_=>none
def staA(fr:FrX)(own:OwX)(cf:Cf):Option (TypeId×Nat×Nat×List FX×Bool×FX):=match opC fr cf with
 |some ⟨_, .store t x y,_,_,_,_⟩=>match evX (lkC fr cf) x with
  |some (.ov nm 0)=>match bkC fr own cf nm with
   |some (.o ty cs lo)=>match evX (lkC fr cf) y with
    |some fv=>some (t,nm,ty,cs,lo,fv)
    |_=>none
   |_=>none
  |_=>none
 |_=>none
def rowB(fr:FrX)(cf:Cf):Option RwA:=match opC fr cf with
 |some ⟨some d, .buildSlice t len parts,_,_,_,_⟩=>match abi tt t with
  |some ⟨.sl e s _,_,_,_⟩=>match aAX (lkC fr cf) 0 parts.toList with
   |some ds=>bif aw7 s ds&&(Nat.beq parts.toList.length len&&(Nat.ble (len*s) 1000&&Nat.blt 0 (len*s))) then some ⟨d,e,s,ds⟩ else none
   |none=>none
  |_=>none
 |_=>none
def ldBA(fr:FrX)(cf:Cf):Option (TypeId×List DV):=match opC fr cf with
 |some ⟨_, .load t x,_,_,_,_⟩=>match evX (lkC fr cf) x with
  |some (.ep l)=>some (t,l)
  |_=>none
 |_=>none
def noAg:TypeDesc→Bool
 | .struct _=>false
 | .array _ _=>false
 |_=>true
end
def ePr(a b:Tr):DV:= .ag [eU a,eU b]
def prZ:DV:= .ag [.v (.pointer none), .v (.pointer none)]
theorem p_OfA{k:Nat}{t:Tr}(h:TrX k t):PF GB prog 74 [eA t] (.tp [eU t,vB true]):=by
 have:=ati (GB:=GB) (rt:=t.num 0) (awS h.lb) (aDU (by have:=h.s;omega)) (aqF h.ok)
 rw[←avp] at this
 exact this
theorem p_SortPt{ds:List PtQ}{i:Nat}(hb: ∀d∈ds,BPt d i)(hi:i≤10000000)(hn:ds.length≤10000000)(ht:aoV ds):PW GB prog 208 [none,some (.v (.func (.func 209) #[] #[]))] 6 104 (ds.map eZ) (.tp []) ((ary aaE ds).map eZ):=
 aFd (GB:=GB) Tryz.sortPt ⟨_,func208,rfl,rfl⟩ isAgg104 sizeOf104 eZ (fun d=>BPt d i) (fun x=>⟨_,rfl,rfl,rfl⟩) aaE auu ⟨_,func209,rfl,rfl⟩ (fun x y hx hy=>aox (i:=i) (j:=i) hi hi) hb (by omega)
  (fun x hx y hy h k=>ht x hx y hy (arO (by rw[←ad9];exact h) (by rw[←ad9];exact k)))
theorem p_Dirs{ds:List PtQ}{i:Nat}(hb: ∀d∈ds,BPt d i)(hi:i≤10000000)(hn:ds.length≤10000000)(ht:aoV ds):PB GB prog 150 (mkB [none]) 6 104 (ds.map eZ) (fun w=> .v (.slice w.a w.n w.c)) ((ah8 ds).map eZ):=by
 have hsm: ∀d∈ary aaE ds,BPt d i:=fun d hd=>hb d ((aey aaE ds).mem_iff.1 hd)
 have hsl:(ary aaE ds).length=ds.length:=(aey aaE ds).length_eq
 refine fnQ func150 J J ntmps150 J J (fun C=>?_)
 refine cw _ rfl (p_SortPt hb hi hn ht) J J<|cq ((ah8 ds).map eZ) rfl (atC (i0:=i) hsm (by omega) hi) (by rw[apr ht]) rfl<|?_
 exact rzQ J J J J
theorem rays_bd{t:Tr}(hb:t.all LB)(p:PtQ): ∀d∈abv t p,BPt d 500:=fun d hd=>by
 obtain⟨l,h1,h2⟩:=abR.1 hd
 haveI:=acB.1 hb l (acr h1).1
 rcases h2 with rfl|rfl<;>infer_instance
theorem sct_bd{ds:List PtQ}{i:Nat}(h: ∀d∈ds,BPt d i)(h2:2≤i): ∀v∈afa ds,BPt v (i+i+1):=fun v hv=>by
 have up: ∀{q:PtQ},BPt q i→BPt q (i+i+1):=fun hq=>⟨hq.x.mono (by omega),hq.y.mono (by omega)⟩
 unfold afa at hv
 split at hv
 ·rw[aR] at hv
  subst hv
  exact⟨BQ.mono (k:=2) ⟨by decide,by decide⟩ (by omega),BQ.mono (k:=2) ⟨by decide,by decide⟩ (by omega)⟩
 ·obtain⟨k,hk,rfl⟩:=bR.1 hv
  have hk':=oU.1 hk
  have g: ∀{j:Nat},j<ds.length→BPt (ds.getD j ⟨0,0⟩) i:=fun{j} hj=>by
   rw[aK,aZ hj];exact h _ (cX hj)
  haveI:=g hk'
  haveI:=g (dX (k+1) (show 0<ds.length by omega))
  unfold aru
  split
  ·exact inferInstance
  ·exact up inferInstance
theorem sct_len(ds:List PtQ):(afa ds).length≤ds.length+1:=by
 unfold afa
 split
 ·simp
 ·rw[aJ,qR];omega
theorem any_step{vs:List PtQ}{f:PtQ→Bool}{k:Nat}{v:PtQ}(h:vs[k]? =some v):(vs.drop k).any f=(f v||(vs.drop (k+1)).any f):=by
 obtain⟨h1,h2⟩:=aN.1 h
 rw[aM h1,h2,List.any_cons]
theorem all_step{vs:List PtQ}{f:PtQ→Bool}{k:Nat}{v:PtQ}(h:vs[k]? =some v):(vs.drop k).all f=(f v&&(vs.drop (k+1)).all f):=by
 obtain⟨h1,h2⟩:=aN.1 h
 rw[aM h1,h2,List.all_cons]
theorem p_Classes{b c:Bool}:PF GB prog 153 [vB b,vB c] (vI (if b&&c then 2 else if b then 1 else 0)):=by
 refine fn func153 J J ntmps153 J J (fun C=>?_)
 refine csb 7 J J J (fun hg7=>?_) (fun hg7=>?_)
 ·refine bb J J J (fun hc5=>?_) (fun hc5=>?_)
  ·exact rz rfl (by subst hg7 hc5;rfl)
  ·refine bb J J J (fun hc10=>?_) (fun hc10=>?_)
   ·exact rz rfl (by subst hg7 hc5;rfl)
   ·subst hg7;cases hc10
 ·refine bb J J J (fun hc10=>?_) (fun hc10=>?_)
  ·subst hg7;cases hc10
  ·exact rz rfl (by subst hg7;rfl)
theorem p_TClass{t:Tr}{p:PtQ}{i:Nat}[hp:BPt p i](hb:t.all LB)(ho:t.all LnQ.ok)(hs:t.size≤400000)(hi:i≤10000000:=by decide):PF GB prog 75 [eU t,eZ p] (vI (ag9 t p)):=by
 have hrl:=agG t p
 have hrb:=rays_bd hb p
 have hrt:=axi ho p
 have hdb: ∀d∈ah8 (abv t p),BPt d 500:=fun d hd=>hrb d ((aqk hrt d).1 hd)
 have hdl:(ah8 (abv t p)).length≤(abv t p).length:=by rw[←apr hrt];exact cV (asd _) (Nat.le_of_eq (aey aaE _).length_eq)
 have hsb:=sct_bd hdb (by decide)
 obtain⟨vs,hvs⟩: ∃vs,vs=afa (ah8 (abv t p)):=⟨_,rfl⟩
 have hvl:vs.length≤(ah8 (abv t p)).length+1:=by rw[hvs];exact sct_len _
 rw[←hvs] at hsb
 have hml:(vs.map eZ).length=vs.length:=aJ ..
 refine fn func75 J J ntmps75 J J (fun C=>?_)
 refine cqn ((abv t p).map eZ) rfl (aml (p:=p) (o:=[]) hi hb (by rw[dV];omega)) J J<|cq ((ah8 (abv t p)).map eZ) rfl (p_Dirs hrb (by decide) (by omega) hrt) J J<|?_
 refine fz 14 J J<|cl (fu:=⟨0⟩) rfl (auT (ds:=ah8 (abv t p)) (i:=500) hdb (by omega)) rfl<|?_
 refine eqF 15 (.d (.sl (vs.map eZ))) rfl (by rw[hvs]) ?_
 refine gx (fu:=⟨1⟩) rfl<|?_
 refine eqF 16 (.d (vI (vs.length:Nat))) rfl (by rw[hml]<;>rfl) ?_
 refine gx rfl<|?_
 refine dvC 5 _ J J ?_
 refine dvC 6 _ J J ?_
 refine lp (X:=Bool×Bool×Nat) (fun⟨a,c,k⟩=>[(17, .d (vI (k:Nat))),(5, .d (vB a)),(6, .d (vB c))]) (fun⟨a,c,k⟩=>[]) (fun⟨a,c,k⟩=>(a||(vs.drop k).any (fun v=>(ago t p v).1))=inP t p∧(c&&(vs.drop k).all (fun v=>(ago t p v).1))=alP t p∧k≤vs.length) (fun⟨a,c,k⟩=>vs.length-k) ⟨false,true,0⟩ rfl ⟨by rw[hvs];simp[inP],by rw[hvs];simp[alP],bX _⟩ (fun _=>rfl) (fun⟨a,c,k⟩ hk=>?_)
 try dsimp only at hk⊢
 obtain⟨h1,h2,h3⟩:=hk
 refine br J J J (fun hc18=>?_) (fun hc18=>?_)
 ·
  obtain⟨v,hx⟩: ∃v,vs[k]? =some v:=⟨_,aZ (by omega)⟩
  haveI:=hsb v (bQ hx)
  refine ix _ rfl (aav hx) rfl<|cl rfl (auX (t:=t) (p:=p) (v:=v) (i:=i) (j:=500+500+1) hb hi (by decide)) rfl<|?_
  refine bb J J J (fun hc28=>?_) (fun hc28=>?_)
  ·
   refine dvE 5 _ J J ?_
   exact at_ ⟨true,c,k+1⟩ (by dsimp only;exact⟨⟨by rw[←h1,any_step hx,hc28];simp,by rw[←h2,all_step hx,hc28];simp,by omega⟩,(by omega)⟩)
  ·
   refine dvE 6 _ J J ?_
   exact at_ ⟨a,false,k+1⟩ (by dsimp only;exact⟨⟨by rw[←h1,any_step hx,hc28];simp,by rw[←h2,all_step hx,hc28];simp,by omega⟩,(by omega)⟩)
 ·
  obtain rfl:k=vs.length:=by omega
  rw[fQ] at h1 h2
  have e1:a=inP t p:=by simpa using h1
  have e2:c=alP t p:=by simpa using h2
  refine cl rfl (p_Classes (b:=a) (c:=c)) rfl<|?_
  exact rz rfl (by rw[e1,e2];rfl)
theorem p_LocS{k i:Nat}{t:Tr}{p:PtQ}[hp:BPt p i](h:TrX k t)(hi:i≤10000000:=by decide):PF GB prog 27 [eA t,ePt p] (.tp [vI (ag9 t p), .v .nilIface]):=by
 have hts:=h.s
 refine fn func27 J J ntmps27 J J (fun C=>?_)
 refine cl (fu:=⟨11⟩) rfl (p_OfA h) rfl<|?_
 refine kbT 13 rfl ?_
 refine gx rfl<|cl rfl (aBO (p:=p) (i:=i) (by omega)) rfl<|cl rfl (p_TClass (t:=t) (p:=p) (i:=i) h.lb h.ok (by omega) hi) rfl<|?_
 exact rz J J
theorem tm_rng(a:Int): -4<a.tmod 4∧a.tmod 4<4:=by
 refine⟨?_,Int.tmod_lt_of_pos a (by decide)⟩
 have:=Int.lt_tmod_of_pos a (b:=4) (by decide)
 omega
theorem op_rng(a:Int):1≤1+(a.tmod 4+4).tmod 4∧1+(a.tmod 4+4).tmod 4≤4:=by
 have h:=tm_rng a
 rw[Int.tmod_eq_emod_of_nonneg (by omega)]
 omega
theorem dist_okk{L:List LnQ}(h: ∀l∈L,l.ok): ∀l∈aa5 L,l.ok:=fun l hl=>by obtain⟨x,hx,rfl⟩:=afg hl;exact alE (h x hx)
theorem q_MergeDenotes{ai al ae:Addr}(hE:EG GB ai al ae){es0:List Int}(hb:es0.length≤1125899906842624){op:Int}(ho1: -9223372036854775808≤op∧op<9223372036854775808):PF GB prog 5 [.sl (es0.map vI),vI op] (.v (.bool true)):=by
 obtain⟨es,hee⟩: ∃es,es=es0.take 400:=⟨_,rfl⟩
 have hes:es.length≤400:=by rw[hee];simp;omega
 obtain⟨hA,hB,hab⟩:=avL (es:=es) (bX es.length)
 obtain⟨A,hAe⟩: ∃A,A=(afY es 0).1.1:=⟨_,rfl⟩
 obtain⟨B,hBe⟩: ∃B,B=(afY es 0).1.2:=⟨_,rfl⟩
 rw[←hAe] at hA
 rw[←hBe] at hB
 have htm:=tm_rng op
 obtain⟨o,ho2⟩: ∃o,o=1+(op.tmod 4+4).tmod 4:=⟨_,rfl⟩
 have ho:1≤o∧o≤4:=ho2▸op_rng op
 have htm2:=tm_rng (op.tmod 4+4)
 have hM:=TrX.merge (op:=o) hA hB (by decide)
 have hA2:=hA.s
 have hB2:=hB.s
 have hda:=aiP A.lns
 have hdb:=aiP B.lns
 rw[agf] at hda hdb
 have hLB: ∀l∈aa5 A.lns++aa5 B.lns,LB l:=fun l hl=>(bV.1 hl).elim (alz (acB.1 hA.lb) l) (alz (acB.1 hB.lb) l)
 have hOK: ∀l∈aa5 A.lns++aa5 B.lns,l.ok:=fun l hl=>(bV.1 hl).elim (dist_okk (aek hA.ok) l) (dist_okk (aek hB.ok) l)
 have hLl:(aa5 A.lns++aa5 B.lns).length≤6000:=by rw[aV];omega
 have hDl:=aiP (aa5 A.lns++aa5 B.lns)
 have hfl:=amA (l:=aa5 (aa5 A.lns++aa5 B.lns)) (by omega)
 have hfb:=awP (alz hLB)
 have hden: ∀p∈adW (aa5 (aa5 A.lns++aa5 B.lns)),ag9 (A.mergeQ o B []) p=if opB o (atQ A p) (atQ B p) then 2 else 0:=fun p hp=>den hA.ok hB.ok hp
 obtain⟨ps,hps⟩: ∃ps,ps=adW (aa5 (aa5 A.lns++aa5 B.lns)):=⟨_,rfl⟩
 rw[←hps] at hfl hfb hden
 have hml:(ps.map eP).length=ps.length:=aJ ..
 have hmA:((aa5 A.lns).map eL).length=(aa5 A.lns).length:=aJ ..
 have hmB:((aa5 B.lns).map eL).length=(aa5 B.lns).length:=aJ ..
 obtain⟨N,hN⟩: ∃N,N=A.mergeQ o B []:=⟨_,rfl⟩
 rw[←hN] at hM hden
 refine fn func5 J J ntmps5 J J (fun C=>?_)
 refine cn rfl ((q_NewT hb hee)) (fun _=>rfl) (fun _=>?_)
 refine cm (fu:=⟨14⟩) rfl (fun b=>(q_bothN hes hAe hBe)) rfl<|?_
 refine eqF 29 (.d (vI o)) rfl (by rw[ho2]<;>rfl) ?_
 refine gx rfl<|cl rfl (q_WriteX hA) rfl<|cl rfl (q_WriteX hB) rfl<|cl (fu:=⟨0⟩) rfl (p_MMergeX hE ho hA hB (by decide)) rfl<|?_
 refine eqF 36 (.d (.tp [eA N, .v .nilIface])) rfl (by rw[hN]) ?_
 refine gx rfl<|cr rfl (aqH (t:=A) hA.lb (by omega)) rfl<|cr rfl (aqH (t:=B) hB.lb (by omega)) rfl<|ap ((aa5 A.lns++aa5 B.lns).map eL) rfl (by rw[bK]) (abz _) rfl<|?_
 refine fz 45 J J<|cr rfl (aiU (ls:=aa5 A.lns++aa5 B.lns) hLB (by omega)) rfl<|fz 46 J J<|cl (fu:=⟨0⟩) rfl (ayY (l:=aa5 (aa5 A.lns++aa5 B.lns)) (alz hLB) (auO hOK) (by omega)) rfl<|?_
 refine eqF 47 (.d (.sl (ps.map eP))) rfl (by rw[hps]) ?_
 refine gx (fu:=⟨1⟩) rfl<|?_
 refine eqF 48 (.d (vI (ps.length:Nat))) rfl (by rw[hml]<;>rfl) ?_
 refine gx rfl<|?_
 refine lp (X:=Nat) (fun k=>[(49, .d (vI (k:Nat)))]) (fun k=>[]) (fun k=>k≤ps.length) (fun k=>ps.length-k) 0 rfl (bX _) (fun _=>rfl) (fun k hk=>?_)
 refine br J J J (fun hc50=>?_) (fun hc50=>?_)
 ·
  obtain⟨p,hx⟩: ∃p,ps[k]? =some p:=⟨_,aZ (by omega)⟩
  have hpm:=bQ hx
  haveI:=hfb p hpm
  have hcl:=hden p hpm
  obtain⟨w,hw⟩: ∃w,w=opB o (atQ A p) (atQ B p):=⟨_,rfl⟩
  rw[←hw] at hcl
  refine ix _ rfl (aav hx) rfl<|cl rfl (aCM (t:=A) (p:=p) (i:=4900) hA.lb (by decide)) rfl<|cl rfl (aCM (t:=B) (p:=p) (i:=4900) hB.lb (by decide)) rfl<|?_
  refine cl rfl (aB4 (p:=p) (i:=4900)) rfl<|cl (fu:=⟨1⟩) rfl (p_LocS (t:=N) (p:=p) (i:=4900) hM) rfl<|?_
  cases w
  ·
   refine gx (fu:=⟨1⟩) rfl<|?_
   refine eqF 70 (.d (vI 0)) rfl (by rw[hcl]<;>rfl) ?_
   refine gx (fu:=⟨11⟩) rfl<|knF rfl (by rfl) rfl<|cl (fu:=⟨0⟩) rfl (aFS (op:=o) (x:=atQ A p) (y:=atQ B p)) rfl<|?_
   refine eqF 80 (.d (vB false)) rfl (by rw[←hw]<;>rfl) ?_
   refine kbF 80 rfl ?_
   refine gx (fu:=⟨0⟩) rfl<|knF (fu:=⟨3⟩) J J J<|knF rfl (by rfl) rfl<|?_
   exact at_ (k+1) ⟨(by omega),(by omega)⟩
  ·
   refine gx (fu:=⟨1⟩) rfl<|?_
   refine eqF 70 (.d (vI 2)) rfl (by rw[hcl]<;>rfl) ?_
   refine gx (fu:=⟨11⟩) rfl<|knT rfl (by rfl) rfl<|cl (fu:=⟨0⟩) rfl (aFS (op:=o) (x:=atQ A p) (y:=atQ B p)) rfl<|?_
   refine eqF 80 (.d (vB true)) rfl (by rw[←hw]<;>rfl) ?_
   refine kbT 80 rfl ?_
   refine gx (fu:=⟨0⟩) rfl<|knF (fu:=⟨3⟩) J J J<|knF rfl (by rfl) rfl<|?_
   exact at_ (k+1) ⟨(by omega),(by omega)⟩
 ·
  refine cl rfl (auL hE) rfl<|?_
  exact rz J J
end Go.Sx
end
section
namespace Go.Sx
open Go Go.Proofs Go.ChangeShapes Go.WideShapes Go.ChangeAt Go.RowKit
def GW(w:World):Gh:=fun b=>match w.heap[b]? with|some (.cells cs _ _)=>some cs.toList|_=>none
theorem GW.sub{w:World}{b:Nat}{cs:List Value}(h:GW w b=some cs): ∃ty fz,w.heap[b]? =some (.cells ⟨cs⟩ ty fz):=by
 unfold GW at h
 split at h
 ·rename_i c t f e
  cases h
  exact⟨t,f,by rw[e]⟩
 ·cases h
theorem GW.of_cell{w:World}{b off:Nat}{v:Value}(h:w.cell? ⟨b,off,none⟩=some v): ∃cs,GW w b=some cs∧cs[off]? =some v:=by
 unfold World.cell? at h
 unfold GW
 split at h
 ·rename_i c t f e
  simp only at e
  refine⟨c.toList,by rw[e],?_⟩
  simpa using h
 all_goals first|(rename_i e;cases h)|cases h
theorem acb.below{w w':World}{G G':Gh}{own:List Own}(h:acb ⟨w,G,[]⟩ own G' w'):Below w.heap.size w w':=
 ⟨h.os,h.tape,h.output,h.size,fun k hk=>h.keep k hk (by simp)⟩
theorem isLs_vI{G:Gh}: ∀es:List Int,IsLs G (es.map vI) (es.map fun n=>Value.int .i64 n)
 |[]=> .nil
 |n::t=> .cons (aaP.2 rfl) (isLs_vI t)
theorem open_vI{base:Nat}{H:Type}{enc:TypeId×Value→H}{P:Program}{w:World}{t e:TypeId}{v:Value}{d:DataW H}{ps:List MemPlace}(ht:P.underlying t=some (.slice e))(he:P.underlying e=some (.int .i64))(hc:P.cellsOf e=1)
  (hv:Value.okWide P w .any base t v)(h:DataW.Trod enc P w 0 (fun _=>true) true t v d ps):
  ∃es:List Int,Is (GW w) (.sl (es.map vI)) v∧(d= .nil∧es=[]∨ ∃sp,d= .slice (lits .i64 es) sp)∧(∀n∈es,(Lit.int .i64 n).wf=true):=by
 obtain⟨a0,len,cap,rfl⟩:=okWide_slice ht hv
 obtain⟨fuel,hf⟩:=h
 rcases open_ints ht he hc hf with⟨hcs,hx⟩|⟨a,len',cap',zs,hcs,_,hl,hm,hz,hx,hcell,hwz⟩
 ·simp[Value.cells] at hcs
  obtain⟨rfl,rfl,rfl⟩:=hcs
  simp only[Prod.mk.injEq] at hx
  exact⟨[],adl.2 ⟨0,⟨none,0,0⟩,[],rfl,ae8.nil _ 0, .nil⟩, .inl ⟨hx.1,rfl⟩,by simp⟩
 ·simp[Value.cells] at hcs
  obtain⟨rfl,rfl,rfl⟩:=hcs
  simp only[Prod.mk.injEq] at hx
  simp only[if_true] at hz
  refine⟨zs.take len,adl.2 ⟨1,⟨some a,len,cap⟩,(zs.take len).map fun n=>Value.int .i64 n,rfl,⟨by simp;omega,hl,?_⟩,isLs_vI _⟩, .inr ⟨_,hx.1⟩,fun n hn=>hwz n (cM hn)⟩
  by_cases h0:len=0
  ·exact .inl (by simp[h0])
  ·right
   obtain⟨b,off,spot⟩:=a
   have hspot:spot=none:=by simpa[Addr.add] using World.cell?_spot (hcell 0 (by omega))
   subst hspot
   have c0: ∀i,i<zs.length→w.cell? ⟨b,off+i,none⟩=some (.int .i64 (zs.getD i 0)):=fun i hi=>by
    have:=hcell i hi
    rwa [Go.WideShapes.add_plain] at this
   obtain⟨cs,hcs,_⟩:=GW.of_cell (by have h9:=c0 0 (by omega);rw[Nat.add_zero] at h9;exact h9)
   refine⟨b,off,cs,rfl,hcs,fun i hi=>?_⟩
   simp only[aJ,cK] at hi
   obtain⟨cs',hcs',hi'⟩:=GW.of_cell (c0 i (by omega))
   rw[hcs] at hcs'
   cases hcs'
   rw[gT,auZ.2 hi']
   simp[aae,List.getD,aZ (show i<zs.length by omega)]
inductive CSh where
 |b
 |i (k:IntKind)
 |sl (ag:Bool) (l:List CSh)
mutual
def Fit:CSh→DV→Prop
 | .b,d=> ∃b,d= .v (.bool b)
 | .i k,d=> ∃n,d= .v (.int k n)∧(Lit.int k n).wf=true
 | .sl ag l,d=> ∃m:List DV,d= .sl m∧m.length≤maxLen∧ ∀x∈m,∃ys,FitL l ys∧((ag=true∧x= .ag ys)∨(ag=false∧ys=[x]))
def FitL:List CSh→List DV→Prop
 |[],ds=>ds=[]
 |s::l,ds=> ∃d t,ds=d::t∧Fit s d∧FitL l t
end
def flatF(r:TypeId→Option (Bool×List CSh))(P:Program):List Field→Nat→Option (List CSh)
 |[],_=>some []
 |f::fs,o=>match r f.type with
  |some (_,l)=>if f.offset=o∧P.cellsOf f.type=l.length then(flatF r P fs (o+l.length)).map (l++ ·) else none
  |none=>none
def flatT(P:Program):Nat→TypeId→Option (Bool×List CSh)
 |0,_=>none
 |n+1,t=>match P.underlying t with
  |some .bool=>some (false,[.b])
  |some (.int k)=>some (false,[.i k])
  |some (.slice e)=>match flatT P n e with
   |some (a,l)=>if P.cellsOf e=l.length∧0<l.length then some (false,[.sl a l]) else none
   |none=>none
  |some (.struct fs)=>match flatF (flatT P n) P fs.toList 0 with
   |some l=>if P.cellsOf t=l.length then some (true,l) else none
   |none=>none
  |_=>none
section
variable {H:Type} {enc:TypeId×Value→H} {P:Program} {w:World}
end
def shI:List CSh:=[.b, .sl false [.i .u32]]
def shL:List CSh:=shI++(shI++shI)
theorem es_star: "*" ++ "errors.errorString" = "*errors.errorString" :=by decide
theorem es_row(u:TypeId)(h:Tryz.prog.typeName? 3 u=some "*errors.errorString"):u=399:=
 typeName_ptr_named (nm:= "errors.errorString") (by rw[es_star];kernel_rfl) (by kernel_rfl) (by decide) u (by rw[es_star];exact h)
theorem sent_of{W:World}{n:String}{g:Nat}{text:List UInt8}{r:List (String×DataW Unit)}(h:laidMet Tryz.prog ((n, .iface "*errors.errorString" (.ptr (.agg [.lit (.string text)])))::r) W)(hg:Tryz.prog.globalNamed n=some g)(ht:(Tryz.prog.globals[g]?).map (·.type)=some 37):
  ∃a,GW W g=some [.iface 399 (.pointer (some a))]:=by
 obtain⟨a,s,hv,_⟩:=laid_sentinel h hg ht Tryz.underlying37 es_row Tryz.underlying399 Tryz.underlying424 rfl rfl Tryz.underlying9 (by kernel_rfl) (by kernel_rfl)
 refine⟨a,?_⟩
 unfold World.var? at hv
 rw[hg,Option.bind_some] at hv
 unfold GW
 split at hv
 ·rename_i c t f e
  rw[e];cases hv;rfl
 ·cases hv
theorem laid_plain{W:World}{l:List (String×DataW Unit)}(h:laidMetH Tryz.prog l W)(hp:(l.all fun x=>x.2.handleName?.isNone)=true):laidMet Tryz.prog l W:=by rwa [Go.MakeChecks.laidMetH_plain _ _ _ hp] at h
end Go.Sx
end
section
namespace Go.Proofs.YtopfgminkdfpkaaGreatDoor.mergeDenotes
open Go.ChangeShapes Go.WideShapes Go.ChangeAt Go.RowKit Go.Sx
theorem own:ownKnob Tryz.prog.godebug=none:=by kernel_rfl
theorem laidOut:laidOutB Tryz.prog=true:=by kernel_rfl
theorem cellsI:Tryz.prog.cellsOf 3=1:=by kernel_rfl
theorem bytesI:Tryz.prog.bytesOf 3=8:=by kernel_rfl
theorem door_met(os:Os)(args:Array Value):laidMetH Tryz.prog Rows.mergeDenotesRow.laid ((World.doorLaid Tryz.prog 66 os).forCall (fun _ _=>0) ⟨#[],args,[]⟩).memory:=
 laidMetH_of_parts3 (fuel:=8) (laidMet_of_run' 8 (by kernel_rfl) (by kernel_rfl)) (by kernel_rfl) (by kernel_rfl)
theorem wf_i64{n:Int}(h:(Lit.int .i64 n).wf=true): -9223372036854775808≤n∧n<9223372036854775808:=by
 simp only[Lit.wf,Bool.and_eq_true,decide_eq_true_eq] at h
 have e1:IntKind.i64.min= -9223372036854775808:=rfl
 have e2:IntKind.i64.max=9223372036854775807:=rfl
 omega
theorem eg_of{W:World}(h:laidMetH Tryz.prog Rows.mergeDenotesRow.laid W): ∃ai al ae,EG (GW W) ai al ae:=by
 have h1:=laid_plain h rfl
 obtain⟨ai,hi⟩:=sent_of (g:=1) h1 (by kernel_rfl) (by kernel_rfl)
 obtain⟨al,hl⟩:=sent_of (g:=2) h1.tail (by kernel_rfl) (by kernel_rfl)
 exact⟨ai,al,al,hi,hl⟩
theorem contract(H:Type)(enc:TypeId×Value→H)(W:World)(base:Nat)(args:Array Value)(ds gs:List (DataW H))(before:List MemPlace)
  (hval: ∀(j:Nat) t v,Tryz.f5.params[j]? =some t→args[j]? =some v→Value.okWide Tryz.prog W .any base t v)
  (hW:DataW.Whole enc Tryz.prog Tryz.f5.params.toList Rows.mergeDenotesSpec.vars false W args.toList ds gs before)
  (hz:(DataW.weightsEach Tryz.prog (Tryz.f5.params.toList++(OpenSpec.ofChange Rows.mergeDenotesSpec).bare.plain.varTypes Tryz.prog) (ds++gs)).all (· ≤reachBytes)=true)(hlaid:laidMetH Tryz.prog Rows.mergeDenotesRow.laid W):
  Calls Tryz.prog 5 args W fun e W'=> ∃v,e= .returned v∧Rows.mergeDenotesSpec.post enc Tryz.prog Tryz.f5 false true false false W args v W':=by
 have hW':=hW
 obtain⟨p,q,hA0,hV,rfl,_,_⟩:=hW
 have hA:DataW.TrodAll enc Tryz.prog W 0 (fun _=>true) true Tryz.f5.params.toList args.toList ds p:=hA0
 rw[Tryz.params5] at hA hval hz
 obtain⟨v0,v1,d0,d1,p0,p1,hargs,rfl,rfl,h0,h1⟩:=trodAll_two hA
 subst hargs
 obtain⟨rfl,rfl⟩:=trodVars_none hV
 obtain⟨n1,rfl,rfl,rfl,w1⟩:=open_int Tryz.underlying3 (hval 1 3 v1 rfl rfl) h1
 clear hA0
 simp only[List.append_nil] at hW'
 have hlt: ∀x∈p0,x.block<W.heap.size:=fun x hx=>by simpa using hW'.lt x hx
 obtain⟨es,hI,hd,_⟩:=open_vI Tryz.underlying22 Tryz.underlying3 cellsI (hval 0 22 v0 rfl rfl) h0
 have hb:es.length≤1125899906842624:=by
  rcases hd with⟨rfl,rfl⟩|⟨sp,rfl⟩
  ·exact Nat.zero_le _
  ·have:=sized_slice hz (j:=0) (t:=22) (e:=3) J J Tryz.underlying22
   rw[bytesI] at this
   have hr:=reachBytes_lt
   have hl:(lits (H:=H) .i64 es).length=es.length:=by simp[lits]
   rw[hl] at this
   omega
 obtain⟨ai,al,ae,hE⟩:=eg_of hlaid
 have hf:=(q_MergeDenotes hE (es0:=es) (op:=n1) hb (wf_i64 w1)) (GW W) [v0, .int .i64 n1] (GLe.refl _) (.cons hI (.cons (aaP.2 rfl) .nil))
 refine(hf.run W (fun b cs hg=>GW.sub hg)).mono fun e W' ⟨v,G',he,hr,hv⟩=>?_
 rw[aaP] at hv
 subst hv
 subst he
 have hn:=hr.below
 have t2:=trodAll_mk2 (Below.trod laidOut (by kernel_rfl) (of_decide_eq_true (by kernel_rfl)) h0 hn hlt) (shut_int Tryz.underlying3 w1)
 simp only[List.append_nil] at t2
 exact⟨_,rfl,⟨_,_,_,[],_,[],hW',trodAll_mk1 (shut_bool Tryz.underlying4 _),t2,rfl,hn.frame _,fun h=>by cases h⟩⟩
theorem reads(os:Os){H:Type}(enc:TypeId×Value→H): ∃places,DataW.whole enc Tryz.prog ((World.doorLaid Tryz.prog 66 os).forCall (fun _ _=>0) ⟨#[], #[.slice none 0 0, .int .i64 0],[]⟩).memory Tryz.f5.params.toList Rows.mergeDenotesSpec.vars false #[Value.slice none 0 0, .int .i64 0].toList 8=some ([.nil, .lit (.int .i64 0)],[],places):=
 ⟨[],by kernel_rfl⟩
theorem lifted(os:Os)(started:os.Started)(H:Type)(enc:TypeId×Value→H)(F:Stop.Interp):
  ReturnsInHanded {} Tryz.checked os 5 .any ((OpenSpec.ofChange Rows.mergeDenotesSpec).preRow enc Tryz.prog Tryz.f5 Rows.mergeDenotesRow.domain false Rows.mergeDenotesRow.laid) (((OpenSpec.ofChange Rows.mergeDenotesSpec).at F).post enc Tryz.prog Tryz.f5 false true false false):=by
 obtain⟨places,hx⟩:=reads os enc
 refine returnsInHanded_of_row (C:=Tryz.checked) (s:=OpenSpec.ofChange Rows.mergeDenotesSpec) own started (by kernel_rfl) Tryz.func5
  (witness_row_atRef (enc:=enc) (C:=Tryz.checked) false (World.doorLaid Tryz.prog 66 os) #[.slice none 0 0, .int .i64 0] rfl (by kernel_rfl) (by kernel_rfl) (by kernel_rfl)
   (OpenSpec.preRow_of_cond 8 hx (by kernel_rfl) (fun k hk=>by cases hk) (by kernel_rfl) (door_met os _))) ?_
 intro W base args ds gs before hval hW _ _ hz hlaid _ _
 exact contract H enc W base args ds gs before hval hW hz hlaid
theorem j1:(Rows.mergeDenotesRow.inPlace==Tryz.pinned.checked.prog.inPlace 5)=true:=by kernel_rfl
theorem j2:(Rows.mergeDenotesRow.unfollowed==Tryz.pinned.checked.prog.unfollowed 5)=true:=by kernel_rfl
theorem j3:(Rows.mergeDenotesRow.recurses==Tryz.pinned.checked.prog.recurses 5)=true:=by kernel_rfl
theorem j4:(Rows.mergeDenotesRow.named==Tryz.pinned.checked.prog.varsNamed 5)=true:=by kernel_rfl
theorem j5:laidOutB Tryz.pinned.checked.prog=true:=laidOut
theorem j6:mapsRowed Tryz.pinned.checked.prog=true:=by kernel_rfl
theorem j7:Tryz.pinned.checked.prog.mainIs=some (Rows.mergeDenotesCard.stood.harness.1,Rows.mergeDenotesCard.stood.harness.2.toList):=by kernel_rfl
theorem j8:false=Rows.mergeDenotesRow.goesBy Tryz.pinned.checked.prog:=by kernel_rfl
theorem closed:joinedFacts Tryz.pinned.checked.prog 5 Tryz.f5 (OpenSpec.ofChange Rows.mergeDenotesSpec).bare Rows.mergeDenotesRow=true:=by
 unfold joinedFacts
 rw[j1,j2,j3,j4,j5,j6]
 kernel_rfl
theorem said:Rows.MergeDenotesSaid:=
 OpenClaim.holds_of_cond 5 Tryz.f5 J J J J J J J ⟨rfl,rfl,rfl,rfl,rfl⟩ J J J J J (by kernel_rfl) Tryz.func5 closed
  (of_decide_eq_true (by kernel_rfl)) (by unfold Func.isWrapper;first|(rw[if_pos (by decide+kernel)];kernel_rfl)|(rw[if_neg (by decide+kernel)];exact⟨rfl,rfl⟩))
  (fun os started H enc _ F=>by rw[OpenClaim.pre_eq_preRow];exact lifted os started H enc F)
theorem plain(f:FuncId)(fn:Func)(hf:Tryz.pinned.checked.prog.funcNamed "bspregion/bspregionlaw19.MergeDenotes" =some f)(hfn:Tryz.pinned.checked.prog.funcs[f]? =some fn):
  true=Tryz.pinned.checked.prog.looks []∧ ∀(j:Nat) t,fn.params[j]? =some t→Tryz.pinned.checked.prog.wantsStandIn t=false:=by
 obtain rfl:f=5:=Option.some.inj ((show Tryz.prog.funcNamed "bspregion/bspregionlaw19.MergeDenotes" =some 5 by kernel_rfl).symm.trans hf) |>.symm
 obtain rfl:fn=Tryz.f5:=(Option.some.inj (Tryz.func5.symm.trans hfn)).symm
 refine⟨by kernel_rfl,fun j t ht=>?_⟩
 rw[Tryz.params5] at ht
 have hm:=Array.mem_of_getElem? ht
 simp only[List.mem_toArray,List.mem_cons,List.not_mem_nil,or_false] at hm
 rcases hm with rfl|rfl
 ·exact(show Tryz.prog.wantsStandIn 22=false by kernel_rfl)
 ·exact(show Tryz.prog.wantsStandIn 3=false by kernel_rfl)
theorem card:Rows.MergeDenotesCardSaid:=
 Claim7.holds_tied_plain_at .later [] _ _ _ _ said (fun _ h=>by cases h) (by kernel_rfl) (fun _ h=>by cases h) mergeDenotes_row_tie rfl ⟨rfl,rfl⟩ j7 rfl plain j8
#print axioms card
end Go.Proofs.YtopfgminkdfpkaaGreatDoor.mergeDenotes
end
