/-
  Reference: convex rings, half-planes and regions of the tape. The abstract machine: the last two bits of a signed number. Pairs of regions of the tape; the law MergeMakes: its walk. Program: lines and cells as they come; restriction, reduction and splitting. Program: a tree is the same as itself; what is reduced. The abstract machine: functions with a bound receiver. Plain laws: points of all faces between the lines of two trees decide how the regions are related. Relations of regions. The laws RelateOrder and RelateForms: their walks. Reference: numbers in order, gaps, points of all faces. The abstract machine: functions that hand back a new row. Reference: the lines of a tree, leaves of points, regions held against each other. The law RelateDecides: its walk. From deep values to a row's statement: the memory of a call's start as frozen cells, its slices of integers, what is left of old memory at the end.
-/
import Derived.Test.YtlnphbkcelfboaaGreatDoorMs17
import Derived.Test.YtlnphbkcelfboaaGreatDoorCards
import Derived.Test.YtlnphbkcelfboaaGreatDoorTie
import Derived.WalkKit
import Derived.ProofKit
import Derived.OpenShut
import Derived.Deep.DeepHandedRow
import Derived.Deep.DeepWitnessRowRef
import Derived.LaidMore
import Derived.Lib.LaidTab
import Derived.SizedLaws
set_option linter.unusedSimpArgs false
set_option linter.unusedVariables false
section
set_option maxRecDepth 100000
namespace Go.Sx
open Go Go.Proofs
def cvxE(r:List ZP)(i k:Nat):Bool:=decide (k=i)||decide (k=(i+1)%r.length)||decide (0<orientQ (r.getD i (0,0)).q (nextZ r i).q (r.getD k (0,0)).q)
def convexZ(r:List ZP):Bool:=(List.range r.length).all fun i=>(List.range r.length).all fun k=>cvxE r i k
theorem one_ok{r:List ZP}(h:RingOk r): ∀x∈[r],RingOk x:=fun x hx=>by rw[List.mem_singleton] at hx;subst hx;exact h
theorem two_ok{r s:List ZP}(h:RingOk r)(k:RingOk s): ∀x∈[r,s],RingOk x:=fun x hx=>by
 simp only[List.mem_cons,List.not_mem_nil,or_false] at hx
 rcases hx with rfl|rfl
 ·exact h
 ·exact k
set_option maxHeartbeats 2000000 in
theorem q_bounded{GB:Gh}{b:Nat}{es:List Int}(hes:es.length≤400){a:Nat}(ha:a≤es.length):PM GB Tryz.prog 91 (mkP [none] b) b 89 [.sl (es.map vI), .v (.int .i64 (a:Nat))] (eT (boundF es a).1) [.sl (es.map vI), .v (.int .i64 ((boundF es a).2:Nat))]:=by
 obtain⟨r1,r2⟩:=ringF_ok ha
 have hk3:=nextF_le (n:=3) r2
 refine fnM Tryz.func91 J J Tryz.ntmps91 J J (fun C b m lo hmb=>?_)
 refine cm rfl (fun b=>(q_RingT hes ha)) rfl<|ro (fu:=⟨4⟩) J J<|?_
 refine mg (X:=List (List ZP)×Nat) (fun⟨rs,a2⟩=>[(3, .rw 6)]) (fun⟨rs,a2⟩=>[(1000000,some (.o 89 [.d (.sl (es.map vI)), .d (.v (.int .i64 (a2:Nat)))] false)),(6,some (.b 100 1 (rs.map eRg) true))]) (fun⟨rs,a2⟩=>boundF es a=(buildR rs (1+((nextF es 2 a2).1:Int)),(nextF es 2 a2).2)∧a2≤es.length∧(∀r∈rs,RingOk r)∧rs.length≤2) [3] [1000000,6] rfl ?_ (fun _=>rfl) (fun⟨rs,a2⟩ ⟨hB,ha2,hrs,hrl⟩=>?_)
 ·
  refine gx rfl<|cm rfl (fun b=>(q_NextT (n:=3) hes r2 (by decide) (by decide))) rfl<|?_
  refine br J J J (fun hc9=>?_) (fun hc9=>?_)
  ·
   obtain⟨s1,s2⟩:=ringF_ok hk3
   refine cm rfl (fun b=>(q_RingT hes hk3)) rfl<|rf J J<|ap (hbd:=by simp) ([(ringF es a).1,(ringF es (nextF es 3 (ringF es a).2).2).1].map eRg) J J (slOkRg [(ringF es (nextF es 3 (ringF es a).2).2).1]) rfl<|?_
   refine rnE 14 6 rfl ?_
   exact at_ ⟨[(ringF es a).1,(ringF es (nextF es 3 (ringF es a).2).2).1],(ringF es (nextF es 3 (ringF es a).2).2).2⟩ ⟨if_pos hc9,s2,two_ok r1 s1,by simp⟩
  ·
   exact at_ ⟨[(ringF es a).1],(nextF es 3 (ringF es a).2).2⟩ ⟨if_neg hc9,hk3,one_ok r1,by simp⟩
 ·
  try dsimp only at hB ha2 hrs hrl⊢
  have hf2:=nextF_lt (es:=es) (n:=2) (a:=a2) (by decide)
  refine fz 6 J J<|cl rfl (q_Api (rs:=rs) hrs (by omega)) rfl<|cm rfl (fun b=>(q_NextT (n:=2) hes ha2 (by decide) (by decide))) rfl<|cl rfl (q_RMake (rs:=rs) (fill:=1+((nextF es 2 a2).1:Int)) hrs (by omega)) rfl<|?_
  refine cl rfl (q_Build (rs:=rs) (fill:=1+((nextF es 2 a2).1:Int)) hrs (by omega)) rfl<|?_
  exact rzM hmb J J (by rw[hB];rfl) (by rw[hB])
set_option maxHeartbeats 2000000 in
theorem q_Region_zero{GB:Gh}{b:Nat}{es:List Int}(hes:es.length≤400){a:Nat}(ha:a≤es.length){n:Int}(hn:n=0):PM GB Tryz.prog 38 (mkP [none,some (.v (.int .i64 n))] b) b 89 [.sl (es.map vI), .v (.int .i64 (a:Nat))] (eT (regionF es 0 a).1) [.sl (es.map vI), .v (.int .i64 ((regionF es 0 a).2:Nat))]:=by
 have hk0:=nextF_le (n:=6) ha
 obtain⟨hl,hl2⟩:=lF_ok hk0
 obtain⟨ht,ht2⟩:=tree3_ok hk0
 obtain⟨hb,hb2⟩:=boundF_ok hk0
 refine fnM Tryz.func38 J J Tryz.ntmps38 J J (fun C b m lo hmb=>?_)
 refine cm (fu:=⟨5⟩) rfl (fun b=>(q_NextT (n:=6) hes ha (by decide) (by decide))) rfl<|?_
 refine mg (X:=Unit) (fun _=>[(9, .ff)]) (fun _=>[]) (fun _=>True) [9] [] rfl ?_ (fun _=>rfl) (fun _ _=>?_)
 ·
  refine gx rfl<|?_
  refine cs (fu1:=⟨1⟩) 12 J J J (fun hg12=>?_) (fun hg12=>?_)
  ·
   refine knF rfl (by show some (decide _)=some false;rw[decide_eq_false (by omega)]) rfl<|?_
   exact at_ () trivial
  ·
   exact at_ () trivial
 ·
  refine br J J J (fun hc29=>?_) (fun hc29=>?_)
  ·
   refine cm rfl (fun b=>(q_LT hes hk0)) rfl<|cl rfl (q_CodeT (p:=true)) rfl<|cl (fu:=⟨1⟩) rfl (q_CodeT (p:=false)) rfl<|bxf J J<|cl rfl (q_RReduce (t:= .node (lF es (nextF es 6 a).2).1 (.leaf true) (.leaf false)) ⟨⟨hl.bl⟩,trivial,trivial⟩ ⟨hl.ok,trivial,trivial⟩ (by simp[Tr.depth])) rfl<|?_
   exact rzM hmb J J (by rw[show regionF es 0 a=_ from if_pos hc29];rfl) (by rw[show regionF es 0 a=_ from if_pos hc29])
  ·
   refine br J J J (fun hc39=>?_) (fun hc39=>?_)
   ·
    refine cm rfl (fun b=>(q_TreeT (d:=3) hes hk0 (by decide))) rfl<|cl rfl (q_RReduce (t:=(treeF es 3 (nextF es 6 a).2).1) ht.lb ht.ok (by have:=ht.dp;omega)) rfl<|?_
    exact rzM hmb J J (by rw[show regionF es 0 a=_ from(if_neg hc29).trans (if_pos hc39)];rfl) (by rw[show regionF es 0 a=_ from(if_neg hc29).trans (if_pos hc39)])
   ·
    refine br J J J (fun hc45=>?_) (fun hc45=>?_)
    ·
     refine cm rfl (fun b=>(q_bounded hes hk0)) rfl<|cl rfl q_Not rfl<|?_
     exact rzM hmb J J (by rw[show regionF es 0 a=_ from(if_neg hc29).trans ((if_neg hc39).trans (if_pos hc45))];rfl) (by rw[show regionF es 0 a=_ from(if_neg hc29).trans ((if_neg hc39).trans (if_pos hc45))])
    ·
     refine cm rfl (fun b=>(q_bounded hes hk0)) rfl<|?_
     exact rzM hmb J J (by rw[show regionF es 0 a=_ from(if_neg hc29).trans ((if_neg hc39).trans (if_neg hc45))];rfl) (by rw[show regionF es 0 a=_ from(if_neg hc29).trans ((if_neg hc39).trans (if_neg hc45))])
set_option maxHeartbeats 2000000 in
theorem q_Region_node{GB:Gh}{b:Nat}{es:List Int}(hes:es.length≤400){a:Nat}(ha:a≤es.length){d:Nat}{n:Int}(hn:n=((d+1:Nat):Int))(hd:d≤3)(ih: ∀{GB:Gh} {b a:Nat} {n:Int},a≤es.length→n=(d:Int)→PM GB Tryz.prog 38 (mkP [none,some (.v (.int .i64 n))] b) b 89 [.sl (es.map vI), .v (.int .i64 (a:Nat))] (eT (regionF es d a).1) [.sl (es.map vI), .v (.int .i64 ((regionF es d a).2:Nat))]):PM GB Tryz.prog 38 (mkP [none,some (.v (.int .i64 n))] b) b 89 [.sl (es.map vI), .v (.int .i64 (a:Nat))] (eT (regionF es (d+1) a).1) [.sl (es.map vI), .v (.int .i64 ((regionF es (d+1) a).2:Nat))]:=by
 have hk0:=nextF_le (n:=6) ha
 obtain⟨hl,hl2⟩:=lF_ok hk0
 obtain⟨ht,ht2⟩:=tree3_ok hk0
 obtain⟨hb,hb2⟩:=boundF_ok hk0
 obtain⟨g1,g2⟩:=regionF_ok (d:=d) hk0
 have hj:=nextF_le (n:=4) g2
 have hjl:=nextF_lt (es:=es) (n:=4) (a:=(regionF es d (nextF es 6 a).2).2) (by decide)
 obtain⟨g3,g4⟩:=regionF_ok (d:=d) hj
 have hpw:18*2^d≤18*2^3:=Nat.mul_le_mul_left _ (Nat.pow_le_pow_right (by decide) hd)
 refine fnM Tryz.func38 J J Tryz.ntmps38 J J (fun C b m lo hmb=>?_)
 refine cm rfl (fun b=>(q_NextT (n:=6) hes ha (by decide) (by decide))) rfl<|?_
 refine cs (fu1:=⟨1⟩) 12 J J J (fun hg12=>?_) (fun hg12=>?_)
 ·
  refine knT rfl (by show some (decide _)=some true;rw[decide_eq_true (by omega)]) rfl<|cm rfl (fun b=>(ih hk0 (by omega))) rfl<|cm rfl (fun b=>(q_NextT (n:=4) hes g2 (by decide) (by decide))) rfl<|?_
  refine cm rfl (fun b=>(ih hj (by omega))) rfl<|cl rfl (q_RMerge (op:=1+((nextF es 4 (regionF es d (nextF es 6 a).2).2).1:Int)) (t:=(regionF es d (nextF es 6 a).2).1) (u:=(regionF es d (nextF es 4 (regionF es d (nextF es 6 a).2).2).2).1) (c:=[]) g3.gd.lb g3.gd.ok g1.gd.lb g1.gd.ok (fun m h=>by cases h) (fun m h=>by cases h) (by have:=g1.dp;have:=g3.dp;rw[List.length_nil];omega)) rfl<|?_
  exact rzM hmb J J (by rw[show regionF es (d+1) a=_ from if_pos hg12];show eT (Tr.mergeL _ _ _ _)=eT (Tr.mergeQ _ _ _ _);rw[Tr.mergeL_nil (by omega) g1.gd.ok g3.gd.ok]) (by rw[show regionF es (d+1) a=_ from if_pos hg12])
 ·
  refine br J J J (fun hc29=>?_) (fun hc29=>?_)
  ·
   refine cm rfl (fun b=>(q_LT hes hk0)) rfl<|cl rfl (q_CodeT (p:=true)) rfl<|cl (fu:=⟨1⟩) rfl (q_CodeT (p:=false)) rfl<|bxf J J<|cl rfl (q_RReduce (t:= .node (lF es (nextF es 6 a).2).1 (.leaf true) (.leaf false)) ⟨⟨hl.bl⟩,trivial,trivial⟩ ⟨hl.ok,trivial,trivial⟩ (by simp[Tr.depth])) rfl<|?_
   exact rzM hmb J J (by rw[show regionF es (d+1) a=_ from(if_neg hg12).trans (if_pos hc29)];rfl) (by rw[show regionF es (d+1) a=_ from(if_neg hg12).trans (if_pos hc29)])
  ·
   refine br J J J (fun hc39=>?_) (fun hc39=>?_)
   ·
    refine cm rfl (fun b=>(q_TreeT (d:=3) hes hk0 (by decide))) rfl<|cl rfl (q_RReduce (t:=(treeF es 3 (nextF es 6 a).2).1) ht.lb ht.ok (by have:=ht.dp;omega)) rfl<|?_
    exact rzM hmb J J (by rw[show regionF es (d+1) a=_ from(if_neg hg12).trans ((if_neg hc29).trans (if_pos hc39))];rfl) (by rw[show regionF es (d+1) a=_ from(if_neg hg12).trans ((if_neg hc29).trans (if_pos hc39))])
   ·
    refine br J J J (fun hc45=>?_) (fun hc45=>?_)
    ·
     refine cm rfl (fun b=>(q_bounded hes hk0)) rfl<|cl rfl q_Not rfl<|?_
     exact rzM hmb J J (by rw[show regionF es (d+1) a=_ from(if_neg hg12).trans ((if_neg hc29).trans ((if_neg hc39).trans (if_pos hc45)))];rfl) (by rw[show regionF es (d+1) a=_ from(if_neg hg12).trans ((if_neg hc29).trans ((if_neg hc39).trans (if_pos hc45)))])
    ·
     refine cm rfl (fun b=>(q_bounded hes hk0)) rfl<|?_
     exact rzM hmb J J (by rw[show regionF es (d+1) a=_ from(if_neg hg12).trans ((if_neg hc29).trans ((if_neg hc39).trans (if_neg hc45)))];rfl) (by rw[show regionF es (d+1) a=_ from(if_neg hg12).trans ((if_neg hc29).trans ((if_neg hc39).trans (if_neg hc45)))])
theorem q_RegionI{es:List Int}(hes:es.length≤400): ∀{d:Nat} {GB:Gh} {b a:Nat} {n:Int},d≤4→a≤es.length→n=(d:Int)→PM GB Tryz.prog 38 (mkP [none,some (.v (.int .i64 n))] b) b 89 [.sl (es.map vI), .v (.int .i64 (a:Nat))] (eT (regionF es d a).1) [.sl (es.map vI), .v (.int .i64 ((regionF es d a).2:Nat))]
 |0,_,_,_,_,_,ha,hn=>q_Region_zero hes ha hn
 |d+1,_,_,_,_,hd,ha,hn=>q_Region_node hes ha hn (by omega) (fun h1 h2=>q_RegionI hes (by omega) h1 h2)
theorem q_RegionT{GB:Gh}{es:List Int}(hes:es.length≤400){a d b:Nat}(ha:a≤es.length)(hd:d≤4):PM GB Tryz.prog 38 (mkP [none,some (.v (.int .i64 (d:Nat)))] b) b 89 [.sl (es.map vI), .v (.int .i64 (a:Nat))] (eT (regionF es d a).1) [.sl (es.map vI), .v (.int .i64 ((regionF es d a).2:Nat))]:=q_RegionI (GB:=GB) hes hd ha rfl
end Go.Sx
end

section
set_option maxRecDepth 100000
namespace Go.Sx
open Go Go.Proofs
section
variable {GB:Gh} {C:Ctx} {n:Nat} {Q0:Exit→Act→World→Prop} {fr fr' fr1 fr2:FrX} {own own' own1 own2:OwX} {cf cf' cf1 cf2:Cf} {vc vc1 vc2:List Prop}
def an3A(fr:FrX)(cf:Cf):Option Int:=match opC fr cf with
 |some ⟨_, .binOp .and _ x (.const (.int .i64 3)) _,_,_,_,_⟩=>match evX (lkC fr cf) x with
  |some (.d (.v (.int .i64 p)))=>some p
  |_=>none
 |_=>none
end
end Go.Sx
end

section
set_option maxRecDepth 100000
namespace Go.Sx
open Go Go.Proofs
theorem q_NewT{GB:Gh}{es0 es:List Int}(hb:es0.length≤1125899906842624)(he:es=es0.take 400):PN GB Tryz.prog 12 [.sl (es0.map vI)] 89 Unit (fun _=>[.sl (es.map vI), .v (.int .i64 (0:Nat))]):=by
 subst he;exact q_New hb
theorem q_WriteX{GB:Gh}{k:Nat}{t:Tr}(h:TrX k t):PF GB Tryz.prog 13 [eT t] (eA t):=q_Write h.bl (by have:=h.s;omega)
theorem q_RMergeX{GB:Gh}{op:Int}{j k:Nat}{a b:Tr}(ho:1≤op∧op≤4)(ha:TrX j a)(hb:TrX k b)(hk:j+k≤900):PF GB Tryz.prog 33 [vI op,eT a,eT b, .sl []] (eT (a.mergeQ op b [])):=by
 have:=q_RMerge (GB:=GB) (op:=op) hb.lb hb.ok (t:=a) (c:=[]) ha.lb ha.ok (fun m h=>by cases h) (fun m h=>by cases h) (by have:=ha.dp;have:=hb.dp;rw[List.length_nil];omega)
 rw[Tr.mergeL_nil ho ha.ok hb.ok] at this
 exact this
set_option maxHeartbeats 2000000 in
theorem q_pair{GB:Gh}{b:Nat}{es:List Int}(hes:es.length≤400){a:Nat}(ha:a≤es.length):PM GB Tryz.prog 19 (mkP [none] b) b 89 [.sl (es.map vI), .v (.int .i64 (a:Nat))] (.tp [eT (pairF es a).1.1,eT (pairF es a).1.2]) [.sl (es.map vI), .v (.int .i64 ((pairF es a).2:Nat))]:=by
 obtain⟨x1,x2⟩:=region0_ok ha
 obtain⟨y1,y2⟩:=region0_ok x2
 have hk0:=nextF_le (n:=6) y2
 refine fnM Tryz.func19 J J Tryz.ntmps19 J J (fun C b m lo hmb=>?_)
 refine cm rfl (fun b=>(q_RegionT (d:=0) hes ha (by decide))) rfl<|cm rfl (fun b=>(q_RegionT (d:=0) hes x2 (by decide))) rfl<|cm rfl (fun b=>(q_NextT (n:=6) hes y2 (by decide) (by decide))) rfl<|?_
 refine br J J J (fun hc12=>?_) (fun hc12=>?_)
 ·
  refine cm (fu:=⟨3⟩) rfl (fun b=>(q_LT hes hk0)) rfl<|bxf J J<|?_
  exact rzM hmb J J (by rw[show pairF es a=_ from if_pos hc12];rfl) (by rw[show pairF es a=_ from if_pos hc12])
 ·
  refine br J J J (fun hc20=>?_) (fun hc20=>?_)
  ·
   refine cl rfl (q_RMergeX (op:=1) (by decide) y1 x1 (by decide)) rfl<|?_
   exact rzM hmb J J (by rw[show pairF es a=_ from(if_neg hc12).trans (if_pos hc20)];rfl) (by rw[show pairF es a=_ from(if_neg hc12).trans (if_pos hc20)])
  ·
   refine br J J J (fun hc25=>?_) (fun hc25=>?_)
   ·
    refine cl rfl (q_RMergeX (op:=3) (by decide) y1 x1 (by decide)) rfl<|?_
    exact rzM hmb J J (by rw[show pairF es a=_ from(if_neg hc12).trans ((if_neg hc20).trans (if_pos hc25))];rfl) (by rw[show pairF es a=_ from(if_neg hc12).trans ((if_neg hc20).trans (if_pos hc25))])
   ·
    refine br J J J (fun hc30=>?_) (fun hc30=>?_)
    ·
     refine cm rfl (fun b=>(q_TreeT (d:=3) hes hk0 (by decide))) rfl<|?_
     exact rzM hmb J J (by rw[show pairF es a=_ from(if_neg hc12).trans ((if_neg hc20).trans ((if_neg hc25).trans (if_pos hc30)))];rfl) (by rw[show pairF es a=_ from(if_neg hc12).trans ((if_neg hc20).trans ((if_neg hc25).trans (if_pos hc30)))])
    ·
     exact rzM hmb J J (by rw[show pairF es a=_ from(if_neg hc12).trans ((if_neg hc20).trans ((if_neg hc25).trans (if_neg hc30)))];rfl) (by rw[show pairF es a=_ from(if_neg hc12).trans ((if_neg hc20).trans ((if_neg hc25).trans (if_neg hc30)))])
end Go.Sx
end

section
set_option maxRecDepth 100000
namespace Go.Sx
open Go Go.Proofs
def lnsX(cs:List RL):Option (List LnQ):=if cs.all (fun r=>r.ln.isSome) then some (cs.filterMap RL.ln) else none
def lnsD:Option (List LnQ)→DV
 |some ls=> .tp [.sl (ls.map eLn),vB true]
 |none=> .tp [.sl [],vB false]
def canD:Option CellQ→DV
 |some c=> .tp [.sl (c.map eFr),vB true]
 |none=> .tp [.sl [],vB false]
def readD(ai al:Addr)(more:Nat):Option Tr→DV
 |none=> .tp [.v (.pointer none),eErr ai]
 |some t=>if 1024<t.depth+more then .tp [.v (.pointer none),eErr al] else .tp [eU t, .v .nilIface]
def optX(ai:Addr)(f:Tr→Tr):Option Tr→Tr ⊕ Addr
 |some t=> .inl (f t)
 |none=> .inr ai
def restX(ai ae:Addr):Option Tr→Option (List LnQ)→Tr ⊕ Addr
 |some t,some ls=>(match canonQ ls [] with
  |some c=> .inl (t.restrict c)
  |none=> .inr ae)
 |_,_=> .inr ai
def splD(ai:Addr):Option LnQ→Option Tr→DV
 |some m,some t=> .tp [eA (t.restrict (clipC [] m)),eA (t.restrict (clipC [] m.rev)), .v .nilIface]
 |_,_=> .tp [trZ,trZ,eErr ai]
end Go.Sx
end

section
set_option maxRecDepth 100000
namespace Go.Sx
open Go Go.Proofs
end Go.Sx
end

section
set_option maxRecDepth 100000
namespace Go.Sx
open Go Go.Proofs
section
variable {GB:Gh} {C:Ctx} {n:Nat} {Q0:Exit→Act→World→Prop} {fr fr':FrX} {own own':OwX} {cf cf':Cf} {vc:List Prop} {ops:Array Oper} {r:List Oper} {K:List Kt}
theorem nameV(k:Nat){d:DV}(hl:lookX fr k=some (.d d))(h: ∀(GB':Gh) (pv:Value),GLe GB GB'→Is GB' d pv→CfS Tryz.prog GB' C n Q0 ((k, .d (.v pv))::fr) own (.ops ops r K)):CfS Tryz.prog GB C n Q0 fr own (.ops ops r K):=by
 refine⟨fun ρ G ov a w r0=>?_⟩
 obtain⟨y,hy,hy'⟩:=r0.fx k _ hl
 refine(h G y r0.gb hy').run ρ G ov a w ⟨GLe.refl _,r0.h,r0.sz,r0.df,fun j f e=>?_,r0.bx,r0.dj⟩
 rw[lookX_cons] at e
 split at e
 ·rename_i hj
  cases e;subst hj
  exact⟨y,hy,(is_v (G:=G)).2 rfl⟩
 ·exact r0.fx j f e
def mkFA(fr:FrX)(cf:Cf):Option (FuncId×Value):=match opC fr cf with
 |some ⟨_, .makeFunc (.func f) ⟨[x]⟩ ⟨[]⟩,_,_,_,_⟩=>match evX (lkC fr cf) x with
  |some (.d (.v pv))=>some (f,pv)
  |_=>none
 |_=>none
theorem mkF[fu:Fu]{f:FuncId}{pv:Value}(h:mkFA fr cf=some (f,pv))(hgo:goA tt n fu.n fr own cf (.d (.v (.func (.func f) ⟨[pv]⟩ ⟨[]⟩))) [] []=⟨vc,fr',own',cf'⟩)(k:CfS Tryz.prog GB C n Q0 fr' own' cf')
  (hv:allP vc:=by first|exact trivial|(simp only[allP];kernel_rfl)|(simp only[allP];omega)):CfS Tryz.prog GB C n Q0 fr own cf:=by
 unfold mkFA at h
 split at h<;>try (cases h;done)
 rename_i hh
 split at h<;>cases h
 rename_i hx
 exact us hh (.x1 hx fun ρ G ov a w y _ r h1 h2=>by
  rw[(is_v (G:=G)).1 h2] at h1
  exact⟨_,(is_v (G:=G)).2 rfl,yd_makeFunc (l1:=[pv]) (l2:=[]) (by simp[h1]) rfl⟩) hgo hv k
theorem ok_callV{lk:LK}{bk:BM}{fo:Operand}{args:Array Operand}{tys:Array TypeId}{f:FuncId}{c1:List Value}{ds1 ds:List DV}{rv:DV}{dst:Option Nat}{ty:TypeId}{pos:String}{af:Array Edge}{gd:Option (Nat×Bool)}(h1:evX lk fo=some (.d (.v (.func (.func f) ⟨c1⟩ ⟨[]⟩))))(h2:evDs lk args.toList=some ds)(hc:IsLs GB ds1 c1)(hF:PF GB Tryz.prog f (ds1++ds) rv):
  OpR Tryz.prog GB C n lk bk ⟨dst, .call ⟨.value fo,args,tys⟩,ty,pos,af,gd⟩ (.d rv) [] []:=by
 intro hd tl tb K' s1 s2 hf hk
 refine⟨fun ρ G ov a w r Q=>?_⟩
 obtain⟨y,hy,hy'⟩:=(r.mono s1 s2).ev h1
 rw[(is_v (G:=G)).1 hy'] at hy
 obtain⟨vs,h3,h4⟩:=(r.mono s1 s2).evDs h2
 refine ch_callc (c1:=c1) (c2:=[]) hy h3 (by rw[List.append_nil];exact hF G (c1++vs) r.gb ((hc.up r.gb).app h4)) hd (fun v G' hG hK a' w' rl=>?_) a w Q ⟨r.h,r.sz,frA_ok a,r.df⟩
 exact hk.run ρ G' ov a' w' ⟨r.gb.trans hG.le,rl.h,rl.sz,rl.df,(putA_rel rl).fx (fun k g _ e=>by obtain⟨u,h5,h6⟩:=r.fx k g e;exact⟨u,h5,h6.up hG.le⟩) hK,
  fun nm B e=>by obtain⟨os,h5,h6⟩:=r.bx nm B e;exact⟨os,h5.up hG.le,h6⟩,r.dj⟩
def cfvA(fr:FrX)(cf:Cf):Option (FuncId×List Value×List DV):=match opC fr cf with
 |some ⟨_, .call ⟨.value fo,args,_⟩,_,_,_,_⟩=>match evX (lkC fr cf) fo,evDs (lkC fr cf) args.toList with
  |some (.d (.v (.func (.func f) ⟨c1⟩ ⟨[]⟩))),some ds=>some (f,c1,ds)
  |_,_=>none
 |_=>none
theorem cfv[fu:Fu]{f:FuncId}{c1:List Value}{ds ds1:List DV}{rv:DV}(ha:cfvA fr cf=some (f,c1,ds))(hc:IsLs GB ds1 c1)(hF:PF GB Tryz.prog f (ds1++ds) rv)(hgo:goA tt n fu.n fr own cf (.d rv) [] []=⟨vc,fr',own',cf'⟩)(k:CfS Tryz.prog GB C n Q0 fr' own' cf')
  (hv:allP vc:=by first|exact trivial|(simp only[allP];kernel_rfl)|(simp only[allP];omega)):CfS Tryz.prog GB C n Q0 fr own cf:=by
 unfold cfvA at ha
 split at ha<;>try (cases ha;done)
 rename_i hh
 split at ha<;>cases ha
 rename_i h1 h2
 exact us hh (ok_callV h1 h2 hc hF) hgo hv k
/-! an array of constants -/
def constL:List (Nat×Operand)→Option (List (Nat×Value))
 |[]=>some []
 |(i, .const v)::t=>match constL t with
  |some l=>some ((i,v)::l)
  |none=>none
 |_::_=>none
theorem constL_ok{a:Act}: ∀{ps:List (Nat×Operand)} {vs:List (Nat×Value)},constL ps=some vs→ps.map (fun(i,x)=>(i,a.eval x))=vs
 |[],vs,h=>by cases h;rfl
 |(i, .const v)::t,vs,h=>by
  simp only[constL] at h
  split at h<;>cases h
  rename_i l hl
  rw[List.map_cons,constL_ok hl];rfl
theorem isLs_v{G:Gh}: ∀l:List Value,IsLs G (l.map .v) l
 |[]=>isl_nil.2 rfl
 |v::t=>isl_cons.2 ⟨v,t,rfl,is_v.2 rfl,isLs_v t⟩
def bakA(cf:Cf)(fr:FrX):Option (TypeId×List (Nat×Value)):=match opC fr cf with
 |some ⟨_, .build t ⟨ps⟩,_,_,_,_⟩=>match constL ps with
  |some vs=>some (t,vs)
  |none=>none
 |_=>none
theorem bak[fu:Fu]{t:TypeId}{vs:List (Nat×Value)}(out:List Value)(h:bakA cf fr=some (t,vs))(hrun: ∀w,(Instr.build t ⟨vs⟩).run Tryz.prog w= .ok (.agg ⟨out⟩) w)(hgo:goA tt n fu.n fr own cf (.d (.ag (out.map .v))) [] []=⟨vc,fr',own',cf'⟩)(k:CfS Tryz.prog GB C n Q0 fr' own' cf')
  (hv:allP vc:=by first|exact trivial|(simp only[allP];kernel_rfl)|(simp only[allP];omega)):CfS Tryz.prog GB C n Q0 fr own cf:=by
 unfold bakA at h
 split at h<;>try (cases h;done)
 rename_i hh
 split at h<;>cases h
 rename_i hc
 refine us hh (OpR.yd (f:= .d (.ag (out.map .v))) fun ρ G ov a w r=>⟨.agg ⟨out⟩,is_ag.2 ⟨out,rfl,isLs_v out⟩,?_⟩) hgo hv k
 intro a' w' hf hw
 simp only[execOp]
 refine value_of ?_
 have:=constL_ok (a:=a') hc
 rw[show(⟨_⟩:Array (Nat×Operand)).map (fun(i,x)=>(i,a'.eval x))=⟨vs⟩ by apply Array.ext';simpa using this]
 exact hrun w'
def staA(fr:FrX)(own:OwX)(cf:Cf):Option (TypeId×Nat×Nat×List FX×Bool×FX):=match opC fr cf with
 |some ⟨_, .store t x y,_,_,_,_⟩=>match evX (lkC fr cf) x with
  |some (.ov nm 0)=>match bkC fr own cf nm with
   |some (.o ty cs lo)=>match evX (lkC fr cf) y with
    |some fv=>some (t,nm,ty,cs,lo,fv)
    |_=>none
   |_=>none
  |_=>none
 |_=>none
theorem sta[fu:Fu]{t nm ty len e:Nat}{cs:List FX}{lo:Bool}{fv:FX}{j:TypeInfo}(h:staA fr own cf=some (t,nm,ty,cs,lo,fv))(hu:Tryz.prog.underlying t=some (.array len e))(hj:Tryz.prog.info? t=some j)(hc:fv.okc=true∧fv.cells.length=j.size∧j.size=cs.length)
  (hgo:goA tt n fu.n fr own cf .un [(nm,some (.o ty (ovX cs 0 fv.cells) lo))] []=⟨vc,fr',own',cf'⟩)(k:CfS Tryz.prog GB C n Q0 fr' own' cf')
  (hv:allP vc:=by first|exact trivial|(simp only[allP];kernel_rfl)|(simp only[allP];omega)):CfS Tryz.prog GB C n Q0 fr own cf:=by
 unfold staA at h
 split at h<;>try (cases h;done)
 rename_i hh
 split at h<;>try (cases h;done)
 rename_i e1
 split at h<;>try (cases h;done)
 rename_i hb
 split at h<;>cases h
 rename_i e2
 obtain⟨c1,c2,c3⟩:=hc
 have:TyA Tryz.prog t j.size:=⟨fun w=>run_agg hu w,fun w=>run_size hj w⟩
 refine us hh ?_ hgo hv k
 intro hd tl tb K s1 s2 hf hk
 refine⟨fun ρ G ov a w r Q=>?_⟩
 have r1:=r.mono s1 s2
 obtain⟨p,h1,h2⟩:=r1.ev e1
 obtain⟨q,h3,h4⟩:=r1.ev e2
 obtain⟨b,m,rfl,ha,h5,h6⟩:=r1.own h2 hb
 obtain⟨h7,h8⟩:=h4.cells c1
 obtain⟨own',u1,u2,u3⟩:=OUpd.of_mem (cs':=ovw m 0 (cellsL q)) h6
 exact ch_store h1 h3 u1 (by rw[h7.len,c2]) (by rw[h5.len,c3];omega) (List.all_eq_true.2 h8) hd (fun a' w' rl=>r.wrote (m:=m) (s2 _ _ hb) ha (h5.ov h7) u2 u3 hk rl) a w Q ⟨r.h,r.sz,frA_ok a,r.df⟩
def rowB(fr:FrX)(cf:Cf):Option RwA:=match opC fr cf with
 |some ⟨some d, .buildSlice t len parts,_,_,_,_⟩=>match lookT tt t with
  |some ⟨.sl e s _,_,_,_⟩=>match rowX (lkC fr cf) 0 parts.toList with
   |some ds=>bif okRow s ds&&(Nat.beq parts.toList.length len&&(Nat.ble (len*s) 1000&&Nat.blt 0 (len*s))) then some ⟨d,e,s,ds⟩ else none
   |none=>none
  |_=>none
 |_=>none
theorem rfB[fu:Fu]{d e s:Nat}{ds:List DV}{i:TI}{z:DV}(h:rowB fr cf=some ⟨d,e,s,ds⟩)(hi:tiOf Tryz.prog e=some i)(hz:zeE i=some z)(hs:Nat.beq z.cells.length s=true)(hgo:goA tt n fu.n fr own cf (.d (.sl ds)) [(d,none)] [d]=⟨vc,fr',own',cf'⟩)(k:CfS Tryz.prog GB C n Q0 fr' own' cf')
  (hv:allP vc:=by first|exact trivial|(simp only[allP];kernel_rfl)|(simp only[allP];omega)):CfS Tryz.prog GB C n Q0 fr own cf:=by
 unfold rowB at h
 split at h<;>try (cases h;done)
 rename_i hh
 split at h<;>try (cases h;done)
 rename_i hT
 split at h<;>try (cases h;done)
 rename_i hr
 rw[cond_eq_ite] at h
 split at h<;>cases h
 rename_i hc
 simp only[Bool.and_eq_true] at hc
 have:=ti_sl (tt_ok _ _ hT) rfl
 exact us hh ((ok_row hi hz hs hr hc.1 hc.2.1 hc.2.2.1 hc.2.2.2).frzRow rfl) hgo hv k
def ldBA(fr:FrX)(cf:Cf):Option (TypeId×List DV):=match opC fr cf with
 |some ⟨_, .load t x,_,_,_,_⟩=>match evX (lkC fr cf) x with
  |some (.ep l)=>some (t,l)
  |_=>none
 |_=>none
def noAg:TypeDesc→Bool
 | .struct _=>false
 | .array _ _=>false
 |_=>true
theorem ldB[fu:Fu]{t:TypeId}{d:DV}{l:List DV}{D:TypeDesc}{j:TypeInfo}(h:ldBA fr cf=some (t,d::l))(hu:Tryz.prog.underlying t=some D)(hD:noAg D=true)(hj:Tryz.prog.info? t=some j)(hs:j.size=1)
  (hgo:goA tt n fu.n fr own cf (.d d) [] []=⟨vc,fr',own',cf'⟩)(k:CfS Tryz.prog GB C n Q0 fr' own' cf')
  (hv:allP vc:=by first|exact trivial|(simp only[allP];kernel_rfl)|(simp only[allP];omega)):CfS Tryz.prog GB C n Q0 fr own cf:=by
 unfold ldBA at h
 split at h<;>try (cases h;done)
 rename_i hh
 split at h<;>cases h
 rename_i hx
 have:TyS Tryz.prog t:=⟨fun w=>by(rw[run_agg hu w];cases D<;>first|rfl|(cases hD;done)),fun w=>by rw[run_size hj w,hs]⟩
 exact us hh (.x1 hx fun ρ G ov a w y _ r h1 h2=>by
  obtain⟨b,o,ms,m,rfl,hb,ht,hm⟩:=h2
  obtain⟨l',h3,h4⟩:=hm.get (i:=0) rfl
  have:=get_of_takeL ht (i:=0) (Nat.succ_pos _)
  rw[Nat.add_zero] at this
  exact⟨l',h4,yd_load_gh1 h1 hb (by rw[this];exact h3)⟩) hgo hv k
end
end Go.Sx
end

section
set_option maxRecDepth 100000
namespace Go.Sx
open Go Go.Proofs
theorem insG_mem{α:Type}{c:α→α→Int}(hc: ∀u x,c u x=0→u=x){x y:α}: ∀{xs:List α},y=x∨y∈xs→y∈insG c x xs
 |[],h=>by
  rcases h with rfl|h
  ·rw[insG];exact List.mem_singleton.2 rfl
  ·cases h
 |u::t,h=>by
  rw[insG]
  split
  ·rcases h with rfl|h
   ·exact List.mem_cons_of_mem _ (insG_mem hc (.inl rfl))
   ·rcases List.mem_cons.1 h with rfl|h
    ·exact List.mem_cons_self
    ·exact List.mem_cons_of_mem _ (insG_mem hc (.inr h))
  ·split
   ·rename_i h0
    rcases h with rfl|h
    ·rw[←hc _ _ h0];exact List.mem_cons_self
    ·exact h
   ·rcases h with rfl|h
    ·exact List.mem_cons_self
    ·exact List.mem_cons_of_mem _ h
theorem foldG_mem'{α:Type}{c:α→α→Int}(hc: ∀u x,c u x=0→u=x){y:α}: ∀{l o:List α},y∈l∨y∈o→y∈l.foldl (fun out x=>insG c x out) o
 |[],o,h=>h.elim (fun h=>by cases h) id
 |x::t,o,h=>by
  refine foldG_mem' hc (l:=t) ?_
  rcases h with h|h
  ·rcases List.mem_cons.1 h with rfl|h
   ·exact .inr (insG_mem hc (.inl rfl))
   ·exact .inl h
  ·exact .inr (insG_mem hc (.inr h))
theorem distQ_of{ls:List LnQ}{x:LnQ}(h:x∈ls):x.canon∈distQ ls:=
 foldG_mem' (fun u x e=>(lcmp_zero u x).1 e) (.inl (List.mem_map_of_mem h))
theorem canon_val(l:LnQ)(p:PtQ):l.canon.value p=l.value p∨l.canon.value p= -l.value p:=by
 unfold LnQ.canon
 split
 ·exact .inr (val_rev l p)
 ·exact .inl rfl
theorem off_dist{ls:List LnQ}{p:PtQ}:Off (distQ ls) p↔Off ls p:=by
 constructor
 ·intro h l hl e
  have:=h _ (distQ_of hl)
  rcases canon_val l p with k|k<;>rw[k,e] at this<;>exact this (by simp)
 ·intro h l hl e
  obtain⟨x,hx,rfl⟩:=distQ_mem hl
  have:=h x hx
  rcases canon_val x p with k|k<;>rw[k] at e
  ·exact this e
  ·exact this (by grind)
theorem dist_side{ls:List LnQ}{p q:PtQ}(hp:Off ls p)(hq:Off ls q)(h: ∀l∈distQ ls,0<l.value p↔0<l.value q): ∀l∈ls,0<l.value q↔0<l.value p:=fun l hl=>by
 have h1:=h _ (distQ_of hl)
 have h2:=hp l hl
 have h3:=hq l hl
 unfold LnQ.canon at h1
 split at h1
 ·rw[val_rev,val_rev] at h1
  constructor
  ·intro k
   rcases rat_tri (l.value p) with e|e|e
   ·exact absurd e h2
   ·exact e
   ·have:=h1.1 (by grind);grind
  ·intro k
   rcases rat_tri (l.value q) with e|e|e
   ·exact absurd e h3
   ·exact e
   ·have:=h1.2 (by grind);grind
 ·exact h1.symm
def fcs(a b:Tr):List PtQ:=facesQ (distQ (a.lns++b.lns))
theorem fcs_iff{a b:Tr}(ha:a.all LnQ.ok)(hb:b.all LnQ.ok){R:Bool→Bool→Prop}:(∀p∈fcs a b,R (atQ a p) (atQ b p))↔ ∀p,Off (a.lns++b.lns) p→R (a.val p) (b.val p):=by
 have hok: ∀l∈a.lns++b.lns,l.ok:=fun l hl=>(List.mem_append.1 hl).elim (lns_ok ha l) (lns_ok hb l)
 have hne: ∀l∈distQ (a.lns++b.lns),l.Ne:=fun l hl=>by
  obtain⟨x,hx,rfl⟩:=distQ_mem hl
  exact(canon_ok (hok x hx)).ne
 constructor
 ·intro h p hp
  obtain⟨q,hq,hs⟩:=faces_hit hne (off_dist.2 hp)
  have ho:=off_dist.1 (faces_off hne hq)
  have hsd:=dist_side hp ho hs
  have k:=h q hq
  rw[atQ_val (Off.app.1 ho).1,atQ_val (Off.app.1 ho).2,val_side (t:=a) hsd (fun l hl=>List.mem_append_left _ hl),val_side (t:=b) hsd (fun l hl=>List.mem_append_right _ hl)] at k
  exact k
 ·intro h p hp
  have ho:=off_dist.1 (faces_off hne hp)
  rw[atQ_val (Off.app.1 ho).1,atQ_val (Off.app.1 ho).2]
  exact h p ho
def eqR(a b:Tr):Bool:=(fcs a b).all fun p=>atQ a p==atQ b p
def anyR(f:Bool→Bool→Bool)(a b:Tr):Bool:=(fcs a b).any fun p=>f (atQ a p) (atQ b p)
theorem anyR_iff{f:Bool→Bool→Bool}{a b:Tr}(ha:a.all LnQ.ok)(hb:b.all LnQ.ok):anyR f a b=false↔ ∀p,Off (a.lns++b.lns) p→f (a.val p) (b.val p)=false:=by
 rw[←fcs_iff ha hb (R:=fun x y=>f x y=false),anyR,List.any_eq_false]
 simp
theorem any_one{a b:Tr}(ha:a.all LnQ.ok)(hb:b.all LnQ.ok):(!anyR (fun x y=>x&&!y) a b)=noneQ 3 a b:=by
 rw[Bool.eq_iff_iff,(Gen.mk0 ha hb).none,Bool.not_eq_true',anyR_iff ha hb]
 unfold opB;simp
theorem any_two{a b:Tr}(ha:a.all LnQ.ok)(hb:b.all LnQ.ok):(!anyR (fun x y=>y&&!x) a b)=noneQ 3 b a:=by
 rw[Bool.eq_iff_iff,(Gen.mk0 ha hb).symm.none,Bool.not_eq_true',anyR_iff ha hb]
 unfold opB;simp
theorem any_both{a b:Tr}(ha:a.all LnQ.ok)(hb:b.all LnQ.ok):(!anyR (fun x y=>x&&y) a b)=noneQ 2 a b:=by
 rw[Bool.eq_iff_iff,(Gen.mk0 ha hb).none,Bool.not_eq_true',anyR_iff ha hb]
 unfold opB;simp
def leafQ(v:Bool)(t:Tr):Bool:=decide ((t.restrict []).isLeaf=true∧(t.restrict []).code=v)
theorem leafQ_iff{v:Bool}{t:Tr}:leafQ v t=true↔t.restrict []= .leaf v:=by
 unfold leafQ
 rw[decide_eq_true_iff]
 cases t.restrict [] with
 |leaf b=>simp[Tr.isLeaf,Tr.code]
 |node l x y=>simp[Tr.isLeaf]
theorem any_empty{a b:Tr}(ha:a.all LnQ.ok)(hb:b.all LnQ.ok):(!anyR (fun x y=>y&&!x) a b&&!anyR (fun x y=>x&&y) a b)=leafQ false b:=by
 have h:=Gen.mk0 ha hb
 rw[Bool.eq_iff_iff,leafQ_iff,Tr.restrict_leaf hb h.ok h.lb,Bool.and_eq_true,Bool.not_eq_true',Bool.not_eq_true',anyR_iff ha hb,anyR_iff ha hb]
 constructor
 ·rintro ⟨h1,h2⟩ p hp
  have e1:=h1 p hp
  have e2:=h2 p hp
  cases e:b.val p<;>cases e':a.val p<;>simp_all
 ·intro k
  exact⟨fun p hp=>by rw[k p hp];rfl,fun p hp=>by rw[k p hp];simp⟩
theorem any_whole{a b:Tr}(ha:a.all LnQ.ok)(hb:b.all LnQ.ok):(!anyR (fun x y=>x&&!y) a b&&!anyR (fun x y=>!x&&!y) a b)=leafQ true b:=by
 have h:=Gen.mk0 ha hb
 rw[Bool.eq_iff_iff,leafQ_iff,Tr.restrict_leaf hb h.ok h.lb,Bool.and_eq_true,Bool.not_eq_true',Bool.not_eq_true',anyR_iff ha hb,anyR_iff ha hb]
 constructor
 ·rintro ⟨h1,h2⟩ p hp
  have e1:=h1 p hp
  have e2:=h2 p hp
  cases e:b.val p<;>cases e':a.val p<;>simp_all
 ·intro k
  exact⟨fun p hp=>by rw[k p hp];simp,fun p hp=>by rw[k p hp];simp⟩
theorem compare_want{a b:Tr}(ha:a.all LnQ.ok)(hb:b.all LnQ.ok):compareQ a b=if anyR (fun x y=>x&&!y) a b=false∧anyR (fun x y=>y&&!x) a b=false then 0 else if anyR (fun x y=>x&&!y) a b=false then-1 else if anyR (fun x y=>y&&!x) a b=false then 1 else 2:=by
 unfold compareQ
 rw[equal_sub ha hb,←any_one ha hb,←any_two ha hb]
 cases anyR (fun x y=>x&&!y) a b<;>cases anyR (fun x y=>y&&!x) a b<;>rfl
end Go.Sx
end

section
set_option maxRecDepth 100000
namespace Go.Sx
open Go Go.Proofs
theorem EG.mono{GB GB':Gh}{ai al ae:Addr}(h:EG GB ai al ae)(k:GLe GB GB'):EG GB' ai al ae:=⟨k _ _ h.ErrInvalid,k _ _ h.ErrLimit⟩
def ePr(a b:Tr):DV:= .ag [eU a,eU b]
def prZ:DV:= .ag [.v (.pointer none), .v (.pointer none)]
theorem p_OfA{GB:Gh}{k:Nat}{t:Tr}(h:TrX k t):PF GB Tryz.prog 55 [eA t] (.tp [eU t,vB true]):=by
 have:=p_OfS (GB:=GB) (rt:=t.num 0) (wr_sm h.lb) (wr_n (by have:=h.s;omega)) (ofQ_wr h.ok)
 rw[←eA_RT] at this
 exact this
theorem nq_leaf{op:Int}{a b:Tr}{v:Bool}(h:Tr.leaf v=a.mergeQ op b []):noneQ op a b=!v:=by unfold noneQ;rw[←h];cases v<;>rfl
theorem nq_node{op:Int}{a b:Tr}{l:LnQ}{x y:Tr}(h:Tr.node l x y=a.mergeQ op b []):noneQ op a b=false:=by unfold noneQ;rw[←h];simp[Tr.isLeaf]
theorem p_rdS{GB:Gh}{j k:Nat}{a b:Tr}(ha:TrX j a)(hb:TrX k b):PF GB Tryz.prog 67 [eA a,eA b] (.tp [ePr a b, .v .nilIface]):=by
 refine fn Tryz.func67 J J Tryz.ntmps67 J J (fun C=>?_)
 refine cl (fu:=⟨3⟩) rfl (p_OfA ha) rfl<|?_
 refine kbT 14 rfl ?_
 refine gx rfl<|cl (fu:=⟨3⟩) rfl (p_OfA hb) rfl<|?_
 refine kbT 19 rfl ?_
 refine gx rfl<|?_
 exact rz J J
theorem p_none{GB:Gh}{ai al ae:Addr}(hE:EG GB ai al ae){op:Int}{j k:Nat}{a b:Tr}(ha:TrX j a)(hb:TrX k b)(hk:j+k≤200):PF GB Tryz.prog 126 [ePr a b,vI op] (.tp [vB (noneQ op a b), .v .nilIface]):=by
 obtain⟨t,ht⟩: ∃t,t=a.mergeQ op b []:=⟨_,rfl⟩
 refine fn Tryz.func126 J J Tryz.ntmps126 J J (fun C=>?_)
 refine cl rfl (p_TwoS (t:=t) hE ha.gd hb.gd (by have:=ha.s;omega) (by have:=hb.s;omega) (by rw[ht];exact ha.lim hb hk)) rfl<|?_
 rcases t with v|⟨l,x,y⟩
 ·
  have hq:=nq_leaf ht
  refine cl (fu:=⟨0⟩) rfl p_IsLeafL rfl<|?_
  refine kbT 21 rfl ?_
  refine gx rfl<|?_
  exact rz rfl (by rw[hq];rfl)
 ·
  have hq:=nq_node ht
  refine cl (fu:=⟨0⟩) rfl p_IsLeafN rfl<|?_
  refine kbF 21 rfl ?_
  refine gx rfl<|?_
  exact rz rfl (by rw[hq];rfl)
theorem p_pEqual{GB:Gh}{ai al ae:Addr}(hE:EG GB ai al ae){j k:Nat}{a b:Tr}(ha:TrX j a)(hb:TrX k b)(hk:j+k≤200):PF GB Tryz.prog 68 [ePr a b] (.tp [vB (noneQ 4 a b), .v .nilIface]):=by
 refine fn Tryz.func68 J J Tryz.ntmps68 J J (fun C=>?_)
 refine cl rfl (p_none hE (op:=4) ha hb hk) rfl<|?_
 exact rz J J
theorem p_pSubset{GB:Gh}{ai al ae:Addr}(hE:EG GB ai al ae){j k:Nat}{a b:Tr}(ha:TrX j a)(hb:TrX k b)(hk:j+k≤200):PF GB Tryz.prog 69 [ePr a b] (.tp [vB (noneQ 3 a b), .v .nilIface]):=by
 refine fn Tryz.func69 J J Tryz.ntmps69 J J (fun C=>?_)
 refine cl rfl (p_none hE (op:=3) ha hb hk) rfl<|?_
 exact rz J J
theorem p_pDisj{GB:Gh}{ai al ae:Addr}(hE:EG GB ai al ae){j k:Nat}{a b:Tr}(ha:TrX j a)(hb:TrX k b)(hk:j+k≤200):PF GB Tryz.prog 73 [ePr a b] (.tp [vB (noneQ 2 a b), .v .nilIface]):=by
 refine fn Tryz.func73 J J Tryz.ntmps73 J J (fun C=>?_)
 refine cl rfl (p_none hE (op:=2) ha hb hk) rfl<|?_
 exact rz J J
theorem p_pCont{GB:Gh}{ai al ae:Addr}(hE:EG GB ai al ae){j k:Nat}{a b:Tr}(ha:TrX j a)(hb:TrX k b)(hk:k+j≤200):PF GB Tryz.prog 70 [ePr a b] (.tp [vB (noneQ 3 b a), .v .nilIface]):=by
 refine fn Tryz.func70 J J Tryz.ntmps70 J J (fun C=>?_)
 refine cl rfl (p_pSubset hE hb ha hk) rfl<|?_
 exact rz J J
theorem p_REq{GB:Gh}{ai al ae:Addr}(hE:EG GB ai al ae){j k:Nat}{a b:Tr}(ha:TrX j a)(hb:TrX k b)(hk:j+k≤200):PF GB Tryz.prog 21 [eA a,eA b] (.tp [vB (noneQ 4 a b), .v .nilIface]):=by
 refine fn Tryz.func21 J J Tryz.ntmps21 J J (fun C=>?_)
 refine cl rfl (p_rdS ha hb) rfl<|cl rfl (p_pEqual hE ha hb hk) rfl<|?_
 exact rz J J
theorem p_RSub{GB:Gh}{ai al ae:Addr}(hE:EG GB ai al ae){j k:Nat}{a b:Tr}(ha:TrX j a)(hb:TrX k b)(hk:j+k≤200):PF GB Tryz.prog 26 [eA a,eA b] (.tp [vB (noneQ 3 a b), .v .nilIface]):=by
 refine fn Tryz.func26 J J Tryz.ntmps26 J J (fun C=>?_)
 refine cl rfl (p_rdS ha hb) rfl<|cl rfl (p_pSubset hE ha hb hk) rfl<|?_
 exact rz J J
theorem p_RDis{GB:Gh}{ai al ae:Addr}(hE:EG GB ai al ae){j k:Nat}{a b:Tr}(ha:TrX j a)(hb:TrX k b)(hk:j+k≤200):PF GB Tryz.prog 27 [eA a,eA b] (.tp [vB (noneQ 2 a b), .v .nilIface]):=by
 refine fn Tryz.func27 J J Tryz.ntmps27 J J (fun C=>?_)
 refine cl rfl (p_rdS ha hb) rfl<|cl rfl (p_pDisj hE ha hb hk) rfl<|?_
 exact rz J J
theorem p_oneS{GB:Gh}{ai al ae:Addr}(hE:EG GB ai al ae){k:Nat}{t:Tr}(h:TrX k t)(hk:k≤1000):PF GB Tryz.prog 71 [eA t] (.tp [eU (t.restrict []), .v .nilIface]):=by
 have hd:=h.dp
 refine fn Tryz.func71 J J Tryz.ntmps71 J J (fun C=>?_)
 refine cl (fu:=⟨3⟩) rfl (p_OfA h) rfl<|?_
 refine kbT 10 rfl ?_
 refine gx rfl<|cl (fu:=⟨0⟩) rfl (p_Depth (t:=t) (by omega)) rfl<|knF rfl (by show some (decide _)=some false;rw[decide_eq_false (by omega)]) rfl<|cl rfl (p_Reduce (t:=t) h.lb h.ok (by omega)) rfl<|?_
 exact rz J J
theorem lq_leaf{v w:Bool}{t:Tr}(h:Tr.leaf v=t.restrict []):leafQ w t=decide (v=w):=by unfold leafQ;rw[←h];simp[Tr.isLeaf,Tr.code]
theorem lq_node{w:Bool}{t:Tr}{l:LnQ}{x y:Tr}(h:Tr.node l x y=t.restrict []):leafQ w t=false:=by unfold leafQ;rw[←h];simp[Tr.isLeaf]
theorem p_REmpty{GB:Gh}{ai al ae:Addr}(hE:EG GB ai al ae){k:Nat}{t:Tr}(h:TrX k t)(hk:k≤1000):PF GB Tryz.prog 24 [eA t] (.tp [vB (leafQ false t), .v .nilIface]):=by
 obtain⟨u,ht⟩: ∃u,u=t.restrict []:=⟨_,rfl⟩
 refine fn Tryz.func24 J J Tryz.ntmps24 J J (fun C=>?_)
 refine cl (fu:=⟨0⟩) rfl (p_oneS hE h hk) rfl<|?_
 refine eqF 8 (.d (.tp [eU u, .v .nilIface])) rfl (by rw[ht]) ?_
 refine gx rfl<|?_
 rcases u with v|⟨l,x,y⟩
 ·
  have hq:=lq_leaf (w:=false) ht
  refine cl (fu:=⟨0⟩) rfl p_IsLeafL rfl<|?_
  refine kbT 15 rfl ?_
  refine gx rfl<|?_
  exact rz rfl (by rw[hq];cases v<;>rfl)
 ·
  have hq:=lq_node (w:=false) ht
  refine cl (fu:=⟨0⟩) rfl p_IsLeafN rfl<|?_
  refine kbF 15 rfl ?_
  refine gx rfl<|?_
  exact rz rfl (by rw[hq];rfl)
theorem p_RWhole{GB:Gh}{ai al ae:Addr}(hE:EG GB ai al ae){k:Nat}{t:Tr}(h:TrX k t)(hk:k≤1000):PF GB Tryz.prog 25 [eA t] (.tp [vB (leafQ true t), .v .nilIface]):=by
 obtain⟨u,ht⟩: ∃u,u=t.restrict []:=⟨_,rfl⟩
 refine fn Tryz.func25 J J Tryz.ntmps25 J J (fun C=>?_)
 refine cl (fu:=⟨0⟩) rfl (p_oneS hE h hk) rfl<|?_
 refine eqF 8 (.d (.tp [eU u, .v .nilIface])) rfl (by rw[ht]) ?_
 refine gx rfl<|?_
 rcases u with v|⟨l,x,y⟩
 ·
  have hq:=lq_leaf (w:=true) ht
  refine cl (fu:=⟨0⟩) rfl p_IsLeafL rfl<|?_
  refine kbT 15 rfl ?_
  refine gx rfl<|?_
  exact rz rfl (by rw[hq];cases v<;>rfl)
 ·
  have hq:=lq_node (w:=true) ht
  refine cl (fu:=⟨0⟩) rfl p_IsLeafN rfl<|?_
  refine kbF 15 rfl ?_
  refine gx rfl<|?_
  exact rz rfl (by rw[hq];rfl)
set_option maxHeartbeats 1000000 in
theorem p_RCmp{GB:Gh}{ai al ae:Addr}(hE:EG GB ai al ae){j k:Nat}{a b:Tr}(ha:TrX j a)(hb:TrX k b)(hk':j+k≤200):PF GB Tryz.prog 22 [eA a,eA b] (.tp [vI (compareQ a b), .v .nilIface]):=by
 refine fn Tryz.func22 J J Tryz.ntmps22 J J (fun C=>?_)
 refine cl (fu:=⟨20⟩) rfl (p_rdS ha hb) rfl<|bak [.int .i64 0, .int .i64 (-1), .int .i64 1] rfl (fun w=>rfl) rfl<|sta J J J ⟨rfl,rfl,rfl⟩ rfl<|?_
 refine nameV 23 rfl (fun GB1 pv1 hg1 hp1=>?_)
 refine mkF J J<|?_
 refine nameV 25 rfl (fun GB2 pv2 hg2 hp2=>?_)
 refine mkF J J<|?_
 refine nameV 27 rfl (fun GB3 pv3 hg3 hp3=>?_)
 refine mkF (fu:=⟨0⟩) J J<|?_
 have hp1:=(hp1.up hg2).up hg3
 have hp2:=hp2.up hg3
 have hg4:=(hg1.trans hg2).trans hg3
 refine rfB (i:=⟨.o,1,some [.d (.v .nilFunc)],false⟩) (z:= .v .nilFunc) rfl (by kernel_rfl) J J J<|?_
 refine lp (X:=Nat) (fun k3=>[(31, .d (vI (k3:Nat)))]) (fun k3=>[]) (fun k3=>k3≤3∧(0<k3→noneQ 4 a b=false)∧(1<k3→noneQ 3 a b=false)∧(2<k3→noneQ 3 b a=false)) (fun k3=>3-k3) 0 rfl ⟨by omega,by omega,by omega,by omega⟩ (fun _=>rfl) (fun k3 hk=>?_)
 obtain⟨i1,i2,i3,i4⟩:=hk
 refine br (fu1:=⟨7⟩) J J J (fun hc32=>?_) (fun hc32=>?_)
 ·
  have hc32:k3<3:=by simp at hc32;omega
  rcases(show k3=0∨k3=1∨k3=2 by omega) with rfl|rfl|rfl
  ·
   refine gx rfl<|ix (fu:=⟨0⟩) _ J J J<|ldB (fu:=⟨7⟩) J J J J J J<|cfv (ds1:=[ePr a b]) rfl (.cons hp1 .nil) (p_pEqual (hE.mono hg4) ha hb (by omega)) rfl<|?_
   refine bb J J J (fun hc45=>?_) (fun hc45=>?_)
   ·
    refine ixa 0 (e:=3) (len:=3) (s:=1) rfl (by kernel_rfl) (by kernel_rfl) (by decide) rfl<|?_
    exact rz rfl (by show DV.tp [vI _,_]=DV.tp [vI _,_];unfold compareQ;rw[hc45];rfl)
   ·
    exact at_ 1 ⟨⟨by omega,fun _=>by simpa using hc45,by omega,by omega⟩,(by omega)⟩
  ·
   refine gx rfl<|ix (fu:=⟨0⟩) _ J J J<|ldB (fu:=⟨7⟩) J J J J J J<|cfv (ds1:=[ePr a b]) rfl (.cons hp2 .nil) (p_pSubset (hE.mono hg4) ha hb (by omega)) rfl<|?_
   refine bb J J J (fun hc45=>?_) (fun hc45=>?_)
   ·
    refine ixa 1 (e:=3) (len:=3) (s:=1) rfl (by kernel_rfl) (by kernel_rfl) (by decide) rfl<|?_
    exact rz rfl (by show DV.tp [vI _,_]=DV.tp [vI _,_];unfold compareQ;rw[i2 (by omega),hc45];rfl)
   ·
    exact at_ 2 ⟨⟨by omega,fun _=>i2 (by omega),fun _=>by simpa using hc45,by omega⟩,(by omega)⟩
  ·
   refine gx rfl<|ix (fu:=⟨0⟩) _ J J J<|ldB (fu:=⟨7⟩) J J J J J J<|cfv (ds1:=[ePr a b]) rfl (.cons hp3 .nil) (p_pCont (hE.mono hg4) ha hb (by omega)) rfl<|?_
   refine bb J J J (fun hc45=>?_) (fun hc45=>?_)
   ·
    refine ixa 2 (e:=3) (len:=3) (s:=1) rfl (by kernel_rfl) (by kernel_rfl) (by decide) rfl<|?_
    exact rz rfl (by show DV.tp [vI _,_]=DV.tp [vI _,_];unfold compareQ;rw[i2 (by omega),i3 (by omega),hc45];rfl)
   ·
    exact at_ 3 ⟨⟨by omega,fun _=>i2 (by omega),fun _=>i3 (by omega),fun _=>by simpa using hc45⟩,(by omega)⟩
 ·
  obtain rfl:k3=3:=by simp at hc32;omega
  exact rz rfl (by show DV.tp [vI _,_]=DV.tp [vI _,_];unfold compareQ;rw[i2 (by omega),i3 (by omega),i4 (by omega)];rfl)
end Go.Sx
end

section
set_option maxRecDepth 100000
namespace Go.Sx
open Go Go.Proofs
section
variable {GB:Gh} {ai al ae:Addr} (hE:EG GB ai al ae) {j k:Nat} {a b:Tr} (ha:TrX j a) (hb:TrX k b)
include hE ha
theorem p_REmptyV{v:Bool}(h:leafQ false a=v)(hk:j≤1000:=by decide):PF GB Tryz.prog 24 [eA a] (.tp [vB v, .v .nilIface]):=h▸p_REmpty hE ha hk
theorem p_RWholeV{v:Bool}(h:leafQ true a=v)(hk:j≤1000:=by decide):PF GB Tryz.prog 25 [eA a] (.tp [vB v, .v .nilIface]):=h▸p_RWhole hE ha hk
include hb
theorem p_REqV{v:Bool}(h:noneQ 4 a b=v)(hk:j+k≤200:=by decide):PF GB Tryz.prog 21 [eA a,eA b] (.tp [vB v, .v .nilIface]):=h▸p_REq hE ha hb hk
theorem p_RSubV{v:Bool}(h:noneQ 3 a b=v)(hk:j+k≤200:=by decide):PF GB Tryz.prog 26 [eA a,eA b] (.tp [vB v, .v .nilIface]):=h▸p_RSub hE ha hb hk
theorem p_RDisV{v:Bool}(h:noneQ 2 a b=v)(hk:j+k≤200:=by decide):PF GB Tryz.prog 27 [eA a,eA b] (.tp [vB v, .v .nilIface]):=h▸p_RDis hE ha hb hk
theorem p_RCmpV{v:Int}(h:compareQ a b=v)(hk:j+k≤200:=by decide):PF GB Tryz.prog 22 [eA a,eA b] (.tp [vI v, .v .nilIface]):=h▸p_RCmp hE ha hb hk
end
theorem leaf_x(v:Bool):TrX 0 (.leaf v):=⟨⟨⟨trivial,trivial⟩,Nat.le_refl 0,[],Nat.le_refl 0,(fun _ h=>nomatch h),trivial⟩,Nat.zero_le _⟩
section
variable {GB:Gh} {ai al ae:Addr} (hE:EG GB ai al ae)
include hE
theorem k20_e:PF GB Tryz.prog 24 [.ag [vI (-1), .sl []]] (.tp [vB true, .v .nilIface]):=p_REmptyV hE (leaf_x false) (by decide)
theorem k20_w:PF GB Tryz.prog 25 [.ag [vI (-2), .sl []]] (.tp [vB true, .v .nilIface]):=p_RWholeV hE (leaf_x true) (by decide)
theorem k20_q:PF GB Tryz.prog 21 [.ag [vI (-2), .sl []], .ag [vI (-1), .sl []]] (.tp [vB false, .v .nilIface]):=p_REqV hE (leaf_x true) (leaf_x false) (by decide)
end
theorem q_pairN{GB:Gh}{b:Nat}{es:List Int}(hes:es.length≤400){A B:Tr}(hA:A=(pairF es 0).1.1)(hB:B=(pairF es 0).1.2):PM GB Tryz.prog 19 (mkP [none] b) b 89 [.sl (es.map vI), .v (.int .i64 (0:Nat))] (.tp [eT A,eT B]) [.sl (es.map vI), .v (.int .i64 ((pairF es 0).2:Nat))]:=by
 subst hA hB;exact q_pair hes (Nat.zero_le _)
theorem q_known20{GB:Gh}{ai al ae:Addr}(hE:EG GB ai al ae):PF GB Tryz.prog 23 [] (.v (.bool true)):=by
 refine fn Tryz.func23 J J Tryz.ntmps23 J J (fun C=>?_)
 refine cl (fu:=⟨4⟩) rfl (k20_e hE) rfl<|?_
 refine kbT 1 rfl ?_
 refine gx rfl<|cl (fu:=⟨4⟩) rfl (k20_w hE) rfl<|?_
 refine kbT 3 rfl ?_
 refine gx rfl<|cl (fu:=⟨4⟩) rfl (k20_q hE) rfl<|?_
 refine kbF 5 rfl ?_
 refine gx rfl<|?_
 exact rz J J
end Go.Sx
end

section
set_option maxRecDepth 100000
namespace Go.Sx
open Go Go.Proofs
theorem numsR_G(l:List Rat):numsR l=sortG rcmp l:=by
 unfold numsR sortG
 have key: ∀(l o:List Rat),l.foldl (fun out x=>insR x out) o=l.foldl (fun out x=>insG rcmp x out) o:=by
  intro l
  induction l with
  |nil=>intro o;rfl
  |cons a t ih=>intro o;rw[List.foldl_cons,List.foldl_cons,insR_G,ih]
 exact key l []
theorem numsR_len(l:List Rat):(numsR l).length≤l.length:=by
 have:=foldG_len rcmp l []
 rw[numsR_G];simpa[sortG] using this
theorem gaps_bdk{k:Nat}{l:List Rat}(h: ∀q∈l,BQ q k): ∀g∈gapsR l,BQ g (2*k+100):=fun g hg=>by
 cases l with
 |nil=>
  rw[gapsR,List.mem_singleton] at hg;subst hg
  exact BQ.mono (k:=1) ⟨by decide,by decide⟩ (by omega)
 |cons a t=>
  rw[gapsR] at hg
  rcases List.mem_cons.1 hg with rfl|hg
  ·haveI:=h a List.mem_cons_self
   exact BQ.mono (inferInstance:BQ (a-1) _) (by omega)
  ·rcases List.mem_append.1 hg with hg|hg
   ·obtain⟨c,hc,d,hd,rfl⟩:=mem_mids hg
    haveI:=h c hc
    haveI:=h d hd
    exact BQ.mono (inferInstance:BQ ((c+d)/2) _) (by omega)
   ·rw[List.mem_singleton] at hg
    haveI:=h _ (List.getLast_mem (l:=a::t) (by simp))
    subst hg
    exact BQ.mono (inferInstance:BQ ((a::t).getLast (by simp)+1) _) (by omega)
def mtQ(a:LnQ)(t:List LnQ):List Rat:=t.filterMap fun b=>if crossI a b=0 then none else some (meetP a b).x
theorem xsQ_cons(a:LnQ)(t:List LnQ):xsQ (a::t)=(if a.b=0 then [a.base.x] else [])++(mtQ a t++xsQ t):=rfl
theorem mtQ_len(a:LnQ)(t:List LnQ):(mtQ a t).length≤t.length:=List.length_filterMap_le _ _
theorem xsQ_len: ∀l:List LnQ,(xsQ l).length≤l.length*(l.length+1)
 |[]=>Nat.le_refl _
 |a::t=>by
  have h1:=xsQ_len t
  have h2:=mtQ_len a t
  have h3:(if a.b=0 then [a.base.x] else []).length≤1:=by split<;>simp
  rw[xsQ_cons,List.length_append,List.length_append,List.length_cons]
  have e:(t.length+1)*(t.length+1+1)=t.length*(t.length+1)+2*t.length+2:=by simp only[Nat.add_mul,Nat.mul_add];omega
  rw[e];omega
theorem xsQ_bd: ∀{l:List LnQ},(∀a∈l,LB a)→ ∀x∈xsQ l,BQ x 900
 |[],_,x,h=>by cases h
 |a::t,hl,x,h=>by
  haveI:=hl a List.mem_cons_self
  have ht: ∀b∈t,LB b:=fun b hb=>hl b (List.mem_cons_of_mem _ hb)
  rw[xsQ_cons] at h
  rcases List.mem_append.1 h with h|h
  ·split at h
   ·rw[List.mem_singleton] at h;subst h;infer_instance
   ·cases h
  ·rcases List.mem_append.1 h with h|h
   ·obtain⟨b,hb,e⟩:=List.mem_filterMap.1 h
    haveI:=ht b hb
    split at e
    ·cases e
    ·cases e;exact BQ.mono (inferInstance:BQ (meetP a b).x 772) (by decide)
   ·exact xsQ_bd ht x h
theorem ysQ_len(l:List LnQ)(x:Rat):(ysQ l x).length≤l.length:=List.length_filterMap_le _ _
theorem ysQ_bd{l:List LnQ}(hl: ∀a∈l,LB a){x:Rat}(hx:BQ x 1900): ∀y∈ysQ l x,BQ y 2400:=fun y hy=>by
 obtain⟨a,ha,hb,rfl⟩:=of_ys hy
 haveI:=hl a ha
 unfold yA
 exact BQ.mono (inferInstance:BQ (-(((a.a:Rat)*x+(a.c:Rat))/(a.b:Rat))) _) (by omega)
theorem ysQ_step{l:List LnQ}{k:Nat}{a:LnQ}{x:Rat}(h:l[k]? =some a):ysQ (l.drop k) x=(if a.b=0 then [] else [yA a x])++ysQ (l.drop (k+1)) x:=by
 obtain⟨hk,rfl⟩:=List.getElem?_eq_some_iff.1 h
 rw[List.drop_eq_getElem_cons hk]
 unfold ysQ
 rw[List.filterMap_cons]
 split<;>(rename_i e;split at e<;>simp_all)
theorem mtQ_step{t:List LnQ}{k:Nat}{a b:LnQ}(h:t[k]? =some b):mtQ a (t.drop k)=(if crossI a b=0 then [] else [(meetP a b).x])++mtQ a (t.drop (k+1)):=by
 obtain⟨hk,rfl⟩:=List.getElem?_eq_some_iff.1 h
 rw[List.drop_eq_getElem_cons hk]
 unfold mtQ
 rw[List.filterMap_cons]
 split<;>(rename_i e;split at e<;>simp_all)
theorem xsQ_step{l:List LnQ}{k:Nat}{a:LnQ}(h:l[k]? =some a):xsQ (l.drop k)=(if a.b=0 then [a.base.x] else [])++(mtQ a (l.drop (k+1))++xsQ (l.drop (k+1))):=by
 obtain⟨hk,rfl⟩:=List.getElem?_eq_some_iff.1 h
 rw[List.drop_eq_getElem_cons hk,xsQ_cons]
theorem prefix_len{α:Type}{a b c:List α}(h:a++b=c):a.length≤c.length:=by rw[←h,List.length_append];omega
def colQ(l:List LnQ)(x:Rat):List PtQ:=(gapsR (numsR (ysQ l x))).map fun y=>⟨x,y⟩
theorem facesQ_col(l:List LnQ):facesQ l=(gapsR (numsR (xsQ l))).flatMap (colQ l):=rfl
theorem colQ_len(l:List LnQ)(x:Rat):(colQ l x).length≤l.length+1:=by
 unfold colQ
 rw[List.length_map,gapsR_len]
 have:=numsR_len (ysQ l x)
 have:=ysQ_len l x
 omega
theorem flat_len'{α β:Type}(f:α→List β)(m:Nat): ∀l:List α,(∀x,(f x).length≤m)→(l.flatMap f).length≤l.length*m
 |[],_=>by simp
 |a::t,h=>by
  have:=flat_len' f m t h
  have:=h a
  rw[List.flatMap_cons,List.length_append,List.length_cons,Nat.succ_mul];omega
theorem gapsx_len{l:List LnQ}(h:l.length≤6000):(gapsR (numsR (xsQ l))).length≤36006001:=by
 have h1:=xsQ_len l
 have h2:=numsR_len (xsQ l)
 have h3:l.length*(l.length+1)≤6000*6001:=Nat.mul_le_mul h (by omega)
 rw[gapsR_len];omega
theorem faces_len{l:List LnQ}(h:l.length≤6000):(facesQ l).length≤216072012001:=by
 have h1:=flat_len' (colQ l) 6001 (gapsR (numsR (xsQ l))) (fun x=>by have:=colQ_len l x;omega)
 have h2:(gapsR (numsR (xsQ l))).length*6001≤36006001*6001:=Nat.mul_le_mul_right _ (gapsx_len h)
 rw[facesQ_col];omega
theorem flat_drop{α β:Type}{f:α→List β}{l:List α}{k:Nat}{x:α}(h:l[k]? =some x):(l.drop k).flatMap f=f x++(l.drop (k+1)).flatMap f:=by
 obtain⟨hk,rfl⟩:=List.getElem?_eq_some_iff.1 h
 rw[List.drop_eq_getElem_cons hk,List.flatMap_cons]
theorem map_drop'{α β:Type}{f:α→β}{l:List α}{k:Nat}{x:α}(h:l[k]? =some x):(l.drop k).map f=f x::(l.drop (k+1)).map f:=by
 obtain⟨hk,rfl⟩:=List.getElem?_eq_some_iff.1 h
 rw[List.drop_eq_getElem_cons hk,List.map_cons]
theorem drop_end{α:Type}(l:List α):l.drop l.length=[]:=by simp
set_option maxHeartbeats 4000000 in
theorem q_numbers{GB:Gh}{qs:List Rat}{k:Nat}(hb: ∀q∈qs,BQ q k)(hk:k≤100000)(hn:qs.length≤40000000):PF GB Tryz.prog 132 [.sl (qs.map eQ)] (.sl ((numsR qs).map eQ)):=by
 have hm':=map_len' eQ qs
 refine fn (fu:=⟨15⟩) Tryz.func132 J J Tryz.ntmps132 J J (fun C=>?_)
 refine eqF 8 (.d (vI (qs.length:Nat))) rfl (by rw[hm']<;>rfl) ?_
 refine gx rfl<|?_
 refine nlC 3 rfl ?_
 refine lp (X:=List Rat×Nat) (fun⟨xs,i⟩=>[(9, .d (vI (i:Nat))),(3, .d (.sl (xs.map eQ)))]) (fun⟨xs,i⟩=>[]) (fun⟨xs,i⟩=>xs=sortK rcmp id qs i∧i≤qs.length) (fun⟨xs,i⟩=>qs.length-i) ⟨[],0⟩ rfl ⟨rfl,Nat.zero_le _⟩ (fun _=>rfl) (fun⟨xs,i⟩ hk=>?_)
 try dsimp only at hk⊢
 obtain⟨h1,h2⟩:=hk
 refine br J J J (fun hc10=>?_) (fun hc10=>?_)
 ·
  obtain⟨q,hz⟩: ∃s,qs[i]? =some s:=⟨_,List.getElem?_eq_getElem (by omega)⟩
  haveI hqb:=hb q (List.mem_of_getElem? hz)
  have hxl:=map_len' eQ xs
  have hxn:xs.length≤i:=by rw[h1];exact sortK_len
  have hxb: ∀u∈xs,BQ u k:=fun u hu=>by rw[h1] at hu;obtain⟨z,hz,he⟩:=sortK_mem hu;rw[he];exact hb z hz
  refine ix (fu:=⟨11⟩) _ rfl (map_getS hz) rfl<|?_
  refine mg (fu:=⟨5⟩) (X:=Nat) (fun n=>[(6, .d (vI (n:Nat)))]) (fun n=>[]) (fun n=>idxG rcmp q xs=n) [6] [] rfl ?_ (fun _=>rfl) (fun n hnx=>?_)
  ·
   refine gx rfl<|?_
   refine lp (fu:=⟨6⟩) (X:=Nat) (fun n=>[(6, .d (vI (n:Nat)))]) (fun n=>[]) (fun n=>n≤xs.length∧ ∀j (h:j<xs.length),j<n→rcmp xs[j] q<0) (fun n=>xs.length-n) 0 rfl ⟨Nat.zero_le _,fun j _ hj=>absurd hj (by omega)⟩ (fun _=>rfl) (fun n hk=>?_)
   obtain⟨n1,n2⟩:=hk
   refine csS (v2:=fun hg16=>by simp only[allP];kernel_rfl) J J J J (fun hg16=>?_) (fun hg16=>?_)
   ·
    refine ix _ rfl (map_getN (by omega)) rfl<|cl rfl (q_C (a:=xs[n]'(by omega)) (b:=q) (ha:=hxb _ (List.getElem_mem (by omega))) (hb:=hqb) (by omega) (by omega)) rfl<|?_
    refine br J J J (fun hc25=>?_) (fun hc25=>?_)
    ·
     exact at_ (n+1) ⟨⟨by omega,fun j h hj=>by by_cases q:j=n;(subst q;exact hc25);exact n2 j h (by omega)⟩,(by omega)⟩
    ·
     exact at_ n (idxG_eq rcmp n1 n2 (fun h=>hc25))
   ·
    exact at_ n (idxG_eq rcmp n1 n2 (fun h=>absurd h (by omega)))
  ·
   have hnl:n≤xs.length:=by rw[←hnx];exact idxG_le _ _ _
   refine csS (v1:=fun hg31=>by simp only[allP];kernel_rfl) J J J J (fun hg31=>?_) (fun hg31=>?_)
   ·
    have hnew: ∀h:n<xs.length,rcmp xs[n] q≠0:=fun h=>absurd h (by omega)
    obtain⟨ys,hys⟩: ∃ys,ys=xs.take n++q::xs.drop n:=⟨_,rfl⟩
    have hin:insG rcmp q xs=ys:=by rw[hys];exact insG_new rcmp hnx hnew
    have hyl:ys.length≤xs.length+1:=by rw[hys];simp;omega
    refine s3 n _ J J J J (slOkQ _) (by rw[hxl];exact hnl) rfl<|ro J J<|sc' n xs.length _ J J (by rw[hxl]) rfl (slOkQ _) hnl (by omega) rfl<|?_
    refine ap _ J J (slD slOkQ _ _ _) rfl<|apf (hv:=by simp only[allP];exact⟨by kernel_rfl,by omega⟩) (ho:=fun _=>⟨slT slOkQ _ _,by simp⟩) (ys.map eQ) rfl (by rw[hys,List.map_append,List.map_cons,List.map_take,List.map_drop,List.take_of_length_le (l:=xs.map eQ) (i:=xs.length) (by simp)];rfl) (slI slOkQ _ _ _ _) rfl<|?_
    exact at_ ⟨ys,i+1⟩ (by dsimp only;exact⟨⟨by rw[sortK_succ hz,←h1];exact hin.symm,by omega⟩,(by omega)⟩)
   ·
    refine ix _ rfl (map_getN (by omega)) rfl<|cl rfl (q_C (a:=xs[n]'(by omega)) (b:=q) (ha:=hxb _ (List.getElem_mem (by omega))) (hb:=hqb) (by omega) (by omega)) rfl<|?_
    refine br J J J (fun hc40=>?_) (fun hc40=>?_)
    ·
     have hnew: ∀h:n<xs.length,rcmp xs[n] q≠0:=fun h=>hc40
     obtain⟨ys,hys⟩: ∃ys,ys=xs.take n++q::xs.drop n:=⟨_,rfl⟩
     have hin:insG rcmp q xs=ys:=by rw[hys];exact insG_new rcmp hnx hnew
     have hyl:ys.length≤xs.length+1:=by rw[hys];simp;omega
     refine s3 n _ J J J J (slOkQ _) (by rw[hxl];exact hnl) rfl<|ro J J<|sc' n xs.length _ J J (by rw[hxl]) rfl (slOkQ _) hnl (by omega) rfl<|?_
     refine ap _ J J (slD slOkQ _ _ _) rfl<|apf (hv:=by simp only[allP];exact⟨by kernel_rfl,by omega⟩) (ho:=fun _=>⟨slT slOkQ _ _,by simp⟩) (ys.map eQ) rfl (by rw[hys,List.map_append,List.map_cons,List.map_take,List.map_drop,List.take_of_length_le (l:=xs.map eQ) (i:=xs.length) (by simp)];rfl) (slI slOkQ _ _ _ _) rfl<|?_
     exact at_ ⟨ys,i+1⟩ (by dsimp only;exact⟨⟨by rw[sortK_succ hz,←h1];exact hin.symm,by omega⟩,(by omega)⟩)
    ·
     have hin:insG rcmp q xs=xs:=insG_old rcmp hnx (by omega) (Decidable.not_not.1 hc40)
     exact at_ ⟨xs,i+1⟩ (by dsimp only;exact⟨⟨by rw[sortK_succ hz,←h1];exact hin.symm,by omega⟩,(by omega)⟩)
 ·
  have hfin:numsR qs=xs:=by rw[numsR_G,h1,sortK_all (by omega),List.map_id]
  exact rz rfl (by rw[hfin];rfl)
set_option maxHeartbeats 1000000 in
theorem q_gaps{GB:Gh}{cuts:List Rat}{k:Nat}(hb: ∀q∈cuts,BQ q k)(hk':k≤100000)(hn:cuts.length≤40000000):PF GB Tryz.prog 131 [.sl (cuts.map eQ)] (.sl ((gapsR cuts).map eQ)):=by
 have hm:=map_len' eQ cuts
 refine fn (fu:=⟨10⟩) Tryz.func131 J J Tryz.ntmps131 J J (fun C=>?_)
 refine eqF 6 (.d (vI (cuts.length:Nat))) rfl (by rw[hm]<;>rfl) ?_
 refine gx rfl<|?_
 refine br J J J (fun hc7=>?_) (fun hc7=>?_)
 ·
  obtain rfl:cuts=[]:=List.eq_nil_of_length_eq_zero (by omega)
  refine rf J J<|?_
  exact rz rfl (by rw[gapsR];show DV.sl [_]=DV.sl [_];rw[eQ_zero])
 ·
  obtain⟨a,ct,rfl⟩: ∃a t,cuts=a::t:=by cases cuts with|nil=>exact absurd rfl hc7|cons a t=>exact⟨a,t,rfl⟩
  haveI hab:=hb a List.mem_cons_self
  have hcl:ct.length+1≤40000000:=hn
  refine ix _ J J J<|cl rfl (q_Of (n:=1) (by decide) (by decide)) rfl<|cl (fu:=⟨0⟩) rfl (q_Sub (a:=a) (b:=((1:Int):Rat)) (by omega) (by omega)) rfl<|?_
  refine eqF 14 (.d (eQ (a-1))) J J ?_
  refine gx rfl<|ro J J<|?_
  refine lp (fu:=⟨6⟩) (X:=Nat) (fun i=>[(4, .d (vI ((i+1:Nat):Int))),(3, .rw 15)]) (fun i=>[(15,some (.b 84 3 (((a-1)::midsR ((a::ct).take (i+1))).map eQ) true))]) (fun i=>i≤ct.length) (fun i=>ct.length-i) 0 rfl (Nat.zero_le _) (fun _=>rfl) (fun i hk=>?_)
  have hm2:=map_len' eQ (a::ct)
  have hml:=midsR_len (a::ct.take i)
  rw[List.length_cons,List.length_take] at hml
  have hml2:=midsR_len (a::ct)
  rw[List.length_cons] at hml2
  refine eqF 18 (.d (vI ((ct.length+1:Nat):Int))) rfl (by rw[hm2]<;>rfl) ?_
  refine gx rfl<|?_
  refine br (fu2:=⟨11⟩) J J J (fun hc19=>?_) (fun hc19=>?_)
  ·
   obtain⟨u,hu⟩: ∃s,(a::ct)[i]? =some s:=⟨_,List.getElem?_eq_getElem (by simp;omega)⟩
   obtain⟨w,hw⟩: ∃s,(a::ct)[i+1]? =some s:=⟨_,List.getElem?_eq_getElem (by simp;omega)⟩
   haveI:=hb u (List.mem_of_getElem? hu)
   haveI:=hb w (List.mem_of_getElem? hw)
   refine ix _ rfl (by rw[show((((i+1:Nat):Int))-1).toNat=i by omega,List.getElem?_map,hu];rfl) rfl<|ix _ rfl (by rw[Int.toNat_natCast,List.getElem?_map,hw];rfl) rfl<|?_
   refine cl rfl (q_Mid (a:=u) (b:=w) (by omega) (by omega)) rfl<|rf J J<|ap (hv:=by simp only[allP];exact⟨by kernel_rfl,by omega⟩) (((a-1)::midsR ((a::ct).take (i+1+1))).map eQ) rfl (by rw[mids_snoc hu hw,←List.cons_append,List.map_append];rfl) (slOkQ [(u+w)/2]) rfl<|?_
   refine rnE 34 15 rfl ?_
   exact at_ (i+1) ⟨(by omega),(by omega)⟩
  ·
   obtain rfl:i=ct.length:=by omega
   obtain⟨z,hz⟩: ∃s,(a::ct)[ct.length]? =some s:=⟨_,List.getElem?_eq_getElem (by simp)⟩
   haveI:=hb z (List.mem_of_getElem? hz)
   rw[show(a::ct).take (ct.length+1)=a::ct from List.take_length (l:=a::ct)]
   refine eqF 38 (.d (vI ((ct.length+1:Nat):Int))) rfl (by rw[hm2]<;>rfl) ?_
   refine gx rfl<|ix _ rfl (by rw[show((((ct.length+1:Nat):Int))-1).toNat=ct.length by omega,List.getElem?_map,hz];rfl) rfl<|cl rfl (q_Of (n:=1) (by decide) (by decide)) rfl<|?_
   refine cl rfl (q_Plus (a:=z) (b:=((1:Int):Rat)) (by omega) (by omega)) rfl<|rf J J<|ap ((gapsR (a::ct)).map eQ) rfl (by rw[gaps_cons hz,←List.cons_append,List.map_append];rfl) (slOkQ [z+1]) rfl<|?_
   refine fzE 45 rfl ?_
   exact rz J J
set_option maxHeartbeats 4000000 in
theorem q_Faces{GB:Gh}{l:List LnQ}(hb: ∀a∈l,LB a)(ho: ∀a∈l,a.Ne)(hn:l.length≤6000):PF GB Tryz.prog 74 [.sl (l.map eL)] (.sl ((facesQ l).map eP)):=by
 have hbl:=hb
 have hml:=map_len' eL l
 have htot:=faces_len hn
 have hgl:=gapsx_len hn
 have hxl:=xsQ_len l
 have hxl2:l.length*(l.length+1)≤6000*6001:=Nat.mul_le_mul hn (by omega)
 refine fn (fu:=⟨15⟩) Tryz.func74 J J Tryz.ntmps74 J J (fun C=>?_)
 refine eqF 19 (.d (vI (l.length:Nat))) rfl (by rw[List.length_map]<;>rfl) ?_
 refine gx rfl<|?_
 refine nr 3 3 84 3 J J J ?_
 refine lp (X:=List Rat×Nat) (fun⟨cur,i⟩=>[(20, .d (vI (i:Nat))),(3, .rw 3)]) (fun⟨cur,i⟩=>[(3,some (.b 84 3 (cur.map eQ) true))]) (fun⟨cur,i⟩=>cur++xsQ (l.drop i)=xsQ l∧i≤l.length) (fun⟨cur,i⟩=>l.length-i) ⟨[],0⟩ rfl ⟨by simp,Nat.zero_le _⟩ (fun _=>rfl) (fun⟨cur,i⟩ hk=>?_)
 try dsimp only at hk⊢
 obtain⟨h1,h2⟩:=hk
 have hcl:=prefix_len h1
 have hcm:=map_len' eQ cur
 refine br (fu2:=⟨0⟩) J J J (fun hc21=>?_) (fun hc21=>?_)
 ·
  obtain⟨a,ha⟩: ∃s,l[i]? =some s:=⟨_,List.getElem?_eq_getElem (by omega)⟩
  haveI hab:=hb a (List.mem_of_getElem? ha)
  have hao:=ho a (List.mem_of_getElem? ha)
  refine ix (fu:=⟨7⟩) _ rfl (map_getS ha) rfl<|?_
  refine mg (X:=List Rat) (fun cur1=>[(3, .rw 3)]) (fun cur1=>[(3,some (.b 84 3 (cur1.map eQ) true))]) (fun cur1=>cur1++(mtQ a ((l.drop (i+1)).drop 0)++xsQ (l.drop (i+1)))=xsQ l) [3] [3] rfl ?_ (fun _=>rfl) (fun cur1 hc1=>?_)
  ·
   refine gx rfl<|cl rfl (q_Sign (z:=a.b)) rfl<|?_
   refine br J J J (fun hc28=>?_) (fun hc28=>?_)
   ·
    refine cl rfl (q_Base (l:=a) hao) rfl<|rf J J<|ap ((cur++[a.base.x]).map eQ) rfl (by rw[List.map_append];rfl) (slOkQ [_]) rfl<|?_
    refine rnE 34 3 rfl ?_
    exact at_ (cur++[a.base.x]) (by rw[←h1,xsQ_step ha,if_pos (Int.sign_eq_zero_iff_zero.1 hc28)];simp)
   ·
    exact at_ cur (by rw[←h1,xsQ_step ha,if_neg (fun e=>hc28 (Int.sign_eq_zero_iff_zero.2 e))];simp)
  ·
   have hcl1:=prefix_len hc1
   have hdl:(l.drop (i+1)).length≤6000:=by rw[List.length_drop];omega
   have hcm1:=map_len' eQ cur1
   refine sc' (fu:=⟨1⟩) (i+1) l.length ((l.drop (i+1)).map eL) J J (by rw[hml]) (by rw[List.take_of_length_le (by rw[hml];exact Nat.le_refl _),List.map_drop]) (slOkL l) (by omega) (by rw[hml];exact Nat.le_refl _) rfl<|?_
   refine eqF 39 (.d (vI ((l.drop (i+1)).length:Nat))) rfl (by rw[List.length_map]<;>rfl) ?_
   refine gx rfl<|?_
   refine lp (X:=List Rat×Nat) (fun⟨cur2,j⟩=>[(40, .d (vI (j:Nat))),(3, .rw 3)]) (fun⟨cur2,j⟩=>[(3,some (.b 84 3 (cur2.map eQ) true))]) (fun⟨cur2,j⟩=>cur2++(mtQ a ((l.drop (i+1)).drop j)++xsQ (l.drop (i+1)))=xsQ l∧j≤(l.drop (i+1)).length) (fun⟨cur2,j⟩=>(l.drop (i+1)).length-j) ⟨cur1,0⟩ rfl ⟨hc1,Nat.zero_le _⟩ (fun _=>rfl) (fun⟨cur2,j⟩ hk=>?_)
   try dsimp only at hk⊢
   obtain⟨j1,j2⟩:=hk
   have hcl2:=prefix_len j1
   have hcm2:=map_len' eQ cur2
   refine br J J J (fun hc41=>?_) (fun hc41=>?_)
   ·
    obtain⟨b,hb⟩: ∃s,(l.drop (i+1))[j]? =some s:=⟨_,List.getElem?_eq_getElem (by omega)⟩
    haveI hbb:=hbl b (List.mem_of_mem_drop (List.mem_of_getElem? hb))
    refine ix _ rfl (map_getS hb) rfl<|cl rfl (q_Meet (l:=a) (m:=b)) rfl<|?_
    refine bd J J J (fun hc50=>?_) (fun hc50=>?_)
    ·
     refine rf J J<|ap ((cur2++[(meetP a b).x]).map eQ) rfl (by rw[List.map_append];rfl) (slOkQ [_]) rfl<|?_
     refine rnE 55 3 rfl ?_
     exact at_ ⟨cur2++[(meetP a b).x],j+1⟩ (by dsimp only;exact⟨⟨by rw[←j1,mtQ_step hb,if_neg hc50];simp,by omega⟩,(by omega)⟩)
    ·
     exact at_ ⟨cur2,j+1⟩ (by dsimp only;exact⟨⟨by rw[←j1,mtQ_step hb,if_pos (Decidable.not_not.1 hc50)];simp,by omega⟩,(by omega)⟩)
   ·
    obtain rfl:j=(l.drop (i+1)).length:=by omega
    exact at_ ⟨cur2,i+1⟩ (by dsimp only;exact⟨⟨by rw[drop_end] at j1;exact j1,by omega⟩,(by omega)⟩)
 ·
  obtain rfl:i=l.length:=by omega
  obtain rfl:cur=xsQ l:=by rw[drop_end] at h1;simpa[xsQ] using h1
  refine fzC 3 rfl ?_
  refine gx rfl<|cl rfl (q_numbers (qs:=xsQ l) (k:=900) (xsQ_bd hb) (by decide) (by omega)) rfl<|cl (fu:=⟨1⟩) rfl (q_gaps (cuts:=numsR (xsQ l)) (k:=900) (fun q hq=>xsQ_bd hb q (mem_numsR.1 hq)) (by decide) (by have:=numsR_len (xsQ l);omega)) rfl<|?_
  refine eqF 61 (.d (vI ((gapsR (numsR (xsQ l))).length:Nat))) rfl (by rw[List.length_map]<;>rfl) ?_
  refine gx rfl<|?_
  refine nr 10 10 86 6 J J J ?_
  refine lp (X:=List PtQ×Nat) (fun⟨pts,g⟩=>[(62, .d (vI (g:Nat))),(10, .rw 10)]) (fun⟨pts,g⟩=>[(10,some (.b 86 6 (pts.map eP) true))]) (fun⟨pts,g⟩=>pts++((gapsR (numsR (xsQ l))).drop g).flatMap (colQ l)=facesQ l∧g≤(gapsR (numsR (xsQ l))).length) (fun⟨pts,g⟩=>(gapsR (numsR (xsQ l))).length-g) ⟨[],0⟩ rfl ⟨rfl,Nat.zero_le _⟩ (fun _=>rfl) (fun⟨pts,g⟩ hk=>?_)
  try dsimp only at hk⊢
  obtain⟨g1,g2⟩:=hk
  have hpl:=prefix_len g1
  have hpm:=map_len' eP pts
  refine br J J J (fun hc63=>?_) (fun hc63=>?_)
  ·
   obtain⟨x,hx⟩: ∃s,(gapsR (numsR (xsQ l)))[g]? =some s:=⟨_,List.getElem?_eq_getElem (by omega)⟩
   haveI hxb:BQ x 1900:=gaps_bdk (k:=900) (fun q hq=>xsQ_bd hb q (mem_numsR.1 hq)) x (List.mem_of_getElem? hx)
   refine ix (fu:=⟨15⟩) _ rfl (map_getS hx) rfl<|?_
   refine eqF 67 (.d (vI (l.length:Nat))) rfl (by rw[List.length_map]<;>rfl) ?_
   refine gx rfl<|?_
   refine nr 13 13 84 3 J J J ?_
   refine lp (X:=List Rat×Nat) (fun⟨ys,j⟩=>[(68, .d (vI (j:Nat))),(13, .rw 13)]) (fun⟨ys,j⟩=>[(13,some (.b 84 3 (ys.map eQ) true))]) (fun⟨ys,j⟩=>ys++ysQ (l.drop j) x=ysQ l x∧j≤l.length) (fun⟨ys,j⟩=>l.length-j) ⟨[],0⟩ rfl ⟨rfl,Nat.zero_le _⟩ (fun _=>rfl) (fun⟨ys,j⟩ hk=>?_)
   try dsimp only at hk⊢
   obtain⟨y1,y2⟩:=hk
   have hyl:=prefix_len y1
   have hym:=map_len' eQ ys
   have hyt:=ysQ_len l x
   refine br (fu2:=⟨0⟩) J J J (fun hc69=>?_) (fun hc69=>?_)
   ·
    obtain⟨a,ha⟩: ∃s,l[j]? =some s:=⟨_,List.getElem?_eq_getElem (by omega)⟩
    haveI hala:=hb a (List.mem_of_getElem? ha)
    refine ix _ rfl (map_getS ha) rfl<|cl rfl (q_Sign (z:=a.b)) rfl<|?_
    refine br J J J (fun hc75=>?_) (fun hc75=>?_)
    ·
     have hab: ¬a.b=0:=fun e=>hc75 (Int.sign_eq_zero_iff_zero.2 e)
     have habR:((a.b:Int):Rat)≠0:=fun e=>hab (Rat.intCast_eq_zero_iff.1 e)
     refine cl rfl (q_sq (z:=a.a)) rfl<|cl rfl (q_Times (a:=(a.a:Rat)) (b:=x)) rfl<|cl rfl (q_sq (z:=a.c)) rfl<|cl rfl (q_Plus (a:=(a.a:Rat)*x) (b:=(a.c:Rat))) rfl<|?_
     refine cl rfl (q_sq (z:=a.b)) rfl<|cl rfl (q_Over (a:=(a.a:Rat)*x+(a.c:Rat)) (b:=(a.b:Rat)) habR) rfl<|cl rfl (q_Opp (q:=((a.a:Rat)*x+(a.c:Rat))/(a.b:Rat))) rfl<|?_
     refine rf J J<|ap (hv:=by simp only[allP];exact⟨by kernel_rfl,by omega⟩) ((ys++[yA a x]).map eQ) rfl (by rw[List.map_append];rfl) (slOkQ [_]) rfl<|?_
     refine rnE 92 13 rfl ?_
     exact at_ ⟨ys++[yA a x],j+1⟩ (by dsimp only;exact⟨⟨by rw[←y1,ysQ_step ha,if_neg hab];simp,by omega⟩,(by omega)⟩)
    ·
     have hab:a.b=0:=Int.sign_eq_zero_iff_zero.1 (Decidable.not_not.1 hc75)
     exact at_ ⟨ys,j+1⟩ (by dsimp only;exact⟨⟨by rw[←y1,ysQ_step ha,if_pos hab];simp,by omega⟩,(by omega)⟩)
   ·
    obtain rfl:j=l.length:=by omega
    obtain rfl:ys=ysQ l x:=by rw[drop_end] at y1;simpa[ysQ] using y1
    have hyb:=ysQ_bd hb hxb
    have hgy:(gapsR (numsR (ysQ l x))).length≤6001:=by have:=colQ_len l x;unfold colQ at this;rw[List.length_map] at this;omega
    refine fzC 13 rfl ?_
    refine gx rfl<|cl rfl (q_numbers (qs:=ysQ l x) (k:=2400) hyb (by decide) (by omega)) rfl<|cl (fu:=⟨1⟩) rfl (q_gaps (cuts:=numsR (ysQ l x)) (k:=2400) (fun q hq=>hyb q (mem_numsR.1 hq)) (by decide) (by have:=numsR_len (ysQ l x);omega)) rfl<|?_
    refine eqF 97 (.d (vI ((gapsR (numsR (ysQ l x))).length:Nat))) rfl (by rw[List.length_map]<;>rfl) ?_
    refine gx rfl<|?_
    refine lp (X:=List PtQ×Nat) (fun⟨pts2,j⟩=>[(98, .d (vI (j:Nat))),(10, .rw 10)]) (fun⟨pts2,j⟩=>[(10,some (.b 86 6 (pts2.map eP) true))]) (fun⟨pts2,j⟩=>pts2++(((gapsR (numsR (ysQ l x))).drop j).map (fun y=>(⟨x,y⟩:PtQ))++((gapsR (numsR (xsQ l))).drop (g+1)).flatMap (colQ l))=facesQ l∧j≤(gapsR (numsR (ysQ l x))).length) (fun⟨pts2,j⟩=>(gapsR (numsR (ysQ l x))).length-j) ⟨pts,0⟩ rfl ⟨by rw[flat_drop hx] at g1;exact g1,Nat.zero_le _⟩ (fun _=>rfl) (fun⟨pts2,j⟩ hk=>?_)
    try dsimp only at hk⊢
    obtain⟨w1,w2⟩:=hk
    have hpl2:=prefix_len w1
    have hpm2:=map_len' eP pts2
    refine br J J J (fun hc99=>?_) (fun hc99=>?_)
    ·
     obtain⟨y,hy⟩: ∃s,(gapsR (numsR (ysQ l x)))[j]? =some s:=⟨_,List.getElem?_eq_getElem (by omega)⟩
     refine ix _ rfl (map_getS hy) rfl<|rf J J<|ap ((pts2++[(⟨x,y⟩:PtQ)]).map eP) rfl (by rw[List.map_append];rfl) (slOkP [(⟨x,y⟩:PtQ)]) rfl<|?_
     refine rnE 107 10 rfl ?_
     exact at_ ⟨pts2++[⟨x,y⟩],j+1⟩ (by dsimp only;exact⟨⟨by rw[←w1,map_drop' hy];simp,by omega⟩,(by omega)⟩)
    ·
     obtain rfl:j=(gapsR (numsR (ysQ l x))).length:=by omega
     exact at_ ⟨pts2,g+1⟩ (by dsimp only;exact⟨⟨by rw[drop_end] at w1;exact w1,by omega⟩,(by omega)⟩)
  ·
   obtain rfl:g=(gapsR (numsR (xsQ l))).length:=by omega
   obtain rfl:pts=facesQ l:=by rw[drop_end] at g1;simpa using g1
   refine fzE 10 rfl ?_
   exact rz J J
end Go.Sx
end

section
set_option maxRecDepth 100000
namespace Go.Sx
open Go Go.Proofs
section
variable {GB:Gh} {C:Ctx} {n:Nat} {Q0:Exit→Act→World→Prop} {fr fr':FrX} {own own':OwX} {cf cf':Cf} {vc:List Prop}
def PR(GB:Gh)(P:Program)(f:FuncId)(ds:List DV)(s:Nat)(ty:TypeId)(rows:List DV):Prop:=
 ∀G vs,GLe GB G→IsLs G ds vs→FnO P f vs [] G (fun v own' G'=> ∃w:SV,v= .slice w.a w.n w.c∧BufIs G' ⟨w,s,ty,rows,true⟩ own')
theorem relo_id: ∀(l:List Own),(∀o∈l,o.lo=true)→l.map (relo (flM []))=l
 |[],_=>rfl
 |a::t,h=>by
  have h1:=h a List.mem_cons_self
  rw[List.map_cons,relo_id t fun o ho=>h o (List.mem_cons_of_mem _ ho)]
  congr 1
  cases a
  simp[relo,flM] at*
  exact h1
theorem ok_callR{lk:LK}{bk:BM}{fo:Operand}{args:Array Operand}{tys:Array TypeId}{f:FuncId}{d s:Nat}{ds rows:List DV}{ty ty2:TypeId}{pos:String}{af:Array Edge}{gd:Option (Nat×Bool)}
  (ha:cargs lk fo args=some (f,ds))(hF:PR GB Tryz.prog f ds s ty2 rows):OpR Tryz.prog GB C n lk bk ⟨some d, .call ⟨.value fo,args,tys⟩,ty,pos,af,gd⟩ (.rw d) [(d,some (.b ty2 s rows true))] [d]:=by
 intro hd tl tb K' s1 s2 hf hk
 refine⟨fun ρ G ov a w r Q=>?_⟩
 have r1:=r.mono s1 s2
 obtain⟨h1,h2⟩:=cargs_ok ha
 obtain⟨y,hy,hy'⟩:=r1.ev h1
 rw[(is_v (G:=G)).1 hy'] at hy
 obtain⟨vs,h3,h4⟩:=r1.evDs h2
 refine ch_callO (M:=[]) (rest:=ov) hy h3 (List.Perm.refl _) (hF G vs r.gb h4) hd (fun v own1 G' hG hK a' w' rl=>?_) a w Q ⟨r.h,r.sz,frA_ok a,r.df⟩
 obtain⟨z,rfl,vs',k1,k2,k3,k4⟩:=hK
 rw[relo_id _ (k4 rfl)] at rl
 have rl':Rel C n (Sx.put (frA a) (some d) (.slice z.a z.n z.c)) (own1++ov) G' a' w':=rl
 have hdis:=(List.pairwise_append.1 rl'.h.nd).2.2
 have r3:=r.new' (x:=z) (B':= .b ty2 s rows true) (os:=own1) (ov':=own1++ov) (f:= .rw d) (y:= .slice z.a z.n z.c) hf hG.le rl'.h ⟨vs',by simpa using k1,k2,k3,k4⟩ (fun o ho=>List.mem_append_left _ ho)
  (fun q B0 hq e o ho hbq=>⟨List.mem_append_right _ ho,fun hc=>by
   have hx: ∃o1∈own1,o1.b=o.b:=by
    rcases k1 with⟨_,h,_⟩|⟨b0,rest0,lo0,h,hB,_⟩
    ·rw[show z=_ from h] at hc;cases hc
    ·rw[show z=_ from h] at hc;cases hc;exact⟨⟨_,flatL vs'++rest0,_,lo0⟩,by rw[hB];exact List.mem_cons_self,rfl⟩
   obtain⟨o1,ho1,he1⟩:=hx
   exact hdis o1 ho1 o ho he1⟩) (by simp[IsX]) (putA_rel rl')
 exact hk.run _ G' _ a' w' r3
def calR(fr:FrX)(cf:Cf):Option (FuncId×List DV×Nat):=match opC fr cf with
 |some ⟨some d, .call ⟨.value fo,args,_⟩,_,_,_,_⟩=>match cargs (lkC fr cf) fo args with
  |some (f,ds)=>some (f,ds,d)
  |none=>none
 |_=>none
theorem cr[fu:Fu]{f:FuncId}{d s:Nat}{ds rows:List DV}{ty:TypeId}(ha:calR fr cf=some (f,ds,d))(hF:PR GB Tryz.prog f ds s ty rows)
  (hgo:goA tt n fu.n fr own cf (.rw d) [(d,some (.b ty s rows true))] [d]=⟨vc,fr',own',cf'⟩)(k:CfS Tryz.prog GB C n Q0 fr' own' cf')
  (hv:allP vc:=by first|exact trivial|(simp only[allP];kernel_rfl)|(simp only[allP];omega)|(simp only[allP,List.length_map,List.length_set,List.length_replicate];omega)):CfS Tryz.prog GB C n Q0 fr own cf:=by
 unfold calR at ha
 split at ha<;>try (cases ha;done)
 rename_i hh
 split at ha<;>cases ha
 rename_i h1
 exact us hh (ok_callR h1 hF) hgo hv k
def PRpost(C:Ctx)(s:Nat)(ty:TypeId)(rows:List DV):Ending→World→Prop:=RPostO C (fun v own' G'=> ∃w:SV,v= .slice w.a w.n w.c∧BufIs G' ⟨w,s,ty,rows,true⟩ own')
theorem fnR[fu:Fu]{f:FuncId}{fb:Func}{c:Code}{m s:Nat}{ds rows:List DV}{ty:TypeId}(hf:Tryz.prog.funcs[f]? =some fb)(hb:fb.body=some c)(hn:(fb.name== "runtime.NumGoroutine")=false)(hm:fb.ntmps=m)(hlen:Nat.ble ds.length m=true)
  (hgo:go tt m fu.n [] (args0X 0 ds) [] (.code c [])=⟨vc,fr,own,cf⟩)(k: ∀C:Ctx,C.mb=[]→CfS Tryz.prog GB C m (bodyPost Tryz.prog fb (PRpost C s ty rows)) fr own cf)
  (hv:allP vc:=by first|exact trivial|(simp only[allP];kernel_rfl)|(simp only[allP];omega)|(simp only[allP,List.length_map,List.length_set,List.length_replicate];omega)):PR GB Tryz.prog f ds s ty rows:=by
 intro G vs hg hvs
 refine FnO.intro hf hb hn hm (by rw[hvs.len];exact hlen) fun C _ hmb=>?_
 intro a w rl
 have h:=gx' (GB:=GB) (C:=C) (Q0:=bodyPost Tryz.prog fb (PRpost C s ty rows)) hgo hv (k C (by simpa using hmb))
 exact h.run (fun _=>⟨none,0,0⟩) G [] a w ⟨hg,rl.h,rl.sz,rl.df,(fun k f e=>args_fr hvs rl.fr k f e),(fun nm B e=>by cases e),(fun nm nm' B B' e=>by cases e)⟩
theorem rzR{fb:Func}{t d s:Nat}{ty:TypeId}{rows rws:List DV}(hr:fb.results.toList=[.tmp t])(hl:lookX fr t=some (.rw d))(hw:lookO own d=some (.b ty s rws true))(er:rws=rows):
  CfS Tryz.prog GB C n (bodyPost Tryz.prog fb (PRpost C s ty rows)) fr own (.ex .ret []):=by
 subst er
 refine⟨fun ρ G ov a w r=>?_⟩
 obtain⟨B,g1,g2⟩:=r.bx _ _ hw
 have hB:BufIs G ⟨ρ d,s,ty,rws,true⟩ B:=g1
 obtain⟨rest,hp⟩:=own_rest hB g2
 obtain⟨y,hy,hy'⟩:=r.ev (x:= .tmp t) (f:= .rw d) hl
 cases (show y=_ from hy')
 exact st_doneO (C:=C) (n:=n) (fr:=frA a) (own:=ov) (G:=G) (vs:=[.slice (ρ d).a (ρ d).n (ρ d).c]) (by rw[hr];exact .tmp hy .nil) (B++rest) B hp (List.sublist_append_left _ _) ⟨ρ d,rfl,hB⟩ a w ⟨r.h,r.sz,frA_ok a,r.df⟩
theorem rzR0{fb:Func}{t s:Nat}{ty:TypeId}{rows:List DV}(hr:fb.results.toList=[.tmp t])(hl:lookX fr t=some .nl)(er:rows=[]):
  CfS Tryz.prog GB C n (bodyPost Tryz.prog fb (PRpost C s ty rows)) fr own (.ex .ret []):=by
 subst er
 refine⟨fun ρ G ov a w r=>?_⟩
 obtain⟨y,hy,hy'⟩:=r.ev (x:= .tmp t) (f:= .nl) hl
 cases (show y=_ from hy')
 exact st_doneO (C:=C) (n:=n) (fr:=frA a) (own:=ov) (G:=G) (vs:=[.slice none 0 0]) (by rw[hr];exact .tmp hy .nil) ([]++ov) [] (List.Perm.refl _) (List.nil_sublist _) ⟨⟨none,0,0⟩,rfl,[], .inl ⟨rfl,rfl,rfl⟩,isl_nil.2 rfl,fun v h=>(by cases h),fun _ o h=>(by cases h)⟩ a w ⟨r.h,r.sz,frA_ok a,r.df⟩
end
end Go.Sx
end

section
set_option maxRecDepth 100000
namespace Go.Sx
open Go Go.Proofs
theorem q_lines_leaf{GB:Gh}{b:Bool}:PR GB Tryz.prog 76 [eT (Tr.leaf b)] 6 46 ((Tr.leaf b).lns.map eL):=by
 refine fnR (fu:=⟨11⟩) Tryz.func76 J J Tryz.ntmps76 J J (fun C hmb=>?_)
 refine knT J J J<|?_
 exact rzR0 J J J
theorem q_lines_node{GB:Gh}{l:LnQ}{x y:Tr}(hs:(Tr.node l x y).size≤100000)(ihx:PR GB Tryz.prog 76 [eT x] 6 46 (x.lns.map eL))(ihy:PR GB Tryz.prog 76 [eT y] 6 46 (y.lns.map eL)):PR GB Tryz.prog 76 [eT (Tr.node l x y)] 6 46 ((Tr.node l x y).lns.map eL):=by
 have hsx:=lns_len x
 have hsy:=lns_len y
 have hsz:(Tr.node l x y).size=1+x.size+y.size:=rfl
 refine fnR (fu:=⟨11⟩) Tryz.func76 J J Tryz.ntmps76 J J (fun C hmb=>?_)
 refine knF J J J<|ro J J<|cr rfl ihx rfl<|ap (hbd:=by simp only[List.length_map,List.length_cons,List.length_nil];omega) ((l::x.lns).map eL) rfl (by rw[List.map_cons];rfl) (slOkL _) rfl<|?_
 refine cr rfl ihy rfl<|ap (hbd:=by simp only[List.length_map,List.length_cons,List.length_nil];omega) ((l::(x.lns++y.lns)).map eL) rfl (by rw[List.map_cons,List.map_cons,List.map_append];rfl) (slOkL _) rfl<|?_
 exact rzR J J J J
theorem q_lines{GB:Gh}: ∀{t:Tr},t.size≤100000→PR GB Tryz.prog 76 [eT t] 6 46 (t.lns.map eL)
 | .leaf _,_=>q_lines_leaf
 | .node l x y,h=>q_lines_node h (q_lines (by have:(Tr.node l x y).size=1+x.size+y.size:=rfl;omega)) (q_lines (by have:(Tr.node l x y).size=1+x.size+y.size:=rfl;omega))
def atO:Tr→PtQ→Bool
 | .leaf _,_=>true
 | .node l x y,p=>if(l.value p).num.sign=1 then atO x p else if(l.value p).num.sign= -1 then atO y p else false
set_option maxHeartbeats 1000000 in
theorem q_TAt{GB:Gh}{t:Tr}{p:PtQ}{i:Nat}[hp:BPt p i](hb:t.all LB)(hi:i≤400000:=by decide):PF GB Tryz.prog 77 [eT t,eP p] (.tp [vB (atQ t p),vB (atO t p)]):=by
 refine fn Tryz.func77 J J Tryz.ntmps77 J J (fun C=>?_)
 refine lp (fu:=⟨3⟩) (X:=Tr) (fun s=>[(0, .d (eT s))]) (fun s=>[]) (fun s=>atQ s p=atQ t p∧atO s p=atO t p∧s.all LB) (fun s=>s.size) t rfl ⟨rfl,rfl,hb⟩ (fun _=>rfl) (fun s hk=>?_)
 obtain⟨h1,h2,hb2⟩:=hk
 rcases s with b|⟨l,x,y⟩
 ·
  have hA:atQ t p=b:=h1.symm
  have hO:atO t p=true:=h2.symm
  refine gx (fu:=⟨3⟩) rfl<|knT J J J<|?_
  exact rz rfl (by rw[hA,hO];rfl)
 ·
  have hAn:=h1.symm
  have hOn:=h2.symm
  rw[atQ] at hAn
  rw[atO] at hOn
  haveI:=hb2.1
  refine gx (fu:=⟨3⟩) rfl<|knF J J J<|cl rfl (q_Side (l:=l) (p:=p) (i:=i) hi) rfl<|?_
  refine br J J J (fun hc17=>?_) (fun hc17=>?_)
  ·
   exact at_ x ⟨⟨by rw[hAn,if_pos hc17],by rw[hOn,if_pos hc17],hb2.2.1⟩,(by simp only[Tr.size];omega)⟩
  ·
   refine br J J J (fun hc23=>?_) (fun hc23=>?_)
   ·
    exact at_ y ⟨⟨by rw[hAn,if_neg hc17,if_pos hc23],by rw[hOn,if_neg hc17,if_pos hc23],hb2.2.2⟩,(by simp only[Tr.size];omega)⟩
   ·
    exact rz rfl (by rw[hAn,hOn,if_neg hc17,if_neg hc23,if_neg hc17,if_neg hc23];rfl)
theorem distQ_len(ls:List LnQ):(distQ ls).length≤ls.length:=by
 have:=foldG_len lcmp (ls.map LnQ.canon) []
 unfold distQ sortG
 rw[List.length_map,List.length_nil] at this
 omega
theorem faces_bd{l:List LnQ}(hl: ∀a∈l,LB a): ∀p∈facesQ l,BPt p 4900:=fun p hp=>by
 obtain⟨h1,h2⟩:=mem_faces.1 hp
 have hx:BQ p.x 1900:=gaps_bdk (k:=900) (fun q hq=>xsQ_bd hl q (mem_numsR.1 hq)) _ h1
 have hy:BQ p.y 4900:=gaps_bdk (k:=2400) (fun q hq=>ysQ_bd hl hx q (mem_numsR.1 hq)) _ h2
 exact⟨hx.mono (by decide),hy⟩
theorem dist_lb{ls:List LnQ}(h: ∀l∈ls,LB l): ∀l∈distQ ls,LB l:=fun l hl=>by
 obtain⟨x,hx,rfl⟩:=distQ_mem hl
 haveI:=h x hx
 infer_instance
theorem dist_ne{ls:List LnQ}(h: ∀l∈ls,l.ok): ∀l∈distQ ls,l.Ne:=fun l hl=>by
 obtain⟨x,hx,rfl⟩:=distQ_mem hl
 exact(canon_ok (h x hx)).ne
structure Two (a b:Tr):Prop where
 ga:a.gd
 gb:b.gd
 sa:a.size≤3000
 sb:b.size≤3000
theorem Two.lb{a b:Tr}(h:Two a b): ∀l∈a.lns++b.lns,LB l:=fun l hl=>(List.mem_append.1 hl).elim (lns_all.1 h.ga.lb l) (lns_all.1 h.gb.lb l)
theorem Two.ok{a b:Tr}(h:Two a b): ∀l∈a.lns++b.lns,l.ok:=fun l hl=>(List.mem_append.1 hl).elim (lns_ok h.ga.ok l) (lns_ok h.gb.ok l)
theorem Two.len{a b:Tr}(h:Two a b):(a.lns++b.lns).length≤6000:=by rw[List.length_append,lns_len,lns_len];have:=h.sa;have:=h.sb;omega
theorem Two.fl{a b:Tr}(h:Two a b):(fcs a b).length≤216072012001:=faces_len (Nat.le_trans (distQ_len _) h.len)
theorem Two.fb{a b:Tr}(h:Two a b): ∀p∈fcs a b,BPt p 4900:=faces_bd (dist_lb h.lb)
def f1R(x y:Bool):Bool:=x&&!y
def f2R(x y:Bool):Bool:=y&&!x
def f3R(x y:Bool):Bool:=x&&y
def f4R(x y:Bool):Bool:=!x&&!y
def anK(f:Bool→Bool→Bool)(a b:Tr)(k:Nat):Bool:=((fcs a b).take k).any fun p=>f (atQ a p) (atQ b p)
theorem anK_succ{f:Bool→Bool→Bool}{a b:Tr}{k:Nat}{p:PtQ}(h:(fcs a b)[k]? =some p):anK f a b (k+1)=(anK f a b k||f (atQ a p) (atQ b p)):=by
 unfold anK
 rw[List.take_add_one,h,List.any_append];simp
theorem anK_all(f:Bool→Bool→Bool)(a b:Tr):anK f a b (fcs a b).length=anyR f a b:=by unfold anK anyR;rw[List.take_length]
set_option maxHeartbeats 4000000 in
theorem q_RCompare{GB:Gh}{a b:Tr}(h:Two a b):PF GB Tryz.prog 28 [eT a,eT b] (.tp [vB (anyR f1R a b),vB (anyR f2R a b),vB (anyR f3R a b),vB (anyR f4R a b)]):=by
 have hsa:=h.sa
 have hsb:=h.sb
 have hll:=h.len
 have hfl:=h.fl
 have hla:=lns_len a
 have hlb:=lns_len b
 refine fn Tryz.func28 J J Tryz.ntmps28 J J (fun C=>?_)
 refine cr rfl (q_lines (t:=a) (by omega)) rfl<|cr rfl (q_lines (t:=b) (by omega)) rfl<|ap (hbd:=by simp only[List.length_map];omega) ((a.lns++b.lns).map eL) rfl (by rw[List.map_append]) (slOkL _) rfl<|?_
 refine fz 18 J J<|cl rfl (q_Distinct (ls:=a.lns++b.lns) h.lb (by omega)) rfl<|cl (fu:=⟨1⟩) rfl (q_Faces (l:=distQ (a.lns++b.lns)) (dist_lb h.lb) (dist_ne h.ok) (Nat.le_trans (distQ_len _) hll)) rfl<|?_
 refine eqF 21 (.d (vI ((fcs a b).length:Nat))) rfl (by rw[List.length_map];rfl) ?_
 refine gx rfl<|?_
 refine dvC 4 _ J J ?_
 refine dvC 5 _ J J ?_
 refine dvC 6 _ J J ?_
 refine dvC 7 _ J J ?_
 refine eqF 4 (.d (vB (anK f1R a b 0))) J J ?_
 refine eqF 5 (.d (vB (anK f2R a b 0))) J J ?_
 refine eqF 6 (.d (vB (anK f3R a b 0))) J J ?_
 refine eqF 7 (.d (vB (anK f4R a b 0))) J J ?_
 refine lp (X:=Nat) (fun k=>[(22, .d (vI (k:Nat))),(4, .d (vB (anK f1R a b k))),(5, .d (vB (anK f2R a b k))),(6, .d (vB (anK f3R a b k))),(7, .d (vB (anK f4R a b k)))]) (fun k=>[]) (fun k=>k≤(fcs a b).length) (fun k=>(fcs a b).length-k) 0 rfl (Nat.zero_le _) (fun _=>rfl) (fun k hk=>?_)
 refine br J J J (fun hc23=>?_) (fun hc23=>?_)
 ·
  obtain⟨p,hz⟩: ∃s,(fcs a b)[k]? =some s:=⟨_,List.getElem?_eq_getElem (by omega)⟩
  haveI hpb:=h.fb p (List.mem_of_getElem? hz)
  refine ix _ rfl (map_getS (l:=fcs a b) hz) rfl<|cl rfl (q_TAt (t:=a) (p:=p) (i:=4900) h.ga.lb) rfl<|cl (fu:=⟨8⟩) rfl (q_TAt (t:=b) (p:=p) (i:=4900) h.gb.lb) rfl<|?_
  obtain⟨xa,hxa⟩: ∃x,x=atQ a p:=⟨_,rfl⟩
  obtain⟨ya,hya⟩: ∃x,x=atQ b p:=⟨_,rfl⟩
  refine eqF 10 (.d (vB xa)) rfl (by subst hxa;rfl) ?_
  refine eqF 12 (.d (vB ya)) rfl (by subst hya;rfl) ?_
  obtain⟨b4,hf1R⟩: ∃x,x=anK f1R a b k:=⟨_,rfl⟩
  refine eqF 4 (.d (vB b4)) rfl (by subst hf1R;rfl) ?_
  obtain⟨b5,hf2R⟩: ∃x,x=anK f2R a b k:=⟨_,rfl⟩
  refine eqF 5 (.d (vB b5)) rfl (by subst hf2R;rfl) ?_
  obtain⟨b6,hf3R⟩: ∃x,x=anK f3R a b k:=⟨_,rfl⟩
  refine eqF 6 (.d (vB b6)) rfl (by subst hf3R;rfl) ?_
  obtain⟨b7,hf4R⟩: ∃x,x=anK f4R a b k:=⟨_,rfl⟩
  refine eqF 7 (.d (vB b7)) rfl (by subst hf4R;rfl) ?_
  cases xa<;>cases ya<;>cases b4<;>cases b5<;>cases b6<;>cases b7<;>(first|refine kbT 4 rfl ?_|refine kbF 4 rfl ?_)<;>(first|refine kbT 5 rfl ?_|refine kbF 5 rfl ?_)<;>(first|refine kbT 6 rfl ?_|refine kbF 6 rfl ?_)<;>(first|refine kbT 7 rfl ?_|refine kbF 7 rfl ?_)<;>(first|refine kbT 10 rfl ?_|refine kbF 10 rfl ?_)<;>(first|refine kbT 12 rfl ?_|refine kbF 12 rfl ?_)<;>refine gx rfl ?_<;>refine dvE 4 _ J J ?_<;>refine eqF 4 (.d (vB (anK f1R a b (k+1)))) rfl (by rw[anK_succ hz,←hf1R,←hxa,←hya];rfl) ?_<;>refine dvE 5 _ J J ?_<;>refine eqF 5 (.d (vB (anK f2R a b (k+1)))) rfl (by rw[anK_succ hz,←hf2R,←hxa,←hya];rfl) ?_<;>refine dvE 6 _ J J ?_<;>refine eqF 6 (.d (vB (anK f3R a b (k+1)))) rfl (by rw[anK_succ hz,←hf3R,←hxa,←hya];rfl) ?_<;>refine dvE 7 _ J J ?_<;>refine eqF 7 (.d (vB (anK f4R a b (k+1)))) rfl (by rw[anK_succ hz,←hf4R,←hxa,←hya];rfl) ?_<;>exact at_ (k+1) ⟨by omega,by omega⟩
 ·
  obtain rfl:k=(fcs a b).length:=by omega
  exact rz rfl (by rw[←anK_all,←anK_all,←anK_all,←anK_all];rfl)
end Go.Sx
end

section
set_option maxRecDepth 100000
namespace Go.Sx
open Go Go.Proofs
theorem q_RCompareV{GB:Gh}{a b:Tr}{o t c n:Bool}(h:Two a b)(h1:o=anyR f1R a b)(h2:t=anyR f2R a b)(h3:c=anyR f3R a b)(h4:n=anyR f4R a b):PF GB Tryz.prog 28 [eT a,eT b] (.tp [vB o,vB t,vB c,vB n]):=by subst h1 h2 h3 h4;exact q_RCompare h
def wantB:Bool→Bool→Int
 |false,false=>0
 |false,true=> -1
 |true,false=>1
 |true,true=>2
theorem cmp_wantB{a b:Tr}(ha:a.all LnQ.ok)(hb:b.all LnQ.ok){o t:Bool}(h1:o=anyR f1R a b)(h2:t=anyR f2R a b):compareQ a b=wantB o t:=by
 rw[compare_want ha hb,show anyR (fun x y=>x&&!y) a b=o from h1.symm,show anyR (fun x y=>y&&!x) a b=t from h2.symm]
 cases o<;>cases t<;>rfl
set_option maxHeartbeats 4000000 in
theorem q_RelateDecides{GB:Gh}{ai al ae:Addr}(hE:EG GB ai al ae){es0:List Int}(hb:es0.length≤1125899906842624):PF GB Tryz.prog 5 [.sl (es0.map vI)] (.v (.bool true)):=by
 obtain⟨es,hee⟩: ∃es,es=es0.take 400:=⟨_,rfl⟩
 have hes:es.length≤400:=by rw[hee];simp;omega
 obtain⟨hA,hB,hab⟩:=pairF_ok (es:=es) (Nat.zero_le es.length)
 obtain⟨A,hAe⟩: ∃A,A=(pairF es 0).1.1:=⟨_,rfl⟩
 obtain⟨B,hBe⟩: ∃B,B=(pairF es 0).1.2:=⟨_,rfl⟩
 rw[←hAe] at hA
 rw[←hBe] at hB
 obtain⟨o,ho⟩: ∃o,o=anyR f1R A B:=⟨_,rfl⟩
 obtain⟨t,ht⟩: ∃o,o=anyR f2R A B:=⟨_,rfl⟩
 obtain⟨c,hc⟩: ∃o,o=anyR f3R A B:=⟨_,rfl⟩
 obtain⟨n,hn⟩: ∃o,o=anyR f4R A B:=⟨_,rfl⟩
 have en:leafQ false B=(!t&&!c):=by rw[ht,hc];exact(any_empty hA.ok hB.ok).symm
 have ew:leafQ true B=(!o&&!n):=by rw[ho,hn];exact(any_whole hA.ok hB.ok).symm
 have es':noneQ 3 A B=!o:=by rw[ho];exact(any_one hA.ok hB.ok).symm
 have e2:noneQ 3 B A=!t:=by rw[ht];exact(any_two hA.ok hB.ok).symm
 have ed:noneQ 2 A B=!c:=by rw[hc];exact(any_both hA.ok hB.ok).symm
 have eq:noneQ 4 A B=(!o&&!t):=by rw[equal_sub hA.ok hB.ok,es',e2]
 have ec:=cmp_wantB hA.ok hB.ok ho ht
 refine fn Tryz.func5 J J Tryz.ntmps5 J J (fun C=>?_)
 refine cn rfl ((q_NewT hb hee)) (fun _=>rfl) (fun _=>?_)
 refine cm rfl (fun b=>(q_pairN hes hAe hBe)) rfl<|cl rfl (q_WriteX hA) rfl<|cl rfl (q_WriteX hB) rfl<|cl rfl (p_REmptyV hE hB en) rfl<|cl rfl (p_RWholeV hE hB ew) rfl<|?_
 refine cl rfl (p_REqV hE hA hB eq) rfl<|cl rfl (p_RSubV hE hA hB es') rfl<|cl rfl (p_RDisV hE hA hB ed) rfl<|cl rfl (p_RCmpV hE hA hB ec) rfl<|?_
 refine cl (fu:=⟨20⟩) rfl (q_RCompareV ⟨hA.gd,hB.gd,hA.s,hB.s⟩ ho ht hc hn) rfl<|?_
 cases o<;>cases t<;>cases c<;>cases n<;>(first|refine kbT 7 rfl ?_|refine kbF 7 rfl ?_)<;>(first|refine kbT 9 rfl ?_|refine kbF 9 rfl ?_)<;>(first|refine kbT 11 rfl ?_|refine kbF 11 rfl ?_)<;>(first|refine kbT 13 rfl ?_|refine kbF 13 rfl ?_)<;>(first|refine kbT 15 rfl ?_|refine kbF 15 rfl ?_)<;>(first|refine kbT 19 rfl ?_|refine kbF 19 rfl ?_)<;>(first|refine kbT 20 rfl ?_|refine kbF 20 rfl ?_)<;>(first|refine kbT 21 rfl ?_|refine kbF 21 rfl ?_)<;>(first|refine kbT 22 rfl ?_|refine kbF 22 rfl ?_)<;>(first|refine eqF 17 (.d (vI 0)) J J ?_|refine eqF 17 (.d (vI (-1))) J J ?_|refine eqF 17 (.d (vI 1)) J J ?_|refine eqF 17 (.d (vI 2)) J J ?_)<;>refine gx rfl ?_<;>refine cl rfl (q_known20 hE) rfl ?_<;>refine kbT 90 rfl ?_<;>refine gx rfl ?_<;>refine kbT 124 rfl ?_<;>refine gx rfl ?_<;>refine kbT 134 rfl ?_<;>refine gx rfl ?_<;>refine kbT 140 rfl ?_<;>refine gx rfl ?_<;>refine kbT 146 rfl ?_<;>refine gx rfl ?_<;>refine kbT 152 rfl ?_<;>refine gx (fu:=⟨2⟩) rfl ?_<;>(refine knT rfl ?_ rfl<|?_)<;>first|exact rfl|exact rz J J
end Go.Sx
end

section
set_option maxRecDepth 100000
namespace Go.Sx
open Go Go.Proofs Go.ChangeShapes Go.WideShapes Go.ChangeAt Go.RowKit
def GW(w:World):Gh:=fun b=>match w.heap[b]? with|some (.cells cs _ _)=>some cs.toList|_=>none
theorem GW.sub{w:World}{b:Nat}{cs:List Value}(h:GW w b=some cs): ∃ty fz,w.heap[b]? =some (.cells ⟨cs⟩ ty fz):=by
 unfold GW at h
 split at h
 ·rename_i c t f e
  cases h
  exact⟨t,f,by rw[e]⟩
 ·cases h
theorem GW.of_cell{w:World}{b off:Nat}{v:Value}(h:w.cell? ⟨b,off,none⟩=some v): ∃cs,GW w b=some cs∧cs[off]? =some v:=by
 unfold World.cell? at h
 unfold GW
 split at h
 ·rename_i c t f e
  simp only at e
  refine⟨c.toList,by rw[e],?_⟩
  simpa using h
 all_goals first|(rename_i e;cases h)|cases h
theorem HRel.below{w w':World}{G G':Gh}{own:List Own}(h:HRel ⟨w,G,[]⟩ own G' w'):Below w.heap.size w w':=
 ⟨h.os,h.tape,h.output,h.size,fun k hk=>h.keep k hk (by simp)⟩
theorem isLs_vI{G:Gh}: ∀es:List Int,IsLs G (es.map vI) (es.map fun n=>Value.int .i64 n)
 |[]=> .nil
 |n::t=> .cons (is_v.2 rfl) (isLs_vI t)
theorem open_vI{base:Nat}{H:Type}{enc:TypeId×Value→H}{P:Program}{w:World}{t e:TypeId}{v:Value}{d:DataW H}{ps:List MemPlace}(ht:P.underlying t=some (.slice e))(he:P.underlying e=some (.int .i64))(hc:P.cellsOf e=1)
  (hv:Value.okWide P w .any base t v)(h:DataW.Trod enc P w 0 (fun _=>true) true t v d ps):
  ∃es:List Int,Is (GW w) (.sl (es.map vI)) v∧(d= .nil∧es=[]∨ ∃sp,d= .slice (lits .i64 es) sp)∧(∀n∈es,(Lit.int .i64 n).wf=true):=by
 obtain⟨a0,len,cap,rfl⟩:=okWide_slice ht hv
 obtain⟨fuel,hf⟩:=h
 rcases open_ints ht he hc hf with⟨hcs,hx⟩|⟨a,len',cap',zs,hcs,_,hl,hm,hz,hx,hcell,hwz⟩
 ·simp[Value.cells] at hcs
  obtain⟨rfl,rfl,rfl⟩:=hcs
  simp only[Prod.mk.injEq] at hx
  exact⟨[],is_sl.2 ⟨0,⟨none,0,0⟩,[],rfl,IsSl.nil _ 0, .nil⟩, .inl ⟨hx.1,rfl⟩,by simp⟩
 ·simp[Value.cells] at hcs
  obtain⟨rfl,rfl,rfl⟩:=hcs
  simp only[Prod.mk.injEq] at hx
  simp only[if_true] at hz
  refine⟨zs.take len,is_sl.2 ⟨1,⟨some a,len,cap⟩,(zs.take len).map fun n=>Value.int .i64 n,rfl,⟨by simp;omega,hl,?_⟩,isLs_vI _⟩, .inr ⟨_,hx.1⟩,fun n hn=>hwz n (List.mem_of_mem_take hn)⟩
  by_cases h0:len=0
  ·exact .inl (by simp[h0])
  ·right
   obtain⟨b,off,spot⟩:=a
   have hspot:spot=none:=by simpa[Addr.add] using World.cell?_spot (hcell 0 (by omega))
   subst hspot
   have c0: ∀i,i<zs.length→w.cell? ⟨b,off+i,none⟩=some (.int .i64 (zs.getD i 0)):=fun i hi=>by
    have:=hcell i hi
    rwa [Go.WideShapes.add_plain] at this
   obtain⟨cs,hcs,_⟩:=GW.of_cell (by simpa using c0 0 (by omega))
   refine⟨b,off,cs,rfl,hcs,fun i hi=>?_⟩
   simp only[List.length_map,List.length_take] at hi
   obtain⟨cs',hcs',hi'⟩:=GW.of_cell (c0 i (by omega))
   rw[hcs] at hcs'
   cases hcs'
   rw[Nat.mul_one,takeL_one.2 hi']
   simp[cellsL,List.getD,List.getElem?_eq_getElem (show i<zs.length by omega)]
end Go.Sx
end
