/-
  The law MergeBounds holds: it answers true at every input and leaves its argument as it was.
-/
import Derived.Test.YtlnphbkcelfboaaGreatDoorMn17
import Derived.Test.YtlnphbkcelfboaaGreatDoorCards
import Derived.Test.YtlnphbkcelfboaaGreatDoorTie
import Derived.WalkKit
import Derived.ProofKit
import Derived.OpenShut
import Derived.Deep.DeepHandedRow
import Derived.Deep.DeepWitnessRowRef
import Derived.LaidMore
import Derived.Lib.LaidTab
import Derived.SizedLaws
import Derived.Stop.LaidErr
import Derived.MakeChecks
set_option linter.unusedSimpArgs false
set_option linter.unusedVariables false
section
set_option maxRecDepth 100000
namespace Go.Sx
open Go Go.Proofs
def cvxE(r:List ZP)(i k:Nat):Bool:=decide (k=i)||decide (k=(i+1)%r.length)||decide (0<orientQ (r.getD i (0,0)).q (nextZ r i).q (r.getD k (0,0)).q)
def convexZ(r:List ZP):Bool:=(List.range r.length).all fun i=>(List.range r.length).all fun k=>cvxE r i k
theorem one_ok{r:List ZP}(h:RingOk r): ∀x∈[r],RingOk x:=fun x hx=>by rw[List.mem_singleton] at hx;subst hx;exact h
theorem two_ok{r s:List ZP}(h:RingOk r)(k:RingOk s): ∀x∈[r,s],RingOk x:=fun x hx=>by
 simp only[List.mem_cons,List.not_mem_nil,or_false] at hx
 rcases hx with rfl|rfl
 ·exact h
 ·exact k
set_option maxHeartbeats 2000000 in
theorem q_bounded{GB:Gh}{b:Nat}{es:List Int}(hes:es.length≤400){a:Nat}(ha:a≤es.length):PM GB Tryz.prog 91 (mkP [none] b) b 89 [.sl (es.map vI), .v (.int .i64 (a:Nat))] (eT (boundF es a).1) [.sl (es.map vI), .v (.int .i64 ((boundF es a).2:Nat))]:=by
 obtain⟨r1,r2⟩:=ringF_ok ha
 have hk3:=nextF_le (n:=3) r2
 refine fnM Tryz.func91 rfl rfl Tryz.ntmps91 rfl rfl (fun C b m lo hmb=>?_)
 refine cm rfl (fun b=>(q_RingT hes ha)) rfl<|ro (fu:=⟨4⟩) rfl rfl<|?_
 refine mg (X:=List (List ZP)×Nat) (fun⟨rs,a2⟩=>[(3, .rw 6)]) (fun⟨rs,a2⟩=>[(1000000,some (.o 89 [.d (.sl (es.map vI)), .d (.v (.int .i64 (a2:Nat)))] false)),(6,some (.b 100 1 (rs.map eRg) true))]) (fun⟨rs,a2⟩=>boundF es a=(buildR rs (1+((nextF es 2 a2).1:Int)),(nextF es 2 a2).2)∧a2≤es.length∧(∀r∈rs,RingOk r)∧rs.length≤2) [3] [1000000,6] rfl ?_ (fun _=>rfl) (fun⟨rs,a2⟩ ⟨hB,ha2,hrs,hrl⟩=>?_)
 ·
  refine gx rfl<|cm rfl (fun b=>(q_NextT (n:=3) hes r2 (by decide) (by decide))) rfl<|?_
  refine br rfl rfl rfl (fun hc9=>?_) (fun hc9=>?_)
  ·
   obtain⟨s1,s2⟩:=ringF_ok hk3
   refine cm rfl (fun b=>(q_RingT hes hk3)) rfl<|rf rfl rfl<|ap (hbd:=by simp) ([(ringF es a).1,(ringF es (nextF es 3 (ringF es a).2).2).1].map eRg) rfl rfl (slOkRg [(ringF es (nextF es 3 (ringF es a).2).2).1]) rfl<|?_
   refine rnE 14 6 rfl ?_
   exact at_ ⟨[(ringF es a).1,(ringF es (nextF es 3 (ringF es a).2).2).1],(ringF es (nextF es 3 (ringF es a).2).2).2⟩ ⟨if_pos hc9,s2,two_ok r1 s1,by simp⟩
  ·
   exact at_ ⟨[(ringF es a).1],(nextF es 3 (ringF es a).2).2⟩ ⟨if_neg hc9,hk3,one_ok r1,by simp⟩
 ·
  try dsimp only at hB ha2 hrs hrl⊢
  have hf2:=nextF_lt (es:=es) (n:=2) (a:=a2) (by decide)
  refine fz 6 rfl rfl<|cl rfl (q_Api (rs:=rs) hrs (by omega)) rfl<|cm rfl (fun b=>(q_NextT (n:=2) hes ha2 (by decide) (by decide))) rfl<|cl rfl (q_RMake (rs:=rs) (fill:=1+((nextF es 2 a2).1:Int)) hrs (by omega)) rfl<|?_
  refine cl rfl (q_Build (rs:=rs) (fill:=1+((nextF es 2 a2).1:Int)) hrs (by omega)) rfl<|?_
  exact rzM hmb rfl rfl (by rw[hB];rfl) (by rw[hB])
set_option maxHeartbeats 2000000 in
theorem q_Region_zero{GB:Gh}{b:Nat}{es:List Int}(hes:es.length≤400){a:Nat}(ha:a≤es.length){n:Int}(hn:n=0):PM GB Tryz.prog 38 (mkP [none,some (.v (.int .i64 n))] b) b 89 [.sl (es.map vI), .v (.int .i64 (a:Nat))] (eT (regionF es 0 a).1) [.sl (es.map vI), .v (.int .i64 ((regionF es 0 a).2:Nat))]:=by
 have hk0:=nextF_le (n:=6) ha
 obtain⟨hl,hl2⟩:=lF_ok hk0
 obtain⟨ht,ht2⟩:=tree3_ok hk0
 obtain⟨hb,hb2⟩:=boundF_ok hk0
 refine fnM Tryz.func38 rfl rfl Tryz.ntmps38 rfl rfl (fun C b m lo hmb=>?_)
 refine cm (fu:=⟨5⟩) rfl (fun b=>(q_NextT (n:=6) hes ha (by decide) (by decide))) rfl<|?_
 refine mg (X:=Unit) (fun _=>[(9, .ff)]) (fun _=>[]) (fun _=>True) [9] [] rfl ?_ (fun _=>rfl) (fun _ _=>?_)
 ·
  refine gx rfl<|?_
  refine cs (fu1:=⟨1⟩) 12 rfl rfl rfl (fun hg12=>?_) (fun hg12=>?_)
  ·
   refine knF rfl (by show some (decide _)=some false;rw[decide_eq_false (by omega)]) rfl<|?_
   exact at_ () trivial
  ·
   exact at_ () trivial
 ·
  refine br rfl rfl rfl (fun hc29=>?_) (fun hc29=>?_)
  ·
   refine cm rfl (fun b=>(q_LT hes hk0)) rfl<|cl rfl (q_CodeT (p:=true)) rfl<|cl (fu:=⟨1⟩) rfl (q_CodeT (p:=false)) rfl<|bxf rfl rfl<|cl rfl (q_RReduce (t:= .node (lF es (nextF es 6 a).2).1 (.leaf true) (.leaf false)) ⟨⟨hl.bl⟩,trivial,trivial⟩ ⟨hl.ok,trivial,trivial⟩ (by simp[Tr.depth])) rfl<|?_
   exact rzM hmb rfl rfl (by rw[show regionF es 0 a=_ from if_pos hc29];rfl) (by rw[show regionF es 0 a=_ from if_pos hc29])
  ·
   refine br rfl rfl rfl (fun hc39=>?_) (fun hc39=>?_)
   ·
    refine cm rfl (fun b=>(q_TreeT (d:=3) hes hk0 (by decide))) rfl<|cl rfl (q_RReduce (t:=(treeF es 3 (nextF es 6 a).2).1) ht.lb ht.ok (by have:=ht.dp;omega)) rfl<|?_
    exact rzM hmb rfl rfl (by rw[show regionF es 0 a=_ from(if_neg hc29).trans (if_pos hc39)];rfl) (by rw[show regionF es 0 a=_ from(if_neg hc29).trans (if_pos hc39)])
   ·
    refine br rfl rfl rfl (fun hc45=>?_) (fun hc45=>?_)
    ·
     refine cm rfl (fun b=>(q_bounded hes hk0)) rfl<|cl rfl q_Not rfl<|?_
     exact rzM hmb rfl rfl (by rw[show regionF es 0 a=_ from(if_neg hc29).trans ((if_neg hc39).trans (if_pos hc45))];rfl) (by rw[show regionF es 0 a=_ from(if_neg hc29).trans ((if_neg hc39).trans (if_pos hc45))])
    ·
     refine cm rfl (fun b=>(q_bounded hes hk0)) rfl<|?_
     exact rzM hmb rfl rfl (by rw[show regionF es 0 a=_ from(if_neg hc29).trans ((if_neg hc39).trans (if_neg hc45))];rfl) (by rw[show regionF es 0 a=_ from(if_neg hc29).trans ((if_neg hc39).trans (if_neg hc45))])
set_option maxHeartbeats 2000000 in
theorem q_Region_node{GB:Gh}{b:Nat}{es:List Int}(hes:es.length≤400){a:Nat}(ha:a≤es.length){d:Nat}{n:Int}(hn:n=((d+1:Nat):Int))(hd:d≤3)(ih: ∀{GB:Gh} {b a:Nat} {n:Int},a≤es.length→n=(d:Int)→PM GB Tryz.prog 38 (mkP [none,some (.v (.int .i64 n))] b) b 89 [.sl (es.map vI), .v (.int .i64 (a:Nat))] (eT (regionF es d a).1) [.sl (es.map vI), .v (.int .i64 ((regionF es d a).2:Nat))]):PM GB Tryz.prog 38 (mkP [none,some (.v (.int .i64 n))] b) b 89 [.sl (es.map vI), .v (.int .i64 (a:Nat))] (eT (regionF es (d+1) a).1) [.sl (es.map vI), .v (.int .i64 ((regionF es (d+1) a).2:Nat))]:=by
 have hk0:=nextF_le (n:=6) ha
 obtain⟨hl,hl2⟩:=lF_ok hk0
 obtain⟨ht,ht2⟩:=tree3_ok hk0
 obtain⟨hb,hb2⟩:=boundF_ok hk0
 obtain⟨g1,g2⟩:=regionF_ok (d:=d) hk0
 have hj:=nextF_le (n:=4) g2
 have hjl:=nextF_lt (es:=es) (n:=4) (a:=(regionF es d (nextF es 6 a).2).2) (by decide)
 obtain⟨g3,g4⟩:=regionF_ok (d:=d) hj
 have hpw:18*2^d≤18*2^3:=Nat.mul_le_mul_left _ (Nat.pow_le_pow_right (by decide) hd)
 refine fnM Tryz.func38 rfl rfl Tryz.ntmps38 rfl rfl (fun C b m lo hmb=>?_)
 refine cm rfl (fun b=>(q_NextT (n:=6) hes ha (by decide) (by decide))) rfl<|?_
 refine cs (fu1:=⟨1⟩) 12 rfl rfl rfl (fun hg12=>?_) (fun hg12=>?_)
 ·
  refine knT rfl (by show some (decide _)=some true;rw[decide_eq_true (by omega)]) rfl<|cm rfl (fun b=>(ih hk0 (by omega))) rfl<|cm rfl (fun b=>(q_NextT (n:=4) hes g2 (by decide) (by decide))) rfl<|?_
  refine cm rfl (fun b=>(ih hj (by omega))) rfl<|cl rfl (q_RMerge (op:=1+((nextF es 4 (regionF es d (nextF es 6 a).2).2).1:Int)) (t:=(regionF es d (nextF es 6 a).2).1) (u:=(regionF es d (nextF es 4 (regionF es d (nextF es 6 a).2).2).2).1) (c:=[]) g3.gd.lb g3.gd.ok g1.gd.lb g1.gd.ok (fun m h=>by cases h) (fun m h=>by cases h) (by have:=g1.dp;have:=g3.dp;rw[List.length_nil];omega)) rfl<|?_
  exact rzM hmb rfl rfl (by rw[show regionF es (d+1) a=_ from if_pos hg12];show eT (Tr.mergeL _ _ _ _)=eT (Tr.mergeQ _ _ _ _);rw[Tr.mergeL_nil (by omega) g1.gd.ok g3.gd.ok]) (by rw[show regionF es (d+1) a=_ from if_pos hg12])
 ·
  refine br rfl rfl rfl (fun hc29=>?_) (fun hc29=>?_)
  ·
   refine cm rfl (fun b=>(q_LT hes hk0)) rfl<|cl rfl (q_CodeT (p:=true)) rfl<|cl (fu:=⟨1⟩) rfl (q_CodeT (p:=false)) rfl<|bxf rfl rfl<|cl rfl (q_RReduce (t:= .node (lF es (nextF es 6 a).2).1 (.leaf true) (.leaf false)) ⟨⟨hl.bl⟩,trivial,trivial⟩ ⟨hl.ok,trivial,trivial⟩ (by simp[Tr.depth])) rfl<|?_
   exact rzM hmb rfl rfl (by rw[show regionF es (d+1) a=_ from(if_neg hg12).trans (if_pos hc29)];rfl) (by rw[show regionF es (d+1) a=_ from(if_neg hg12).trans (if_pos hc29)])
  ·
   refine br rfl rfl rfl (fun hc39=>?_) (fun hc39=>?_)
   ·
    refine cm rfl (fun b=>(q_TreeT (d:=3) hes hk0 (by decide))) rfl<|cl rfl (q_RReduce (t:=(treeF es 3 (nextF es 6 a).2).1) ht.lb ht.ok (by have:=ht.dp;omega)) rfl<|?_
    exact rzM hmb rfl rfl (by rw[show regionF es (d+1) a=_ from(if_neg hg12).trans ((if_neg hc29).trans (if_pos hc39))];rfl) (by rw[show regionF es (d+1) a=_ from(if_neg hg12).trans ((if_neg hc29).trans (if_pos hc39))])
   ·
    refine br rfl rfl rfl (fun hc45=>?_) (fun hc45=>?_)
    ·
     refine cm rfl (fun b=>(q_bounded hes hk0)) rfl<|cl rfl q_Not rfl<|?_
     exact rzM hmb rfl rfl (by rw[show regionF es (d+1) a=_ from(if_neg hg12).trans ((if_neg hc29).trans ((if_neg hc39).trans (if_pos hc45)))];rfl) (by rw[show regionF es (d+1) a=_ from(if_neg hg12).trans ((if_neg hc29).trans ((if_neg hc39).trans (if_pos hc45)))])
    ·
     refine cm rfl (fun b=>(q_bounded hes hk0)) rfl<|?_
     exact rzM hmb rfl rfl (by rw[show regionF es (d+1) a=_ from(if_neg hg12).trans ((if_neg hc29).trans ((if_neg hc39).trans (if_neg hc45)))];rfl) (by rw[show regionF es (d+1) a=_ from(if_neg hg12).trans ((if_neg hc29).trans ((if_neg hc39).trans (if_neg hc45)))])
theorem q_RegionI{es:List Int}(hes:es.length≤400): ∀{d:Nat} {GB:Gh} {b a:Nat} {n:Int},d≤4→a≤es.length→n=(d:Int)→PM GB Tryz.prog 38 (mkP [none,some (.v (.int .i64 n))] b) b 89 [.sl (es.map vI), .v (.int .i64 (a:Nat))] (eT (regionF es d a).1) [.sl (es.map vI), .v (.int .i64 ((regionF es d a).2:Nat))]
 |0,_,_,_,_,_,ha,hn=>q_Region_zero hes ha hn
 |d+1,_,_,_,_,hd,ha,hn=>q_Region_node hes ha hn (by omega) (fun h1 h2=>q_RegionI hes (by omega) h1 h2)
theorem q_RegionT{GB:Gh}{es:List Int}(hes:es.length≤400){a d b:Nat}(ha:a≤es.length)(hd:d≤4):PM GB Tryz.prog 38 (mkP [none,some (.v (.int .i64 (d:Nat)))] b) b 89 [.sl (es.map vI), .v (.int .i64 (a:Nat))] (eT (regionF es d a).1) [.sl (es.map vI), .v (.int .i64 ((regionF es d a).2:Nat))]:=q_RegionI (GB:=GB) hes hd ha rfl
end Go.Sx
end

section
set_option maxRecDepth 100000
namespace Go.Sx
open Go Go.Proofs
section
variable {GB:Gh} {C:Ctx} {n:Nat} {Q0:Exit→Act→World→Prop} {fr fr' fr1 fr2:FrX} {own own' own1 own2:OwX} {cf cf' cf1 cf2:Cf} {vc vc1 vc2:List Prop}
def an3A(fr:FrX)(cf:Cf):Option Int:=match opC fr cf with
 |some ⟨_, .binOp .and _ x (.const (.int .i64 3)) _,_,_,_,_⟩=>match evX (lkC fr cf) x with
  |some (.d (.v (.int .i64 p)))=>some p
  |_=>none
 |_=>none
end
end Go.Sx
end

section
set_option maxRecDepth 100000
namespace Go.Sx
open Go Go.Proofs
set_option maxHeartbeats 2000000 in
theorem q_both{GB:Gh}{b:Nat}{es:List Int}(hes:es.length≤400){a:Nat}(ha:a≤es.length):PM GB Tryz.prog 29 (mkP [none] b) b 89 [.sl (es.map vI), .v (.int .i64 (a:Nat))] (.tp [eT (bothF es a).1.1,eT (bothF es a).1.2]) [.sl (es.map vI), .v (.int .i64 ((bothF es a).2:Nat))]:=by
 obtain⟨x1,x2⟩:=region0_ok ha
 obtain⟨y1,y2⟩:=region0_ok x2
 have hk0:=nextF_le (n:=3) y2
 refine fnM Tryz.func29 rfl rfl Tryz.ntmps29 rfl rfl (fun C b m lo hmb=>?_)
 refine cm rfl (fun b=>(q_RegionT (d:=0) hes ha (by decide))) rfl<|cm (fu:=⟨5⟩) rfl (fun b=>(q_RegionT (d:=0) hes x2 (by decide))) rfl<|?_
 refine mg (X:=Tr×Nat) (fun⟨u,a2⟩=>[(4, .d (eT u))]) (fun⟨u,a2⟩=>[(1000000,some (.o 89 [.d (.sl (es.map vI)), .d (.v (.int .i64 (a2:Nat)))] false))]) (fun⟨u,a2⟩=>(if((nextF es 3 (regionF es 0 (regionF es 0 a).2).2).1:Int)=0 then treeF es 3 (nextF es 3 (regionF es 0 (regionF es 0 a).2).2).2 else((regionF es 0 a).1,(nextF es 3 (regionF es 0 (regionF es 0 a).2).2).2))=(u,a2)∧a2≤es.length) [4] [1000000] rfl ?_ (fun _=>rfl) (fun⟨u,a2⟩ ⟨hU,ha2⟩=>?_)
 ·
  refine gx rfl<|cm rfl (fun b=>(q_NextT (n:=3) hes y2 (by decide) (by decide))) rfl<|?_
  refine br rfl rfl rfl (fun hc12=>?_) (fun hc12=>?_)
  ·
   refine cm rfl (fun b=>(q_TreeT (d:=3) hes hk0 (by decide))) rfl<|?_
   exact at_ ⟨(treeF es 3 (nextF es 3 (regionF es 0 (regionF es 0 a).2).2).2).1,(treeF es 3 (nextF es 3 (regionF es 0 (regionF es 0 a).2).2).2).2⟩ ⟨if_pos hc12,(tree3_ok hk0).2⟩
  ·
   exact at_ ⟨(regionF es 0 a).1,(nextF es 3 (regionF es 0 (regionF es 0 a).2).2).2⟩ ⟨if_neg hc12,hk0⟩
 ·
  try dsimp only at hU ha2
  have hj:=nextF_le (n:=3) ha2
  refine cm rfl (fun b=>(q_NextT (n:=3) hes ha2 (by decide) (by decide))) rfl<|?_
  refine br rfl rfl rfl (fun hc17=>?_) (fun hc17=>?_)
  ·
   have hB:bothF es a=((u,(treeF es 3 (nextF es 3 a2).2).1),(treeF es 3 (nextF es 3 a2).2).2):=by unfold bothF;dsimp only;rw[hU];dsimp only;rw[if_pos hc17]
   refine cm rfl (fun b=>(q_TreeT (d:=3) hes hj (by decide))) rfl<|?_
   exact rzM hmb rfl rfl (by rw[hB];rfl) (by rw[hB])
  ·
   have hB:bothF es a=((u,(regionF es 0 (regionF es 0 a).2).1),(nextF es 3 a2).2):=by unfold bothF;dsimp only;rw[hU];dsimp only;rw[if_neg hc17]
   exact rzM hmb rfl rfl (by rw[hB];rfl) (by rw[hB])
theorem q_NewT{GB:Gh}{es0 es:List Int}(hb:es0.length≤1125899906842624)(he:es=es0.take 400):PN GB Tryz.prog 12 [.sl (es0.map vI)] 89 Unit (fun _=>[.sl (es.map vI), .v (.int .i64 (0:Nat))]):=by
 subst he;exact q_New hb
theorem q_bothN{GB:Gh}{b:Nat}{es:List Int}(hes:es.length≤400){A B:Tr}(hA:A=(bothF es 0).1.1)(hB:B=(bothF es 0).1.2):PM GB Tryz.prog 29 (mkP [none] b) b 89 [.sl (es.map vI), .v (.int .i64 (0:Nat))] (.tp [eT A,eT B]) [.sl (es.map vI), .v (.int .i64 ((bothF es 0).2:Nat))]:=by
 subst hA hB;exact q_both hes (Nat.zero_le _)
theorem p_MMergeX{GB:Gh}{ai al ae:Addr}(hE:EG GB ai al ae){op:Int}{j k:Nat}{a b:Tr}(ho:1≤op∧op≤4)(ha:TrX j a)(hb:TrX k b)(hk:j+k≤200):PF GB Tryz.prog 15 [vI op,eA a,eA b] (.tp [eA (a.mergeQ op b []), .v .nilIface]):=
 p_MMergeS hE ho ha.gd hb.gd (by have:=ha.s;omega) (by have:=hb.s;omega) (ha.lim hb hk)
theorem q_WriteX{GB:Gh}{k:Nat}{t:Tr}(h:TrX k t):PF GB Tryz.prog 13 [eT t] (eA t):=q_Write h.bl (by have:=h.s;omega)
end Go.Sx
end

section
set_option maxRecDepth 100000
namespace Go.Sx
open Go Go.Proofs
def lnsX(cs:List RL):Option (List LnQ):=if cs.all (fun r=>r.ln.isSome) then some (cs.filterMap RL.ln) else none
def lnsD:Option (List LnQ)→DV
 |some ls=> .tp [.sl (ls.map eLn),vB true]
 |none=> .tp [.sl [],vB false]
def canD:Option CellQ→DV
 |some c=> .tp [.sl (c.map eFr),vB true]
 |none=> .tp [.sl [],vB false]
def readD(ai al:Addr)(more:Nat):Option Tr→DV
 |none=> .tp [.v (.pointer none),eErr ai]
 |some t=>if 1024<t.depth+more then .tp [.v (.pointer none),eErr al] else .tp [eU t, .v .nilIface]
theorem dep_le{t:Tr}(h:t.gd∧t.size≤65536):t.depth≤65536:=by have:=t.depth_size;omega
theorem p_RdRead{GB:Gh}{ai al ae:Addr}(hE:EG GB ai al ae){ns:List RN}{rt:Int}(hs: ∀n∈ns,n.g.sm)(hn:ns.length≤65536){more:Nat}(hmo:more≤1000):PF GB Tryz.prog 86 [eRT rt ns,vI (more:Nat)] (readD ai al more (ofQ ns rt)):=by
 refine fn Tryz.func86 rfl rfl Tryz.ntmps86 rfl rfl (fun C=>?_)
 rcases h:ofQ ns rt with _|t
 ·
  refine cl (fu:=⟨3⟩) rfl (p_OfN hs hn h) rfl<|?_
  refine kbF 12 rfl ?_
  refine gx rfl<|gl rfl hE.ErrInvalid rfl<|?_
  exact rz rfl rfl
 ·
  have g:=ofQ_gd hs hn h
  have hd:=dep_le g
  refine cl (fu:=⟨3⟩) rfl (p_OfS hs hn h) rfl<|?_
  refine kbT 12 rfl ?_
  refine gx rfl<|cl rfl (p_Depth (by omega)) rfl<|?_
  refine br rfl rfl rfl (fun hc17=>?_) (fun hc17=>?_)
  ·
   refine gl rfl hE.ErrLimit rfl<|?_
   exact rz rfl (by rw[readD,if_pos (by omega)];rfl)
  ·
   exact rz rfl (by rw[readD,if_neg (by omega)];rfl)
theorem p_RdS{GB:Gh}{ai al ae:Addr}(hE:EG GB ai al ae){ns:List RN}{rt:Int}(hs: ∀n∈ns,n.g.sm)(hn:ns.length≤65536){more:Nat}(hmo:more≤1000){t:Tr}(h:ofQ ns rt=some t)(hd:t.depth+more≤1024):PF GB Tryz.prog 86 [eRT rt ns,vI (more:Nat)] (.tp [eU t, .v .nilIface]):=by
 have:=p_RdRead hE (rt:=rt) hs hn hmo;rw[h,readD,if_neg (by omega)] at this;exact this
def optX(ai:Addr)(f:Tr→Tr):Option Tr→Tr ⊕ Addr
 |some t=> .inl (f t)
 |none=> .inr ai
def restX(ai ae:Addr):Option Tr→Option (List LnQ)→Tr ⊕ Addr
 |some t,some ls=>(match canonQ ls [] with
  |some c=> .inl (t.restrict c)
  |none=> .inr ae)
 |_,_=> .inr ai
def splD(ai:Addr):Option LnQ→Option Tr→DV
 |some m,some t=> .tp [eA (t.restrict (clipC [] m)),eA (t.restrict (clipC [] m.rev)), .v .nilIface]
 |_,_=> .tp [trZ,trZ,eErr ai]
end Go.Sx
end

section
set_option maxRecDepth 100000
namespace Go.Sx
open Go Go.Proofs
theorem p_SameS_leaf{GB:Gh}{b:Bool}:PF GB Tryz.prog 87 [eU (.leaf b),eU (.leaf b)] (vB true):=by
 refine fn Tryz.func87 rfl rfl Tryz.ntmps87 rfl rfl (fun C=>?_)
 refine cl (fu:=⟨0⟩) rfl p_IsLeafL rfl<|?_
 refine kbT 7 rfl ?_
 refine gx rfl<|cl (fu:=⟨0⟩) rfl p_IsLeafL rfl<|?_
 refine kbT 9 rfl ?_
 refine gx (fu:=⟨0⟩) rfl<|knF rfl rfl rfl<|cl (fu:=⟨0⟩) rfl p_IsLeafL rfl<|?_
 refine kbT 13 rfl ?_
 refine gx rfl<|?_
 exact rz rfl (by show vB (b==b)=vB true;simp)
theorem p_SameS_node{GB:Gh}{l:LnQ}{x y:Tr}(hl:LB l)(ihx:PF GB Tryz.prog 87 [eU x,eU x] (vB true))(ihy:PF GB Tryz.prog 87 [eU y,eU y] (vB true)):PF GB Tryz.prog 87 [eU (.node l x y),eU (.node l x y)] (vB true):=by
 refine fn Tryz.func87 rfl rfl Tryz.ntmps87 rfl rfl (fun C=>?_)
 refine cl (fu:=⟨0⟩) rfl p_IsLeafN rfl<|?_
 refine kbF 7 rfl ?_
 refine gx rfl<|cl (fu:=⟨0⟩) rfl p_IsLeafN rfl<|?_
 refine kbF 9 rfl ?_
 refine gx (fu:=⟨0⟩) rfl<|knF rfl rfl rfl<|cl (fu:=⟨0⟩) rfl p_IsLeafN rfl<|?_
 refine kbF 13 rfl ?_
 refine gx rfl<|cl (fu:=⟨0⟩) rfl (p_LEqual (l:=l) (m:=l)) rfl<|knT rfl (by show some (decide (l=l))=some true;simp) rfl<|cl (fu:=⟨1⟩) rfl ihx rfl<|knT rfl rfl rfl<|?_
 refine cl rfl ihy rfl<|?_
 exact rz rfl rfl
theorem p_SameS{GB:Gh}: ∀{t:Tr},t.all LB→PF GB Tryz.prog 87 [eU t,eU t] (vB true)
 | .leaf _,_=>p_SameS_leaf
 | .node _ _ _,h=>p_SameS_node h.1 (p_SameS h.2.1) (p_SameS h.2.2)
theorem p_RdA{GB:Gh}{ai al ae:Addr}(hE:EG GB ai al ae){t:Tr}(h:t.gd)(hs:t.size≤65536)(hd:t.depth≤1024):PF GB Tryz.prog 86 [eA t,vI 0] (.tp [eU t, .v .nilIface]):=by
 have:=p_RdS hE (rt:=t.num 0) (wr_sm h.lb) (by rw[List.length_map,t.wr_len];exact hs) (more:=0) (by decide) (ofQ_wr h.ok) (by omega)
 rw[←eA_RT] at this
 exact this
theorem p_ReducedS{GB:Gh}{ai al ae:Addr}(hE:EG GB ai al ae){t:Tr}(h:t.gd)(hs:t.size≤65536)(hd:t.depth≤1024)(hr:t.restrict []=t):PF GB Tryz.prog 34 [eA t] (.tp [vB true, .v .nilIface]):=by
 refine fn Tryz.func34 rfl rfl Tryz.ntmps34 rfl rfl (fun C=>?_)
 refine cl rfl (p_RdA hE h hs hd) rfl<|cl (fu:=⟨0⟩) rfl (p_Reduce (t:=t) h.lb h.ok (by omega)) rfl<|?_
 refine eqF 16 (.d (eU t)) rfl (by rw[hr]) ?_
 refine gx rfl<|cl rfl (p_SameS (t:=t) h.lb) rfl<|?_
 exact rz rfl rfl
end Go.Sx
end

section
set_option maxRecDepth 100000
namespace Go.Sx
open Go Go.Proofs
theorem tm_rng(a:Int): -4<a.tmod 4∧a.tmod 4<4:=by
 refine⟨?_,Int.tmod_lt_of_pos a (by decide)⟩
 have:=Int.lt_tmod_of_pos a (b:=4) (by decide)
 omega
theorem op_rng(a:Int):1≤1+(a.tmod 4+4).tmod 4∧1+(a.tmod 4+4).tmod 4≤4:=by
 have h:=tm_rng a
 rw[Int.tmod_eq_emod_of_nonneg (by omega)]
 omega
theorem wr_size{t:Tr}:(((((t.wr 0).map eN).length:Nat)):Int)=(t.size:Int):=by rw[List.length_map,t.wr_len]
theorem bnd_le(a b c:Nat)(h:c+1≤(a+1)*(b+1))(hc:c≤9223372036854775807):(c:Int)≤bndN (natI (a:Int)) (natI (b:Int)):=by
 unfold bndN natI
 rw[Int.toNat_natCast,Int.toNat_natCast]
 have e:(a+1)*(b+1)=a+(a+1)*b+1:=by rw[Nat.mul_add,Nat.mul_one];omega
 rw[e] at h
 generalize (a+1)*b=p at*
 split<;>omega
theorem p_ReducedX{GB:Gh}{ai al ae:Addr}(hE:EG GB ai al ae){k:Nat}{t:Tr}(h:TrX k t)(hk:k≤1000)(hr:t.Red []):PF GB Tryz.prog 34 [eA t] (.tp [vB true, .v .nilIface]):=
 p_ReducedS hE h.gd (by have:=h.s;omega) (by have:=h.dp;omega) (Tr.red_restrict hr)
set_option maxHeartbeats 4000000 in
theorem q_MergeBounds{GB:Gh}{ai al ae:Addr}(hE:EG GB ai al ae){es0:List Int}(hb:es0.length≤1125899906842624){op m n:Int}(ho: -9223372036854775808≤op∧op<9223372036854775808)(hm: -9223372036854775808≤m∧m<9223372036854775808)(hn: -9223372036854775808≤n∧n<9223372036854775808):PF GB Tryz.prog 7 [.sl (es0.map vI),vI op,vI m,vI n] (.v (.bool true)):=by
 obtain⟨es,hee⟩: ∃es,es=es0.take 400:=⟨_,rfl⟩
 have hes:es.length≤400:=by rw[hee];simp;omega
 obtain⟨hA,hB,hab⟩:=bothF_ok (es:=es) (Nat.zero_le es.length)
 obtain⟨A,hAe⟩: ∃A,A=(bothF es 0).1.1:=⟨_,rfl⟩
 obtain⟨B,hBe⟩: ∃B,B=(bothF es 0).1.2:=⟨_,rfl⟩
 rw[←hAe] at hA
 rw[←hBe] at hB
 have htm:=tm_rng op
 obtain⟨o,ho2⟩: ∃o,o=1+(op.tmod 4+4).tmod 4:=⟨_,rfl⟩
 have ho:1≤o∧o≤4:=ho2▸op_rng op
 have htm2:=tm_rng (op.tmod 4+4)
 have hM:=TrX.merge (op:=o) hA hB (by decide)
 have hmr:=Tr.merge_red o B A []
 have hms:=Tr.mergeQ_size o B A []
 have hM2:=hM.s
 have hA2:=hA.s
 have hB2:=hB.s
 obtain⟨N,hN⟩: ∃N,N=A.mergeQ o B []:=⟨_,rfl⟩
 rw[←hN] at hM hmr hms hM2
 refine fn Tryz.func7 rfl rfl Tryz.ntmps7 rfl rfl (fun C=>?_)
 refine cn rfl ((q_NewT hb hee)) (fun _=>rfl) (fun _=>?_)
 refine cm rfl (fun b=>(q_bothN hes hAe hBe)) rfl<|cl rfl (q_WriteX hA) rfl<|cl (fu:=⟨13⟩) rfl (q_WriteX hB) rfl<|?_
 refine eqF 34 (.d (vI o)) rfl (by rw[ho2]<;>rfl) ?_
 refine gx rfl<|cl (fu:=⟨0⟩) rfl (p_MMergeX hE ho hA hB (by decide)) rfl<|?_
 refine eqF 37 (.d (.tp [eA N, .v .nilIface])) rfl (by rw[hN]) ?_
 refine gx rfl<|cl rfl (p_ReducedX hE hM (by decide) hmr) rfl<|cl (fu:=⟨0⟩) rfl (q_known19 hE) rfl<|knT (fu:=⟨10⟩) rfl rfl rfl<|knT (fu:=⟨3⟩) rfl rfl rfl<|?_
 refine eqF 60 (.d (vI (N.size:Nat))) rfl (by show FX.d (.v (.int .i64 _))=_;rw[wr_size];rfl) ?_
 refine gx (fu:=⟨3⟩) rfl<|?_
 refine eqF 63 (.d (vI (A.size:Nat))) rfl (by show FX.d (.v (.int .i64 _))=_;rw[wr_size];rfl) ?_
 refine gx (fu:=⟨3⟩) rfl<|?_
 refine eqF 66 (.d (vI (B.size:Nat))) rfl (by show FX.d (.v (.int .i64 _))=_;rw[wr_size];rfl) ?_
 refine gx rfl<|cl (fu:=⟨2⟩) rfl (p_Bound (m:=(A.size:Int)) (n:=(B.size:Int)) (by omega) (by omega)) rfl<|knT rfl (by show some (decide _)=some true;rw[decide_eq_true (bnd_le _ _ _ hms (by omega))]) rfl<|?_
 refine cl rfl (p_Bound hm hn) rfl<|cl (fu:=⟨0⟩) rfl (q_Bound hm hn) rfl<|knT rfl (by show some (decide _)=some true;rw[decide_eq_true rfl]) rfl<|?_
 exact rz rfl rfl
def wantF(op:Int):List Tr→Option Tr
 |[]=>none
 |t::us=>some (us.foldl (fun w u=>w.mergeQ op u []) (t.restrict []))
def tin(t:Tr):TIn:=(t.num 0,(t.wr 0).map RN.of)
def optT:Option Tr→DV
 |none=> .v (.pointer none)
 |some t=>eT t
end Go.Sx
end

section
set_option maxRecDepth 100000
namespace Go.Sx
open Go Go.Proofs Go.ChangeShapes Go.WideShapes Go.ChangeAt Go.RowKit
def GW(w:World):Gh:=fun b=>match w.heap[b]? with|some (.cells cs _ _)=>some cs.toList|_=>none
theorem GW.sub{w:World}{b:Nat}{cs:List Value}(h:GW w b=some cs): ∃ty fz,w.heap[b]? =some (.cells ⟨cs⟩ ty fz):=by
 unfold GW at h
 split at h
 ·rename_i c t f e
  cases h
  exact⟨t,f,by rw[e]⟩
 ·cases h
theorem GW.of_cell{w:World}{b off:Nat}{v:Value}(h:w.cell? ⟨b,off,none⟩=some v): ∃cs,GW w b=some cs∧cs[off]? =some v:=by
 unfold World.cell? at h
 unfold GW
 split at h
 ·rename_i c t f e
  simp only at e
  refine⟨c.toList,by rw[e],?_⟩
  simpa using h
 all_goals first|(rename_i e;cases h)|cases h
theorem HRel.below{w w':World}{G G':Gh}{own:List Own}(h:HRel ⟨w,G,[]⟩ own G' w'):Below w.heap.size w w':=
 ⟨h.os,h.tape,h.output,h.size,fun k hk=>h.keep k hk (by simp)⟩
theorem isLs_vI{G:Gh}: ∀es:List Int,IsLs G (es.map vI) (es.map fun n=>Value.int .i64 n)
 |[]=> .nil
 |n::t=> .cons (is_v.2 rfl) (isLs_vI t)
theorem open_vI{base:Nat}{H:Type}{enc:TypeId×Value→H}{P:Program}{w:World}{t e:TypeId}{v:Value}{d:DataW H}{ps:List MemPlace}(ht:P.underlying t=some (.slice e))(he:P.underlying e=some (.int .i64))(hc:P.cellsOf e=1)
  (hv:Value.okWide P w .any base t v)(h:DataW.Trod enc P w 0 (fun _=>true) true t v d ps):
  ∃es:List Int,Is (GW w) (.sl (es.map vI)) v∧(d= .nil∧es=[]∨ ∃sp,d= .slice (lits .i64 es) sp)∧(∀n∈es,(Lit.int .i64 n).wf=true):=by
 obtain⟨a0,len,cap,rfl⟩:=okWide_slice ht hv
 obtain⟨fuel,hf⟩:=h
 rcases open_ints ht he hc hf with⟨hcs,hx⟩|⟨a,len',cap',zs,hcs,_,hl,hm,hz,hx,hcell,hwz⟩
 ·simp[Value.cells] at hcs
  obtain⟨rfl,rfl,rfl⟩:=hcs
  simp only[Prod.mk.injEq] at hx
  exact⟨[],is_sl.2 ⟨0,⟨none,0,0⟩,[],rfl,IsSl.nil _ 0, .nil⟩, .inl ⟨hx.1,rfl⟩,by simp⟩
 ·simp[Value.cells] at hcs
  obtain⟨rfl,rfl,rfl⟩:=hcs
  simp only[Prod.mk.injEq] at hx
  simp only[if_true] at hz
  refine⟨zs.take len,is_sl.2 ⟨1,⟨some a,len,cap⟩,(zs.take len).map fun n=>Value.int .i64 n,rfl,⟨by simp;omega,hl,?_⟩,isLs_vI _⟩, .inr ⟨_,hx.1⟩,fun n hn=>hwz n (List.mem_of_mem_take hn)⟩
  by_cases h0:len=0
  ·exact .inl (by simp[h0])
  ·right
   obtain⟨b,off,spot⟩:=a
   have hspot:spot=none:=by simpa[Addr.add] using World.cell?_spot (hcell 0 (by omega))
   subst hspot
   have c0: ∀i,i<zs.length→w.cell? ⟨b,off+i,none⟩=some (.int .i64 (zs.getD i 0)):=fun i hi=>by
    have:=hcell i hi
    rwa [Go.WideShapes.add_plain] at this
   obtain⟨cs,hcs,_⟩:=GW.of_cell (by simpa using c0 0 (by omega))
   refine⟨b,off,cs,rfl,hcs,fun i hi=>?_⟩
   simp only[List.length_map,List.length_take] at hi
   obtain⟨cs',hcs',hi'⟩:=GW.of_cell (c0 i (by omega))
   rw[hcs] at hcs'
   cases hcs'
   rw[Nat.mul_one,takeL_one.2 hi']
   simp[cellsL,List.getD,List.getElem?_eq_getElem (show i<zs.length by omega)]
end Go.Sx
end

section
set_option maxRecDepth 100000
namespace Go.Sx
open Go Go.Proofs Go.ChangeShapes Go.WideShapes Go.ChangeAt Go.RowKit
inductive CSh where
 |b
 |i (k:IntKind)
 |sl (ag:Bool) (l:List CSh)
mutual
def Fit:CSh→DV→Prop
 | .b,d=> ∃b,d= .v (.bool b)
 | .i k,d=> ∃n,d= .v (.int k n)∧(Lit.int k n).wf=true
 | .sl ag l,d=> ∃m:List DV,d= .sl m∧m.length≤maxLen∧ ∀x∈m,∃ys,FitL l ys∧((ag=true∧x= .ag ys)∨(ag=false∧ys=[x]))
def FitL:List CSh→List DV→Prop
 |[],ds=>ds=[]
 |s::l,ds=> ∃d t,ds=d::t∧Fit s d∧FitL l t
end
def flatF(r:TypeId→Option (Bool×List CSh))(P:Program):List Field→Nat→Option (List CSh)
 |[],_=>some []
 |f::fs,o=>match r f.type with
  |some (_,l)=>if f.offset=o∧P.cellsOf f.type=l.length then(flatF r P fs (o+l.length)).map (l++ ·) else none
  |none=>none
def flatT(P:Program):Nat→TypeId→Option (Bool×List CSh)
 |0,_=>none
 |n+1,t=>match P.underlying t with
  |some .bool=>some (false,[.b])
  |some (.int k)=>some (false,[.i k])
  |some (.slice e)=>match flatT P n e with
   |some (a,l)=>if P.cellsOf e=l.length∧0<l.length then some (false,[.sl a l]) else none
   |none=>none
  |some (.struct fs)=>match flatF (flatT P n) P fs.toList 0 with
   |some l=>if P.cellsOf t=l.length then some (true,l) else none
   |none=>none
  |_=>none
section
variable {H:Type} {enc:TypeId×Value→H} {P:Program} {w:World}
end
def shI:List CSh:=[.b, .sl false [.i .u32]]
def shL:List CSh:=shI++(shI++shI)
theorem es_star: "*" ++ "errors.errorString" = "*errors.errorString" :=by decide
theorem es_row(u:TypeId)(h:Tryz.prog.typeName? 3 u=some "*errors.errorString"):u=374:=
 typeName_ptr_named (nm:= "errors.errorString") (by rw[es_star];kernel_rfl) (by kernel_rfl) (by decide) u (by rw[es_star];exact h)
theorem sent_of{W:World}{n:String}{g:Nat}{text:List UInt8}{r:List (String×DataW Unit)}(h:laidMet Tryz.prog ((n, .iface "*errors.errorString" (.ptr (.agg [.lit (.string text)])))::r) W)(hg:Tryz.prog.globalNamed n=some g)(ht:(Tryz.prog.globals[g]?).map (·.type)=some 32):
  ∃a,GW W g=some [.iface 374 (.pointer (some a))]:=by
 obtain⟨a,s,hv,_⟩:=laid_sentinel h hg ht Tryz.underlying32 es_row Tryz.underlying374 Tryz.underlying399 rfl rfl Tryz.underlying9 (by kernel_rfl) (by kernel_rfl)
 refine⟨a,?_⟩
 unfold World.var? at hv
 rw[hg,Option.bind_some] at hv
 unfold GW
 split at hv
 ·rename_i c t f e
  rw[e];cases hv;rfl
 ·cases hv
theorem laid_plain{W:World}{l:List (String×DataW Unit)}(h:laidMetH Tryz.prog l W)(hp:(l.all fun x=>x.2.handleName?.isNone)=true):laidMet Tryz.prog l W:=by rwa [Go.MakeChecks.laidMetH_plain _ _ _ hp] at h
end Go.Sx
end

section
set_option maxRecDepth 100000
namespace Go.Proofs.YtlnphbkcelfboaaGreatDoor.mergeBounds
open Go.ChangeShapes Go.WideShapes Go.ChangeAt Go.RowKit Go.Sx
theorem own:ownKnob Tryz.prog.godebug=none:=by kernel_rfl
theorem laidOut:laidOutB Tryz.prog=true:=by kernel_rfl
theorem cellsI:Tryz.prog.cellsOf 3=1:=by kernel_rfl
theorem bytesI:Tryz.prog.bytesOf 3=8:=by kernel_rfl
theorem door_met(os:Os)(args:Array Value):laidMetH Tryz.prog Rows.mergeBoundsRow.laid ((World.doorLaid Tryz.prog 66 os).forCall (fun _ _=>0) ⟨#[],args,[]⟩).memory:=
 laidMetH_of_parts3 (fuel:=8) (laidMet_of_run' 8 (by kernel_rfl) (by kernel_rfl)) (by kernel_rfl) (by kernel_rfl)
theorem wf_i64{n:Int}(h:(Lit.int .i64 n).wf=true): -9223372036854775808≤n∧n<9223372036854775808:=by
 simp only[Lit.wf,Bool.and_eq_true,decide_eq_true_eq] at h
 have e1:IntKind.i64.min= -9223372036854775808:=rfl
 have e2:IntKind.i64.max=9223372036854775807:=rfl
 omega
theorem eg_of{W:World}(h:laidMetH Tryz.prog Rows.mergeBoundsRow.laid W): ∃ai al ae,EG (GW W) ai al ae:=by
 have h1:=laid_plain h rfl
 obtain⟨ai,hi⟩:=sent_of (g:=0) h1 (by kernel_rfl) (by kernel_rfl)
 obtain⟨al,hl⟩:=sent_of (g:=2) h1.tail (by kernel_rfl) (by kernel_rfl)
 exact⟨ai,al,al,hi,hl⟩
theorem contract(H:Type)(enc:TypeId×Value→H)(W:World)(base:Nat)(args:Array Value)(ds gs:List (DataW H))(before:List MemPlace)
  (hval: ∀(j:Nat) t v,Tryz.f7.params[j]? =some t→args[j]? =some v→Value.okWide Tryz.prog W .any base t v)
  (hW:DataW.Whole enc Tryz.prog Tryz.f7.params.toList Rows.mergeBoundsSpec.vars false W args.toList ds gs before)
  (hz:(DataW.weightsEach Tryz.prog (Tryz.f7.params.toList++(OpenSpec.ofChange Rows.mergeBoundsSpec).bare.plain.varTypes Tryz.prog) (ds++gs)).all (· ≤reachBytes)=true)(hlaid:laidMetH Tryz.prog Rows.mergeBoundsRow.laid W):
  Calls Tryz.prog 7 args W fun e W'=> ∃v,e= .returned v∧Rows.mergeBoundsSpec.post enc Tryz.prog Tryz.f7 false true false false W args v W':=by
 have hW':=hW
 obtain⟨p,q,hA0,hV,rfl,_,_⟩:=hW
 have hA:DataW.TrodAll enc Tryz.prog W 0 (fun _=>true) true Tryz.f7.params.toList args.toList ds p:=hA0
 rw[Tryz.params7] at hA hval hz
 obtain⟨v0,v1,v2,v3,d0,d1,d2,d3,p0,p1,p2,p3,hargs,rfl,rfl,h0,h1,h2,h3⟩:=trodAll_four hA
 subst hargs
 obtain⟨rfl,rfl⟩:=trodVars_none hV
 obtain⟨n1,rfl,rfl,rfl,w1⟩:=open_int Tryz.underlying3 (hval 1 3 v1 rfl rfl) h1
 obtain⟨n2,rfl,rfl,rfl,w2⟩:=open_int Tryz.underlying3 (hval 2 3 v2 rfl rfl) h2
 obtain⟨n3,rfl,rfl,rfl,w3⟩:=open_int Tryz.underlying3 (hval 3 3 v3 rfl rfl) h3
 clear hA0
 simp only[List.append_nil] at hW'
 have hlt: ∀x∈p0,x.block<W.heap.size:=fun x hx=>by simpa using hW'.lt x hx
 obtain⟨es,hI,hd,_⟩:=open_vI Tryz.underlying22 Tryz.underlying3 cellsI (hval 0 22 v0 rfl rfl) h0
 have hb:es.length≤1125899906842624:=by
  rcases hd with⟨rfl,rfl⟩|⟨sp,rfl⟩
  ·exact Nat.zero_le _
  ·have:=sized_slice hz (j:=0) (t:=22) (e:=3) rfl rfl Tryz.underlying22
   rw[bytesI] at this
   have hr:=reachBytes_lt
   have hl:(lits (H:=H) .i64 es).length=es.length:=by simp[lits]
   rw[hl] at this
   omega
 obtain⟨ai,al,ae,hE⟩:=eg_of hlaid
 have hf:=(q_MergeBounds hE (es0:=es) (op:=n1) (m:=n2) (n:=n3) hb (wf_i64 w1) (wf_i64 w2) (wf_i64 w3)) (GW W) [v0, .int .i64 n1, .int .i64 n2, .int .i64 n3] (GLe.refl _) (.cons hI (.cons (is_v.2 rfl) (.cons (is_v.2 rfl) (.cons (is_v.2 rfl) .nil))))
 refine(hf.run W (fun b cs hg=>GW.sub hg)).mono fun e W' ⟨v,G',he,hr,hv⟩=>?_
 rw[is_v] at hv
 subst hv
 subst he
 have hn:=hr.below
 have t2:=trodAll_mk4 (Below.trod laidOut (by kernel_rfl) (of_decide_eq_true (by kernel_rfl)) h0 hn hlt) (shut_int Tryz.underlying3 w1) (shut_int Tryz.underlying3 w2) (shut_int Tryz.underlying3 w3)
 simp only[List.append_nil] at t2
 exact⟨_,rfl,⟨_,_,_,[],_,[],hW',trodAll_mk1 (shut_bool Tryz.underlying4 _),t2,rfl,hn.frame _,fun h=>by cases h⟩⟩
theorem reads(os:Os){H:Type}(enc:TypeId×Value→H): ∃places,DataW.whole enc Tryz.prog ((World.doorLaid Tryz.prog 66 os).forCall (fun _ _=>0) ⟨#[], #[.slice none 0 0, .int .i64 0, .int .i64 0, .int .i64 0],[]⟩).memory Tryz.f7.params.toList Rows.mergeBoundsSpec.vars false #[Value.slice none 0 0, .int .i64 0, .int .i64 0, .int .i64 0].toList 8=some ([.nil, .lit (.int .i64 0), .lit (.int .i64 0), .lit (.int .i64 0)],[],places):=
 ⟨[],by kernel_rfl⟩
theorem lifted(os:Os)(started:os.Started)(H:Type)(enc:TypeId×Value→H)(F:Stop.Interp):
  ReturnsInHanded {} Tryz.checked os 7 .any ((OpenSpec.ofChange Rows.mergeBoundsSpec).preRow enc Tryz.prog Tryz.f7 Rows.mergeBoundsRow.domain false Rows.mergeBoundsRow.laid) (((OpenSpec.ofChange Rows.mergeBoundsSpec).at F).post enc Tryz.prog Tryz.f7 false true false false):=by
 obtain⟨places,hx⟩:=reads os enc
 refine returnsInHanded_of_row (C:=Tryz.checked) (s:=OpenSpec.ofChange Rows.mergeBoundsSpec) own started (by kernel_rfl) Tryz.func7
  (witness_row_atRef (enc:=enc) (C:=Tryz.checked) false (World.doorLaid Tryz.prog 66 os) #[.slice none 0 0, .int .i64 0, .int .i64 0, .int .i64 0] rfl (by kernel_rfl) (by kernel_rfl) (by kernel_rfl)
   (OpenSpec.preRow_of_cond 8 hx (by kernel_rfl) (fun k hk=>by cases hk) (by kernel_rfl) (door_met os _))) ?_
 intro W base args ds gs before hval hW _ _ hz hlaid _ _
 exact contract H enc W base args ds gs before hval hW hz hlaid
theorem j1:(Rows.mergeBoundsRow.inPlace==Tryz.pinned.checked.prog.inPlace 7)=true:=by kernel_rfl
theorem j2:(Rows.mergeBoundsRow.unfollowed==Tryz.pinned.checked.prog.unfollowed 7)=true:=by kernel_rfl
theorem j3:(Rows.mergeBoundsRow.recurses==Tryz.pinned.checked.prog.recurses 7)=true:=by kernel_rfl
theorem j4:(Rows.mergeBoundsRow.named==Tryz.pinned.checked.prog.varsNamed 7)=true:=by kernel_rfl
theorem j5:laidOutB Tryz.pinned.checked.prog=true:=laidOut
theorem j6:mapsRowed Tryz.pinned.checked.prog=true:=by kernel_rfl
theorem j7:Tryz.pinned.checked.prog.mainIs=some (Rows.mergeBoundsCard.stood.harness.1,Rows.mergeBoundsCard.stood.harness.2.toList):=by kernel_rfl
theorem j8:false=Rows.mergeBoundsRow.goesBy Tryz.pinned.checked.prog:=by kernel_rfl
theorem closed:joinedFacts Tryz.pinned.checked.prog 7 Tryz.f7 (OpenSpec.ofChange Rows.mergeBoundsSpec).bare Rows.mergeBoundsRow=true:=by
 unfold joinedFacts
 rw[j1,j2,j3,j4,j5,j6]
 kernel_rfl
theorem said:Rows.MergeBoundsSaid:=
 OpenClaim.holds_of_cond 7 Tryz.f7 rfl rfl rfl rfl rfl rfl rfl ⟨rfl,rfl,rfl,rfl,rfl⟩ rfl rfl rfl rfl rfl (by kernel_rfl) Tryz.func7 closed
  (of_decide_eq_true (by kernel_rfl)) (by unfold Func.isWrapper;first|(rw[if_pos (by decide+kernel)];kernel_rfl)|(rw[if_neg (by decide+kernel)];exact⟨rfl,rfl⟩))
  (fun os started H enc _ F=>by rw[OpenClaim.pre_eq_preRow];exact lifted os started H enc F)
theorem plain(f:FuncId)(fn:Func)(hf:Tryz.pinned.checked.prog.funcNamed "bspregion/bspregionlaw19.MergeBounds" =some f)(hfn:Tryz.pinned.checked.prog.funcs[f]? =some fn):
  true=Tryz.pinned.checked.prog.looks []∧ ∀(j:Nat) t,fn.params[j]? =some t→Tryz.pinned.checked.prog.wantsStandIn t=false:=by
 obtain rfl:f=7:=Option.some.inj ((show Tryz.prog.funcNamed "bspregion/bspregionlaw19.MergeBounds" =some 7 by kernel_rfl).symm.trans hf) |>.symm
 obtain rfl:fn=Tryz.f7:=(Option.some.inj (Tryz.func7.symm.trans hfn)).symm
 refine⟨by kernel_rfl,fun j t ht=>?_⟩
 rw[Tryz.params7] at ht
 have hm:=Array.mem_of_getElem? ht
 simp only[List.mem_toArray,List.mem_cons,List.not_mem_nil,or_false] at hm
 rcases hm with rfl|rfl|rfl|rfl
 ·exact(show Tryz.prog.wantsStandIn 22=false by kernel_rfl)
 ·exact(show Tryz.prog.wantsStandIn 3=false by kernel_rfl)
 ·exact(show Tryz.prog.wantsStandIn 3=false by kernel_rfl)
 ·exact(show Tryz.prog.wantsStandIn 3=false by kernel_rfl)
theorem card:Rows.MergeBoundsCardSaid:=
 Claim7.holds_tied_plain_at .later [] _ _ _ _ said (fun _ h=>by cases h) (by kernel_rfl) (fun _ h=>by cases h) mergeBounds_row_tie rfl ⟨rfl,rfl⟩ j7 rfl plain j8
#print axioms card
end Go.Proofs.YtlnphbkcelfboaaGreatDoor.mergeBounds
end
