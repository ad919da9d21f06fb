/-
  The law RelateOrder holds: it answers true at every input and leaves its argument as it was.
-/
import Derived.Test.YtlnphbkcelfboaaGreatDoorMp17
import Derived.Test.YtlnphbkcelfboaaGreatDoorCards
import Derived.Test.YtlnphbkcelfboaaGreatDoorTie
import Derived.WalkKit
import Derived.ProofKit
import Derived.OpenShut
import Derived.Deep.DeepHandedRow
import Derived.Deep.DeepWitnessRowRef
import Derived.LaidMore
import Derived.Lib.LaidTab
import Derived.SizedLaws
import Derived.Stop.LaidErr
import Derived.MakeChecks
set_option linter.unusedSimpArgs false
set_option linter.unusedVariables false
section
set_option maxRecDepth 100000
namespace Go.Sx
open Go Go.Proofs
theorem TrOk.red_size{k:Nat}{t:Tr}(h:TrOk k t)(hr:t.Red []):t.size≤k*(1+k):=by
 obtain⟨K,h1,h2,h3⟩:=h.am
 exact Nat.le_trans (Tr.size_le h2 hr h.gd.ok GoodC.nil h3) (Nat.mul_le_mul h1 (by omega))
structure TrX (k:Nat) (t:Tr):Prop where
 o:TrOk k t
 s:t.size≤3000
theorem TrX.gd{k:Nat}{t:Tr}(h:TrX k t):t.gd:=h.o.gd
theorem TrX.lb{k:Nat}{t:Tr}(h:TrX k t):t.all LB:=h.o.gd.lb
theorem TrX.ok{k:Nat}{t:Tr}(h:TrX k t):t.all LnQ.ok:=h.o.gd.ok
theorem TrX.bl{k:Nat}{t:Tr}(h:TrX k t):t.all (fun l=>BL l 96):=Tr.all_imp (fun _ h=>h.bl) h.o.gd.lb
theorem TrX.dp{k:Nat}{t:Tr}(h:TrX k t):t.depth≤k:=h.o.dp
theorem TrX.mono{j k:Nat}{t:Tr}(h:TrX j t)(hk:j≤k):TrX k t:=⟨h.o.mono hk,h.s⟩
theorem TrX.compl{k:Nat}{t:Tr}(h:TrX k t):TrX k t.compl:=⟨h.o.compl,by rw[t.compl_size];exact h.s⟩
theorem TrOk.x{k:Nat}{t:Tr}(h:TrOk k t)(hr:t.Red [])(hk:k≤54):TrX k t:=
 ⟨h,Nat.le_trans (h.red_size hr) (Nat.le_trans (Nat.mul_le_mul hk (show 1+k≤55 by omega)) (by decide))⟩
theorem TrX.merge{j k:Nat}{op:Int}{t u:Tr}(h:TrX j t)(hu:TrX k u)(hk:j+k≤54):TrX (j+k) (t.mergeQ op u []):=(h.o.merge hu.o).x (Tr.merge_red op u t []) hk
theorem TrX.lim{j k:Nat}{op:Int}{t u:Tr}(h:TrX j t)(hu:TrX k u)(hk:j+k≤200):limQ op t u=some (t.mergeQ op u []):=h.o.lim hu.o hk
theorem build_red(rs:List (List ZP))(fill:Int):(buildR rs fill).Red []:=Tr.restrict_red _ _
theorem boundF_red(es:List Int)(a:Nat):(boundF es a).1.Red []:=by
 unfold boundF
 dsimp only
 split<;>exact build_red _ _
theorem region0_red(es:List Int)(a:Nat):(regionF es 0 a).1.Red []:=by
 rw[regionF]
 try dsimp only
 split
 ·exact Tr.restrict_red _ _
 ·split
  ·exact Tr.restrict_red _ _
  ·split
   ·exact Tr.compl_red (boundF_red _ _)
   ·exact boundF_red _ _
theorem region0_ok{es:List Int}{a:Nat}(ha:a≤es.length):TrX 18 (regionF es 0 a).1∧(regionF es 0 a).2≤es.length:=by
 obtain⟨h1,h2⟩:=regionF_ok (d:=0) ha
 exact⟨(TrOk.mono h1 (by decide)).x (region0_red es a) (by decide),h2⟩
theorem tree3_ok{es:List Int}{a:Nat}(ha:a≤es.length):TrX 18 (treeF es 3 a).1∧(treeF es 3 a).2≤es.length:=by
 obtain⟨h1,h2⟩:=tree_ok (d:=3) ha (by decide)
 have h5:=Tr.size_lt (treeF es 3 a).1
 have h6:(2:Nat)^(treeF es 3 a).1.depth≤2^4:=Nat.pow_le_pow_right (by decide) (by have:=(treeF_ok (d:=3) ha).1;omega)
 exact⟨⟨h1,by omega⟩,h2⟩
def bothF(es:List Int)(a:Nat):(Tr×Tr)×Nat:=
 let x:=regionF es 0 a
 let y:=regionF es 0 x.2
 let k:=nextF es 3 y.2
 let u:=if(k.1:Int)=0 then treeF es 3 k.2 else(x.1,k.2)
 let j:=nextF es 3 u.2
 let v:=if(j.1:Int)=0 then treeF es 3 j.2 else(y.1,j.2)
 ((u.1,v.1),v.2)
def pairF(es:List Int)(a:Nat):(Tr×Tr)×Nat:=
 let x:=regionF es 0 a
 let y:=regionF es 0 x.2
 let k:=nextF es 6 y.2
 if(k.1:Int)=0 then((x.1, .node (lF es k.2).1 x.1 x.1),(lF es k.2).2)
 else if(k.1:Int)=1 then((x.1,y.1.mergeQ 1 x.1 []),k.2)
 else if(k.1:Int)=2 then((x.1,y.1.mergeQ 3 x.1 []),k.2)
 else if(k.1:Int)=3 then((x.1,(treeF es 3 k.2).1),(treeF es 3 k.2).2)
 else((x.1,y.1),k.2)
theorem TrX.above{k:Nat}{t:Tr}(h:TrX k t)(hs:t.size≤1400){l:LnQ}(hl:LS l):TrX (k+1) (.node l t t):=by
 obtain⟨K,h1,h2,h3⟩:=h.o.am
 have a3:Among (l::K) t:=h3.mono fun m hm=>⟨m,List.mem_cons_of_mem _ hm, .inl rfl⟩
 exact⟨⟨⟨⟨⟨hl.bl⟩,h.lb,h.lb⟩,⟨hl.ok,h.ok,h.ok⟩⟩,by have:=h.dp;show 1+max _ _≤_;omega,l::K,by simp;exact h1,fun m hm=>by
  rcases List.mem_cons.1 hm with rfl|hm
  ·exact hl.ok
  ·exact h2 m hm,⟨⟨l,List.mem_cons_self, .inl rfl⟩,a3,a3⟩⟩,by have:=h.s;simp only[Tr.size];omega⟩
theorem region0_size{es:List Int}{a:Nat}(ha:a≤es.length):(regionF es 0 a).1.size≤342:=
 (TrOk.mono (regionF_ok (d:=0) ha).1 (by decide:18*2^0≤18)).red_size (region0_red es a)
theorem pairF_ok{es:List Int}{a:Nat}(ha:a≤es.length):TrX 18 (pairF es a).1.1∧TrX 36 (pairF es a).1.2∧(pairF es a).2≤es.length:=by
 obtain⟨x1,x2⟩:=region0_ok ha
 obtain⟨y1,y2⟩:=region0_ok x2
 have xs:=region0_size ha
 have hk:=nextF_le (n:=6) y2
 unfold pairF
 dsimp only
 split
 ·obtain⟨h1,h2⟩:=lF_ok hk
  exact⟨x1,(x1.above (by omega) h1).mono (by decide),h2⟩
 ·split
  ·exact⟨x1,y1.merge x1 (by decide),hk⟩
  ·split
   ·exact⟨x1,y1.merge x1 (by decide),hk⟩
   ·split
    ·obtain⟨h1,h2⟩:=tree3_ok hk
     exact⟨x1,h1.mono (by decide),h2⟩
    ·exact⟨x1,y1.mono (by decide),hk⟩
def regsF(es:List Int):Nat→Nat→List Tr×Nat
 |0,a=>([],a)
 |n+1,a=>((regionF es 0 a).1::(regsF es n (regionF es 0 a).2).1,(regsF es n (regionF es 0 a).2).2)
end Go.Sx
end

section
set_option maxRecDepth 100000
namespace Go.Sx
open Go Go.Proofs
def cvxE(r:List ZP)(i k:Nat):Bool:=decide (k=i)||decide (k=(i+1)%r.length)||decide (0<orientQ (r.getD i (0,0)).q (nextZ r i).q (r.getD k (0,0)).q)
def convexZ(r:List ZP):Bool:=(List.range r.length).all fun i=>(List.range r.length).all fun k=>cvxE r i k
theorem one_ok{r:List ZP}(h:RingOk r): ∀x∈[r],RingOk x:=fun x hx=>by rw[List.mem_singleton] at hx;subst hx;exact h
theorem two_ok{r s:List ZP}(h:RingOk r)(k:RingOk s): ∀x∈[r,s],RingOk x:=fun x hx=>by
 simp only[List.mem_cons,List.not_mem_nil,or_false] at hx
 rcases hx with rfl|rfl
 ·exact h
 ·exact k
set_option maxHeartbeats 2000000 in
theorem q_bounded{GB:Gh}{b:Nat}{es:List Int}(hes:es.length≤400){a:Nat}(ha:a≤es.length):PM GB Tryz.prog 91 (mkP [none] b) b 89 [.sl (es.map vI), .v (.int .i64 (a:Nat))] (eT (boundF es a).1) [.sl (es.map vI), .v (.int .i64 ((boundF es a).2:Nat))]:=by
 obtain⟨r1,r2⟩:=ringF_ok ha
 have hk3:=nextF_le (n:=3) r2
 refine fnM Tryz.func91 rfl rfl Tryz.ntmps91 rfl rfl (fun C b m lo hmb=>?_)
 refine cm rfl (fun b=>(q_RingT hes ha)) rfl<|ro (fu:=⟨4⟩) rfl rfl<|?_
 refine mg (X:=List (List ZP)×Nat) (fun⟨rs,a2⟩=>[(3, .rw 6)]) (fun⟨rs,a2⟩=>[(1000000,some (.o 89 [.d (.sl (es.map vI)), .d (.v (.int .i64 (a2:Nat)))] false)),(6,some (.b 100 1 (rs.map eRg) true))]) (fun⟨rs,a2⟩=>boundF es a=(buildR rs (1+((nextF es 2 a2).1:Int)),(nextF es 2 a2).2)∧a2≤es.length∧(∀r∈rs,RingOk r)∧rs.length≤2) [3] [1000000,6] rfl ?_ (fun _=>rfl) (fun⟨rs,a2⟩ ⟨hB,ha2,hrs,hrl⟩=>?_)
 ·
  refine gx rfl<|cm rfl (fun b=>(q_NextT (n:=3) hes r2 (by decide) (by decide))) rfl<|?_
  refine br rfl rfl rfl (fun hc9=>?_) (fun hc9=>?_)
  ·
   obtain⟨s1,s2⟩:=ringF_ok hk3
   refine cm rfl (fun b=>(q_RingT hes hk3)) rfl<|rf rfl rfl<|ap (hbd:=by simp) ([(ringF es a).1,(ringF es (nextF es 3 (ringF es a).2).2).1].map eRg) rfl rfl (slOkRg [(ringF es (nextF es 3 (ringF es a).2).2).1]) rfl<|?_
   refine rnE 14 6 rfl ?_
   exact at_ ⟨[(ringF es a).1,(ringF es (nextF es 3 (ringF es a).2).2).1],(ringF es (nextF es 3 (ringF es a).2).2).2⟩ ⟨if_pos hc9,s2,two_ok r1 s1,by simp⟩
  ·
   exact at_ ⟨[(ringF es a).1],(nextF es 3 (ringF es a).2).2⟩ ⟨if_neg hc9,hk3,one_ok r1,by simp⟩
 ·
  try dsimp only at hB ha2 hrs hrl⊢
  have hf2:=nextF_lt (es:=es) (n:=2) (a:=a2) (by decide)
  refine fz 6 rfl rfl<|cl rfl (q_Api (rs:=rs) hrs (by omega)) rfl<|cm rfl (fun b=>(q_NextT (n:=2) hes ha2 (by decide) (by decide))) rfl<|cl rfl (q_RMake (rs:=rs) (fill:=1+((nextF es 2 a2).1:Int)) hrs (by omega)) rfl<|?_
  refine cl rfl (q_Build (rs:=rs) (fill:=1+((nextF es 2 a2).1:Int)) hrs (by omega)) rfl<|?_
  exact rzM hmb rfl rfl (by rw[hB];rfl) (by rw[hB])
set_option maxHeartbeats 2000000 in
theorem q_Region_zero{GB:Gh}{b:Nat}{es:List Int}(hes:es.length≤400){a:Nat}(ha:a≤es.length){n:Int}(hn:n=0):PM GB Tryz.prog 38 (mkP [none,some (.v (.int .i64 n))] b) b 89 [.sl (es.map vI), .v (.int .i64 (a:Nat))] (eT (regionF es 0 a).1) [.sl (es.map vI), .v (.int .i64 ((regionF es 0 a).2:Nat))]:=by
 have hk0:=nextF_le (n:=6) ha
 obtain⟨hl,hl2⟩:=lF_ok hk0
 obtain⟨ht,ht2⟩:=tree3_ok hk0
 obtain⟨hb,hb2⟩:=boundF_ok hk0
 refine fnM Tryz.func38 rfl rfl Tryz.ntmps38 rfl rfl (fun C b m lo hmb=>?_)
 refine cm (fu:=⟨5⟩) rfl (fun b=>(q_NextT (n:=6) hes ha (by decide) (by decide))) rfl<|?_
 refine mg (X:=Unit) (fun _=>[(9, .ff)]) (fun _=>[]) (fun _=>True) [9] [] rfl ?_ (fun _=>rfl) (fun _ _=>?_)
 ·
  refine gx rfl<|?_
  refine cs (fu1:=⟨1⟩) 12 rfl rfl rfl (fun hg12=>?_) (fun hg12=>?_)
  ·
   refine knF rfl (by show some (decide _)=some false;rw[decide_eq_false (by omega)]) rfl<|?_
   exact at_ () trivial
  ·
   exact at_ () trivial
 ·
  refine br rfl rfl rfl (fun hc29=>?_) (fun hc29=>?_)
  ·
   refine cm rfl (fun b=>(q_LT hes hk0)) rfl<|cl rfl (q_CodeT (p:=true)) rfl<|cl (fu:=⟨1⟩) rfl (q_CodeT (p:=false)) rfl<|bxf rfl rfl<|cl rfl (q_RReduce (t:= .node (lF es (nextF es 6 a).2).1 (.leaf true) (.leaf false)) ⟨⟨hl.bl⟩,trivial,trivial⟩ ⟨hl.ok,trivial,trivial⟩ (by simp[Tr.depth])) rfl<|?_
   exact rzM hmb rfl rfl (by rw[show regionF es 0 a=_ from if_pos hc29];rfl) (by rw[show regionF es 0 a=_ from if_pos hc29])
  ·
   refine br rfl rfl rfl (fun hc39=>?_) (fun hc39=>?_)
   ·
    refine cm rfl (fun b=>(q_TreeT (d:=3) hes hk0 (by decide))) rfl<|cl rfl (q_RReduce (t:=(treeF es 3 (nextF es 6 a).2).1) ht.lb ht.ok (by have:=ht.dp;omega)) rfl<|?_
    exact rzM hmb rfl rfl (by rw[show regionF es 0 a=_ from(if_neg hc29).trans (if_pos hc39)];rfl) (by rw[show regionF es 0 a=_ from(if_neg hc29).trans (if_pos hc39)])
   ·
    refine br rfl rfl rfl (fun hc45=>?_) (fun hc45=>?_)
    ·
     refine cm rfl (fun b=>(q_bounded hes hk0)) rfl<|cl rfl q_Not rfl<|?_
     exact rzM hmb rfl rfl (by rw[show regionF es 0 a=_ from(if_neg hc29).trans ((if_neg hc39).trans (if_pos hc45))];rfl) (by rw[show regionF es 0 a=_ from(if_neg hc29).trans ((if_neg hc39).trans (if_pos hc45))])
    ·
     refine cm rfl (fun b=>(q_bounded hes hk0)) rfl<|?_
     exact rzM hmb rfl rfl (by rw[show regionF es 0 a=_ from(if_neg hc29).trans ((if_neg hc39).trans (if_neg hc45))];rfl) (by rw[show regionF es 0 a=_ from(if_neg hc29).trans ((if_neg hc39).trans (if_neg hc45))])
set_option maxHeartbeats 2000000 in
theorem q_Region_node{GB:Gh}{b:Nat}{es:List Int}(hes:es.length≤400){a:Nat}(ha:a≤es.length){d:Nat}{n:Int}(hn:n=((d+1:Nat):Int))(hd:d≤3)(ih: ∀{GB:Gh} {b a:Nat} {n:Int},a≤es.length→n=(d:Int)→PM GB Tryz.prog 38 (mkP [none,some (.v (.int .i64 n))] b) b 89 [.sl (es.map vI), .v (.int .i64 (a:Nat))] (eT (regionF es d a).1) [.sl (es.map vI), .v (.int .i64 ((regionF es d a).2:Nat))]):PM GB Tryz.prog 38 (mkP [none,some (.v (.int .i64 n))] b) b 89 [.sl (es.map vI), .v (.int .i64 (a:Nat))] (eT (regionF es (d+1) a).1) [.sl (es.map vI), .v (.int .i64 ((regionF es (d+1) a).2:Nat))]:=by
 have hk0:=nextF_le (n:=6) ha
 obtain⟨hl,hl2⟩:=lF_ok hk0
 obtain⟨ht,ht2⟩:=tree3_ok hk0
 obtain⟨hb,hb2⟩:=boundF_ok hk0
 obtain⟨g1,g2⟩:=regionF_ok (d:=d) hk0
 have hj:=nextF_le (n:=4) g2
 have hjl:=nextF_lt (es:=es) (n:=4) (a:=(regionF es d (nextF es 6 a).2).2) (by decide)
 obtain⟨g3,g4⟩:=regionF_ok (d:=d) hj
 have hpw:18*2^d≤18*2^3:=Nat.mul_le_mul_left _ (Nat.pow_le_pow_right (by decide) hd)
 refine fnM Tryz.func38 rfl rfl Tryz.ntmps38 rfl rfl (fun C b m lo hmb=>?_)
 refine cm rfl (fun b=>(q_NextT (n:=6) hes ha (by decide) (by decide))) rfl<|?_
 refine cs (fu1:=⟨1⟩) 12 rfl rfl rfl (fun hg12=>?_) (fun hg12=>?_)
 ·
  refine knT rfl (by show some (decide _)=some true;rw[decide_eq_true (by omega)]) rfl<|cm rfl (fun b=>(ih hk0 (by omega))) rfl<|cm rfl (fun b=>(q_NextT (n:=4) hes g2 (by decide) (by decide))) rfl<|?_
  refine cm rfl (fun b=>(ih hj (by omega))) rfl<|cl rfl (q_RMerge (op:=1+((nextF es 4 (regionF es d (nextF es 6 a).2).2).1:Int)) (t:=(regionF es d (nextF es 6 a).2).1) (u:=(regionF es d (nextF es 4 (regionF es d (nextF es 6 a).2).2).2).1) (c:=[]) g3.gd.lb g3.gd.ok g1.gd.lb g1.gd.ok (fun m h=>by cases h) (fun m h=>by cases h) (by have:=g1.dp;have:=g3.dp;rw[List.length_nil];omega)) rfl<|?_
  exact rzM hmb rfl rfl (by rw[show regionF es (d+1) a=_ from if_pos hg12];show eT (Tr.mergeL _ _ _ _)=eT (Tr.mergeQ _ _ _ _);rw[Tr.mergeL_nil (by omega) g1.gd.ok g3.gd.ok]) (by rw[show regionF es (d+1) a=_ from if_pos hg12])
 ·
  refine br rfl rfl rfl (fun hc29=>?_) (fun hc29=>?_)
  ·
   refine cm rfl (fun b=>(q_LT hes hk0)) rfl<|cl rfl (q_CodeT (p:=true)) rfl<|cl (fu:=⟨1⟩) rfl (q_CodeT (p:=false)) rfl<|bxf rfl rfl<|cl rfl (q_RReduce (t:= .node (lF es (nextF es 6 a).2).1 (.leaf true) (.leaf false)) ⟨⟨hl.bl⟩,trivial,trivial⟩ ⟨hl.ok,trivial,trivial⟩ (by simp[Tr.depth])) rfl<|?_
   exact rzM hmb rfl rfl (by rw[show regionF es (d+1) a=_ from(if_neg hg12).trans (if_pos hc29)];rfl) (by rw[show regionF es (d+1) a=_ from(if_neg hg12).trans (if_pos hc29)])
  ·
   refine br rfl rfl rfl (fun hc39=>?_) (fun hc39=>?_)
   ·
    refine cm rfl (fun b=>(q_TreeT (d:=3) hes hk0 (by decide))) rfl<|cl rfl (q_RReduce (t:=(treeF es 3 (nextF es 6 a).2).1) ht.lb ht.ok (by have:=ht.dp;omega)) rfl<|?_
    exact rzM hmb rfl rfl (by rw[show regionF es (d+1) a=_ from(if_neg hg12).trans ((if_neg hc29).trans (if_pos hc39))];rfl) (by rw[show regionF es (d+1) a=_ from(if_neg hg12).trans ((if_neg hc29).trans (if_pos hc39))])
   ·
    refine br rfl rfl rfl (fun hc45=>?_) (fun hc45=>?_)
    ·
     refine cm rfl (fun b=>(q_bounded hes hk0)) rfl<|cl rfl q_Not rfl<|?_
     exact rzM hmb rfl rfl (by rw[show regionF es (d+1) a=_ from(if_neg hg12).trans ((if_neg hc29).trans ((if_neg hc39).trans (if_pos hc45)))];rfl) (by rw[show regionF es (d+1) a=_ from(if_neg hg12).trans ((if_neg hc29).trans ((if_neg hc39).trans (if_pos hc45)))])
    ·
     refine cm rfl (fun b=>(q_bounded hes hk0)) rfl<|?_
     exact rzM hmb rfl rfl (by rw[show regionF es (d+1) a=_ from(if_neg hg12).trans ((if_neg hc29).trans ((if_neg hc39).trans (if_neg hc45)))];rfl) (by rw[show regionF es (d+1) a=_ from(if_neg hg12).trans ((if_neg hc29).trans ((if_neg hc39).trans (if_neg hc45)))])
theorem q_RegionI{es:List Int}(hes:es.length≤400): ∀{d:Nat} {GB:Gh} {b a:Nat} {n:Int},d≤4→a≤es.length→n=(d:Int)→PM GB Tryz.prog 38 (mkP [none,some (.v (.int .i64 n))] b) b 89 [.sl (es.map vI), .v (.int .i64 (a:Nat))] (eT (regionF es d a).1) [.sl (es.map vI), .v (.int .i64 ((regionF es d a).2:Nat))]
 |0,_,_,_,_,_,ha,hn=>q_Region_zero hes ha hn
 |d+1,_,_,_,_,hd,ha,hn=>q_Region_node hes ha hn (by omega) (fun h1 h2=>q_RegionI hes (by omega) h1 h2)
theorem q_RegionT{GB:Gh}{es:List Int}(hes:es.length≤400){a d b:Nat}(ha:a≤es.length)(hd:d≤4):PM GB Tryz.prog 38 (mkP [none,some (.v (.int .i64 (d:Nat)))] b) b 89 [.sl (es.map vI), .v (.int .i64 (a:Nat))] (eT (regionF es d a).1) [.sl (es.map vI), .v (.int .i64 ((regionF es d a).2:Nat))]:=q_RegionI (GB:=GB) hes hd ha rfl
end Go.Sx
end

section
set_option maxRecDepth 100000
namespace Go.Sx
open Go Go.Proofs
section
variable {GB:Gh} {C:Ctx} {n:Nat} {Q0:Exit→Act→World→Prop} {fr fr' fr1 fr2:FrX} {own own' own1 own2:OwX} {cf cf' cf1 cf2:Cf} {vc vc1 vc2:List Prop}
def an3A(fr:FrX)(cf:Cf):Option Int:=match opC fr cf with
 |some ⟨_, .binOp .and _ x (.const (.int .i64 3)) _,_,_,_,_⟩=>match evX (lkC fr cf) x with
  |some (.d (.v (.int .i64 p)))=>some p
  |_=>none
 |_=>none
end
end Go.Sx
end

section
set_option maxRecDepth 100000
namespace Go.Sx
open Go Go.Proofs
theorem q_NewT{GB:Gh}{es0 es:List Int}(hb:es0.length≤1125899906842624)(he:es=es0.take 400):PN GB Tryz.prog 12 [.sl (es0.map vI)] 89 Unit (fun _=>[.sl (es.map vI), .v (.int .i64 (0:Nat))]):=by
 subst he;exact q_New hb
theorem p_MMergeX{GB:Gh}{ai al ae:Addr}(hE:EG GB ai al ae){op:Int}{j k:Nat}{a b:Tr}(ho:1≤op∧op≤4)(ha:TrX j a)(hb:TrX k b)(hk:j+k≤200):PF GB Tryz.prog 15 [vI op,eA a,eA b] (.tp [eA (a.mergeQ op b []), .v .nilIface]):=
 p_MMergeS hE ho ha.gd hb.gd (by have:=ha.s;omega) (by have:=hb.s;omega) (ha.lim hb hk)
theorem p_MComplX{GB:Gh}{ai al ae:Addr}(hE:EG GB ai al ae){j:Nat}{a:Tr}(ha:TrX j a):PF GB Tryz.prog 16 [eA a] (.tp [eA a.compl, .v .nilIface]):=
 p_MComplA hE ha.gd (by have:=ha.s;omega)
theorem q_WriteX{GB:Gh}{k:Nat}{t:Tr}(h:TrX k t):PF GB Tryz.prog 13 [eT t] (eA t):=q_Write h.bl (by have:=h.s;omega)
theorem q_RMergeX{GB:Gh}{op:Int}{j k:Nat}{a b:Tr}(ho:1≤op∧op≤4)(ha:TrX j a)(hb:TrX k b)(hk:j+k≤900):PF GB Tryz.prog 33 [vI op,eT a,eT b, .sl []] (eT (a.mergeQ op b [])):=by
 have:=q_RMerge (GB:=GB) (op:=op) hb.lb hb.ok (t:=a) (c:=[]) ha.lb ha.ok (fun m h=>by cases h) (fun m h=>by cases h) (by have:=ha.dp;have:=hb.dp;rw[List.length_nil];omega)
 rw[Tr.mergeL_nil ho ha.ok hb.ok] at this
 exact this
set_option maxHeartbeats 2000000 in
theorem q_pair{GB:Gh}{b:Nat}{es:List Int}(hes:es.length≤400){a:Nat}(ha:a≤es.length):PM GB Tryz.prog 19 (mkP [none] b) b 89 [.sl (es.map vI), .v (.int .i64 (a:Nat))] (.tp [eT (pairF es a).1.1,eT (pairF es a).1.2]) [.sl (es.map vI), .v (.int .i64 ((pairF es a).2:Nat))]:=by
 obtain⟨x1,x2⟩:=region0_ok ha
 obtain⟨y1,y2⟩:=region0_ok x2
 have hk0:=nextF_le (n:=6) y2
 refine fnM Tryz.func19 rfl rfl Tryz.ntmps19 rfl rfl (fun C b m lo hmb=>?_)
 refine cm rfl (fun b=>(q_RegionT (d:=0) hes ha (by decide))) rfl<|cm rfl (fun b=>(q_RegionT (d:=0) hes x2 (by decide))) rfl<|cm rfl (fun b=>(q_NextT (n:=6) hes y2 (by decide) (by decide))) rfl<|?_
 refine br rfl rfl rfl (fun hc12=>?_) (fun hc12=>?_)
 ·
  refine cm (fu:=⟨3⟩) rfl (fun b=>(q_LT hes hk0)) rfl<|bxf rfl rfl<|?_
  exact rzM hmb rfl rfl (by rw[show pairF es a=_ from if_pos hc12];rfl) (by rw[show pairF es a=_ from if_pos hc12])
 ·
  refine br rfl rfl rfl (fun hc20=>?_) (fun hc20=>?_)
  ·
   refine cl rfl (q_RMergeX (op:=1) (by decide) y1 x1 (by decide)) rfl<|?_
   exact rzM hmb rfl rfl (by rw[show pairF es a=_ from(if_neg hc12).trans (if_pos hc20)];rfl) (by rw[show pairF es a=_ from(if_neg hc12).trans (if_pos hc20)])
  ·
   refine br rfl rfl rfl (fun hc25=>?_) (fun hc25=>?_)
   ·
    refine cl rfl (q_RMergeX (op:=3) (by decide) y1 x1 (by decide)) rfl<|?_
    exact rzM hmb rfl rfl (by rw[show pairF es a=_ from(if_neg hc12).trans ((if_neg hc20).trans (if_pos hc25))];rfl) (by rw[show pairF es a=_ from(if_neg hc12).trans ((if_neg hc20).trans (if_pos hc25))])
   ·
    refine br rfl rfl rfl (fun hc30=>?_) (fun hc30=>?_)
    ·
     refine cm rfl (fun b=>(q_TreeT (d:=3) hes hk0 (by decide))) rfl<|?_
     exact rzM hmb rfl rfl (by rw[show pairF es a=_ from(if_neg hc12).trans ((if_neg hc20).trans ((if_neg hc25).trans (if_pos hc30)))];rfl) (by rw[show pairF es a=_ from(if_neg hc12).trans ((if_neg hc20).trans ((if_neg hc25).trans (if_pos hc30)))])
    ·
     exact rzM hmb rfl rfl (by rw[show pairF es a=_ from(if_neg hc12).trans ((if_neg hc20).trans ((if_neg hc25).trans (if_neg hc30)))];rfl) (by rw[show pairF es a=_ from(if_neg hc12).trans ((if_neg hc20).trans ((if_neg hc25).trans (if_neg hc30)))])
end Go.Sx
end

section
set_option maxRecDepth 100000
namespace Go.Sx
open Go Go.Proofs
def lnsX(cs:List RL):Option (List LnQ):=if cs.all (fun r=>r.ln.isSome) then some (cs.filterMap RL.ln) else none
def lnsD:Option (List LnQ)→DV
 |some ls=> .tp [.sl (ls.map eLn),vB true]
 |none=> .tp [.sl [],vB false]
def canD:Option CellQ→DV
 |some c=> .tp [.sl (c.map eFr),vB true]
 |none=> .tp [.sl [],vB false]
def readD(ai al:Addr)(more:Nat):Option Tr→DV
 |none=> .tp [.v (.pointer none),eErr ai]
 |some t=>if 1024<t.depth+more then .tp [.v (.pointer none),eErr al] else .tp [eU t, .v .nilIface]
def optX(ai:Addr)(f:Tr→Tr):Option Tr→Tr ⊕ Addr
 |some t=> .inl (f t)
 |none=> .inr ai
def restX(ai ae:Addr):Option Tr→Option (List LnQ)→Tr ⊕ Addr
 |some t,some ls=>(match canonQ ls [] with
  |some c=> .inl (t.restrict c)
  |none=> .inr ae)
 |_,_=> .inr ai
def splD(ai:Addr):Option LnQ→Option Tr→DV
 |some m,some t=> .tp [eA (t.restrict (clipC [] m)),eA (t.restrict (clipC [] m.rev)), .v .nilIface]
 |_,_=> .tp [trZ,trZ,eErr ai]
end Go.Sx
end

section
set_option maxRecDepth 100000
namespace Go.Sx
open Go Go.Proofs
end Go.Sx
end

section
set_option maxRecDepth 100000
namespace Go.Sx
open Go Go.Proofs
section
variable {GB:Gh} {C:Ctx} {n:Nat} {Q0:Exit→Act→World→Prop} {fr fr':FrX} {own own':OwX} {cf cf':Cf} {vc:List Prop} {ops:Array Oper} {r:List Oper} {K:List Kt}
def mkFA(fr:FrX)(cf:Cf):Option (FuncId×Value):=match opC fr cf with
 |some ⟨_, .makeFunc (.func f) ⟨[x]⟩ ⟨[]⟩,_,_,_,_⟩=>match evX (lkC fr cf) x with
  |some (.d (.v pv))=>some (f,pv)
  |_=>none
 |_=>none
def cfvA(fr:FrX)(cf:Cf):Option (FuncId×List Value×List DV):=match opC fr cf with
 |some ⟨_, .call ⟨.value fo,args,_⟩,_,_,_,_⟩=>match evX (lkC fr cf) fo,evDs (lkC fr cf) args.toList with
  |some (.d (.v (.func (.func f) ⟨c1⟩ ⟨[]⟩))),some ds=>some (f,c1,ds)
  |_,_=>none
 |_=>none
/-! an array of constants -/
def constL:List (Nat×Operand)→Option (List (Nat×Value))
 |[]=>some []
 |(i, .const v)::t=>match constL t with
  |some l=>some ((i,v)::l)
  |none=>none
 |_::_=>none
def bakA(cf:Cf)(fr:FrX):Option (TypeId×List (Nat×Value)):=match opC fr cf with
 |some ⟨_, .build t ⟨ps⟩,_,_,_,_⟩=>match constL ps with
  |some vs=>some (t,vs)
  |none=>none
 |_=>none
def staA(fr:FrX)(own:OwX)(cf:Cf):Option (TypeId×Nat×Nat×List FX×Bool×FX):=match opC fr cf with
 |some ⟨_, .store t x y,_,_,_,_⟩=>match evX (lkC fr cf) x with
  |some (.ov nm 0)=>match bkC fr own cf nm with
   |some (.o ty cs lo)=>match evX (lkC fr cf) y with
    |some fv=>some (t,nm,ty,cs,lo,fv)
    |_=>none
   |_=>none
  |_=>none
 |_=>none
def rowB(fr:FrX)(cf:Cf):Option RwA:=match opC fr cf with
 |some ⟨some d, .buildSlice t len parts,_,_,_,_⟩=>match lookT tt t with
  |some ⟨.sl e s _,_,_,_⟩=>match rowX (lkC fr cf) 0 parts.toList with
   |some ds=>bif okRow s ds&&(Nat.beq parts.toList.length len&&(Nat.ble (len*s) 1000&&Nat.blt 0 (len*s))) then some ⟨d,e,s,ds⟩ else none
   |none=>none
  |_=>none
 |_=>none
def ldBA(fr:FrX)(cf:Cf):Option (TypeId×List DV):=match opC fr cf with
 |some ⟨_, .load t x,_,_,_,_⟩=>match evX (lkC fr cf) x with
  |some (.ep l)=>some (t,l)
  |_=>none
 |_=>none
def noAg:TypeDesc→Bool
 | .struct _=>false
 | .array _ _=>false
 |_=>true
end
end Go.Sx
end

section
set_option maxRecDepth 100000
namespace Go.Sx
open Go Go.Proofs
def fcs(a b:Tr):List PtQ:=facesQ (distQ (a.lns++b.lns))
def eqR(a b:Tr):Bool:=(fcs a b).all fun p=>atQ a p==atQ b p
def anyR(f:Bool→Bool→Bool)(a b:Tr):Bool:=(fcs a b).any fun p=>f (atQ a p) (atQ b p)
def leafQ(v:Bool)(t:Tr):Bool:=decide ((t.restrict []).isLeaf=true∧(t.restrict []).code=v)
end Go.Sx
end

section
set_option maxRecDepth 100000
namespace Go.Sx
open Go Go.Proofs
def ePr(a b:Tr):DV:= .ag [eU a,eU b]
def prZ:DV:= .ag [.v (.pointer none), .v (.pointer none)]
theorem p_OfA{GB:Gh}{k:Nat}{t:Tr}(h:TrX k t):PF GB Tryz.prog 55 [eA t] (.tp [eU t,vB true]):=by
 have:=p_OfS (GB:=GB) (rt:=t.num 0) (wr_sm h.lb) (wr_n (by have:=h.s;omega)) (ofQ_wr h.ok)
 rw[←eA_RT] at this
 exact this
theorem nq_leaf{op:Int}{a b:Tr}{v:Bool}(h:Tr.leaf v=a.mergeQ op b []):noneQ op a b=!v:=by unfold noneQ;rw[←h];cases v<;>rfl
theorem nq_node{op:Int}{a b:Tr}{l:LnQ}{x y:Tr}(h:Tr.node l x y=a.mergeQ op b []):noneQ op a b=false:=by unfold noneQ;rw[←h];simp[Tr.isLeaf]
theorem p_rdS{GB:Gh}{j k:Nat}{a b:Tr}(ha:TrX j a)(hb:TrX k b):PF GB Tryz.prog 67 [eA a,eA b] (.tp [ePr a b, .v .nilIface]):=by
 refine fn Tryz.func67 rfl rfl Tryz.ntmps67 rfl rfl (fun C=>?_)
 refine cl (fu:=⟨3⟩) rfl (p_OfA ha) rfl<|?_
 refine kbT 14 rfl ?_
 refine gx rfl<|cl (fu:=⟨3⟩) rfl (p_OfA hb) rfl<|?_
 refine kbT 19 rfl ?_
 refine gx rfl<|?_
 exact rz rfl rfl
theorem p_none{GB:Gh}{ai al ae:Addr}(hE:EG GB ai al ae){op:Int}{j k:Nat}{a b:Tr}(ha:TrX j a)(hb:TrX k b)(hk:j+k≤200):PF GB Tryz.prog 126 [ePr a b,vI op] (.tp [vB (noneQ op a b), .v .nilIface]):=by
 obtain⟨t,ht⟩: ∃t,t=a.mergeQ op b []:=⟨_,rfl⟩
 refine fn Tryz.func126 rfl rfl Tryz.ntmps126 rfl rfl (fun C=>?_)
 refine cl rfl (p_TwoS (t:=t) hE ha.gd hb.gd (by have:=ha.s;omega) (by have:=hb.s;omega) (by rw[ht];exact ha.lim hb hk)) rfl<|?_
 rcases t with v|⟨l,x,y⟩
 ·
  have hq:=nq_leaf ht
  refine cl (fu:=⟨0⟩) rfl p_IsLeafL rfl<|?_
  refine kbT 21 rfl ?_
  refine gx rfl<|?_
  exact rz rfl (by rw[hq];rfl)
 ·
  have hq:=nq_node ht
  refine cl (fu:=⟨0⟩) rfl p_IsLeafN rfl<|?_
  refine kbF 21 rfl ?_
  refine gx rfl<|?_
  exact rz rfl (by rw[hq];rfl)
theorem p_pEqual{GB:Gh}{ai al ae:Addr}(hE:EG GB ai al ae){j k:Nat}{a b:Tr}(ha:TrX j a)(hb:TrX k b)(hk:j+k≤200):PF GB Tryz.prog 68 [ePr a b] (.tp [vB (noneQ 4 a b), .v .nilIface]):=by
 refine fn Tryz.func68 rfl rfl Tryz.ntmps68 rfl rfl (fun C=>?_)
 refine cl rfl (p_none hE (op:=4) ha hb hk) rfl<|?_
 exact rz rfl rfl
theorem p_pSubset{GB:Gh}{ai al ae:Addr}(hE:EG GB ai al ae){j k:Nat}{a b:Tr}(ha:TrX j a)(hb:TrX k b)(hk:j+k≤200):PF GB Tryz.prog 69 [ePr a b] (.tp [vB (noneQ 3 a b), .v .nilIface]):=by
 refine fn Tryz.func69 rfl rfl Tryz.ntmps69 rfl rfl (fun C=>?_)
 refine cl rfl (p_none hE (op:=3) ha hb hk) rfl<|?_
 exact rz rfl rfl
theorem p_pDisj{GB:Gh}{ai al ae:Addr}(hE:EG GB ai al ae){j k:Nat}{a b:Tr}(ha:TrX j a)(hb:TrX k b)(hk:j+k≤200):PF GB Tryz.prog 73 [ePr a b] (.tp [vB (noneQ 2 a b), .v .nilIface]):=by
 refine fn Tryz.func73 rfl rfl Tryz.ntmps73 rfl rfl (fun C=>?_)
 refine cl rfl (p_none hE (op:=2) ha hb hk) rfl<|?_
 exact rz rfl rfl
theorem p_REq{GB:Gh}{ai al ae:Addr}(hE:EG GB ai al ae){j k:Nat}{a b:Tr}(ha:TrX j a)(hb:TrX k b)(hk:j+k≤200):PF GB Tryz.prog 21 [eA a,eA b] (.tp [vB (noneQ 4 a b), .v .nilIface]):=by
 refine fn Tryz.func21 rfl rfl Tryz.ntmps21 rfl rfl (fun C=>?_)
 refine cl rfl (p_rdS ha hb) rfl<|cl rfl (p_pEqual hE ha hb hk) rfl<|?_
 exact rz rfl rfl
theorem p_RSub{GB:Gh}{ai al ae:Addr}(hE:EG GB ai al ae){j k:Nat}{a b:Tr}(ha:TrX j a)(hb:TrX k b)(hk:j+k≤200):PF GB Tryz.prog 26 [eA a,eA b] (.tp [vB (noneQ 3 a b), .v .nilIface]):=by
 refine fn Tryz.func26 rfl rfl Tryz.ntmps26 rfl rfl (fun C=>?_)
 refine cl rfl (p_rdS ha hb) rfl<|cl rfl (p_pSubset hE ha hb hk) rfl<|?_
 exact rz rfl rfl
theorem p_RDis{GB:Gh}{ai al ae:Addr}(hE:EG GB ai al ae){j k:Nat}{a b:Tr}(ha:TrX j a)(hb:TrX k b)(hk:j+k≤200):PF GB Tryz.prog 27 [eA a,eA b] (.tp [vB (noneQ 2 a b), .v .nilIface]):=by
 refine fn Tryz.func27 rfl rfl Tryz.ntmps27 rfl rfl (fun C=>?_)
 refine cl rfl (p_rdS ha hb) rfl<|cl rfl (p_pDisj hE ha hb hk) rfl<|?_
 exact rz rfl rfl
theorem p_oneS{GB:Gh}{ai al ae:Addr}(hE:EG GB ai al ae){k:Nat}{t:Tr}(h:TrX k t)(hk:k≤1000):PF GB Tryz.prog 71 [eA t] (.tp [eU (t.restrict []), .v .nilIface]):=by
 have hd:=h.dp
 refine fn Tryz.func71 rfl rfl Tryz.ntmps71 rfl rfl (fun C=>?_)
 refine cl (fu:=⟨3⟩) rfl (p_OfA h) rfl<|?_
 refine kbT 10 rfl ?_
 refine gx rfl<|cl (fu:=⟨0⟩) rfl (p_Depth (t:=t) (by omega)) rfl<|knF rfl (by show some (decide _)=some false;rw[decide_eq_false (by omega)]) rfl<|cl rfl (p_Reduce (t:=t) h.lb h.ok (by omega)) rfl<|?_
 exact rz rfl rfl
theorem lq_leaf{v w:Bool}{t:Tr}(h:Tr.leaf v=t.restrict []):leafQ w t=decide (v=w):=by unfold leafQ;rw[←h];simp[Tr.isLeaf,Tr.code]
theorem lq_node{w:Bool}{t:Tr}{l:LnQ}{x y:Tr}(h:Tr.node l x y=t.restrict []):leafQ w t=false:=by unfold leafQ;rw[←h];simp[Tr.isLeaf]
theorem p_REmpty{GB:Gh}{ai al ae:Addr}(hE:EG GB ai al ae){k:Nat}{t:Tr}(h:TrX k t)(hk:k≤1000):PF GB Tryz.prog 24 [eA t] (.tp [vB (leafQ false t), .v .nilIface]):=by
 obtain⟨u,ht⟩: ∃u,u=t.restrict []:=⟨_,rfl⟩
 refine fn Tryz.func24 rfl rfl Tryz.ntmps24 rfl rfl (fun C=>?_)
 refine cl (fu:=⟨0⟩) rfl (p_oneS hE h hk) rfl<|?_
 refine eqF 8 (.d (.tp [eU u, .v .nilIface])) rfl (by rw[ht]) ?_
 refine gx rfl<|?_
 rcases u with v|⟨l,x,y⟩
 ·
  have hq:=lq_leaf (w:=false) ht
  refine cl (fu:=⟨0⟩) rfl p_IsLeafL rfl<|?_
  refine kbT 15 rfl ?_
  refine gx rfl<|?_
  exact rz rfl (by rw[hq];cases v<;>rfl)
 ·
  have hq:=lq_node (w:=false) ht
  refine cl (fu:=⟨0⟩) rfl p_IsLeafN rfl<|?_
  refine kbF 15 rfl ?_
  refine gx rfl<|?_
  exact rz rfl (by rw[hq];rfl)
theorem p_RWhole{GB:Gh}{ai al ae:Addr}(hE:EG GB ai al ae){k:Nat}{t:Tr}(h:TrX k t)(hk:k≤1000):PF GB Tryz.prog 25 [eA t] (.tp [vB (leafQ true t), .v .nilIface]):=by
 obtain⟨u,ht⟩: ∃u,u=t.restrict []:=⟨_,rfl⟩
 refine fn Tryz.func25 rfl rfl Tryz.ntmps25 rfl rfl (fun C=>?_)
 refine cl (fu:=⟨0⟩) rfl (p_oneS hE h hk) rfl<|?_
 refine eqF 8 (.d (.tp [eU u, .v .nilIface])) rfl (by rw[ht]) ?_
 refine gx rfl<|?_
 rcases u with v|⟨l,x,y⟩
 ·
  have hq:=lq_leaf (w:=true) ht
  refine cl (fu:=⟨0⟩) rfl p_IsLeafL rfl<|?_
  refine kbT 15 rfl ?_
  refine gx rfl<|?_
  exact rz rfl (by rw[hq];cases v<;>rfl)
 ·
  have hq:=lq_node (w:=true) ht
  refine cl (fu:=⟨0⟩) rfl p_IsLeafN rfl<|?_
  refine kbF 15 rfl ?_
  refine gx rfl<|?_
  exact rz rfl (by rw[hq];rfl)
end Go.Sx
end

section
set_option maxRecDepth 100000
namespace Go.Sx
open Go Go.Proofs
section
variable {GB:Gh} {ai al ae:Addr} (hE:EG GB ai al ae) {j k:Nat} {a b:Tr} (ha:TrX j a) (hb:TrX k b)
include hE ha
theorem p_REmptyV{v:Bool}(h:leafQ false a=v)(hk:j≤1000:=by decide):PF GB Tryz.prog 24 [eA a] (.tp [vB v, .v .nilIface]):=h▸p_REmpty hE ha hk
theorem p_RWholeV{v:Bool}(h:leafQ true a=v)(hk:j≤1000:=by decide):PF GB Tryz.prog 25 [eA a] (.tp [vB v, .v .nilIface]):=h▸p_RWhole hE ha hk
include hb
theorem p_REqV{v:Bool}(h:noneQ 4 a b=v)(hk:j+k≤200:=by decide):PF GB Tryz.prog 21 [eA a,eA b] (.tp [vB v, .v .nilIface]):=h▸p_REq hE ha hb hk
theorem p_RSubV{v:Bool}(h:noneQ 3 a b=v)(hk:j+k≤200:=by decide):PF GB Tryz.prog 26 [eA a,eA b] (.tp [vB v, .v .nilIface]):=h▸p_RSub hE ha hb hk
theorem p_RDisV{v:Bool}(h:noneQ 2 a b=v)(hk:j+k≤200:=by decide):PF GB Tryz.prog 27 [eA a,eA b] (.tp [vB v, .v .nilIface]):=h▸p_RDis hE ha hb hk
end
theorem leaf_x(v:Bool):TrX 0 (.leaf v):=⟨⟨⟨trivial,trivial⟩,Nat.le_refl 0,[],Nat.le_refl 0,(fun _ h=>nomatch h),trivial⟩,Nat.zero_le _⟩
section
variable {GB:Gh} {ai al ae:Addr} (hE:EG GB ai al ae)
include hE
theorem k20_e:PF GB Tryz.prog 24 [.ag [vI (-1), .sl []]] (.tp [vB true, .v .nilIface]):=p_REmptyV hE (leaf_x false) (by decide)
theorem k20_w:PF GB Tryz.prog 25 [.ag [vI (-2), .sl []]] (.tp [vB true, .v .nilIface]):=p_RWholeV hE (leaf_x true) (by decide)
theorem k20_q:PF GB Tryz.prog 21 [.ag [vI (-2), .sl []], .ag [vI (-1), .sl []]] (.tp [vB false, .v .nilIface]):=p_REqV hE (leaf_x true) (leaf_x false) (by decide)
end
theorem q_pairN{GB:Gh}{b:Nat}{es:List Int}(hes:es.length≤400){A B:Tr}(hA:A=(pairF es 0).1.1)(hB:B=(pairF es 0).1.2):PM GB Tryz.prog 19 (mkP [none] b) b 89 [.sl (es.map vI), .v (.int .i64 (0:Nat))] (.tp [eT A,eT B]) [.sl (es.map vI), .v (.int .i64 ((pairF es 0).2:Nat))]:=by
 subst hA hB;exact q_pair hes (Nat.zero_le _)
theorem pairA_size{es:List Int}:(pairF es 0).1.1.size≤342:=by
 have:=region0_size (es:=es) (a:=0) (Nat.zero_le _)
 unfold pairF
 dsimp only
 repeat' split
 all_goals exact this
theorem q_known20{GB:Gh}{ai al ae:Addr}(hE:EG GB ai al ae):PF GB Tryz.prog 23 [] (.v (.bool true)):=by
 refine fn Tryz.func23 rfl rfl Tryz.ntmps23 rfl rfl (fun C=>?_)
 refine cl (fu:=⟨4⟩) rfl (k20_e hE) rfl<|?_
 refine kbT 1 rfl ?_
 refine gx rfl<|cl (fu:=⟨4⟩) rfl (k20_w hE) rfl<|?_
 refine kbT 3 rfl ?_
 refine gx rfl<|cl (fu:=⟨4⟩) rfl (k20_q hE) rfl<|?_
 refine kbF 5 rfl ?_
 refine gx rfl<|?_
 exact rz rfl rfl
set_option maxHeartbeats 4000000 in
theorem q_RelateOrder{GB:Gh}{ai al ae:Addr}(hE:EG GB ai al ae){es0:List Int}(hb:es0.length≤1125899906842624):PF GB Tryz.prog 8 [.sl (es0.map vI)] (.v (.bool true)):=by
 obtain⟨es,hee⟩: ∃es,es=es0.take 400:=⟨_,rfl⟩
 have hes:es.length≤400:=by rw[hee];simp;omega
 obtain⟨hA,hB,hab⟩:=pairF_ok (es:=es) (Nat.zero_le es.length)
 have hs0:=pairA_size (es:=es)
 obtain⟨A,hAe⟩: ∃A,A=(pairF es 0).1.1:=⟨_,rfl⟩
 obtain⟨B,hBe⟩: ∃B,B=(pairF es 0).1.2:=⟨_,rfl⟩
 rw[←hAe] at hA hs0
 rw[←hBe] at hB
 obtain⟨r,hr⟩: ∃r,noneQ 3 A B=r:=⟨_,rfl⟩
 obtain⟨s,hs⟩: ∃s,noneQ 3 B A=s:=⟨_,rfl⟩
 have hp:noneQ 4 A B=(r&&s):=by rw[equal_sub hA.ok hB.ok,hr,hs]
 have hq:noneQ 4 B A=(r&&s):=by rw[←hp,equal_symm hB.ok hA.ok]
 have hM:=TrX.merge (op:=2) hA hB (by decide)
 have hw:=inter_eq hA.ok hB.ok
 have hu:=inter_sub hA.ok hB.ok
 have hd:=compl_disj hA.ok
 refine fn Tryz.func8 rfl rfl Tryz.ntmps8 rfl rfl (fun C=>?_)
 refine cn rfl ((q_NewT hb hee)) (fun _=>rfl) (fun _=>?_)
 refine cm rfl (fun b=>(q_pairN hes hAe hBe)) rfl<|cl rfl (q_WriteX hA) rfl<|cl rfl (q_WriteX hB) rfl<|?_
 rcases r with _|_
 ·
  refine cl rfl (p_REqV hE hA hB (v:=false) hp) rfl<|cl rfl (p_REqV hE hB hA (v:=false) hq) rfl<|cl (fu:=⟨4⟩) rfl (p_RSubV hE hA hB hr) rfl<|?_
  refine kbF 11 rfl ?_
  refine gx rfl<|cl (fu:=⟨27⟩) rfl (p_RSubV hE hB hA hs) rfl<|knF (fu:=⟨7⟩) rfl (by show some _=some false;simp) rfl<|knF rfl (by show some _=some false;simp) rfl<|?_
  refine cl rfl (p_MMergeX hE (by decide) hA hB (by decide)) rfl<|cl rfl (p_MComplX hE hA) rfl<|cl (fu:=⟨4⟩) rfl (p_RSubV hE hM hB hu) rfl<|?_
  refine kbT 17 rfl ?_
  refine gx rfl<|cl (fu:=⟨4⟩) rfl (p_RDisV hE hA hA.compl hd) rfl<|?_
  refine kbT 18 rfl ?_
  refine gx rfl<|cl rfl (p_REqV hE hM hA (hw.trans hr)) rfl<|cl (fu:=⟨0⟩) rfl (q_known20 hE) rfl<|knT (fu:=⟨28⟩) rfl rfl rfl<|knT rfl (by show some _=some true;simp) rfl<|?_
  exact rz rfl rfl
 ·
  refine cl rfl (p_REqV hE hA hB (v:=s) hp) rfl<|cl rfl (p_REqV hE hB hA (v:=s) hq) rfl<|cl (fu:=⟨4⟩) rfl (p_RSubV hE hA hB hr) rfl<|?_
  refine kbT 11 rfl ?_
  refine gx rfl<|cl (fu:=⟨27⟩) rfl (p_RSubV hE hB hA hs) rfl<|knF (fu:=⟨7⟩) rfl (by show some _=some false;simp) rfl<|knF rfl (by show some _=some false;simp) rfl<|?_
  refine cl rfl (p_MMergeX hE (by decide) hA hB (by decide)) rfl<|cl rfl (p_MComplX hE hA) rfl<|cl (fu:=⟨4⟩) rfl (p_RSubV hE hM hB hu) rfl<|?_
  refine kbT 17 rfl ?_
  refine gx rfl<|cl (fu:=⟨4⟩) rfl (p_RDisV hE hA hA.compl hd) rfl<|?_
  refine kbT 18 rfl ?_
  refine gx rfl<|cl rfl (p_REqV hE hM hA (hw.trans hr)) rfl<|cl (fu:=⟨0⟩) rfl (q_known20 hE) rfl<|knT (fu:=⟨28⟩) rfl rfl rfl<|knT rfl (by show some _=some true;simp) rfl<|?_
  exact rz rfl rfl
end Go.Sx
end

section
set_option maxRecDepth 100000
namespace Go.Sx
open Go Go.Proofs Go.ChangeShapes Go.WideShapes Go.ChangeAt Go.RowKit
def GW(w:World):Gh:=fun b=>match w.heap[b]? with|some (.cells cs _ _)=>some cs.toList|_=>none
theorem GW.sub{w:World}{b:Nat}{cs:List Value}(h:GW w b=some cs): ∃ty fz,w.heap[b]? =some (.cells ⟨cs⟩ ty fz):=by
 unfold GW at h
 split at h
 ·rename_i c t f e
  cases h
  exact⟨t,f,by rw[e]⟩
 ·cases h
theorem GW.of_cell{w:World}{b off:Nat}{v:Value}(h:w.cell? ⟨b,off,none⟩=some v): ∃cs,GW w b=some cs∧cs[off]? =some v:=by
 unfold World.cell? at h
 unfold GW
 split at h
 ·rename_i c t f e
  simp only at e
  refine⟨c.toList,by rw[e],?_⟩
  simpa using h
 all_goals first|(rename_i e;cases h)|cases h
theorem HRel.below{w w':World}{G G':Gh}{own:List Own}(h:HRel ⟨w,G,[]⟩ own G' w'):Below w.heap.size w w':=
 ⟨h.os,h.tape,h.output,h.size,fun k hk=>h.keep k hk (by simp)⟩
theorem isLs_vI{G:Gh}: ∀es:List Int,IsLs G (es.map vI) (es.map fun n=>Value.int .i64 n)
 |[]=> .nil
 |n::t=> .cons (is_v.2 rfl) (isLs_vI t)
theorem open_vI{base:Nat}{H:Type}{enc:TypeId×Value→H}{P:Program}{w:World}{t e:TypeId}{v:Value}{d:DataW H}{ps:List MemPlace}(ht:P.underlying t=some (.slice e))(he:P.underlying e=some (.int .i64))(hc:P.cellsOf e=1)
  (hv:Value.okWide P w .any base t v)(h:DataW.Trod enc P w 0 (fun _=>true) true t v d ps):
  ∃es:List Int,Is (GW w) (.sl (es.map vI)) v∧(d= .nil∧es=[]∨ ∃sp,d= .slice (lits .i64 es) sp)∧(∀n∈es,(Lit.int .i64 n).wf=true):=by
 obtain⟨a0,len,cap,rfl⟩:=okWide_slice ht hv
 obtain⟨fuel,hf⟩:=h
 rcases open_ints ht he hc hf with⟨hcs,hx⟩|⟨a,len',cap',zs,hcs,_,hl,hm,hz,hx,hcell,hwz⟩
 ·simp[Value.cells] at hcs
  obtain⟨rfl,rfl,rfl⟩:=hcs
  simp only[Prod.mk.injEq] at hx
  exact⟨[],is_sl.2 ⟨0,⟨none,0,0⟩,[],rfl,IsSl.nil _ 0, .nil⟩, .inl ⟨hx.1,rfl⟩,by simp⟩
 ·simp[Value.cells] at hcs
  obtain⟨rfl,rfl,rfl⟩:=hcs
  simp only[Prod.mk.injEq] at hx
  simp only[if_true] at hz
  refine⟨zs.take len,is_sl.2 ⟨1,⟨some a,len,cap⟩,(zs.take len).map fun n=>Value.int .i64 n,rfl,⟨by simp;omega,hl,?_⟩,isLs_vI _⟩, .inr ⟨_,hx.1⟩,fun n hn=>hwz n (List.mem_of_mem_take hn)⟩
  by_cases h0:len=0
  ·exact .inl (by simp[h0])
  ·right
   obtain⟨b,off,spot⟩:=a
   have hspot:spot=none:=by simpa[Addr.add] using World.cell?_spot (hcell 0 (by omega))
   subst hspot
   have c0: ∀i,i<zs.length→w.cell? ⟨b,off+i,none⟩=some (.int .i64 (zs.getD i 0)):=fun i hi=>by
    have:=hcell i hi
    rwa [Go.WideShapes.add_plain] at this
   obtain⟨cs,hcs,_⟩:=GW.of_cell (by simpa using c0 0 (by omega))
   refine⟨b,off,cs,rfl,hcs,fun i hi=>?_⟩
   simp only[List.length_map,List.length_take] at hi
   obtain⟨cs',hcs',hi'⟩:=GW.of_cell (c0 i (by omega))
   rw[hcs] at hcs'
   cases hcs'
   rw[Nat.mul_one,takeL_one.2 hi']
   simp[cellsL,List.getD,List.getElem?_eq_getElem (show i<zs.length by omega)]
end Go.Sx
end

section
set_option maxRecDepth 100000
namespace Go.Sx
open Go Go.Proofs Go.ChangeShapes Go.WideShapes Go.ChangeAt Go.RowKit
inductive CSh where
 |b
 |i (k:IntKind)
 |sl (ag:Bool) (l:List CSh)
mutual
def Fit:CSh→DV→Prop
 | .b,d=> ∃b,d= .v (.bool b)
 | .i k,d=> ∃n,d= .v (.int k n)∧(Lit.int k n).wf=true
 | .sl ag l,d=> ∃m:List DV,d= .sl m∧m.length≤maxLen∧ ∀x∈m,∃ys,FitL l ys∧((ag=true∧x= .ag ys)∨(ag=false∧ys=[x]))
def FitL:List CSh→List DV→Prop
 |[],ds=>ds=[]
 |s::l,ds=> ∃d t,ds=d::t∧Fit s d∧FitL l t
end
def flatF(r:TypeId→Option (Bool×List CSh))(P:Program):List Field→Nat→Option (List CSh)
 |[],_=>some []
 |f::fs,o=>match r f.type with
  |some (_,l)=>if f.offset=o∧P.cellsOf f.type=l.length then(flatF r P fs (o+l.length)).map (l++ ·) else none
  |none=>none
def flatT(P:Program):Nat→TypeId→Option (Bool×List CSh)
 |0,_=>none
 |n+1,t=>match P.underlying t with
  |some .bool=>some (false,[.b])
  |some (.int k)=>some (false,[.i k])
  |some (.slice e)=>match flatT P n e with
   |some (a,l)=>if P.cellsOf e=l.length∧0<l.length then some (false,[.sl a l]) else none
   |none=>none
  |some (.struct fs)=>match flatF (flatT P n) P fs.toList 0 with
   |some l=>if P.cellsOf t=l.length then some (true,l) else none
   |none=>none
  |_=>none
section
variable {H:Type} {enc:TypeId×Value→H} {P:Program} {w:World}
end
def shI:List CSh:=[.b, .sl false [.i .u32]]
def shL:List CSh:=shI++(shI++shI)
theorem es_star: "*" ++ "errors.errorString" = "*errors.errorString" :=by decide
theorem es_row(u:TypeId)(h:Tryz.prog.typeName? 3 u=some "*errors.errorString"):u=374:=
 typeName_ptr_named (nm:= "errors.errorString") (by rw[es_star];kernel_rfl) (by kernel_rfl) (by decide) u (by rw[es_star];exact h)
theorem sent_of{W:World}{n:String}{g:Nat}{text:List UInt8}{r:List (String×DataW Unit)}(h:laidMet Tryz.prog ((n, .iface "*errors.errorString" (.ptr (.agg [.lit (.string text)])))::r) W)(hg:Tryz.prog.globalNamed n=some g)(ht:(Tryz.prog.globals[g]?).map (·.type)=some 32):
  ∃a,GW W g=some [.iface 374 (.pointer (some a))]:=by
 obtain⟨a,s,hv,_⟩:=laid_sentinel h hg ht Tryz.underlying32 es_row Tryz.underlying374 Tryz.underlying399 rfl rfl Tryz.underlying9 (by kernel_rfl) (by kernel_rfl)
 refine⟨a,?_⟩
 unfold World.var? at hv
 rw[hg,Option.bind_some] at hv
 unfold GW
 split at hv
 ·rename_i c t f e
  rw[e];cases hv;rfl
 ·cases hv
theorem laid_plain{W:World}{l:List (String×DataW Unit)}(h:laidMetH Tryz.prog l W)(hp:(l.all fun x=>x.2.handleName?.isNone)=true):laidMet Tryz.prog l W:=by rwa [Go.MakeChecks.laidMetH_plain _ _ _ hp] at h
end Go.Sx
end

section
set_option maxRecDepth 100000
namespace Go.Proofs.YtlnphbkcelfboaaGreatDoor.relateOrder
open Go.ChangeShapes Go.WideShapes Go.ChangeAt Go.RowKit Go.Sx
theorem own:ownKnob Tryz.prog.godebug=none:=by kernel_rfl
theorem laidOut:laidOutB Tryz.prog=true:=by kernel_rfl
theorem cellsI:Tryz.prog.cellsOf 3=1:=by kernel_rfl
theorem bytesI:Tryz.prog.bytesOf 3=8:=by kernel_rfl
theorem door_met(os:Os)(args:Array Value):laidMetH Tryz.prog Rows.relateOrderRow.laid ((World.doorLaid Tryz.prog 66 os).forCall (fun _ _=>0) ⟨#[],args,[]⟩).memory:=
 laidMetH_of_parts3 (fuel:=8) (laidMet_of_run' 8 (by kernel_rfl) (by kernel_rfl)) (by kernel_rfl) (by kernel_rfl)
theorem eg_of{W:World}(h:laidMetH Tryz.prog Rows.relateOrderRow.laid W): ∃ai al ae,EG (GW W) ai al ae:=by
 have h1:=laid_plain h rfl
 obtain⟨ai,hi⟩:=sent_of (g:=0) h1 (by kernel_rfl) (by kernel_rfl)
 obtain⟨al,hl⟩:=sent_of (g:=2) h1.tail (by kernel_rfl) (by kernel_rfl)
 exact⟨ai,al,al,hi,hl⟩
theorem contract(H:Type)(enc:TypeId×Value→H)(W:World)(base:Nat)(args:Array Value)(ds gs:List (DataW H))(before:List MemPlace)
  (hval: ∀(j:Nat) t v,Tryz.f8.params[j]? =some t→args[j]? =some v→Value.okWide Tryz.prog W .any base t v)
  (hW:DataW.Whole enc Tryz.prog Tryz.f8.params.toList Rows.relateOrderSpec.vars false W args.toList ds gs before)
  (hz:(DataW.weightsEach Tryz.prog (Tryz.f8.params.toList++(OpenSpec.ofChange Rows.relateOrderSpec).bare.plain.varTypes Tryz.prog) (ds++gs)).all (· ≤reachBytes)=true)(hlaid:laidMetH Tryz.prog Rows.relateOrderRow.laid W):
  Calls Tryz.prog 8 args W fun e W'=> ∃v,e= .returned v∧Rows.relateOrderSpec.post enc Tryz.prog Tryz.f8 false true false false W args v W':=by
 have hW':=hW
 obtain⟨p,q,hA0,hV,rfl,_,_⟩:=hW
 have hA:DataW.TrodAll enc Tryz.prog W 0 (fun _=>true) true Tryz.f8.params.toList args.toList ds p:=hA0
 rw[Tryz.params8] at hA hval hz
 obtain⟨v0,d0,hargs,rfl,h0⟩:=trodAll_one hA
 obtain rfl:args= #[v0]:=by cases args;simp_all
 obtain⟨rfl,rfl⟩:=trodVars_none hV
 clear hA0
 simp only[List.append_nil] at hW'
 have hlt: ∀x∈p,x.block<W.heap.size:=fun x hx=>by simpa using hW'.lt x hx
 obtain⟨es,hI,hd,_⟩:=open_vI Tryz.underlying22 Tryz.underlying3 cellsI (hval 0 22 v0 rfl rfl) h0
 have hb:es.length≤1125899906842624:=by
  rcases hd with⟨rfl,rfl⟩|⟨sp,rfl⟩
  ·exact Nat.zero_le _
  ·have:=sized_slice hz (j:=0) (t:=22) (e:=3) rfl rfl Tryz.underlying22
   rw[bytesI] at this
   have hr:=reachBytes_lt
   have hl:(lits (H:=H) .i64 es).length=es.length:=by simp[lits]
   rw[hl] at this
   omega
 obtain⟨ai,al,ae,hE⟩:=eg_of hlaid
 have hf:=(q_RelateOrder hE (es0:=es) hb) (GW W) [v0] (GLe.refl _) (.cons hI .nil)
 refine(hf.run W (fun b cs hg=>GW.sub hg)).mono fun e W' ⟨v,G',he,hr,hv⟩=>?_
 rw[is_v] at hv
 subst hv
 subst he
 have hn:=hr.below
 have t2:=trodAll_mk1 (Below.trod laidOut (by kernel_rfl) (of_decide_eq_true (by kernel_rfl)) h0 hn hlt)
 exact⟨_,rfl,⟨_,_,_,[],_,[],hW',trodAll_mk1 (shut_bool Tryz.underlying4 _),t2,rfl,hn.frame _,fun h=>by cases h⟩⟩
theorem reads(os:Os){H:Type}(enc:TypeId×Value→H): ∃places,DataW.whole enc Tryz.prog ((World.doorLaid Tryz.prog 66 os).forCall (fun _ _=>0) ⟨#[], #[.slice none 0 0],[]⟩).memory Tryz.f8.params.toList Rows.relateOrderSpec.vars false #[Value.slice none 0 0].toList 8=some ([.nil],[],places):=
 ⟨[],by kernel_rfl⟩
theorem lifted(os:Os)(started:os.Started)(H:Type)(enc:TypeId×Value→H)(F:Stop.Interp):
  ReturnsInHanded {} Tryz.checked os 8 .any ((OpenSpec.ofChange Rows.relateOrderSpec).preRow enc Tryz.prog Tryz.f8 Rows.relateOrderRow.domain false Rows.relateOrderRow.laid) (((OpenSpec.ofChange Rows.relateOrderSpec).at F).post enc Tryz.prog Tryz.f8 false true false false):=by
 obtain⟨places,hx⟩:=reads os enc
 refine returnsInHanded_of_row (C:=Tryz.checked) (s:=OpenSpec.ofChange Rows.relateOrderSpec) own started (by kernel_rfl) Tryz.func8
  (witness_row_atRef (enc:=enc) (C:=Tryz.checked) false (World.doorLaid Tryz.prog 66 os) #[.slice none 0 0] rfl (by kernel_rfl) (by kernel_rfl) (by kernel_rfl)
   (OpenSpec.preRow_of_cond 8 hx (by kernel_rfl) (fun k hk=>by cases hk) (by kernel_rfl) (door_met os _))) ?_
 intro W base args ds gs before hval hW _ _ hz hlaid _ _
 exact contract H enc W base args ds gs before hval hW hz hlaid
theorem j1:(Rows.relateOrderRow.inPlace==Tryz.pinned.checked.prog.inPlace 8)=true:=by kernel_rfl
theorem j2:(Rows.relateOrderRow.unfollowed==Tryz.pinned.checked.prog.unfollowed 8)=true:=by kernel_rfl
theorem j3:(Rows.relateOrderRow.recurses==Tryz.pinned.checked.prog.recurses 8)=true:=by kernel_rfl
theorem j4:(Rows.relateOrderRow.named==Tryz.pinned.checked.prog.varsNamed 8)=true:=by kernel_rfl
theorem j5:laidOutB Tryz.pinned.checked.prog=true:=laidOut
theorem j6:mapsRowed Tryz.pinned.checked.prog=true:=by kernel_rfl
theorem j7:Tryz.pinned.checked.prog.mainIs=some (Rows.relateOrderCard.stood.harness.1,Rows.relateOrderCard.stood.harness.2.toList):=by kernel_rfl
theorem j8:false=Rows.relateOrderRow.goesBy Tryz.pinned.checked.prog:=by kernel_rfl
theorem closed:joinedFacts Tryz.pinned.checked.prog 8 Tryz.f8 (OpenSpec.ofChange Rows.relateOrderSpec).bare Rows.relateOrderRow=true:=by
 unfold joinedFacts
 rw[j1,j2,j3,j4,j5,j6]
 kernel_rfl
theorem said:Rows.RelateOrderSaid:=
 OpenClaim.holds_of_cond 8 Tryz.f8 rfl rfl rfl rfl rfl rfl rfl ⟨rfl,rfl,rfl,rfl,rfl⟩ rfl rfl rfl rfl rfl (by kernel_rfl) Tryz.func8 closed
  (of_decide_eq_true (by kernel_rfl)) (by unfold Func.isWrapper;first|(rw[if_pos (by decide+kernel)];kernel_rfl)|(rw[if_neg (by decide+kernel)];exact⟨rfl,rfl⟩))
  (fun os started H enc _ F=>by rw[OpenClaim.pre_eq_preRow];exact lifted os started H enc F)
theorem plain(f:FuncId)(fn:Func)(hf:Tryz.pinned.checked.prog.funcNamed "bspregion/bspregionlaw20.RelateOrder" =some f)(hfn:Tryz.pinned.checked.prog.funcs[f]? =some fn):
  true=Tryz.pinned.checked.prog.looks []∧ ∀(j:Nat) t,fn.params[j]? =some t→Tryz.pinned.checked.prog.wantsStandIn t=false:=by
 obtain rfl:f=8:=Option.some.inj ((show Tryz.prog.funcNamed "bspregion/bspregionlaw20.RelateOrder" =some 8 by kernel_rfl).symm.trans hf) |>.symm
 obtain rfl:fn=Tryz.f8:=(Option.some.inj (Tryz.func8.symm.trans hfn)).symm
 refine⟨by kernel_rfl,fun j t ht=>?_⟩
 rw[Tryz.params8] at ht
 have hm:=Array.mem_of_getElem? ht
 simp only[List.mem_toArray,List.mem_cons,List.not_mem_nil,or_false] at hm
 subst hm
 exact(show Tryz.prog.wantsStandIn 22=false by kernel_rfl)
theorem card:Rows.RelateOrderCardSaid:=
 Claim7.holds_tied_plain_at .later [] _ _ _ _ said (fun _ h=>by cases h) (by kernel_rfl) (fun _ h=>by cases h) relateOrder_row_tie rfl ⟨rfl,rfl⟩ j7 rfl plain j8
#print axioms card
end Go.Proofs.YtlnphbkcelfboaaGreatDoor.relateOrder
end
