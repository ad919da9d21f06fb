/-
  Reference: raw trees of rings. Reference: trees of rings, complements, merges. Reference: rings, half-planes and regions of the tape. Reference: trees as they come. Trees of package api read back. Law 19: the operations at trees of package api; the sanity check. Pairs of regions of the tape, as functions; their sizes. Reference: convex rings, half-planes and regions of the tape. The abstract machine: the last two bits of a signed number. Pairs of regions of the tape; the law MergeMakes: its walk. Plain laws: the algebra of merged regions, by points. The law MergeAlgebra: its walk. From deep values to a row's statement: the memory of a call's start as frozen cells, its slices of integers, what is left of old memory at the end.
-/
import Derived.Test.YtlnphbkcelfboaaGreatDoorMt17
import Derived.Test.YtlnphbkcelfboaaGreatDoorCards
import Derived.Test.YtlnphbkcelfboaaGreatDoorTie
import Derived.WalkKit
import Derived.ProofKit
import Derived.OpenShut
import Derived.Deep.DeepHandedRow
import Derived.Deep.DeepWitnessRowRef
import Derived.LaidMore
import Derived.Lib.LaidTab
import Derived.SizedLaws
set_option linter.unusedSimpArgs false
set_option linter.unusedVariables false
section
set_option maxRecDepth 100000
namespace Go.Sx
open Go Go.Proofs
theorem fromN_run{cuts:List Rat}{marks:List Bool}: ∀k,2*(fromN cuts marks k).length≤k+(if 0<k∧marks.getD (k-1) false=true then 1 else 0)
 |0=>by rw[fromN];simp
 |k+1=>by
  have ih:=fromN_run (cuts:=cuts) (marks:=marks) k
  rw[fromN]
  simp only[Nat.add_sub_cancel]
  by_cases hm:marks.getD k false=true
  ·rw[if_pos hm,if_pos (show 0<k+1∧marks.getD k false=true from⟨by omega,hm⟩)]
   by_cases hp:0<k∧marks.getD (k-1) false=true
   ·rw[if_pos hp] at ih⊢
    cases hv:(fromN cuts marks k).getLast? with
    |some v=>
     have:0<(fromN cuts marks k).length:=by
      cases e:fromN cuts marks k with
      |nil=>rw[e] at hv;simp at hv
      |cons a t=>simp
     show 2*((fromN cuts marks k).dropLast++[_]).length≤_
     rw[List.length_append,List.length_dropLast,List.length_singleton];omega
    |none=>
     have:fromN cuts marks k=[]:=List.getLast?_eq_none_iff.1 hv
     simp only[this];simp
   ·rw[if_neg hp] at ih⊢
    rw[List.length_append,List.length_singleton];omega
  ·rw[if_neg hm]
   split at ih<;>split<;>omega
theorem comb_run(op:Int)(a b:List IvQ):(combQ op a b).length≤a.length+b.length+1:=by
 unfold combQ fromQ
 have h:=fromN_run (cuts:=endsQ (a++b)) (marks:=(gapsR (endsQ (a++b))).map fun t=>markQ op (insQ2 a t) (insQ2 b t)) ((gapsR (endsQ (a++b))).map fun t=>markQ op (insQ2 a t) (insQ2 b t)).length
 have h2:=endsQ_len (a++b)
 rw[List.length_append] at h2
 have h3:((gapsR (endsQ (a++b))).map fun t=>markQ op (insQ2 a t) (insQ2 b t)).length=(endsQ (a++b)).length+1:=by rw[List.length_map,gapsR_len]
 split at h<;>omega
theorem split_len(f:FrQ)(m:LnQ)(side:Int):(splitS f m side).length≤3:=by
 unfold splitS
 split
 ·simp
 ·rw[List.length_map]
  have:=comb_run 2 [f.v] (halfQ f.l m side)
  have h2:=half_len (l:=f.l) (m:=m) (side:=side)
  rw[List.length_singleton] at this
  omega
theorem nearStep_bd{p v:PtQ}{m:LnQ}{s:Rat}[hp:BPt p 4500][hv:BPt v 97][hm:LB m](hs:BQ s 60000):BQ (nearStep p v m s) 60000:=by
 unfold nearStep nearT
 split
 ·exact hs
 ·split
  ·exact hs
  ·split
   ·split
    ·haveI:BQ (-(m.value p/(m.value (movQ p v ((1:Int):Rat))-m.value p))) 45000:=BQ.mono inferInstance (by decide)
     exact BQ.mono (inferInstance:BQ (-(m.value p/(m.value (movQ p v ((1:Int):Rat))-m.value p))/2) _) (by decide)
    ·exact hs
   ·exact hs
theorem nearS_bd{p v:PtQ}[hp:BPt p 4500][hv:BPt v 97]: ∀{c:List LnQ} {s:Rat},(∀m∈c,LB m)→BQ s 60000→BQ (nearS p v c s) 60000
 |[],_,_,hs=>hs
 |m::t,s,hc,hs=>by
  haveI:=hc m List.mem_cons_self
  exact nearS_bd (c:=t) (fun q hq=>hc q (List.mem_cons_of_mem _ hq)) (nearStep_bd hs)
theorem innerP_bd{c:List LnQ}(hc: ∀m∈c,LB m)(hok: ∀m∈c,m.ok): ∀{t:List LnQ},(∀m∈t,m∈c)→BPt (innerP c t) 70000
 |[],_=>by
  have h0:BQ (0:Rat) 70000:=BQ.mono (k:=1) ⟨by decide,by decide⟩ (by decide)
  exact⟨h0,h0⟩
 |m::t,h=>by
  have hm:=h m List.mem_cons_self
  haveI:=hc m hm
  rw[innerP]
  split
  ·have hbd:=edgeV_bd (v:=IvQ.all) (hok m hm).ne hc IvZ.all (BQ.mono (k:=1) ⟨by decide,by decide⟩ (by decide)) (BQ.mono (k:=1) ⟨by decide,by decide⟩ (by decide))
   haveI:=hbd.1
   haveI:=hbd.2
   haveI hsb:=sample_bd (v:=(edgeV m c IvQ.all).1) (i:=1200)
   haveI hpt:BPt (m.at (sampleR (edgeV m c IvQ.all).1)) 4500:=by have:=BPt.at m (sampleR (edgeV m c IvQ.all).1) (1200+1200+5);exact⟨this.x.mono (by decide),this.y.mono (by decide)⟩
   haveI hvt:BPt (turnP m.dir) 97:=inferInstance
   haveI hns:BQ (nearS (m.at (sampleR (edgeV m c IvQ.all).1)) (turnP m.dir) c ((1:Int):Rat)) 60000:=nearS_bd hc (BQ.mono (k:=2) ⟨by decide,by decide⟩ (by decide))
   have:=BPt.mov (m.at (sampleR (edgeV m c IvQ.all).1)) (turnP m.dir) (nearS (m.at (sampleR (edgeV m c IvQ.all).1)) (turnP m.dir) c ((1:Int):Rat)) 4500 97 60000
   exact⟨this.x.mono (by decide),this.y.mono (by decide)⟩
  ·exact innerP_bd hc hok (fun q hq=>h q (List.mem_cons_of_mem _ hq))
theorem flat_snoc{l:List FrQ}{k:Nat}{g:FrQ}{m:LnQ}{side:Int}(h:l[k]? =some g):(l.take (k+1)).flatMap (fun g=>splitS g m side)=(l.take k).flatMap (fun g=>splitS g m side)++splitS g m side:=by
 rw[List.take_add_one,h,List.flatMap_append];simp
theorem flat_len(l:List FrQ)(m:LnQ)(side:Int):(l.flatMap fun g=>splitS g m side).length≤3*l.length:=by
 induction l with
 |nil=>simp
 |cons a t ih=>rw[List.flatMap_cons,List.length_append,List.length_cons];have:=split_len a m side;omega
theorem rawT_nil{acc:PtQ→Bool}{n:Nat}{c:List LnQ}:rawT acc n [] c= .leaf (acc (innerP c c)):=by cases n<;>rfl
theorem q_Raw_leaf{GB:Gh}{rs:List (List ZP)}{fill:Int}(hrs: ∀r∈rs,RingOk r)(hrn:rs.length≤100){n:Nat}{c:List LnQ}(hc: ∀m∈c,LB m)(hok: ∀m∈c,m.ok)(hn:c.length≤900):PF GB Tryz.prog 105 [eRR rs fill, .sl [], .sl (c.map eL)] (eT (rawT (inR rs fill) n [] c)):=by
 haveI hpb:=innerP_bd hc hok (t:=c) (fun _ h=>h)
 refine fn (fu:=⟨11⟩) Tryz.func105 J J Tryz.ntmps105 J J (fun C=>?_)
 refine knT J J J<|cl rfl (q_Inner (c:=c) hc hok (by omega)) rfl<|cl rfl (q_RIn (p:=innerP c c) (i:=70000) hrs hrn (by decide)) rfl<|cl rfl (q_CodeT (p:=inR rs fill (innerP c c))) rfl<|?_
 exact rz rfl (by rw[rawT_nil];rfl)
set_option maxHeartbeats 2000000 in
theorem q_Raw_node{GB:Gh}{rs:List (List ZP)}{fill:Int}(hrs: ∀r∈rs,RingOk r)(hrn:rs.length≤100){n:Nat}{f:FrQ}{t:List FrQ}{c:List LnQ}(hfew:Few (n+1) (f::t))(hfo: ∀g∈f::t,FOk g)(hlen:(f::t).length*3^(n+1)≤6973568802)(hc: ∀m∈c,LB m)(hok: ∀m∈c,m.ok)(hn:c.length+(n+1)≤900)(ih: ∀{l:List FrQ} {c:List LnQ},Few n l→(∀f∈l,FOk f)→l.length*3^n≤6973568802→(∀m∈c,LB m)→(∀m∈c,m.ok)→c.length+n≤900→PF GB Tryz.prog 105 [eRR rs fill, .sl (l.map eFF), .sl (c.map eL)] (eT (rawT (inR rs fill) n l c))):PF GB Tryz.prog 105 [eRR rs fill, .sl ((f::t).map eFF), .sl (c.map eL)] (eT (rawT (inR rs fill) (n+1) (f::t) c)):=by
 obtain⟨l,hl⟩: ∃l,l=f::t:=⟨_,rfl⟩
 have hl0:l[0]? =some f:=by rw[hl];rfl
 rw[←hl] at hfew hfo hlen⊢
 have hm:=map_len' eFF l
 have hfl:=hfo f (List.mem_of_getElem? hl0)
 haveI:=hfl.lb
 have hlp:0<l.length:=by rw[hl];simp
 have hlb:l.length≤6973568802:=Nat.le_trans (Nat.le_mul_of_pos_right _ (Nat.pow_pos (by decide))) hlen
 refine fn (fu:=⟨11⟩) Tryz.func105 J J Tryz.ntmps105 J J (fun C=>?_)
 refine eqF 17 (.d (vI (l.length:Nat))) rfl (by rw[hm]<;>rfl) ?_
 refine gx (fu:=⟨0⟩) rfl<|knF rfl (by show some (decide _)=some false;rw[decide_eq_false (by omega)]) rfl<|ix (fu:=⟨17⟩) _ rfl (map_getS (i:=0) hl0) rfl<|?_
 refine eqF 33 (.d (vI (l.length:Nat))) rfl (by rw[hm]<;>rfl) ?_
 refine gx rfl<|?_
 refine nr 10 10 186 14 J J J ?_
 refine nr 11 11 186 14 J J J ?_
 refine lp (X:=Nat) (fun k=>[(34, .d (vI (k:Nat))),(10, .rw 10),(11, .rw 11)]) (fun k=>[(10,some (.b 186 14 (((l.take k).flatMap fun g=>splitS g f.l 1).map eFF) true)),(11,some (.b 186 14 (((l.take k).flatMap fun g=>splitS g f.l (-1)).map eFF) true))]) (fun k=>k≤l.length) (fun k=>l.length-k) 0 rfl (Nat.zero_le _) (fun _=>rfl) (fun k hk=>?_)
 have htk:(l.take k).length≤6973568802:=by rw[List.length_take];omega
 have hb1:(((l.take k).flatMap fun g=>splitS g f.l 1).map eFF).length≤20920706406:=by rw[List.length_map];have:=flat_len (l.take k) f.l 1;omega
 have hb2:(((l.take k).flatMap fun g=>splitS g f.l (-1)).map eFF).length≤20920706406:=by rw[List.length_map];have:=flat_len (l.take k) f.l (-1);omega
 refine br (fu2:=⟨0⟩) J J J (fun hc35=>?_) (fun hc35=>?_)
 ·
  obtain⟨g,hz⟩: ∃s,l[k]? =some s:=⟨_,List.getElem?_eq_getElem (by omega)⟩
  have hg:=hfo g (List.mem_of_getElem? hz)
  have hs1:((splitS g f.l 1).map eFF).length≤3:=by rw[List.length_map];exact split_len _ _ _
  have hs2:((splitS g f.l (-1)).map eFF).length≤3:=by rw[List.length_map];exact split_len _ _ _
  refine ix _ rfl (map_getS hz) rfl<|cl rfl (q_Split (f:=g) (m:=f.l) hg hfl.ok) rfl<|ap (hbd:=by omega) (((l.take (k+1)).flatMap fun g=>splitS g f.l 1).map eFF) rfl (by rw[flat_snoc hz,List.map_append]) (slOkFF _) rfl<|?_
  refine ap (hbd:=by omega) (((l.take (k+1)).flatMap fun g=>splitS g f.l (-1)).map eFF) rfl (by rw[flat_snoc hz,List.map_append]) (slOkFF _) rfl<|?_
  refine rnE 46 10 rfl ?_
  refine rnE 49 11 rfl ?_
  exact at_ (k+1) ⟨(by omega),(by omega)⟩
 ·
  obtain rfl:k=l.length:=by omega
  rw[List.take_length]
  refine fzC 10 rfl ?_
  refine fzC 11 rfl ?_
  refine gx rfl<|ro0 J J<|ap (c.map eL) J J (slOkL c) rfl<|rf J J<|apf ((c++[f.l]).map eL) rfl (by rw[List.map_append];rfl) (slOkL [f.l]) rfl<|?_
  refine cl rfl (ih (c:=c++[f.l]) (by subst hl;exact Few.split hfew hfo) (fun g hg=>by obtain⟨q,hq,hg⟩:=List.mem_flatMap.1 hg;exact(split_ok (hfo q hq) hfl.lb g hg).1) (by have:=flat_len l f.l 1;rw[Nat.pow_succ] at hlen;exact Nat.le_trans (Nat.mul_le_mul_right _ this) (by rw[Nat.mul_comm 3,Nat.mul_assoc];rw[Nat.mul_comm (3^n)] at hlen;exact hlen)) (lb_app hc hfl.lb) (ok_app hok hfl.ok) (by rw[List.length_append,List.length_singleton];omega)) rfl<|?_
  refine ro0 J J<|ap (c.map eL) J J (slOkL c) rfl<|cl rfl (q_sRev (l:=f.l)) rfl<|rf J J<|apf ((c++[f.l.rev]).map eL) rfl (by rw[List.map_append];rfl) (slOkL [f.l.rev]) rfl<|?_
  refine cl (fu:=⟨1⟩) rfl (ih (c:=c++[f.l.rev]) (by subst hl;exact Few.split hfew hfo) (fun g hg=>by obtain⟨q,hq,hg⟩:=List.mem_flatMap.1 hg;exact(split_ok (hfo q hq) hfl.lb g hg).1) (by have:=flat_len l f.l (-1);rw[Nat.pow_succ] at hlen;exact Nat.le_trans (Nat.mul_le_mul_right _ this) (by rw[Nat.mul_comm 3,Nat.mul_assoc];rw[Nat.mul_comm (3^n)] at hlen;exact hlen)) (lb_app hc hfl.lb.rev) (ok_app hok hfl.ok.rev) (by rw[List.length_append,List.length_singleton];omega)) rfl<|?_
  refine bxf J J<|?_
  exact rz rfl (by subst hl;rfl)
theorem q_Raw{GB:Gh}{rs:List (List ZP)}{fill:Int}(hrs: ∀r∈rs,RingOk r)(hrn:rs.length≤100): ∀{n:Nat} {l:List FrQ} {c:List LnQ},Few n l→(∀f∈l,FOk f)→l.length*3^n≤6973568802→(∀m∈c,LB m)→(∀m∈c,m.ok)→c.length+n≤900→PF GB Tryz.prog 105 [eRR rs fill, .sl (l.map eFF), .sl (c.map eL)] (eT (rawT (inR rs fill) n l c))
 |n,[],c,_,_,_,hc,hok,hn=>q_Raw_leaf hrs hrn hc hok (by omega)
 |0,f::t,c,hf,_,_,_,_,_=>by
  obtain⟨K,h1,h2⟩:=hf
  obtain⟨m,hm,_⟩:=h2 f List.mem_cons_self
  rw[List.eq_nil_of_length_eq_zero (l:=K) (by omega)] at hm
  cases hm
 |n+1,f::t,c,hf,ho,hl,hc,hok,hn=>q_Raw_node hrs hrn hf ho hl hc hok hn (fun a1 a2 a3 a4 a5 a6=>q_Raw hrs hrn a1 a2 a3 a4 a5 a6)
end Go.Sx
end

section
set_option maxRecDepth 100000
namespace Go.Sx
open Go Go.Proofs
theorem few_self(l:List FrQ):Few l.length l:=⟨l.map FrQ.l,by rw[List.length_map];exact Nat.le_refl _,fun f hf=>⟨f.l,List.mem_map_of_mem hf, .inl rfl⟩⟩
theorem pow_lim{n:Nat}(h:n≤18):n*3^n≤6973568802:=Nat.le_trans (Nat.mul_le_mul h (Nat.pow_le_pow_right (by decide) h)) (by decide)
set_option maxHeartbeats 1000000 in
theorem q_Build{GB:Gh}{rs:List (List ZP)}{fill:Int}(hrs: ∀r∈rs,RingOk r)(hrn:rs.length≤3):PF GB Tryz.prog 51 [eRR rs fill] (eT (buildR rs fill)):=by
 have hm:=map_len' eRg rs
 have hE:=edgesR_ok hrs
 have hraw:=raw_ok (acc:=inR rs fill) hE.2 rfl
 refine fn (fu:=⟨17⟩) Tryz.func51 J J Tryz.ntmps51 J J (fun C=>?_)
 refine eqF 8 (.d (vI (rs.length:Nat))) rfl (by rw[hm]<;>rfl) ?_
 refine gx rfl<|?_
 refine nr 3 3 186 14 J J J ?_
 refine lp (X:=Nat) (fun k=>[(9, .d (vI (k:Nat))),(3, .rw 3)]) (fun k=>[(3,some (.b 186 14 ((edgesR (rs.take k)).map eFF) true))]) (fun k=>k≤rs.length) (fun k=>rs.length-k) 0 rfl (Nat.zero_le _) (fun _=>rfl) (fun k hk=>?_)
 have het:((edgesR (rs.take k)).map eFF).length≤6*k:=by rw[List.length_map];exact edgesR_take hrs k
 refine br J J J (fun hc10=>?_) (fun hc10=>?_)
 ·
  obtain⟨r,hz⟩: ∃s,rs[k]? =some s:=⟨_,List.getElem?_eq_getElem (by omega)⟩
  have hr:=hrs r (List.mem_of_getElem? hz)
  have hel:((edgesZ r).map eFF).length≤6:=by rw[List.length_map];have:=(edges_ok hr).1;have:=hr.n6;omega
  refine ix _ rfl (map_getS hz) rfl<|cl rfl (q_Edges (r:=r) hr) rfl<|ap (hbd:=by omega) ((edgesR (rs.take (k+1))).map eFF) rfl (by rw[edgesR_snoc hz,List.map_append]) (slOkFF _) rfl<|?_
  refine rnE 16 3 rfl ?_
  exact at_ (k+1) ⟨(by omega),(by omega)⟩
 ·
  obtain rfl:k=rs.length:=by omega
  rw[List.take_length]
  refine fz 3 J J<|cl rfl (q_Raw (n:=(edgesR rs).length) (l:=edgesR rs) (c:=[]) hrs (by omega) (few_self _) hE.2 (pow_lim (by have:=hE.1;omega)) (fun m h=>by cases h) (fun m h=>by cases h) (by have:=hE.1;rw[List.length_nil];omega)) rfl<|?_
  refine cl rfl (q_RReduce (t:=rawR rs fill) hraw.gd.lb hraw.gd.ok (by have:=hraw.dp;have:=hE.1;show(rawT _ _ _ _).depth≤900;omega)) rfl<|?_
  exact rz J J
end Go.Sx
end

section
set_option maxRecDepth 100000
namespace Go.Sx
open Go Go.Proofs
end Go.Sx
end

section
set_option maxRecDepth 100000
namespace Go.Sx
open Go Go.Proofs
def nilP:DV:= .v (.pointer none)
def cTd(l:LnQ)(p q:DV):List DV:=[.v (.bool false), .v (.bool false), .v (.bool (decide (l.a<0))),dN l.a.natAbs, .v (.bool (decide (l.b<0))),dN l.b.natAbs, .v (.bool (decide (l.c<0))),dN l.c.natAbs,p,q]
inductive RF (ns:List RN):Int→(Nat→Bool)→DV→Bool→(Nat→Bool)→Prop where
 |leaf (b:Bool) (f:Nat→Bool):RF ns (leafCode b) f (eT (.leaf b)) true f
 |bad (rt:Int) (f:Nat→Bool) (h1:rt≠ -1) (h2:rt≠ -2) (h:rt<0∨(ns.length:Int)≤rt∨(∃k:Nat,rt=k∧k<ns.length∧f k=true)):RF ns rt f nilP false f
 |line (k:Nat) (n:RN) (f:Nat→Bool) (h:ns[k]? =some n) (hf:f k=false) (hl:n.g.ln=none):RF ns (k:Int) f nilP false (setF f k)
 |left (k:Nat) (n:RN) (l:LnQ) (f f2:Nat→Bool) (p:DV) (h:ns[k]? =some n) (hf:f k=false) (hl:n.g.ln=some l) (h1:RF ns n.l (setF f k) p false f2):RF ns (k:Int) f nilP false f2
 |node (k:Nat) (n:RN) (l:LnQ) (f f2 f3:Nat→Bool) (p q:DV) (ok:Bool) (h:ns[k]? =some n) (hf:f k=false) (hl:n.g.ln=some l) (h1:RF ns n.l (setF f k) p true f2) (h2:RF ns n.r f2 q ok f3):RF ns (k:Int) f (.pt (cTd l p q)) ok f3
theorem RF.ptr{ns:List RN}{rt:Int}{f f':Nat→Bool}{p:DV}{ok:Bool}(h:RF ns rt f p ok f'){G:Gh}{v:Value}(hv:Is G p v): ∃a,v= .pointer a:=by
 cases h with
 |leaf=>obtain⟨b,m,e,_⟩:=is_pt.1 hv;exact⟨_,e⟩
 |bad=>exact⟨_,is_v.1 hv⟩
 |line=>exact⟨_,is_v.1 hv⟩
 |left=>exact⟨_,is_v.1 hv⟩
 |node=>obtain⟨b,m,e,_⟩:=is_pt.1 hv;exact⟨_,e⟩
theorem eL_of{G:Gh}{b1 b2 b3:Bool}{l1 l2 l3:List DV}{v:Value}(h:Is G (.ag [.v (.bool b1), .sl l1, .v (.bool b2), .sl l2, .v (.bool b3), .sl l3]) v): ∃x1 x2 x3:SV,v= .agg ⟨[.bool b1, .slice x1.a x1.n x1.c, .bool b2, .slice x2.a x2.n x2.c, .bool b3, .slice x3.a x3.n x3.c]⟩:=by
 obtain⟨m,rfl,g⟩:=is_ag.1 h
 clear h
 obtain⟨v1,m,rfl,h1,h⟩:=isl_cons.1 g
 obtain⟨v2,m,rfl,h2,h⟩:=isl_cons.1 h
 obtain⟨v3,m,rfl,h3,h⟩:=isl_cons.1 h
 obtain⟨v4,m,rfl,h4,h⟩:=isl_cons.1 h
 obtain⟨v5,m,rfl,h5,h⟩:=isl_cons.1 h
 obtain⟨v6,m,rfl,h6,h⟩:=isl_cons.1 h
 rw[isl_nil] at h;subst h
 obtain⟨_,x1,_,rfl,_,_⟩:=is_sl.1 h2
 obtain⟨_,x2,_,rfl,_,_⟩:=is_sl.1 h4
 obtain⟨_,x3,_,rfl,_,_⟩:=is_sl.1 h6
 rw[is_v.1 h1,is_v.1 h3,is_v.1 h5]
 exact⟨x1,x2,x3,rfl⟩
theorem rlD_of{G:Gh}{r:RL}{v:Value}(h:Is G (rlD r) v): ∃(b1 b2 b3:Bool) (x1 x2 x3:SV),v= .tuple #[.agg ⟨[.bool b1, .slice x1.a x1.n x1.c, .bool b2, .slice x2.a x2.n x2.c, .bool b3, .slice x3.a x3.n x3.c]⟩, .bool r.ln.isSome]∧
  ∀l,r.ln=some l→Is G (eL l) (.agg ⟨[.bool b1, .slice x1.a x1.n x1.c, .bool b2, .slice x2.a x2.n x2.c, .bool b3, .slice x3.a x3.n x3.c]⟩):=by
 obtain⟨m,rfl,g⟩:=is_tp.1 h
 obtain⟨v1,m,rfl,h1,h⟩:=isl_cons.1 g
 obtain⟨v2,m,rfl,h2,h⟩:=isl_cons.1 h
 rw[isl_nil] at h;subst h
 have e:decide (r.nm∧r.l.ok)=r.ln.isSome:=by
  unfold RL.ln
  split
  ·rename_i h;rw[decide_eq_true h];rfl
  ·rename_i h;rw[decide_eq_false h];rfl
 rw[is_v.1 h2,e]
 by_cases hn:r.nm
 ·rw[if_pos hn] at h1
  obtain⟨x1,x2,x3,rfl⟩:=eL_of h1
  refine⟨_,_,_,x1,x2,x3,rfl,fun l hl=>?_⟩
  obtain⟨_,_,rfl⟩:=RL.ln_some hl
  exact h1
 ·rw[if_neg hn] at h1
  obtain⟨x1,x2,x3,rfl⟩:=eL_of h1
  refine⟨_,_,_,x1,x2,x3,rfl,fun l hl=>?_⟩
  exact absurd (RL.ln_some hl).1 hn
theorem rfLeaf{G:Gh}{b:Bool}:IsLs G (cT (.leaf b)) [.bool true, .bool b, .bool false, .slice none 0 0, .bool false, .slice none 0 0, .bool false, .slice none 0 0, .pointer none, .pointer none]:=by
 have hs:Is G (.sl []) (.slice none 0 0):=is_sl.2 ⟨0,⟨none,0,0⟩,[],rfl, .nil G 0, .nil⟩
 exact .cons (is_v.2 rfl) (.cons (is_v.2 rfl) (.cons (is_v.2 rfl) (.cons hs (.cons (is_v.2 rfl) (.cons hs (.cons (is_v.2 rfl) (.cons hs (.cons (is_v.2 rfl) (.cons (is_v.2 rfl) .nil)))))))))
theorem node_cells{acs:List Value}{o:Nat}{a b c d e f l r:Value}(h:takeL acs o 8=some [a,b,c,d,e,f,l,r]):takeL acs (o+0) 6=some [a,b,c,d,e,f]∧acs[o+6]? =some l∧acs[o+7]? =some r:=by
 obtain⟨_,hg⟩:=takeL_spec _ _ _ _ h
 have h7:=hg 7 (by decide)
 have hlen:=(List.getElem?_eq_some_iff.1 h7).1
 refine⟨?_,hg 6 (by decide),h7⟩
 rw[takeL_of _ _ _ (by omega)]
 congr 1
 apply List.ext_getElem?
 intro i
 rw[List.getElem?_take]
 split
 ·rename_i hi
  rw[List.getElem?_drop]
  have:=hg i (by omega)
  rw[Nat.add_zero,this]
  match i,hi with
  |0,_=>rfl
  |1,_=>rfl
  |2,_=>rfl
  |3,_=>rfl
  |4,_=>rfl
  |5,_=>rfl
 ·rename_i hi
  rw[List.getElem?_eq_none (by simp only[List.length_cons,List.length_nil];omega)]
theorem cTd_is{G:Gh}{l:LnQ}{p q:DV}{a b c d e f v w:Value}(h:Is G (eL l) (.agg ⟨[a,b,c,d,e,f]⟩))(hp:Is G p v)(hq:Is G q w):IsLs G (cTd l p q) [.bool false, .bool false,a,b,c,d,e,f,v,w]:=by
 obtain⟨m,e',g⟩:=is_ag.1 h
 cases e'
 obtain⟨h1,g⟩:=g.uncons
 obtain⟨h2,g⟩:=g.uncons
 obtain⟨h3,g⟩:=g.uncons
 obtain⟨h4,g⟩:=g.uncons
 obtain⟨h5,g⟩:=g.uncons
 obtain⟨h6,g⟩:=g.uncons
 exact .cons (is_v.2 rfl) (.cons (is_v.2 rfl) (.cons h1 (.cons h2 (.cons h3 (.cons h4 (.cons h5 (.cons h6 (.cons hp (.cons hq .nil)))))))))
set_option maxHeartbeats 2000000 in
theorem rf_read{A:Gh}{ns:List RN}{x:SV}{r0:Int}(hx:NRow x ns A)(hs: ∀n∈ns,n.g.sm)(hn:ns.length≤1000000){rt:Int}{f f':Nat→Bool}{p:DV}{ok:Bool}(h:RF ns rt f p ok f'): ∀{G:Gh} {sb:Nat} {lo2:Bool},[GL A G]→
  FnM Tryz.prog 115 [.agg ⟨[.int .i64 r0, .slice x.a x.n x.c]⟩, .int .i64 rt, .slice (some ⟨sb,0,none⟩) ns.length ns.length] [⟨sb,seenF ns.length f,4,lo2⟩] G
   (fun v css G'=> ∃q,v= .tuple #[q, .bool ok]∧Is G' p q∧css=[seenF ns.length f']):=by
 obtain⟨es,hx,hes⟩:=hx
 have hel:=hes.len
 rw[List.length_map] at hel
 have hlen:=hx.len
 rw[hel] at hlen
 obtain⟨xa,xn,xc⟩:=x
 simp only[] at hlen
 subst hlen
 induction h with
 |leaf bb f=>
  intro G sb lo2 _
  refine FnM.intro Tryz.func115 J J Tryz.ntmps115 rfl ?_
  intro C _ _
  show St C _ [(0, .agg ⟨[.int .i64 r0, .slice xa ns.length xc]⟩),(1, .int .i64 (leafCode bb)),(2, .slice (some ⟨sb,0,none⟩) ns.length ns.length)] [⟨sb,seenF ns.length f,_,false⟩] _ _
  refine sR<|?_
  refine sc (ch_box J J ?_)
  intro b1
  refine sa J J<|sa J J<|zE<|st_seq<|sR<|sm J J<|sy (yd_eql J J) rfl<|sm J J<|?_
  cases bb
  case true=>
   refine ss J J J J<|ss J J J J<|sy (yd_pickT J J) rfl<|?_
   refine zE<|st_condT rfl<|sR<|sm J J<|sy (yd_eql J J) rfl<|sy (yd_build rfl) rfl<|?_
   refine sc (ch_box J J ?_)
   intro b2
   refine sa J J<|sa J J<|zE<|st_ret<|?_
   refine st_freeze b2 (.hd ..) ?_
   intro G9 _ hfz
   exact st_doneM (css:=[_]) (.tmp rfl (.tmp rfl .nil)) rfl (_::[_]) (List.perm_append_comm (l₁:=[_]) (l₂:=[_])) (.cons_cons _ (List.nil_sublist _)) ⟨_,rfl,is_pt.2 ⟨b2,_,rfl,hfz.h,rfLeaf⟩,rfl⟩
  refine syg J J (yd_move rfl) rfl<|syg J J (yd_eql J J) rfl<|sy (yd_pickF J J) rfl<|?_
  refine zE<|st_condT rfl<|sR<|sm J J<|sy (yd_eql J J) rfl<|sy (yd_build rfl) rfl<|?_
  refine sc (ch_box J J ?_)
  intro b2
  refine sa J J<|sa J J<|zE<|st_ret<|?_
  refine st_freeze b2 (.hd ..) ?_
  intro G9 _ hfz
  exact st_doneM (css:=[_]) (.tmp rfl (.tmp rfl .nil)) rfl (_::[_]) (List.perm_append_comm (l₁:=[_]) (l₂:=[_])) (.cons_cons _ (List.nil_sublist _)) ⟨_,rfl,is_pt.2 ⟨b2,_,rfl,hfz.h,rfLeaf⟩,rfl⟩
 |bad rt f h1 h2 h=>
  intro G sb lo2 _
  refine FnM.intro Tryz.func115 J J Tryz.ntmps115 rfl ?_
  intro C _ _
  show St C _ [(0, .agg ⟨[.int .i64 r0, .slice xa ns.length xc]⟩),(1, .int .i64 rt),(2, .slice (some ⟨sb,0,none⟩) ns.length ns.length)] [⟨sb,seenF ns.length f,_,false⟩] _ _
  refine sR<|?_
  refine sc (ch_box J J ?_)
  intro b1
  refine sa J J<|sa J J<|zE<|st_seq<|sR<|sm J J<|sy (yd_eql J J) rfl<|sm J J<|?_
  refine st_caseP 14 rfl (fun hg=>absurd hg (by omega)) (fun hg=>?_)
  refine syg J J (yd_move rfl) rfl<|syg J J (yd_eql J J) rfl<|sy (yd_pickF J J) rfl<|zE<|?_
  refine st_condP rfl (fun hc=>absurd hc (by omega)) (fun _=>?_)
  refine zK<|st_seq<|sR<|sm J J<|sy (yd_lss J J) rfl<|sm J J<|?_
  refine st_caseP 24 rfl (fun hg=>?_) (fun hg=>?_)
  ·refine ss J J J J<|ss J J J J<|ss J J J J<|ss J J J J<|ss J J J J<|sy (yd_pickT J J) rfl<|sm J J<|ss J J J J<|ss J J J J<|ss J J J J<|ss J J J J<|?_
   refine sy (yd_pickT J J) rfl<|zE<|st_condT rfl<|?_
   refine sR<|sa J J<|sa J J<|zE<|st_ret<|?_
   exact st_doneM (css:=[_]) (.tmp rfl (.tmp rfl .nil)) rfl (_::[_]) (List.perm_append_comm (l₁:=[_]) (l₂:=[_])) (.cons_cons _ (List.nil_sublist _)) ⟨_,rfl,is_v.2 rfl,rfl⟩
  refine syg J J (yd_move rfl) rfl<|syg J J (yd_fieldAddr rfl) rfl<|syg J J (yd_load_own1 J J) rfl<|syg J J (yd_len rfl) rfl<|syg J J (yd_geq J J) rfl<|sy (yd_pickF J J) rfl<|sm J J<|?_
  refine st_caseP 31 rfl (fun hg=>?_) (fun hg=>?_)
  ·refine ss J J J J<|ss J J J J<|ss J J J J<|ss J J J J<|sy (yd_pickT J J) rfl<|zE<|st_condT rfl<|?_
   refine sR<|sa J J<|sa J J<|zE<|st_ret<|?_
   exact st_doneM (css:=[_]) (.tmp rfl (.tmp rfl .nil)) rfl (_::[_]) (List.perm_append_comm (l₁:=[_]) (l₂:=[_])) (.cons_cons _ (List.nil_sublist _)) ⟨_,rfl,is_v.2 rfl,rfl⟩
  obtain⟨k,rfl,hk,hf⟩: ∃k:Nat,rt=k∧k<ns.length∧f k=true:=by
   rcases h with h|h|h
   ·omega
   ·exact absurd h hg
   ·exact h
  refine syg J J (yd_move rfl) rfl<|syg J J (yd_move rfl) rfl<|syg J J (yd_ixO J J (by omega) (by omega)) rfl<|?_
  refine syg J J (yd_load_own1 (v:= .bool true) rfl (by rw[Int.toNat_natCast,Nat.mul_one];exact seenF_get hk hf)) rfl<|sy (yd_pickF J J) rfl<|zE<|st_condT rfl<|?_
  refine sR<|sa J J<|sa J J<|zE<|st_ret<|?_
  exact st_doneM (css:=[_]) (.tmp rfl (.tmp rfl .nil)) rfl (_::[_]) (List.perm_append_comm (l₁:=[_]) (l₂:=[_])) (.cons_cons _ (List.nil_sublist _)) ⟨_,rfl,is_v.2 rfl,rfl⟩
 |line base n f h0 hfb hl=>
  intro G sb lo2 _
  have hbn:base<ns.length:=(List.getElem?_eq_some_iff.1 h0).1
  obtain⟨z,hzi,hz⟩:=hes.get (i:=base) (d:=n.d) (by rw[List.getElem?_map,h0];rfl)
  obtain⟨x1,x2,x3,rfl,hzg⟩:=RN_of hz
  obtain⟨ab,aoff,acs,ha,hga,hca⟩:=hx.mem.resolve_left (fun e=>by rw[e] at hel;simp at hel;omega)
  simp only at ha
  subst ha
  haveI:GHas A ab acs:=⟨hga⟩
  obtain⟨hk0,hk6,hk7⟩:=node_cells (by
   have h9:=hca base (by rw[hel];exact hbn)
   rw[show es[base]'(by rw[hel];exact hbn)=_ from Option.some.inj ((List.getElem?_eq_getElem (by rw[hel];exact hbn)).symm.trans hzi)] at h9
   exact h9)
  refine FnM.intro Tryz.func115 J J Tryz.ntmps115 rfl ?_
  intro C _ _
  show St C _ [(0, .agg ⟨[.int .i64 r0, .slice (some ⟨ab,aoff,none⟩) ns.length xc]⟩),(1, .int .i64 (base:Int)),(2, .slice (some ⟨sb,0,none⟩) ns.length ns.length)] [⟨sb,seenF ns.length f,_,false⟩] _ _
  refine sR<|?_
  refine sc (ch_box J J ?_)
  intro b1
  refine sa J J<|sa J J<|zE<|st_seq<|sR<|sm J J<|sy (yd_eql J J) rfl<|sm J J<|?_
  refine st_caseP 14 rfl (fun hg=>absurd hg (by omega)) (fun hg=>?_)
  refine syg J J (yd_move rfl) rfl<|syg J J (yd_eql J J) rfl<|sy (yd_pickF J J) rfl<|zE<|?_
  refine st_condP rfl (fun hc=>absurd hc (by omega)) (fun _=>?_)
  refine zK<|st_seq<|sR<|sm J J<|sy (yd_lss J J) rfl<|sm J J<|?_
  refine st_caseP 24 rfl (fun hg=>absurd hg (by omega)) (fun hg=>?_)
  refine syg J J (yd_move rfl) rfl<|syg J J (yd_fieldAddr rfl) rfl<|syg J J (yd_load_own1 J J) rfl<|syg J J (yd_len rfl) rfl<|syg J J (yd_geq J J) rfl<|sy (yd_pickF J J) rfl<|sm J J<|?_
  refine st_caseP 31 rfl (fun hg=>absurd hg (by omega)) (fun hg=>?_)
  refine syg J J (yd_move rfl) rfl<|syg J J (yd_move rfl) rfl<|syg J J (yd_ixO J J (by omega) (by omega)) rfl<|?_
  refine syg J J (yd_load_own1 (v:= .bool false) rfl (by rw[Int.toNat_natCast,Nat.mul_one];exact seenF_get hbn hfb)) rfl<|sy (yd_pickF J J) rfl<|zE<|st_condF rfl<|?_
  refine zK<|sR<|sm J J<|sm J J<|sy (yd_ixO J J (by omega) (by omega)) rfl<|?_
  refine sc (ch_store1 J J (.tl _ _ _ _ _ _ _ _ (.hd ..)) (by rw[seenF_len,Int.toNat_natCast,Nat.mul_one];exact hbn) J J ?_)
  rw[Int.toNat_natCast,Nat.mul_one,seenF_set]
  refine zE<|sR<|sf J J<|slo1 J J J<|sm J J<|sy (yd_index J J (by omega) (by omega)) rfl<|?_
  rw[Int.toNat_natCast]
  refine sf J J<|slg rfl hk0 rfl<|?_
  refine sc (zC J J (PF.fn0 (q_Ln (hs n (List.mem_of_getElem? h0))) (.cons (hzg.up GL.le) .nil)) rfl ?_)
  rintro _ G6 _ hw
  obtain⟨c1,c2,c3,y1,y2,y3,rfl,hw'⟩:=rlD_of hw
  rw[hl]
  refine sm J J<|sx J J J<|sx J J J<|?_
  refine sc (ch_alloc rfl ?_)
  intro b3
  refine sc (ch_storeN J J J (by repeat (first|exact .hd .. |apply OUpd.tl)) rfl (nb rfl) J J ?_)
  refine sa J J<|zE<|st_seq<|sR<|sm J J<|sy (yd_not rfl) rfl<|zE<|?_
  refine st_condT rfl<|?_
  refine sR<|sa J J<|sa J J<|zE<|st_ret<|?_
  exact st_doneM (css:=[_]) (.tmp rfl (.tmp rfl .nil)) rfl (_::[_,_]) (List.perm_append_comm (l₁:=[_,_]) (l₂:=[_])) (.cons_cons _ (List.nil_sublist _)) ⟨_,rfl,is_v.2 rfl,rfl⟩
 |left base n l f f2 p h0 hfb hl h1 ih1=>
  intro G sb lo2 _
  have hbn:base<ns.length:=(List.getElem?_eq_some_iff.1 h0).1
  obtain⟨z,hzi,hz⟩:=hes.get (i:=base) (d:=n.d) (by rw[List.getElem?_map,h0];rfl)
  obtain⟨x1,x2,x3,rfl,hzg⟩:=RN_of hz
  obtain⟨ab,aoff,acs,ha,hga,hca⟩:=hx.mem.resolve_left (fun e=>by rw[e] at hel;simp at hel;omega)
  simp only at ha
  subst ha
  haveI:GHas A ab acs:=⟨hga⟩
  obtain⟨hk0,hk6,hk7⟩:=node_cells (by
   have h9:=hca base (by rw[hel];exact hbn)
   rw[show es[base]'(by rw[hel];exact hbn)=_ from Option.some.inj ((List.getElem?_eq_getElem (by rw[hel];exact hbn)).symm.trans hzi)] at h9
   exact h9)
  refine FnM.intro Tryz.func115 J J Tryz.ntmps115 rfl ?_
  intro C _ _
  show St C _ [(0, .agg ⟨[.int .i64 r0, .slice (some ⟨ab,aoff,none⟩) ns.length xc]⟩),(1, .int .i64 (base:Int)),(2, .slice (some ⟨sb,0,none⟩) ns.length ns.length)] [⟨sb,seenF ns.length f,_,false⟩] _ _
  refine sR<|?_
  refine sc (ch_box J J ?_)
  intro b1
  refine sa J J<|sa J J<|zE<|st_seq<|sR<|sm J J<|sy (yd_eql J J) rfl<|sm J J<|?_
  refine st_caseP 14 rfl (fun hg=>absurd hg (by omega)) (fun hg=>?_)
  refine syg J J (yd_move rfl) rfl<|syg J J (yd_eql J J) rfl<|sy (yd_pickF J J) rfl<|zE<|?_
  refine st_condP rfl (fun hc=>absurd hc (by omega)) (fun _=>?_)
  refine zK<|st_seq<|sR<|sm J J<|sy (yd_lss J J) rfl<|sm J J<|?_
  refine st_caseP 24 rfl (fun hg=>absurd hg (by omega)) (fun hg=>?_)
  refine syg J J (yd_move rfl) rfl<|syg J J (yd_fieldAddr rfl) rfl<|syg J J (yd_load_own1 J J) rfl<|syg J J (yd_len rfl) rfl<|syg J J (yd_geq J J) rfl<|sy (yd_pickF J J) rfl<|sm J J<|?_
  refine st_caseP 31 rfl (fun hg=>absurd hg (by omega)) (fun hg=>?_)
  refine syg J J (yd_move rfl) rfl<|syg J J (yd_move rfl) rfl<|syg J J (yd_ixO J J (by omega) (by omega)) rfl<|?_
  refine syg J J (yd_load_own1 (v:= .bool false) rfl (by rw[Int.toNat_natCast,Nat.mul_one];exact seenF_get hbn hfb)) rfl<|sy (yd_pickF J J) rfl<|zE<|st_condF rfl<|?_
  refine zK<|sR<|sm J J<|sm J J<|sy (yd_ixO J J (by omega) (by omega)) rfl<|?_
  refine sc (ch_store1 J J (.tl _ _ _ _ _ _ _ _ (.hd ..)) (by rw[seenF_len,Int.toNat_natCast,Nat.mul_one];exact hbn) J J ?_)
  rw[Int.toNat_natCast,Nat.mul_one,seenF_set]
  refine zE<|sR<|sf J J<|slo1 J J J<|sm J J<|sy (yd_index J J (by omega) (by omega)) rfl<|?_
  rw[Int.toNat_natCast]
  refine sf J J<|slg rfl hk0 rfl<|?_
  refine sc (zC J J (PF.fn0 (q_Ln (hs n (List.mem_of_getElem? h0))) (.cons (hzg.up GL.le) .nil)) rfl ?_)
  rintro _ G6 _ hw
  obtain⟨c1,c2,c3,y1,y2,y3,rfl,hw'⟩:=rlD_of hw
  rw[hl]
  refine sm J J<|sx J J J<|sx J J J<|?_
  refine sc (ch_alloc rfl ?_)
  intro b3
  refine sc (ch_storeN J J J (by repeat (first|exact .hd .. |apply OUpd.tl)) rfl (nb rfl) J J ?_)
  refine sa J J<|zE<|st_seq<|sR<|sm J J<|sy (yd_not rfl) rfl<|zE<|?_
  replace hw':=hw' l hl
  refine st_condF rfl<|zK<|?_
  show St C _ _ [⟨b3,[.bool c1, .slice y1.a y1.n y1.c, .bool c2, .slice y2.a y2.n y2.c, .bool c3, .slice y3.a y3.n y3.c],46,true⟩,⟨b1,[.int .i64 r0, .slice (some ⟨ab,aoff,none⟩) ns.length xc],27,true⟩,⟨sb,seenF ns.length (setF f base),4,false⟩] _ _
  refine st_seq<|drS [⟨b1,[.int .i64 r0, .slice (some ⟨ab,aoff,none⟩) ns.length xc],27,true⟩] (fun _=>false) [(0,true),(1,true),(2,true),(3,true),(4,true),(5,true),(6,true),(7,true),(8,false),(9,true),(10,true),(11,true),(12,true),(13,true)] follows (by kernel_rfl)<|?_
  refine dL J J J J<|dF J J J<|dL1 J J J J<|dM J J J<|?_
  refine dy rfl (fun _=>yd_index J J (by omega) (by omega)) J J<|dF J J J<|?_
  refine dy rfl (fun _=>yd_load_gh1 rfl ghi (by rw[Int.toNat_natCast];exact hk6)) J J<|dM J J J<|?_
  have hrp:=ih1 (G:=G6) (sb:=sb) (lo2:=false)
  refine dc J J (ch_callM J J (M:=[_]) (rest:=[_,_]) (List.perm_append_comm (l₁:=[_,_]) (l₂:=[_])) hrp rfl ?_)
  rintro _ css G7 _ _ ⟨q1,rfl,hq1,rfl⟩
  show St C _ _ [⟨sb,seenF ns.length f2,4,false⟩,⟨b3,[.bool c1, .slice y1.a y1.n y1.c, .bool c2, .slice y2.a y2.n y2.c, .bool c3, .slice y3.a y3.n y3.c],46,true⟩,⟨b1,[.int .i64 r0, .slice (some ⟨ab,aoff,none⟩) ns.length xc],27,true⟩] _ _
  refine dr_s<|dM J J J<|dy rfl (fun _=>yd_extract J J) J J<|dy rfl (fun _=>yd_extract J J) J J<|dA J J J<|?_
  refine dA J J J<|dn<|?_
  refine st_seq<|sR<|sm J J<|sy (yd_not rfl) rfl<|zE<|st_condT rfl<|?_
  refine sR<|sa J J<|sa J J<|zE<|st_ret<|?_
  exact st_doneM (css:=[_]) (.tmp rfl (.tmp rfl .nil)) rfl (_::[_,_]) (List.Perm.refl _) (.cons_cons _ (List.nil_sublist _)) ⟨_,rfl,is_v.2 rfl,rfl⟩
 |node base n l f f2 f3 p q ok h0 hfb hl h1 h2 ih1 ih2=>
  intro G sb lo2 _
  have hbn:base<ns.length:=(List.getElem?_eq_some_iff.1 h0).1
  obtain⟨z,hzi,hz⟩:=hes.get (i:=base) (d:=n.d) (by rw[List.getElem?_map,h0];rfl)
  obtain⟨x1,x2,x3,rfl,hzg⟩:=RN_of hz
  obtain⟨ab,aoff,acs,ha,hga,hca⟩:=hx.mem.resolve_left (fun e=>by rw[e] at hel;simp at hel;omega)
  simp only at ha
  subst ha
  haveI:GHas A ab acs:=⟨hga⟩
  obtain⟨hk0,hk6,hk7⟩:=node_cells (by
   have h9:=hca base (by rw[hel];exact hbn)
   rw[show es[base]'(by rw[hel];exact hbn)=_ from Option.some.inj ((List.getElem?_eq_getElem (by rw[hel];exact hbn)).symm.trans hzi)] at h9
   exact h9)
  refine FnM.intro Tryz.func115 J J Tryz.ntmps115 rfl ?_
  intro C _ _
  show St C _ [(0, .agg ⟨[.int .i64 r0, .slice (some ⟨ab,aoff,none⟩) ns.length xc]⟩),(1, .int .i64 (base:Int)),(2, .slice (some ⟨sb,0,none⟩) ns.length ns.length)] [⟨sb,seenF ns.length f,_,false⟩] _ _
  refine sR<|?_
  refine sc (ch_box J J ?_)
  intro b1
  refine sa J J<|sa J J<|zE<|st_seq<|sR<|sm J J<|sy (yd_eql J J) rfl<|sm J J<|?_
  refine st_caseP 14 rfl (fun hg=>absurd hg (by omega)) (fun hg=>?_)
  refine syg J J (yd_move rfl) rfl<|syg J J (yd_eql J J) rfl<|sy (yd_pickF J J) rfl<|zE<|?_
  refine st_condP rfl (fun hc=>absurd hc (by omega)) (fun _=>?_)
  refine zK<|st_seq<|sR<|sm J J<|sy (yd_lss J J) rfl<|sm J J<|?_
  refine st_caseP 24 rfl (fun hg=>absurd hg (by omega)) (fun hg=>?_)
  refine syg J J (yd_move rfl) rfl<|syg J J (yd_fieldAddr rfl) rfl<|syg J J (yd_load_own1 J J) rfl<|syg J J (yd_len rfl) rfl<|syg J J (yd_geq J J) rfl<|sy (yd_pickF J J) rfl<|sm J J<|?_
  refine st_caseP 31 rfl (fun hg=>absurd hg (by omega)) (fun hg=>?_)
  refine syg J J (yd_move rfl) rfl<|syg J J (yd_move rfl) rfl<|syg J J (yd_ixO J J (by omega) (by omega)) rfl<|?_
  refine syg J J (yd_load_own1 (v:= .bool false) rfl (by rw[Int.toNat_natCast,Nat.mul_one];exact seenF_get hbn hfb)) rfl<|sy (yd_pickF J J) rfl<|zE<|st_condF rfl<|?_
  refine zK<|sR<|sm J J<|sm J J<|sy (yd_ixO J J (by omega) (by omega)) rfl<|?_
  refine sc (ch_store1 J J (.tl _ _ _ _ _ _ _ _ (.hd ..)) (by rw[seenF_len,Int.toNat_natCast,Nat.mul_one];exact hbn) J J ?_)
  rw[Int.toNat_natCast,Nat.mul_one,seenF_set]
  refine zE<|sR<|sf J J<|slo1 J J J<|sm J J<|sy (yd_index J J (by omega) (by omega)) rfl<|?_
  rw[Int.toNat_natCast]
  refine sf J J<|slg rfl hk0 rfl<|?_
  refine sc (zC J J (PF.fn0 (q_Ln (hs n (List.mem_of_getElem? h0))) (.cons (hzg.up GL.le) .nil)) rfl ?_)
  rintro _ G6 _ hw
  obtain⟨c1,c2,c3,y1,y2,y3,rfl,hw'⟩:=rlD_of hw
  rw[hl]
  refine sm J J<|sx J J J<|sx J J J<|?_
  refine sc (ch_alloc rfl ?_)
  intro b3
  refine sc (ch_storeN J J J (by repeat (first|exact .hd .. |apply OUpd.tl)) rfl (nb rfl) J J ?_)
  refine sa J J<|zE<|st_seq<|sR<|sm J J<|sy (yd_not rfl) rfl<|zE<|?_
  replace hw':=hw' l hl
  refine st_condF rfl<|zK<|?_
  show St C _ _ [⟨b3,[.bool c1, .slice y1.a y1.n y1.c, .bool c2, .slice y2.a y2.n y2.c, .bool c3, .slice y3.a y3.n y3.c],46,true⟩,⟨b1,[.int .i64 r0, .slice (some ⟨ab,aoff,none⟩) ns.length xc],27,true⟩,⟨sb,seenF ns.length (setF f base),4,false⟩] _ _
  refine st_seq<|drS [⟨b1,[.int .i64 r0, .slice (some ⟨ab,aoff,none⟩) ns.length xc],27,true⟩] (fun _=>false) [(0,true),(1,true),(2,true),(3,true),(4,true),(5,true),(6,true),(7,true),(8,false),(9,true),(10,true),(11,true),(12,true),(13,true)] follows (by kernel_rfl)<|?_
  refine dL J J J J<|dF J J J<|dL1 J J J J<|dM J J J<|?_
  refine dy rfl (fun _=>yd_index J J (by omega) (by omega)) J J<|dF J J J<|?_
  refine dy rfl (fun _=>yd_load_gh1 rfl ghi (by rw[Int.toNat_natCast];exact hk6)) J J<|dM J J J<|?_
  have hrp:=ih1 (G:=G6) (sb:=sb) (lo2:=false)
  refine dc J J (ch_callM J J (M:=[_]) (rest:=[_,_]) (List.perm_append_comm (l₁:=[_,_]) (l₂:=[_])) hrp rfl ?_)
  rintro _ css G7 _ _ ⟨q1,rfl,hq1,rfl⟩
  show St C _ _ [⟨sb,seenF ns.length f2,4,false⟩,⟨b3,[.bool c1, .slice y1.a y1.n y1.c, .bool c2, .slice y2.a y2.n y2.c, .bool c3, .slice y3.a y3.n y3.c],46,true⟩,⟨b1,[.int .i64 r0, .slice (some ⟨ab,aoff,none⟩) ns.length xc],27,true⟩] _ _
  refine dr_s<|dM J J J<|dy rfl (fun _=>yd_extract J J) J J<|dy rfl (fun _=>yd_extract J J) J J<|dA J J J<|?_
  refine dA J J J<|dn<|?_
  refine st_seq<|sR<|sm J J<|sy (yd_not rfl) rfl<|zE<|st_condF rfl<|zK<|?_
  refine st_seq<|drS [⟨b1,[.int .i64 r0, .slice (some ⟨ab,aoff,none⟩) ns.length xc],27,true⟩] (fun _=>false) [(0,true),(1,true),(2,true),(3,true),(4,true),(5,true),(6,true),(7,true),(8,false),(9,true),(10,true),(11,true),(12,true),(13,true)] follows (by kernel_rfl)<|?_
  refine dL J J J J<|dF J J J<|dL1 J J J J<|dM J J J<|?_
  refine dy rfl (fun _=>yd_index J J (by omega) (by omega)) J J<|dF J J J<|?_
  refine dy rfl (fun _=>yd_load_gh1 rfl ghi (by rw[Int.toNat_natCast];exact hk7)) J J<|dM J J J<|?_
  have hrp:=ih2 (G:=G7) (sb:=sb) (lo2:=false)
  refine dc J J (ch_callM J J (M:=[_]) (rest:=[_,_]) (List.Perm.refl _) hrp rfl ?_)
  rintro _ css G8 _ _ ⟨q2,rfl,hq2,rfl⟩
  show St C _ _ [⟨sb,seenF ns.length f3,4,false⟩,⟨b3,[.bool c1, .slice y1.a y1.n y1.c, .bool c2, .slice y2.a y2.n y2.c, .bool c3, .slice y3.a y3.n y3.c],46,true⟩,⟨b1,[.int .i64 r0, .slice (some ⟨ab,aoff,none⟩) ns.length xc],27,true⟩] _ _
  refine dr_s<|dM J J J<|dy rfl (fun _=>yd_extract J J) J J<|dy rfl (fun _=>yd_extract J J) J J<|dA J J J<|?_
  refine dA J J J<|dn<|?_
  obtain⟨a1,rfl⟩:=h1.ptr hq1
  obtain⟨a2,rfl⟩:=h2.ptr hq2
  refine sR<|slo J J J<|sm J J<|sm J J<|sy (yd_build rfl) rfl<|?_
  refine sc (ch_box J J ?_)
  intro b6
  refine sm J J<|sa J J<|sa J J<|zE<|st_ret<|?_
  refine st_freeze b6 (.hd ..) ?_
  intro G9 _ hfz
  exact st_doneM (css:=[_]) (.tmp rfl (.tmp rfl .nil)) rfl (_::[_,_]) (List.Perm.refl _) (.cons_cons _ (List.nil_sublist _)) ⟨_,rfl,is_pt.2 ⟨b6,_,rfl,hfz.h,cTd_is (hw'.up GL.le) (hq1.up GL.le) (hq2.up GL.le)⟩,rfl⟩
def allK(n:Nat)(f:Nat→Bool):Bool:=(List.range n).all f
theorem allK_succ{n:Nat}{f:Nat→Bool}:allK (n+1) f=(allK n f&&f n):=by
 unfold allK;rw[List.range_succ,List.all_append];simp
set_option maxHeartbeats 1000000 in
theorem q_Read{GB:Gh}{ns:List RN}{rt:Int}{p:DV}{ok:Bool}{f:Nat→Bool}(hs: ∀n∈ns,n.g.sm)(hn:ns.length≤65536)(h:RF ns rt (fun _=>false) p ok f):PF GB Tryz.prog 60 [eRT rt ns] (.tp [p,vB (ok&&allK ns.length f)]):=by
 intro G vs _ hv
 obtain⟨v0,m,rfl,h0,hm⟩:=isl_cons.1 hv
 rw[isl_nil] at hm;subst hm
 obtain⟨m,rfl,g⟩:=is_ag.1 h0
 obtain⟨v1,m,rfl,h1,hm⟩:=isl_cons.1 g
 obtain⟨v2,m,rfl,h2,hm⟩:=isl_cons.1 hm
 rw[isl_nil] at hm;subst hm
 obtain⟨s0,x,es,rfl,hsl,hes⟩:=is_sl.1 h2
 rw[is_v.1 h1]
 have hel:=hes.len
 rw[List.length_map] at hel
 have hlen:=hsl.len
 rw[hel] at hlen
 have hx:NRow x ns G:=by
  refine⟨es,?_,hes⟩
  rcases sl_stride (s:=8) hsl hes (fun d hd=>by obtain⟨n,_,rfl⟩:=List.mem_map.1 hd;exact⟨rfl,rfl⟩) with e|e
  ·exact⟨hsl.len,hsl.cap, .inl e⟩
  ·rw[e] at hsl;exact hsl
 obtain⟨xa,xn,xc⟩:=x
 simp only[] at hlen
 subst hlen
 show Fn _ _ [.agg ⟨[.int .i64 rt, .slice xa ns.length xc]⟩] _ _
 refine Fn.intro Tryz.func60 J J Tryz.ntmps60 rfl ?_
 intro C _ _
 refine sR<|?_
 refine sc (ch_box J J ?_)
 intro b1
 refine sa J J<|sa J J<|zE<|st_seq<|sR<|sf J J<|slo1 J J J<|slen J J<|sy (yd_gtr J J) rfl<|zE<|?_
 refine st_condP rfl (fun hc=>absurd hc (by omega)) (fun _=>?_)
 refine zK<|sR<|sf J J<|slo1 J J J<|slen J J<|?_
 refine sc (ch_make J J (by omega) (by omega) (by omega) (by rfl) rfl ?_)
 intro b2
 rw[Int.toNat_natCast,zeros_seenF]
 refine sa J J<|zE<|sR<|slo J J J<|sf J J<|slo1 J J J<|sm J J<|?_
 have hrp:=rf_read (r0:=rt) hx hs (by omega) h (G:=G) (sb:=b2) (lo2:=true)
 refine sc (ch_callM J J (M:=[_]) (rest:=[_]) (List.Perm.refl _) hrp rfl ?_)
 rintro _ css G3 _ _ ⟨q,rfl,hq,rfl⟩
 show St C _ _ [⟨b2,seenF ns.length f,4,true⟩,⟨b1,[.int .i64 rt, .slice xa ns.length xc],27,true⟩] _ _
 refine sm J J<|sx J J J<|sx J J J<|sa J J<|sa J J<|zE<|st_seq<|sR<|sm J J<|slen J J<|sm J J<|zE<|st_block<|?_
 refine st_loop (X:=Nat) (fun i=>[(27, .int .i64 (i:Nat)),(26, .int .i64 ns.length),(25, .slice (some ⟨b2,0,none⟩) ns.length ns.length),(6, .bool (ok&&allK i f)),(5,q)]) (fun _=>[⟨b2,seenF ns.length f,4,true⟩,⟨b1,[.int .i64 rt, .slice xa ns.length xc],27,true⟩]) (fun i _=>i≤ns.length) (fun i=>ns.length-i) 0 (Nat.zero_le _) (.cons rfl (.cons rfl (.cons rfl (.cons (by show some (Value.bool ok)=some (.bool (ok&&true));rw[Bool.and_true]) (.cons rfl .nil))))) rfl ?_
 rintro i Gx _ hi
 refine sR<|sy (yd_lss J J) rfl<|zE<|st_seq<|?_
 refine st_condE rfl (fun hc=>?_) (fun hc=>?_)
 ·obtain rfl:i=ns.length:=by omega
  refine st_exit<|st_te<|st_te<|st_inBlock_eq<|sR<|sm J J<|sm J J<|sa J J<|sa J J<|zE<|st_ret<|?_
  exact zD (.tmp rfl (.tmp rfl .nil)) (is_tp.2 ⟨_,rfl, .cons (hq.up GL.le) (.cons (is_v.2 rfl) .nil)⟩)
 have hi':i<ns.length:=by omega
 refine zK<|st_seq<|st_block<|sR<|sy (yd_ixO J J (by omega) (by omega)) rfl<|?_
 refine sy (yd_load_own1 (v:= .bool (f i)) rfl (by rw[Int.toNat_natCast,Nat.mul_one];exact seenF_get hi' rfl)) rfl<|sa J J<|zE<|st_region<|sm J J<|sm J J<|?_
 refine st_case 32 rfl (fun hg=>?_) (fun hg=>?_)
 ·refine syg J J (yd_move rfl) rfl<|sy (yd_pickT J J) rfl<|sa J J<|zE<|st_region<|sy (yd_add64 J J) rfl<|sm J J<|zE<|?_
  exact st_again (i+1) hi' (by omega) (.cons (by show some (Value.int _ _)=some (.int _ _);congr 2) (.cons rfl (.cons rfl (.cons (by show some (Value.bool (f i))=some (.bool _);rw[allK_succ,←Bool.and_assoc,hg,Bool.true_and]) (.cons rfl .nil))))) rfl
 refine ss J J J J<|sy (yd_pickF J J) rfl<|sa J J<|zE<|st_region<|sy (yd_add64 J J) rfl<|sm J J<|zE<|?_
 exact st_again (i+1) hi' (by omega) (.cons (by show some (Value.int _ _)=some (.int _ _);congr 2) (.cons rfl (.cons rfl (.cons (by show some (Value.bool false)=some (.bool _);rw[allK_succ,←Bool.and_assoc,hg,Bool.false_and]) (.cons rfl .nil))))) rfl
theorem RR.bm{ns:List RN}{rt:Int}{s s':RS}{t:Tr}(h:RR ns rt s t s'):s.b=true→s'.b=true:=by
 induction h with
 |leaf=>exact id
 |bad=>exact fun _=>rfl
 |line=>exact fun _=>rfl
 |node k n l s s2 s3 x y h hf hl h1 h2 i1 i2=>exact fun e=>i2 (i1 e)
theorem RR.rf{ns:List RN}{rt:Int}{s s':RS}{t:Tr}(h:RR ns rt s t s'):s.b=false→ ∃p ok f',RF ns rt s.f p ok f'∧(ok=true↔s'.b=false)∧(ok=true→f'=s'.f∧p=eT t):=by
 induction h with
 |leaf b s=>exact fun e=>⟨_,true,_, .leaf b s.f,⟨fun _=>e,fun _=>rfl⟩,fun _=>⟨rfl,rfl⟩⟩
 |bad rt s h1 h2 h=>exact fun e=>⟨_,false,_, .bad rt s.f h1 h2 h,⟨fun e=>(by cases e),fun e=>(by cases e)⟩,fun e=>(by cases e)⟩
 |line k n s h hf hl=>exact fun e=>⟨_,false,_, .line k n s.f h hf hl,⟨fun e=>(by cases e),fun e=>(by cases e)⟩,fun e=>(by cases e)⟩
 |node k n l s s2 s3 x y h hf hl h1 h2 i1 i2=>
  intro e
  obtain⟨p,ok,f2,g1,g2,g3⟩:=i1 e
  cases ok with
  |false=>
   have hb:s2.b=true:=by
    cases hh:s2.b with
    |true=>rfl
    |false=>exact absurd (g2.2 hh) (by decide)
   have hb3:=h2.bm hb
   exact⟨_,false,_, .left k n l s.f f2 p h hf hl g1,⟨fun e=>(by cases e),fun e=>(by rw[hb3] at e;cases e)⟩,fun e=>(by cases e)⟩
  |true=>
   obtain⟨rfl,rfl⟩:=g3 rfl
   obtain⟨q,ok2,f3,k1,k2,k3⟩:=i2 (g2.1 rfl)
   exact⟨_,ok2,f3, .node k n l s.f s2.f f3 _ q ok2 h hf hl g1 k1,k2,fun e=>⟨(k3 e).1,by rw[(k3 e).2];rfl⟩⟩
theorem unseen_zero{n:Nat}{f:Nat→Bool}:unseen n f=0↔allK n f=true:=by
 unfold unseen allK
 rw[List.length_eq_zero_iff,List.filter_eq_nil_iff,List.all_eq_true]
 simp
theorem q_ReadQ{ns:List RN}{rt:Int}(hs: ∀n∈ns,n.g.sm)(hn:ns.length≤65536): ∃p,(∀GB,PF GB Tryz.prog 60 [eRT rt ns] (.tp [p,vB (ofQ ns rt).isSome]))∧ ∀t,ofQ ns rt=some t→p=eT t:=by
 have h:=rdF_ok (ns:=ns) (m:=ns.length+1) (rt:=rt) (s:=rs0) (by have:=unseen_le ns.length rs0.f;omega)
 obtain⟨p,ok,f,h1,h2,h3⟩:=h.1.rf rfl
 have hq:=fun GB=>q_Read (GB:=GB) hs hn h1
 have hu:unseen ns.length rs0.f=ns.length:=by
  unfold unseen
  have e:((List.range ns.length).filter fun j=>!rs0.f j)=List.range ns.length:=List.filter_eq_self.2 fun _ _=>rfl
  rw[e,List.length_range]
 have hc:=h.2
 have h0:rs0.c=0:=rfl
 rw[hu,h0,Nat.zero_add] at hc
 unfold ofQ
 simp only
 cases ok with
 |false=>
  have hb:(rdF ns (ns.length+1) rt rs0).2.b=true:=by
   cases hh:(rdF ns (ns.length+1) rt rs0).2.b with
   |true=>rfl
   |false=>exact absurd (h2.2 hh) (by decide)
  rw[if_neg (fun e=>by rw[hb] at e;cases e.1)]
  exact⟨p,fun GB=>hq GB,fun t e=>by cases e⟩
 |true=>
  obtain⟨rfl,rfl⟩:=h3 rfl
  have hb:=h2.1 rfl
  by_cases hk:allK ns.length (rdF ns (ns.length+1) rt rs0).2.f=true
  ·have:=unseen_zero.2 hk
   rw[if_pos ⟨hb,by omega⟩]
   refine⟨_,fun GB=>?_,fun t e=>by cases e;rfl⟩
   have:=hq GB;rw[hk] at this;exact this
  ·have hk':allK ns.length (rdF ns (ns.length+1) rt rs0).2.f=false:=by simpa using hk
   have:=fun e=>hk (unseen_zero.1 e)
   rw[if_neg (fun e=>this (by omega))]
   refine⟨eT (rdF ns (ns.length+1) rt rs0).1,fun GB=>?_,fun t e=>(by cases e)⟩
   have:=hq GB;rw[hk'] at this;exact this
end Go.Sx
end

section
set_option maxRecDepth 100000
namespace Go.Sx
open Go Go.Proofs
def RN.of(n:NQ):RN:=⟨⟨decide (n.l.a<0),dg n.l.a.natAbs,decide (n.l.b<0),dg n.l.b.natAbs,decide (n.l.c<0),dg n.l.c.natAbs⟩,n.a,n.b⟩
theorem eN_of(ns:List NQ):ns.map eN=(ns.map RN.of).map RN.d:=by
 rw[List.map_map];rfl
theorem eA_RT(t:Tr):eA t=eRT (t.num 0) ((t.wr 0).map RN.of):=by
 unfold eA eRT
 rw[eN_of];rfl
theorem ivalR_of(a:Int):ivalR (decide (a<0)) (dg a.natAbs)=a:=by
 unfold ivalR
 rw[(dg_spec _).1]
 split
 ·rename_i h;have:=of_decide_eq_true h;omega
 ·rename_i h;have: ¬a<0:=fun e=>h (decide_eq_true e);omega
theorem NrmI_of(a:Int):NrmI (decide (a<0)) (dg a.natAbs):=⟨(dg_spec _).2.2,fun h=>dg_len0.2 (by have:=of_decide_eq_true h;omega)⟩
theorem RN.of_l(n:NQ):(RN.of n).g.l=n.l:=by
 unfold RN.of RL.l
 simp only[ivalR_of]
theorem RN.of_ln{n:NQ}(h:n.l.ok):(RN.of n).g.ln=some n.l:=by
 unfold RL.ln
 rw[if_pos ⟨⟨NrmI_of _,NrmI_of _,NrmI_of _⟩,by rw[RN.of_l];exact h⟩,RN.of_l]
theorem RN.of_sm{n:NQ}(h:LB n.l):(RN.of n).g.sm:=by
 have key: ∀a:Int,a.natAbs<2^96→DOk (dg a.natAbs)∧(dg a.natAbs).length≤3:=fun a ha=>⟨(dg_spec _).2.1,by have:=dg_len_le ha;omega⟩
 exact⟨key _ h.bl.a,key _ h.bl.b,key _ h.bl.c⟩
theorem leafCode_ne(b:Bool)(k:Nat):leafCode b≠(k:Int):=by cases b<;>(unfold leafCode;simp)
theorem RR.det{ns:List RN}{rt:Int}{s s1:RS}{t1:Tr}(h:RR ns rt s t1 s1): ∀{s2:RS} {t2:Tr},RR ns rt s t2 s2→t1=t2∧s1=s2:=by
 induction h with
 |leaf b s=>
  intro s2 t2 h
  generalize hr:leafCode b=r at h
  cases h with
  |leaf b' s=>
   have:b=b':=by cases b<;>cases b'<;>first|rfl|(simp[leafCode] at hr)
   subst this;exact⟨rfl,rfl⟩
  |bad rt s h1 h2 h=>cases b<;>simp[leafCode] at hr<;>omega
  |line k=>exact absurd hr (leafCode_ne _ _)
  |node k=>exact absurd hr (leafCode_ne _ _)
 |bad rt s h1 h2 h=>
  intro s2 t2 h'
  cases h' with
  |leaf b s=>cases b<;>simp[leafCode] at h1 h2
  |bad=>exact⟨rfl,rfl⟩
  |line k n s hn hf=>
   have:=(List.getElem?_eq_some_iff.1 hn).1
   rcases h with h|h|⟨j,e,_,hj⟩
   ·omega
   ·omega
   ·have:j=k:=by omega
    subst this;rw[hf] at hj;cases hj
  |node k n l s s2 s3 x y hn hf=>
   have:=(List.getElem?_eq_some_iff.1 hn).1
   rcases h with h|h|⟨j,e,_,hj⟩
   ·omega
   ·omega
   ·have:j=k:=by omega
    subst this;rw[hf] at hj;cases hj
 |line k n s hn hf hl=>
  intro s2 t2 h'
  generalize hr:(k:Int)=r at h'
  cases h' with
  |leaf b s=>exact absurd hr.symm (leafCode_ne _ _)
  |bad rt s h1 h2 h=>
   have:=(List.getElem?_eq_some_iff.1 hn).1
   rcases h with h|h|⟨j,e,_,hj⟩
   ·omega
   ·omega
   ·have:j=k:=by omega
    subst this;rw[hf] at hj;cases hj
  |line k' n' s hn' hf' hl'=>
   have:k=k':=by omega
   subst this;exact⟨rfl,rfl⟩
  |node k' n' l s s2 s3 x y hn' hf' hl'=>
   have:k=k':=by omega
   subst this;rw[hn] at hn';cases hn';rw[hl] at hl';cases hl'
 |node k n l s s2 s3 x y hn hf hl h1 h2 i1 i2=>
  intro s4 t4 h'
  generalize hr:(k:Int)=r at h'
  cases h' with
  |leaf b s=>exact absurd hr.symm (leafCode_ne _ _)
  |bad rt s h1 h2 h=>
   have:=(List.getElem?_eq_some_iff.1 hn).1
   rcases h with h|h|⟨j,e,_,hj⟩
   ·omega
   ·omega
   ·have:j=k:=by omega
    subst this;rw[hf] at hj;cases hj
  |line k' n' s hn' hf' hl'=>
   have:k=k':=by omega
   subst this;rw[hn] at hn';cases hn';rw[hl] at hl';cases hl'
  |node k' n' l' s s2' s3' x' y' hn' hf' hl' h1' h2'=>
   have:k=k':=by omega
   subst this;rw[hn] at hn';cases hn';rw[hl] at hl';cases hl'
   obtain⟨rfl,rfl⟩:=i1 h1'
   obtain⟨rfl,rfl⟩:=i2 h2'
   exact⟨rfl,rfl⟩
def RT'(ns:List NQ):Tr→Int→List Nat→Prop
 | .leaf b,rt,L=>rt=leafCode b∧L=[]
 | .node l x y,rt,L=> ∃(k:Nat) (a b:Int) (L1 L2:List Nat),rt=(k:Int)∧ns[k]? =some ⟨l,a,b⟩∧RT' ns x a L1∧RT' ns y b L2∧L=k::(L1++L2)
theorem RT'.rr{ns:List NQ}: ∀{t:Tr} {rt:Int} {L:List Nat} {s:RS},RT' ns t rt L→t.all LnQ.ok→L.Nodup→(∀j∈L,s.f j=false)→ ∃f,RR (ns.map RN.of) rt s t ⟨f,s.c+t.size,s.b⟩∧ ∀j,j∉L→f j=s.f j
 | .leaf b,rt,L,s,⟨e,e2⟩,_,_,_=>by
  subst e e2
  exact⟨s.f, .leaf b s,fun _ _=>rfl⟩
 | .node l x y,rt,L,s,⟨k,a,b,L1,L2,e,hk,hx,hy,e2⟩,⟨h0,h1,h2⟩,hnd,hf=>by
  subst e e2
  obtain⟨hkn,hnd⟩:=List.nodup_cons.1 hnd
  obtain⟨hd1,hd2,hdis⟩:=List.nodup_append.1 hnd
  have hfk:=hf k List.mem_cons_self
  have hn1: ∀j∈L1,j≠k:=fun j hj e=>hkn (e▸List.mem_append_left _ hj)
  have hn2: ∀j∈L2,j≠k:=fun j hj e=>hkn (e▸List.mem_append_right _ hj)
  obtain⟨f1,r1,g1⟩:=RT'.rr (s:=⟨setF s.f k,s.c+1,s.b⟩) hx h1 hd1 (fun j hj=>by simp only;rw[setF_ne (hn1 j hj)];exact hf j (List.mem_cons_of_mem _ (List.mem_append_left _ hj)))
  simp only at r1 g1
  obtain⟨f2,r2,g2⟩:=RT'.rr (s:=⟨f1,s.c+1+x.size,s.b⟩) hy h2 hd2 (fun j hj=>by
   simp only
   rw[g1 j (fun h=>hdis _ h _ hj rfl),setF_ne (hn2 j hj)]
   exact hf j (List.mem_cons_of_mem _ (List.mem_append_right _ hj)))
  simp only at r2 g2
  have hc:s.c+(Tr.node l x y).size=s.c+1+x.size+y.size:=by simp only[Tr.size];omega
  rw[hc]
  refine⟨f2, .node k (RN.of ⟨l,a,b⟩) l s _ _ x y (by rw[List.getElem?_map,hk];rfl) hfk (RN.of_ln h0) r1 r2,fun j hj=>?_⟩
  simp only[List.mem_cons,List.mem_append,not_or] at hj
  rw[g2 j hj.2.2,g1 j hj.2.1,setF_ne hj.1]
theorem RT'.len{ns:List NQ}: ∀{t:Tr} {rt:Int} {L:List Nat},RT' ns t rt L→L.length=t.size
 | .leaf _,_,_,⟨_,h⟩=>by rw[h];rfl
 | .node l x y,_,_,⟨k,a,b,L1,L2,_,_,h1,h2,h⟩=>by
  rw[h,List.length_cons,List.length_append,RT'.len h1,RT'.len h2]
  simp only[Tr.size]
  omega
def RD'(ns:List NQ)(t:Tr)(rt:Int):Prop:= ∃L,RT' ns t rt L∧L.Nodup∧L.length=ns.length
theorem ofQ_RD{ns:List NQ}{t:Tr}{rt:Int}(h:RD' ns t rt)(ho:t.all LnQ.ok):ofQ (ns.map RN.of) rt=some t:=by
 obtain⟨L,h1,h2,h3⟩:=h
 obtain⟨f,r,_⟩:=h1.rr (s:=rs0) ho h2 (fun _ _=>rfl)
 have hr:=rdF_ok (ns:=ns.map RN.of) (m:=(ns.map RN.of).length+1) (rt:=rt) (s:=rs0) (by have:=unseen_le (ns.map RN.of).length rs0.f;omega)
 obtain⟨e1,e2⟩:=hr.1.det r
 unfold ofQ
 simp only
 rw[e2,e1,if_pos ⟨rfl,by show rs0.c+t.size=_;rw[List.length_map,←h3,h1.len];show 0+_=_;omega⟩]
theorem wr_RT{ns:List NQ}: ∀{t:Tr} {n:Nat},(∀i,i<t.size→ns[n+i]? =(t.wr n)[i]?)→RT' ns t (t.num n) (List.range' n t.size)
 | .leaf b,n,_=>⟨rfl,rfl⟩
 | .node l x y,n,h=>by
  have hsz:(Tr.node l x y).size=1+x.size+y.size:=rfl
  have hw:(Tr.node l x y).wr n=⟨l,x.num (n+1),y.num (n+1+x.size)⟩::(x.wr (n+1)++y.wr (n+1+x.size)):=by simp[Tr.wr]
  have hx:=x.wr_len (n+1)
  have hy:=y.wr_len (n+1+x.size)
  refine⟨n,x.num (n+1),y.num (n+1+x.size),List.range' (n+1) x.size,List.range' (n+1+x.size) y.size,rfl,?_,wr_RT fun i hi=>?_,wr_RT fun i hi=>?_,?_⟩
  ·have:=h 0 (by omega)
   rw[hw,Nat.add_zero] at this
   rw[this];rfl
  ·have:=h (1+i) (by omega)
   rw[hw,Nat.add_comm 1 i,List.getElem?_cons_succ,List.getElem?_append_left (by omega)] at this
   rw[show n+1+i=n+(i+1) by omega];exact this
  ·have:=h (1+x.size+i) (by omega)
   rw[hw,show 1+x.size+i=(x.size+i)+1 by omega,List.getElem?_cons_succ,List.getElem?_append_right (by omega),hx,Nat.add_sub_cancel_left] at this
   rw[show n+1+x.size+i=n+(x.size+i+1) by omega];exact this
  ·rw[hsz,show 1+x.size+y.size=(x.size+y.size)+1 by omega,List.range'_succ,List.range'_append_1]
theorem ofQ_wr{t:Tr}(ho:t.all LnQ.ok):ofQ ((t.wr 0).map RN.of) (t.num 0)=some t:=
 ofQ_RD ⟨_,wr_RT (n:=0) (fun i _=>by rw[Nat.zero_add]),List.nodup_range',by rw[List.length_range',t.wr_len]⟩ ho
theorem wr_sm{t:Tr}(hb:t.all LB): ∀n∈(t.wr 0).map RN.of,n.g.sm:=fun n hn=>by
 obtain⟨m,hm,rfl⟩:=List.mem_map.1 hn
 exact RN.of_sm (Tr.all_wr 0 hb m hm)
end Go.Sx
end

section
set_option maxRecDepth 100000
namespace Go.Sx
open Go Go.Proofs
theorem Tr.all_imp{p q:LnQ→Prop}(h: ∀l,p l→q l): ∀{t:Tr},t.all p→t.all q
 | .leaf _,_=>trivial
 | .node _ _ _,⟨h0,h1,h2⟩=>⟨h _ h0,Tr.all_imp h h1,Tr.all_imp h h2⟩
theorem Tr.gd.bl{t:Tr}(h:t.gd):t.all (fun l=>BL l 96):=Tr.all_imp (fun _ h=>h.bl) h.lb
theorem wr_n{t:Tr}(hs:t.size≤65536):((t.wr 0).map RN.of).length≤65536:=by rw[List.length_map,t.wr_len];exact hs
theorem p_MComplA{GB:Gh}{ai al ae:Addr}(hE:EG GB ai al ae){t:Tr}(h:t.gd)(hs:t.size≤65536):PF GB Tryz.prog 16 [eA t] (.tp [eA t.compl, .v .nilIface]):=by
 have:=p_MCompl hE (r1:=t.num 0) (wr_sm h.lb) (wr_n hs)
 rw[ofQ_wr h.ok,←eA_RT] at this
 exact this
theorem p_MMergeA{GB:Gh}{ai al ae:Addr}(hE:EG GB ai al ae){op:Int}{a b:Tr}(ho:1≤op∧op≤4)(ha:a.gd)(hb:b.gd)(hsa:a.size≤65536)(hsb:b.size≤65536):PF GB Tryz.prog 15 [vI op,eA a,eA b] (resD (limX al (limQ op a b))):=by
 have:=p_MMerge hE (op:=op) (r1:=a.num 0) (wr_sm ha.lb) (wr_n hsa) (r2:=b.num 0) (wr_sm hb.lb) (wr_n hsb)
 rw[ofQ_wr ha.ok,ofQ_wr hb.ok,←eA_RT,←eA_RT,mergeX,if_pos ho] at this
 exact this
theorem p_MMergeS{GB:Gh}{ai al ae:Addr}(hE:EG GB ai al ae){op:Int}{a b t:Tr}(ho:1≤op∧op≤4)(ha:a.gd)(hb:b.gd)(hsa:a.size≤65536)(hsb:b.size≤65536)(h:limQ op a b=some t):PF GB Tryz.prog 15 [vI op,eA a,eA b] (.tp [eA t, .v .nilIface]):=by
 have:=p_MMergeA hE ho ha hb hsa hsb;rw[h] at this;exact this
def l00:LnQ:=⟨0,1,0⟩
def t00:Tr:= .node l00 (.leaf true) (.leaf false)
theorem l00_eq:thrL 0 0 1 0=l00:=by kernel_rfl
theorem l00_lb:LB l00:=⟨⟨by decide,by decide,by decide⟩⟩
theorem l00_ok:l00.ok:=by decide
theorem t00_gd:t00.gd:=⟨⟨l00_lb,trivial,trivial⟩,⟨l00_ok,trivial,trivial⟩⟩
theorem t00_u:limQ 1 t00 t00.compl=some (.leaf true):=by kernel_rfl
theorem t00_x:limQ 4 t00 t00=some (.leaf false):=by kernel_rfl
theorem q19_u{GB:Gh}{ai al ae:Addr}(hE:EG GB ai al ae):PF GB Tryz.prog 15 [vI 1,eA t00,eA t00.compl] (.tp [.ag [vI (-2), .sl []], .v .nilIface]):=p_MMergeS hE (by decide) t00_gd (compl_gd t00_gd) (by decide) (by decide) t00_u
theorem q19_x{GB:Gh}{ai al ae:Addr}(hE:EG GB ai al ae):PF GB Tryz.prog 15 [vI 4,eA t00,eA t00] (.tp [.ag [vI (-1), .sl []], .v .nilIface]):=p_MMergeS hE (by decide) t00_gd t00_gd (by decide) (by decide) t00_x
set_option maxHeartbeats 1000000 in
theorem q_known19{GB:Gh}{ai al ae:Addr}(hE:EG GB ai al ae):PF GB Tryz.prog 18 [] (.v (.bool true)):=by
 refine fn Tryz.func18 J J Tryz.ntmps18 J J (fun C=>?_)
 refine cl rfl (q_Xy (m:=0) (n:=0) (by decide) (by decide)) rfl<|cl rfl (q_Xy (m:=1) (n:=0) (by decide) (by decide)) rfl<|cl (fu:=⟨2⟩) rfl (q_Through (m:=0) (n:=0) (m':=1) (n':=0) (by decide) (by decide) (by decide) (by decide) (by decide)) rfl<|?_
 refine eqF 14 (.d (eL l00)) rfl (by rw[l00_eq]) ?_
 refine gx rfl<|cl rfl q_CodeT rfl<|cl (fu:=⟨1⟩) rfl q_CodeT rfl<|bxf J J<|cl rfl (q_Write (t:=t00) t00_gd.bl (by decide)) rfl<|cl rfl (p_MComplA hE (t:=t00) t00_gd (by decide)) rfl<|?_
 refine cl rfl (q19_u hE) rfl<|cl (fu:=⟨23⟩) rfl (q19_x hE) rfl<|knT (fu:=⟨4⟩) J J J<|knT (fu:=⟨9⟩) (hv:=by simp only[allP];exact(by decide)) J J J<|knT J J J<|?_
 exact rz J J
end Go.Sx
end

section
set_option maxRecDepth 100000
namespace Go.Sx
open Go Go.Proofs
theorem TrOk.red_size{k:Nat}{t:Tr}(h:TrOk k t)(hr:t.Red []):t.size≤k*(1+k):=by
 obtain⟨K,h1,h2,h3⟩:=h.am
 exact Nat.le_trans (Tr.size_le h2 hr h.gd.ok GoodC.nil h3) (Nat.mul_le_mul h1 (by omega))
structure TrX (k:Nat) (t:Tr):Prop where
 o:TrOk k t
 s:t.size≤3000
theorem TrX.gd{k:Nat}{t:Tr}(h:TrX k t):t.gd:=h.o.gd
theorem TrX.lb{k:Nat}{t:Tr}(h:TrX k t):t.all LB:=h.o.gd.lb
theorem TrX.ok{k:Nat}{t:Tr}(h:TrX k t):t.all LnQ.ok:=h.o.gd.ok
theorem TrX.bl{k:Nat}{t:Tr}(h:TrX k t):t.all (fun l=>BL l 96):=Tr.all_imp (fun _ h=>h.bl) h.o.gd.lb
theorem TrX.compl{k:Nat}{t:Tr}(h:TrX k t):TrX k t.compl:=⟨h.o.compl,by rw[t.compl_size];exact h.s⟩
theorem TrOk.x{k:Nat}{t:Tr}(h:TrOk k t)(hr:t.Red [])(hk:k≤54):TrX k t:=
 ⟨h,Nat.le_trans (h.red_size hr) (Nat.le_trans (Nat.mul_le_mul hk (show 1+k≤55 by omega)) (by decide))⟩
theorem TrX.merge{j k:Nat}{op:Int}{t u:Tr}(h:TrX j t)(hu:TrX k u)(hk:j+k≤54):TrX (j+k) (t.mergeQ op u []):=(h.o.merge hu.o).x (Tr.merge_red op u t []) hk
theorem TrX.lim{j k:Nat}{op:Int}{t u:Tr}(h:TrX j t)(hu:TrX k u)(hk:j+k≤200):limQ op t u=some (t.mergeQ op u []):=h.o.lim hu.o hk
theorem build_red(rs:List (List ZP))(fill:Int):(buildR rs fill).Red []:=Tr.restrict_red _ _
theorem few_red(es:List Int)(a:Nat):(fewF es a).1.Red []:=by
 unfold fewF
 dsimp only
 split
 ·exact Tr.restrict_red _ _
 ·split
  ·exact Tr.restrict_red _ _
  ·exact build_red _ _
theorem few_ok{es:List Int}{a:Nat}(ha:a≤es.length):TrX 18 (fewF es a).1∧(fewF es a).2≤es.length:=by
 obtain⟨h1,h2⟩:=fewF_ok ha
 exact⟨h1.x (few_red es a) (by decide),h2⟩
def bothF(es:List Int)(a:Nat):(Tr×Tr)×Nat:=
 let x:=regionF es 0 a
 let y:=regionF es 0 x.2
 let k:=nextF es 3 y.2
 let u:=if(k.1:Int)=0 then treeF es 3 k.2 else(x.1,k.2)
 let j:=nextF es 3 u.2
 let v:=if(j.1:Int)=0 then treeF es 3 j.2 else(y.1,j.2)
 ((u.1,v.1),v.2)
def pairF(es:List Int)(a:Nat):(Tr×Tr)×Nat:=
 let x:=regionF es 0 a
 let y:=regionF es 0 x.2
 let k:=nextF es 6 y.2
 if(k.1:Int)=0 then((x.1, .node (lF es k.2).1 x.1 x.1),(lF es k.2).2)
 else if(k.1:Int)=1 then((x.1,y.1.mergeQ 1 x.1 []),k.2)
 else if(k.1:Int)=2 then((x.1,y.1.mergeQ 3 x.1 []),k.2)
 else if(k.1:Int)=3 then((x.1,(treeF es 3 k.2).1),(treeF es 3 k.2).2)
 else((x.1,y.1),k.2)
def regsF(es:List Int):Nat→Nat→List Tr×Nat
 |0,a=>([],a)
 |n+1,a=>((regionF es 0 a).1::(regsF es n (regionF es 0 a).2).1,(regsF es n (regionF es 0 a).2).2)
end Go.Sx
end

section
set_option maxRecDepth 100000
namespace Go.Sx
open Go Go.Proofs
def cvxE(r:List ZP)(i k:Nat):Bool:=decide (k=i)||decide (k=(i+1)%r.length)||decide (0<orientQ (r.getD i (0,0)).q (nextZ r i).q (r.getD k (0,0)).q)
def convexZ(r:List ZP):Bool:=(List.range r.length).all fun i=>(List.range r.length).all fun k=>cvxE r i k
theorem convexZ_no{r:List ZP}{i k:Nat}(hi:i<r.length)(hk:k<r.length)(h:cvxE r i k=false):convexZ r=false:=by
 rw[Bool.eq_false_iff]
 intro e
 have:=(List.all_eq_true.1 ((List.all_eq_true.1 e) i (List.mem_range.2 hi))) k (List.mem_range.2 hk)
 rw[h] at this;cases this
theorem convexZ_yes{r:List ZP}(h: ∀i,i<r.length→ ∀k,k<r.length→cvxE r i k=true):convexZ r=true:=
 List.all_eq_true.2 fun i hi=>List.all_eq_true.2 fun k hk=>h i (List.mem_range.1 hi) k (List.mem_range.1 hk)
theorem orient_q(a b c:ZP):orientQ a.q b.q c.q=(crossZ (b.1-a.1,b.2-a.2) (c.1-a.1,c.2-a.2)).sign:=by
 have e:PtQ.cross (movQ b.q a.q (-1)) (movQ c.q a.q (-1))=((crossZ (b.1-a.1,b.2-a.2) (c.1-a.1,c.2-a.2):Int):Rat):=by
  unfold PtQ.cross movQ crossZ ZP.q iP
  push_cast
  grind
 unfold orientQ
 rw[e,Rat.num_intCast]
theorem sign_pos'{a:Int}:0<a.sign↔0<a:=by
 rcases Int.lt_trichotomy a 0 with h|h|h
 ·rw[Int.sign_eq_neg_one_of_neg h];omega
 ·subst h;simp
 ·rw[Int.sign_eq_one_of_pos h];omega
theorem convexZ_tri{p u v:ZP}:convexZ (triZ p u v)=decide (0<crossZ u v):=by
 obtain⟨p1,p2⟩:=p
 obtain⟨u1,u2⟩:=u
 obtain⟨v1,v2⟩:=v
 have e1:cvxE (triZ (p1,p2) (u1,u2) (v1,v2)) 0 2=decide (0<crossZ (u1,u2) (v1,v2)):=by
  unfold cvxE nextZ triZ addZ
  simp only[List.length_cons,List.length_nil,List.getD_cons_zero,List.getD_cons_succ,Nat.reduceAdd,Nat.reduceMod,orient_q,sign_pos']
  simp[crossZ]
  congr 2
  all_goals (first|omega|grind)
 have e2:cvxE (triZ (p1,p2) (u1,u2) (v1,v2)) 1 0=decide (0<crossZ (u1,u2) (v1,v2)):=by
  unfold cvxE nextZ triZ addZ
  simp only[List.length_cons,List.length_nil,List.getD_cons_zero,List.getD_cons_succ,Nat.reduceAdd,Nat.reduceMod,orient_q,sign_pos']
  simp[crossZ]
  constructor<;>intro h<;>grind
 have e3:cvxE (triZ (p1,p2) (u1,u2) (v1,v2)) 2 1=decide (0<crossZ (u1,u2) (v1,v2)):=by
  unfold cvxE nextZ triZ addZ
  simp only[List.length_cons,List.length_nil,List.getD_cons_zero,List.getD_cons_succ,Nat.reduceAdd,Nat.reduceMod,orient_q,sign_pos']
  simp[crossZ]
  constructor<;>intro h<;>grind
 by_cases h:0<crossZ (u1,u2) (v1,v2)
 ·rw[decide_eq_true h] at e1 e2 e3⊢
  refine convexZ_yes fun i hi k hk=>?_
  have hl:(triZ (p1,p2) (u1,u2) (v1,v2)).length=3:=rfl
  rw[hl] at hi hk
  have hs: ∀j,cvxE (triZ (p1,p2) (u1,u2) (v1,v2)) j j=true:=fun j=>by unfold cvxE;simp
  have hn: ∀j,cvxE (triZ (p1,p2) (u1,u2) (v1,v2)) j ((j+1)%3)=true:=fun j=>by unfold cvxE;simp[hl]
  have h1:i=0∨i=1∨i=2:=by omega
  have h2:k=0∨k=1∨k=2:=by omega
  rcases h1 with rfl|rfl|rfl<;>rcases h2 with rfl|rfl|rfl<;>first|assumption|exact hs _|exact hn _
 ·rw[decide_eq_false h] at e1⊢
  exact convexZ_no (i:=0) (k:=2) (by simp[triZ]) (by simp[triZ]) e1
theorem one_ok{r:List ZP}(h:RingOk r): ∀x∈[r],RingOk x:=fun x hx=>by rw[List.mem_singleton] at hx;subst hx;exact h
set_option maxHeartbeats 2000000 in
theorem q_RConvex{GB:Gh}{r:List ZP}(hle: ∀p∈r,ZP.le 100 p)(h6:r.length≤6):PF GB Tryz.prog 108 [.sl (r.map eZp)] (vB (convexZ r)):=by
 have hm:=map_len' eZp r
 refine fn (fu:=⟨9⟩) Tryz.func108 J J Tryz.ntmps108 J J (fun C=>?_)
 refine eqF 7 (.d (vI (r.length:Nat))) rfl (by rw[hm]<;>rfl) ?_
 refine gx (fu:=⟨8⟩) rfl<|?_
 refine eqF 9 (.d (vI (r.length:Nat))) rfl (by rw[hm]<;>rfl) ?_
 refine gx rfl<|?_
 refine lp (X:=Nat) (fun i=>[(10, .d (vI (i:Nat)))]) (fun i=>[]) (fun i=>i≤r.length∧ ∀j,j<i→ ∀q,q<r.length→cvxE r j q=true) (fun i=>r.length-i) 0 rfl ⟨Nat.zero_le _,fun j hj=>absurd hj (by omega)⟩ (fun _=>rfl) (fun i hk=>?_)
 obtain⟨i1,i2⟩:=hk
 refine br (fu1:=⟨14⟩) J J J (fun hc11=>?_) (fun hc11=>?_)
 ·
  have hir:i<r.length:=by omega
  refine eqF 14 (.d (vI (r.length:Nat))) rfl (by rw[hm]<;>rfl) ?_
  refine gx rfl<|?_
  refine lp (X:=Nat) (fun k=>[(15, .d (vI (k:Nat)))]) (fun k=>[]) (fun k=>k≤r.length∧ ∀q,q<k→cvxE r i q=true) (fun k=>r.length-k) 0 rfl ⟨Nat.zero_le _,fun j hj=>absurd hj (by omega)⟩ (fun _=>rfl) (fun k hk=>?_)
  obtain⟨k1,k2⟩:=hk
  refine br (fu1:=⟨14⟩) J J J (fun hc16=>?_) (fun hc16=>?_)
  ·
   have hkr:k<r.length:=by omega
   haveI hvb:BPt (r.getD i (0,0)).q 12:=bpZ (hle _ (getD_mem hir))
   haveI hwb:BPt (nextZ r i).q 12:=bpZ (hle _ (nextZ_mem hir))
   haveI hub:BPt (r.getD k (0,0)).q 12:=bpZ (hle _ (getD_mem hkr))
   refine csS (fu1:=⟨6⟩) (v2:=fun hg20=>by simp only[allP];exact⟨by kernel_rfl,by omega⟩) J J J J (fun hg20=>?_) (fun hg20=>?_)
   ·
    refine eqF 26 (.d (vI ((i+1)%r.length:Nat))) rfl (by rfl) ?_
    refine gx (fu:=⟨0⟩) rfl<|?_
    refine csS (v2:=fun hg27=>by simp only[allP];exact⟨by kernel_rfl,by omega⟩) J J J J (fun hg27=>?_) (fun hg27=>?_)
    ·
     refine ix (fu:=⟨6⟩) _ rfl (getZ hir) rfl<|?_
     refine eqF 38 (.d (vI ((i+1)%r.length:Nat))) rfl (by rfl) ?_
     refine gx rfl<|ix _ rfl (getNx hir) rfl<|ix _ rfl (getZ hkr) rfl<|cl rfl (q_Orient (a:=(r.getD i (0,0)).q) (b:=(nextZ r i).q) (c:=(r.getD k (0,0)).q) (i:=12) (j:=12) (k:=12)) rfl<|?_
     refine br J J J (fun hc47=>?_) (fun hc47=>?_)
     ·
      have hcv:cvxE r i k=false:=by unfold cvxE;rw[decide_eq_false (show¬k=i by omega),decide_eq_false (show¬k=(i+1)%r.length by omega),decide_eq_false (show¬0<(orientQ (r.getD i (0,0)).q (nextZ r i).q (r.getD k (0,0)).q) by omega)];rfl
      exact rz rfl (by rw[convexZ_no hir hkr hcv];rfl)
     ·
      have hcv:cvxE r i k=true:=by unfold cvxE;rw[decide_eq_true (show 0<orientQ _ _ _ by omega)];simp
      exact at_ (k+1) ⟨⟨by omega,fun q hq=>by by_cases e:q=k;(subst e;exact hcv);exact k2 q (by omega)⟩,(by omega)⟩
    ·
     have hcv:cvxE r i k=true:=by unfold cvxE;rw[decide_eq_true (show k=(i+1)%r.length by omega)];simp
     exact at_ (k+1) ⟨⟨by omega,fun q hq=>by by_cases e:q=k;(subst e;exact hcv);exact k2 q (by omega)⟩,(by omega)⟩
   ·
    have hcv:cvxE r i k=true:=by unfold cvxE;rw[decide_eq_true (show k=i by omega)];rfl
    exact at_ (k+1) ⟨⟨by omega,fun q hq=>by by_cases e:q=k;(subst e;exact hcv);exact k2 q (by omega)⟩,(by omega)⟩
  ·
   obtain rfl:k=r.length:=by omega
   exact at_ (i+1) ⟨⟨by omega,fun j hj q hq=>by by_cases e:j=i;(subst e;exact k2 q (by omega));exact i2 j (by omega) q hq⟩,(by omega)⟩
 ·
  obtain rfl:i=r.length:=by omega
  exact rz rfl (by rw[convexZ_yes fun j hj q hq=>i2 j hj q hq];rfl)
theorem tri_le{p u v:ZP}(h1:ZP.le 40 p)(h2:ZP.le 40 u)(h3:ZP.le 40 v): ∀q∈triZ p u v,ZP.le 100 q:=fun q hq=>by
 unfold ZP.le at*
 simp only[triZ,addZ,List.mem_cons,List.not_mem_nil,or_false] at hq
 rcases hq with rfl|rfl|rfl<;>((try dsimp only);omega)
theorem q_ConvexTri{GB:Gh}{p u v:ZP}(h1:ZP.le 40 p)(h2:ZP.le 40 u)(h3:ZP.le 40 v):PF GB Tryz.prog 108 [.sl ((triZ p u v).map eZp)] (vB (decide (0<crossZ u v))):=by
 have:=q_RConvex (GB:=GB) (r:=triZ p u v) (tri_le h1 h2 h3) (by simp[triZ])
 rw[convexZ_tri] at this
 exact this
set_option maxHeartbeats 4000000 in
theorem q_ConvexT{GB:Gh}{b:Nat}{es:List Int}(hes:es.length≤400){a:Nat}(ha:a≤es.length):PM GB Tryz.prog 54 (mkP [none] b) b 89 [.sl (es.map vI), .v (.int .i64 (a:Nat))] (eRg (convexF es a).1) [.sl (es.map vI), .v (.int .i64 ((convexF es a).2:Nat))]:=by
 have hk0:=nextF_le (n:=2) ha
 have hx1:=nextF_le (n:=3) hk0
 have hy1:=nextF_le (n:=3) hx1
 have l1:=nextF_lt (es:=es) (n:=3) (a:=(nextF es 2 a).2) (by decide)
 have l2:=nextF_lt (es:=es) (n:=3) (a:=(nextF es 3 (nextF es 2 a).2).2) (by decide)
 refine fnM Tryz.func54 J J Tryz.ntmps54 J J (fun C b m lo hmb=>?_)
 refine cm rfl (fun b=>(q_NextT (n:=2) hes ha (by decide) (by decide))) rfl<|?_
 refine br J J J (fun hc13=>?_) (fun hc13=>?_)
 ·
  have hz1:=nextF_le (n:=2) hy1
  have l3:=nextF_lt (es:=es) (n:=2) (a:=(nextF es 3 (nextF es 3 (nextF es 2 a).2).2).2) (by decide)
  have l4:=nextF_lt (es:=es) (n:=2) (a:=(nextF es 2 (nextF es 3 (nextF es 3 (nextF es 2 a).2).2).2).2) (by decide)
  refine cm rfl (fun b=>(q_NextT (n:=3) hes hk0 (by decide) (by decide))) rfl<|cm rfl (fun b=>(q_NextT (n:=3) hes hx1 (by decide) (by decide))) rfl<|?_
  refine cm rfl (fun b=>(q_NextT (n:=2) hes hy1 (by decide) (by decide))) rfl<|cm rfl (fun b=>(q_NextT (n:=2) hes hz1 (by decide) (by decide))) rfl<|?_
  refine cl rfl (q_Xy (m:=(((nextF es 3 (nextF es 2 a).2).1:Int)-1)) (n:=(((nextF es 3 (nextF es 3 (nextF es 2 a).2).2).1:Int)-1)) (by omega) (by omega)) rfl<|?_
  refine cl rfl (q_Xy (m:=(((nextF es 3 (nextF es 2 a).2).1:Int)-1+1+((nextF es 2 (nextF es 3 (nextF es 3 (nextF es 2 a).2).2).2).1:Int))) (n:=(((nextF es 3 (nextF es 3 (nextF es 2 a).2).2).1:Int)-1)) (by omega) (by omega)) rfl<|?_
  refine cl rfl (q_Xy (m:=(((nextF es 3 (nextF es 2 a).2).1:Int)-1+1+((nextF es 2 (nextF es 3 (nextF es 3 (nextF es 2 a).2).2).2).1:Int))) (n:=(((nextF es 3 (nextF es 3 (nextF es 2 a).2).2).1:Int)-1+1+((nextF es 2 (nextF es 2 (nextF es 3 (nextF es 3 (nextF es 2 a).2).2).2).2).1:Int))) (by omega) (by omega)) rfl<|?_
  refine cl rfl (q_Xy (m:=(((nextF es 3 (nextF es 2 a).2).1:Int)-1)) (n:=(((nextF es 3 (nextF es 3 (nextF es 2 a).2).2).1:Int)-1+1+((nextF es 2 (nextF es 2 (nextF es 3 (nextF es 3 (nextF es 2 a).2).2).2).2).1:Int))) (by omega) (by omega)) rfl<|?_
  refine rf J J<|?_
  exact rzM hmb J J (by rw[show convexF es a=_ from if_pos hc13];rfl) (by rw[show convexF es a=_ from if_pos hc13];rfl)
 ·
  have hu1:=nextF_le (n:=2) hy1
  have hu2:=nextF_le (n:=3) hu1
  have hv1:=nextF_le (n:=3) hu2
  have m1:=nextF_lt (es:=es) (n:=2) (a:=(nextF es 3 (nextF es 3 (nextF es 2 a).2).2).2) (by decide)
  have m2:=nextF_lt (es:=es) (n:=3) (a:=(nextF es 2 (nextF es 3 (nextF es 3 (nextF es 2 a).2).2).2).2) (by decide)
  have m3:=nextF_lt (es:=es) (n:=3) (a:=(nextF es 3 (nextF es 2 (nextF es 3 (nextF es 3 (nextF es 2 a).2).2).2).2).2) (by decide)
  have m4:=nextF_lt (es:=es) (n:=2) (a:=(nextF es 3 (nextF es 3 (nextF es 2 (nextF es 3 (nextF es 3 (nextF es 2 a).2).2).2).2).2).2) (by decide)
  refine cm rfl (fun b=>(q_NextT (n:=3) hes hk0 (by decide) (by decide))) rfl<|cm rfl (fun b=>(q_NextT (n:=3) hes hx1 (by decide) (by decide))) rfl<|?_
  refine cl rfl (q_Xy (m:=(((nextF es 3 (nextF es 2 a).2).1:Int)-1)) (n:=(((nextF es 3 (nextF es 3 (nextF es 2 a).2).2).1:Int)-1)) (by omega) (by omega)) rfl<|?_
  refine cm rfl (fun b=>(q_NextT (n:=2) hes hy1 (by decide) (by decide))) rfl<|cm rfl (fun b=>(q_NextT (n:=3) hes hu1 (by decide) (by decide))) rfl<|?_
  refine cl rfl (q_Xy (m:=(1+((nextF es 2 (nextF es 3 (nextF es 3 (nextF es 2 a).2).2).2).1:Int))) (n:=(((nextF es 3 (nextF es 2 (nextF es 3 (nextF es 3 (nextF es 2 a).2).2).2).2).1:Int)-1)) (by omega) (by omega)) rfl<|?_
  refine cm rfl (fun b=>(q_NextT (n:=3) hes hu2 (by decide) (by decide))) rfl<|cm rfl (fun b=>(q_NextT (n:=2) hes hv1 (by decide) (by decide))) rfl<|?_
  refine cl rfl (q_Xy (m:=(((nextF es 3 (nextF es 3 (nextF es 2 (nextF es 3 (nextF es 3 (nextF es 2 a).2).2).2).2).2).1:Int)-1)) (n:=(1+((nextF es 2 (nextF es 3 (nextF es 3 (nextF es 2 (nextF es 3 (nextF es 3 (nextF es 2 a).2).2).2).2).2).2).1:Int))) (by omega) (by omega)) rfl<|?_
  refine cl rfl (q_Of (n:=1) (by decide) (by decide)) rfl<|cl rfl (q_AddI (m:=(((nextF es 3 (nextF es 2 a).2).1:Int)-1)) (n:=(((nextF es 3 (nextF es 3 (nextF es 2 a).2).2).1:Int)-1)) (m':=(1+((nextF es 2 (nextF es 3 (nextF es 3 (nextF es 2 a).2).2).2).1:Int))) (n':=(((nextF es 3 (nextF es 2 (nextF es 3 (nextF es 3 (nextF es 2 a).2).2).2).2).1:Int)-1)) (k:=1) (by omega) (by omega) (by omega) (by omega) (by decide)) rfl<|?_
  refine cl rfl (q_Of (n:=1) (by decide) (by decide)) rfl<|cl rfl (q_AddI (m:=(((nextF es 3 (nextF es 2 a).2).1:Int)-1)) (n:=(((nextF es 3 (nextF es 3 (nextF es 2 a).2).2).1:Int)-1)) (m':=(((nextF es 3 (nextF es 3 (nextF es 2 (nextF es 3 (nextF es 3 (nextF es 2 a).2).2).2).2).2).1:Int)-1)) (n':=(1+((nextF es 2 (nextF es 3 (nextF es 3 (nextF es 2 (nextF es 3 (nextF es 3 (nextF es 2 a).2).2).2).2).2).2).1:Int))) (k:=1) (by omega) (by omega) (by omega) (by omega) (by decide)) rfl<|?_
  refine rf J J<|cl rfl (q_ConvexTri (p:=((((nextF es 3 (nextF es 2 a).2).1:Int)-1),(((nextF es 3 (nextF es 3 (nextF es 2 a).2).2).1:Int)-1))) (u:=((1+((nextF es 2 (nextF es 3 (nextF es 3 (nextF es 2 a).2).2).2).1:Int)),(((nextF es 3 (nextF es 2 (nextF es 3 (nextF es 3 (nextF es 2 a).2).2).2).2).1:Int)-1))) (v:=((((nextF es 3 (nextF es 3 (nextF es 2 (nextF es 3 (nextF es 3 (nextF es 2 a).2).2).2).2).2).1:Int)-1),(1+((nextF es 2 (nextF es 3 (nextF es 3 (nextF es 2 (nextF es 3 (nextF es 3 (nextF es 2 a).2).2).2).2).2).2).1:Int)))) ⟨by omega,by omega⟩ ⟨by omega,by omega⟩ ⟨by omega,by omega⟩) rfl<|?_
  refine bb J J J (fun hc76=>?_) (fun hc76=>?_)
  ·
   refine cl rfl (q_Xy (m:=0) (n:=0) (by decide) (by decide)) rfl<|cl rfl (q_Xy (m:=1) (n:=0) (by decide) (by decide)) rfl<|cl rfl (q_Xy (m:=0) (n:=1) (by decide) (by decide)) rfl<|?_
   refine rf J J<|?_
   exact rzM hmb J J (by rw[show convexF es a=_ from(if_neg hc13).trans (congrArg (fun r=>(r,(nextF es 2 (nextF es 3 (nextF es 3 (nextF es 2 (nextF es 3 (nextF es 3 (nextF es 2 a).2).2).2).2).2).2).2)) (if_neg (by simpa using hc76)))];rfl) (by rw[show convexF es a=_ from if_neg hc13])
  ·
   exact rzM hmb J J (by rw[show convexF es a=_ from(if_neg hc13).trans (congrArg (fun r=>(r,(nextF es 2 (nextF es 3 (nextF es 3 (nextF es 2 (nextF es 3 (nextF es 3 (nextF es 2 a).2).2).2).2).2).2).2)) (if_pos (by simpa using hc76)))];rfl) (by rw[show convexF es a=_ from if_neg hc13])
set_option maxHeartbeats 2000000 in
theorem q_Few{GB:Gh}{b:Nat}{es:List Int}(hes:es.length≤400){a:Nat}(ha:a≤es.length):PM GB Tryz.prog 14 (mkP [none] b) b 89 [.sl (es.map vI), .v (.int .i64 (a:Nat))] (eT (fewF es a).1) [.sl (es.map vI), .v (.int .i64 ((fewF es a).2:Nat))]:=by
 have hk0:=nextF_le (n:=4) ha
 obtain⟨hl,hl2⟩:=lF_ok hk0
 obtain⟨h1,h2,h3,h4⟩:=treeF_ok (d:=2) hk0
 obtain⟨hv,hv2⟩:=convexF_ok hk0
 refine fnM Tryz.func14 J J Tryz.ntmps14 J J (fun C b m lo hmb=>?_)
 refine cm rfl (fun b=>(q_NextT (n:=4) hes ha (by decide) (by decide))) rfl<|?_
 refine br J J J (fun hc5=>?_) (fun hc5=>?_)
 ·
  refine cm rfl (fun b=>(q_LT hes hk0)) rfl<|cl rfl (q_CodeT (p:=true)) rfl<|cl (fu:=⟨1⟩) rfl (q_CodeT (p:=false)) rfl<|bxf J J<|cl rfl (q_RReduce (t:= .node (lF es (nextF es 4 a).2).1 (.leaf true) (.leaf false)) ⟨⟨hl.bl⟩,trivial,trivial⟩ ⟨hl.ok,trivial,trivial⟩ (by simp[Tr.depth])) rfl<|?_
  exact rzM hmb J J (by rw[show fewF es a=_ from if_pos hc5];rfl) (by rw[show fewF es a=_ from if_pos hc5])
 ·
  refine br J J J (fun hc14=>?_) (fun hc14=>?_)
  ·
   refine cm rfl (fun b=>(q_TreeT (d:=2) hes hk0 (by decide))) rfl<|cl rfl (q_RReduce (t:=(treeF es 2 (nextF es 4 a).2).1) (Tr.all_imp (fun _ h=>⟨h⟩) h3) h2 (by omega)) rfl<|?_
   exact rzM hmb J J (by rw[show fewF es a=_ from(if_neg hc5).trans (if_pos hc14)];rfl) (by rw[show fewF es a=_ from(if_neg hc5).trans (if_pos hc14)])
  ·
   refine cm rfl (fun b=>(q_ConvexT hes hk0)) rfl<|rf J J<|cl rfl (q_Api (rs:=[(convexF es (nextF es 4 a).2).1]) (one_ok hv) (by simp)) rfl<|?_
   refine cl rfl (q_RMake (rs:=[(convexF es (nextF es 4 a).2).1]) (fill:=2) (one_ok hv) (by simp)) rfl<|cl rfl (q_Build (rs:=[(convexF es (nextF es 4 a).2).1]) (fill:=2) (one_ok hv) (by simp)) rfl<|?_
   exact rzM hmb J J (by rw[show fewF es a=_ from(if_neg hc5).trans (if_neg hc14)];rfl) (by rw[show fewF es a=_ from(if_neg hc5).trans (if_neg hc14)])
end Go.Sx
end

section
set_option maxRecDepth 100000
namespace Go.Sx
open Go Go.Proofs
section
variable {GB:Gh} {C:Ctx} {n:Nat} {Q0:Exit→Act→World→Prop} {fr fr' fr1 fr2:FrX} {own own' own1 own2:OwX} {cf cf' cf1 cf2:Cf} {vc vc1 vc2:List Prop}
def an3A(fr:FrX)(cf:Cf):Option Int:=match opC fr cf with
 |some ⟨_, .binOp .and _ x (.const (.int .i64 3)) _,_,_,_,_⟩=>match evX (lkC fr cf) x with
  |some (.d (.v (.int .i64 p)))=>some p
  |_=>none
 |_=>none
end
end Go.Sx
end

section
set_option maxRecDepth 100000
namespace Go.Sx
open Go Go.Proofs
theorem q_NewT{GB:Gh}{es0 es:List Int}(hb:es0.length≤1125899906842624)(he:es=es0.take 400):PN GB Tryz.prog 12 [.sl (es0.map vI)] 89 Unit (fun _=>[.sl (es.map vI), .v (.int .i64 (0:Nat))]):=by
 subst he;exact q_New hb
theorem p_MMergeX{GB:Gh}{ai al ae:Addr}(hE:EG GB ai al ae){op:Int}{j k:Nat}{a b:Tr}(ho:1≤op∧op≤4)(ha:TrX j a)(hb:TrX k b)(hk:j+k≤200):PF GB Tryz.prog 15 [vI op,eA a,eA b] (.tp [eA (a.mergeQ op b []), .v .nilIface]):=
 p_MMergeS hE ho ha.gd hb.gd (by have:=ha.s;omega) (by have:=hb.s;omega) (ha.lim hb hk)
theorem p_MComplX{GB:Gh}{ai al ae:Addr}(hE:EG GB ai al ae){j:Nat}{a:Tr}(ha:TrX j a):PF GB Tryz.prog 16 [eA a] (.tp [eA a.compl, .v .nilIface]):=
 p_MComplA hE ha.gd (by have:=ha.s;omega)
theorem q_WriteX{GB:Gh}{k:Nat}{t:Tr}(h:TrX k t):PF GB Tryz.prog 13 [eT t] (eA t):=q_Write h.bl (by have:=h.s;omega)
end Go.Sx
end

section
set_option maxRecDepth 100000
namespace Go.Sx
open Go Go.Proofs
structure Wl (L:List LnQ) (t:Tr):Prop where
 ok:t.all LnQ.ok
 sub: ∀l∈t.lns,l∈L
theorem Wl.merge{L:List LnQ}{a b:Tr}(h:Wl L a)(k:Wl L b)(op:Int):Wl L (a.mergeQ op b []):=
 ⟨Tr.mergeQ_all LnQ.ok op k.ok a [] h.ok,mergeQ_lns h.sub k.sub []⟩
theorem Wl.compl{L:List LnQ}{a:Tr}(h:Wl L a):Wl L a.compl:=⟨a.compl_all _ h.ok,compl_lns h.sub⟩
theorem Wl.val{L:List LnQ}{a b:Tr}(h:Wl L a)(k:Wl L b)(op:Int){p:PtQ}(hp:Off L p):(a.mergeQ op b []).val p=opB op (a.val p) (b.val p):=
 Tr.val_merge op b k.ok a [] p h.ok GoodC.nil (inD_nil p) (hp.sub h.sub) (hp.sub k.sub)
theorem Wl.eqR{L:List LnQ}{a b:Tr}(h:Wl L a)(k:Wl L b)(hL: ∀l∈L,l.ok)(e: ∀p,Off L p→a.val p=b.val p):eqR a b=true:=eqR_of h.ok k.ok hL h.sub k.sub e
theorem Wl.mk0{a b c:Tr}(ha:a.all LnQ.ok)(hb:b.all LnQ.ok)(hc:c.all LnQ.ok):(∀l∈a.lns++(b.lns++c.lns),l.ok)∧Wl (a.lns++(b.lns++c.lns)) a∧Wl (a.lns++(b.lns++c.lns)) b∧Wl (a.lns++(b.lns++c.lns)) c:=
 ⟨fun l hl=>(List.mem_append.1 hl).elim (lns_ok ha l) fun hl=>(List.mem_append.1 hl).elim (lns_ok hb l) (lns_ok hc l),
  ⟨ha,fun l hl=>List.mem_append_left _ hl⟩,⟨hb,fun l hl=>List.mem_append_right _ (List.mem_append_left _ hl)⟩,⟨hc,fun l hl=>List.mem_append_right _ (List.mem_append_right _ hl)⟩⟩
section
variable {a b c:Tr} (ha:a.all LnQ.ok) (hb:b.all LnQ.ok) (hc:c.all LnQ.ok)
include ha hb
theorem alg_morgan:eqR (a.mergeQ 1 b []).compl (a.compl.mergeQ 2 b.compl [])=true:=by
 obtain⟨hL,wa,wb,_⟩:=Wl.mk0 ha hb hb
 refine(wa.merge wb 1).compl.eqR (wa.compl.merge wb.compl 2) hL fun p hp=>?_
 rw[Tr.val_compl,wa.val wb 1 hp,wa.compl.val wb.compl 2 hp,Tr.val_compl,Tr.val_compl]
 unfold opB;simp
theorem alg_diff:eqR (a.mergeQ 3 b []) (a.mergeQ 2 b.compl [])=true:=by
 obtain⟨hL,wa,wb,_⟩:=Wl.mk0 ha hb hb
 refine(wa.merge wb 3).eqR (wa.merge wb.compl 2) hL fun p hp=>?_
 rw[wa.val wb 3 hp,wa.val wb.compl 2 hp,Tr.val_compl]
 unfold opB;simp
theorem alg_xor:eqR (a.mergeQ 4 b []) ((a.mergeQ 1 b []).mergeQ 3 (a.mergeQ 2 b []) [])=true:=by
 obtain⟨hL,wa,wb,_⟩:=Wl.mk0 ha hb hb
 refine(wa.merge wb 4).eqR ((wa.merge wb 1).merge (wa.merge wb 2) 3) hL fun p hp=>?_
 rw[wa.val wb 4 hp,(wa.merge wb 1).val (wa.merge wb 2) 3 hp,wa.val wb 1 hp,wa.val wb 2 hp]
 unfold opB;simp
 cases a.val p<;>cases b.val p<;>rfl
include hc
theorem alg_dist:eqR ((a.mergeQ 1 b []).mergeQ 2 c []) ((a.mergeQ 2 c []).mergeQ 1 (b.mergeQ 2 c []) [])=true:=by
 obtain⟨hL,wa,wb,wc⟩:=Wl.mk0 ha hb hc
 refine((wa.merge wb 1).merge wc 2).eqR ((wa.merge wc 2).merge (wb.merge wc 2) 1) hL fun p hp=>?_
 rw[(wa.merge wb 1).val wc 2 hp,wa.val wb 1 hp,(wa.merge wc 2).val (wb.merge wc 2) 1 hp,wa.val wc 2 hp,wb.val wc 2 hp]
 unfold opB;simp
 cases a.val p<;>cases b.val p<;>cases c.val p<;>rfl
end
end Go.Sx
end

section
set_option maxRecDepth 100000
namespace Go.Sx
open Go Go.Proofs
theorem TrX.mergeK{K:List LnQ}(hn:K.length≤54)(hK: ∀l∈K,l.ok){j k:Nat}{op:Int}{t u:Tr}(h:TrX j t)(hu:TrX k u)(ht:Among K t)(hu':Among K u):TrX (j+k) (t.mergeQ op u []):=
 ⟨h.o.merge hu.o,Nat.le_trans (Tr.merge_size hK h.ok hu.ok ht hu') (Nat.le_trans (Nat.mul_le_mul hn (show 1+K.length≤55 by omega)) (by decide))⟩
theorem three_K{a b c:Tr}(ha:TrX 18 a)(hb:TrX 18 b)(hc:TrX 18 c): ∃K:List LnQ,K.length≤54∧(∀l∈K,l.ok)∧Among K a∧Among K b∧Among K c:=by
 obtain⟨K,h1,h2,h3⟩:=ha.o.am
 obtain⟨M,k1,k2,k3⟩:=hb.o.am
 obtain⟨N,n1,n2,n3⟩:=hc.o.am
 refine⟨K++(M++N),by simp only[List.length_append];omega,fun l hl=>?_,h3.mono fun l hl=>⟨l,List.mem_append_left _ hl, .inl rfl⟩,k3.mono fun l hl=>⟨l,List.mem_append_right _ (List.mem_append_left _ hl), .inl rfl⟩,n3.mono fun l hl=>⟨l,List.mem_append_right _ (List.mem_append_right _ hl), .inl rfl⟩⟩
 rcases List.mem_append.1 hl with h|h
 ·exact h2 l h
 ·exact(List.mem_append.1 h).elim (k2 l) (n2 l)
theorem q_ReadX{GB:Gh}{k:Nat}{t:Tr}(h:TrX k t):PF GB Tryz.prog 60 [eA t] (.tp [eT t,vB true]):=by
 obtain⟨p,h1,h2⟩:=q_ReadQ (rt:=t.num 0) (wr_sm h.lb) (wr_n (by have:=h.s;omega))
 have:=h1 GB
 rw[ofQ_wr h.ok,←eA_RT,h2 t (ofQ_wr h.ok)] at this
 exact this
theorem q_FewN{GB:Gh}{b:Nat}{es:List Int}(hes:es.length≤400){a:Nat}(ha:a≤es.length){A:Tr}{a':Nat}(hA:A=(fewF es a).1)(h':a'=(fewF es a).2):PM GB Tryz.prog 14 (mkP [none] b) b 89 [.sl (es.map vI), .v (.int .i64 (a:Nat))] (eT A) [.sl (es.map vI), .v (.int .i64 (a':Nat))]:=by
 subst hA h';exact q_Few hes ha
theorem q_equal19{GB:Gh}{j k:Nat}{a b:Tr}(ha:TrX j a)(hb:TrX k b)(he:eqR a b=true):PF GB Tryz.prog 17 [eA a,eA b] (.v (.bool true)):=by
 refine fn Tryz.func17 J J Tryz.ntmps17 J J (fun C=>?_)
 refine cl (fu:=⟨5⟩) rfl (q_ReadX ha) rfl<|?_
 refine kbT 6 rfl ?_
 refine gx rfl<|cl (fu:=⟨5⟩) rfl (q_ReadX hb) rfl<|?_
 refine kbT 8 rfl ?_
 refine gx rfl<|cl (fu:=⟨0⟩) rfl (q_REqual ⟨ha.gd,hb.gd,ha.s,hb.s⟩) rfl<|?_
 refine eqF 26 (.d (vB true)) rfl (by rw[he]) ?_
 refine gx rfl<|?_
 exact rz J J
set_option maxHeartbeats 4000000 in
theorem q_MergeAlgebra{GB:Gh}{ai al ae:Addr}(hE:EG GB ai al ae){es0:List Int}(hb:es0.length≤1125899906842624):PF GB Tryz.prog 3 [.sl (es0.map vI)] (.v (.bool true)):=by
 obtain⟨es,hee⟩: ∃es,es=es0.take 400:=⟨_,rfl⟩
 have hes:es.length≤400:=by rw[hee];simp;omega
 obtain⟨A,hAe⟩: ∃A,A=(fewF es 0).1:=⟨_,rfl⟩
 obtain⟨a1,ha1⟩: ∃a,a=(fewF es 0).2:=⟨_,rfl⟩
 obtain⟨B,hBe⟩: ∃B,B=(fewF es a1).1:=⟨_,rfl⟩
 obtain⟨a2,ha2⟩: ∃a,a=(fewF es a1).2:=⟨_,rfl⟩
 obtain⟨D,hDe⟩: ∃D,D=(fewF es a2).1:=⟨_,rfl⟩
 obtain⟨a3,ha3⟩: ∃a,a=(fewF es a2).2:=⟨_,rfl⟩
 obtain⟨hA,l1⟩:=few_ok (es:=es) (Nat.zero_le es.length)
 rw[←hAe] at hA
 rw[←ha1] at l1
 obtain⟨hB,l2⟩:=few_ok l1
 rw[←hBe] at hB
 rw[←ha2] at l2
 obtain⟨hD,l3⟩:=few_ok l2
 rw[←hDe] at hD
 obtain⟨K,kn,kk,kA,kB,kD⟩:=three_K hA hB hD
 have hU:=TrX.merge (op:=1) hA hB (by decide)
 have hI:=TrX.merge (op:=2) hA hB (by decide)
 have hM:=TrX.merge (op:=2) hA.compl hB.compl (by decide)
 have hF:=TrX.merge (op:=3) hA hB (by decide)
 have hN:=TrX.merge (op:=2) hA hB.compl (by decide)
 have hX:=TrX.merge (op:=4) hA hB (by decide)
 have hY:=TrX.mergeK kn kk (op:=3) hU hI (kA.merge kB []) (kA.merge kB [])
 have hUC:=TrX.merge (op:=2) hU hD (by decide)
 have hAC:=TrX.merge (op:=2) hA hD (by decide)
 have hBC:=TrX.merge (op:=2) hB hD (by decide)
 have hV:=TrX.mergeK kn kk (op:=1) hAC hBC (kA.merge kD []) (kB.merge kD [])
 refine fn Tryz.func3 J J Tryz.ntmps3 J J (fun C=>?_)
 refine cn rfl ((q_NewT hb hee)) (fun _=>rfl) (fun _=>?_)
 refine cm rfl (fun b=>(q_FewN hes (Nat.zero_le _) hAe ha1)) rfl<|cl rfl (q_WriteX hA) rfl<|cm rfl (fun b=>(q_FewN hes l1 hBe ha2)) rfl<|cl rfl (q_WriteX hB) rfl<|?_
 refine cm rfl (fun b=>(q_FewN hes l2 hDe ha3)) rfl<|cl rfl (q_WriteX hD) rfl<|cl rfl (p_MMergeX hE (op:=1) (by decide) hA hB (by decide)) rfl<|?_
 refine cl rfl (p_MMergeX hE (op:=2) (by decide) hA hB (by decide)) rfl<|cl rfl (p_MComplX hE hA) rfl<|cl rfl (p_MComplX hE hB) rfl<|cl rfl (p_MComplX hE hU) rfl<|?_
 refine cl rfl (p_MMergeX hE (op:=2) (by decide) hA.compl hB.compl (by decide)) rfl<|cl (fu:=⟨0⟩) rfl (q_equal19 hU.compl hM (alg_morgan hA.ok hB.ok)) rfl<|knF J J J<|?_
 refine cl rfl (p_MMergeX hE (op:=3) (by decide) hA hB (by decide)) rfl<|cl rfl (p_MMergeX hE (op:=2) (by decide) hA hB.compl (by decide)) rfl<|cl rfl (p_MMergeX hE (op:=4) (by decide) hA hB (by decide)) rfl<|?_
 refine cl rfl (p_MMergeX hE (op:=3) (by decide) hU hI (by decide)) rfl<|cl (fu:=⟨0⟩) rfl (q_equal19 hF hN (alg_diff hA.ok hB.ok)) rfl<|knF J J J<|?_
 refine cl (fu:=⟨0⟩) rfl (q_equal19 hX hY (alg_xor hA.ok hB.ok)) rfl<|knF J J J<|cl rfl (p_MMergeX hE (op:=2) (by decide) hU hD (by decide)) rfl<|cl rfl (p_MMergeX hE (op:=2) (by decide) hA hD (by decide)) rfl<|?_
 refine cl rfl (p_MMergeX hE (op:=2) (by decide) hB hD (by decide)) rfl<|cl rfl (p_MMergeX hE (op:=1) (by decide) hAC hBC (by decide)) rfl<|cl (fu:=⟨0⟩) rfl (q_known19 hE) rfl<|?_
 refine knT J J J<|cl rfl (q_equal19 hUC hV (alg_dist hA.ok hB.ok hD.ok)) rfl<|?_
 exact rz J J
end Go.Sx
end

section
set_option maxRecDepth 100000
namespace Go.Sx
open Go Go.Proofs Go.ChangeShapes Go.WideShapes Go.ChangeAt Go.RowKit
def GW(w:World):Gh:=fun b=>match w.heap[b]? with|some (.cells cs _ _)=>some cs.toList|_=>none
theorem GW.sub{w:World}{b:Nat}{cs:List Value}(h:GW w b=some cs): ∃ty fz,w.heap[b]? =some (.cells ⟨cs⟩ ty fz):=by
 unfold GW at h
 split at h
 ·rename_i c t f e
  cases h
  exact⟨t,f,by rw[e]⟩
 ·cases h
theorem GW.of_cell{w:World}{b off:Nat}{v:Value}(h:w.cell? ⟨b,off,none⟩=some v): ∃cs,GW w b=some cs∧cs[off]? =some v:=by
 unfold World.cell? at h
 unfold GW
 split at h
 ·rename_i c t f e
  simp only at e
  refine⟨c.toList,by rw[e],?_⟩
  simpa using h
 all_goals first|(rename_i e;cases h)|cases h
theorem HRel.below{w w':World}{G G':Gh}{own:List Own}(h:HRel ⟨w,G,[]⟩ own G' w'):Below w.heap.size w w':=
 ⟨h.os,h.tape,h.output,h.size,fun k hk=>h.keep k hk (by simp)⟩
theorem isLs_vI{G:Gh}: ∀es:List Int,IsLs G (es.map vI) (es.map fun n=>Value.int .i64 n)
 |[]=> .nil
 |n::t=> .cons (is_v.2 rfl) (isLs_vI t)
theorem open_vI{base:Nat}{H:Type}{enc:TypeId×Value→H}{P:Program}{w:World}{t e:TypeId}{v:Value}{d:DataW H}{ps:List MemPlace}(ht:P.underlying t=some (.slice e))(he:P.underlying e=some (.int .i64))(hc:P.cellsOf e=1)
  (hv:Value.okWide P w .any base t v)(h:DataW.Trod enc P w 0 (fun _=>true) true t v d ps):
  ∃es:List Int,Is (GW w) (.sl (es.map vI)) v∧(d= .nil∧es=[]∨ ∃sp,d= .slice (lits .i64 es) sp)∧(∀n∈es,(Lit.int .i64 n).wf=true):=by
 obtain⟨a0,len,cap,rfl⟩:=okWide_slice ht hv
 obtain⟨fuel,hf⟩:=h
 rcases open_ints ht he hc hf with⟨hcs,hx⟩|⟨a,len',cap',zs,hcs,_,hl,hm,hz,hx,hcell,hwz⟩
 ·simp[Value.cells] at hcs
  obtain⟨rfl,rfl,rfl⟩:=hcs
  simp only[Prod.mk.injEq] at hx
  exact⟨[],is_sl.2 ⟨0,⟨none,0,0⟩,[],rfl,IsSl.nil _ 0, .nil⟩, .inl ⟨hx.1,rfl⟩,by simp⟩
 ·simp[Value.cells] at hcs
  obtain⟨rfl,rfl,rfl⟩:=hcs
  simp only[Prod.mk.injEq] at hx
  simp only[if_true] at hz
  refine⟨zs.take len,is_sl.2 ⟨1,⟨some a,len,cap⟩,(zs.take len).map fun n=>Value.int .i64 n,rfl,⟨by simp;omega,hl,?_⟩,isLs_vI _⟩, .inr ⟨_,hx.1⟩,fun n hn=>hwz n (List.mem_of_mem_take hn)⟩
  by_cases h0:len=0
  ·exact .inl (by simp[h0])
  ·right
   obtain⟨b,off,spot⟩:=a
   have hspot:spot=none:=by simpa[Addr.add] using World.cell?_spot (hcell 0 (by omega))
   subst hspot
   have c0: ∀i,i<zs.length→w.cell? ⟨b,off+i,none⟩=some (.int .i64 (zs.getD i 0)):=fun i hi=>by
    have:=hcell i hi
    rwa [Go.WideShapes.add_plain] at this
   obtain⟨cs,hcs,_⟩:=GW.of_cell (by simpa using c0 0 (by omega))
   refine⟨b,off,cs,rfl,hcs,fun i hi=>?_⟩
   simp only[List.length_map,List.length_take] at hi
   obtain⟨cs',hcs',hi'⟩:=GW.of_cell (c0 i (by omega))
   rw[hcs] at hcs'
   cases hcs'
   rw[Nat.mul_one,takeL_one.2 hi']
   simp[cellsL,List.getD,List.getElem?_eq_getElem (show i<zs.length by omega)]
end Go.Sx
end
