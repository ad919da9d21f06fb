/-
  Reference: edges, winding numbers, regions of rings. Reference: regions made of rings of package api. Reference: restriction of a tree. Reference: lines and cells around a point, from the tape. Reference: trees written for package api. Reference: the tape, trees that are the same; the program's Reduce over deep values. Reference: raw trees of rings. Reference: trees of rings, complements, merges. Reference: rings, half-planes and regions of the tape. Plain laws of layers 19 and 20: relations of regions by points. Reference: trees as they come. Trees of package api read back. Law 19: the operations at trees of package api; the sanity check. Pairs of regions of the tape, as functions; their sizes.
-/
import Derived.Test.YtlnphbkcelfboaaGreatDoorMs16
set_option linter.unusedSimpArgs false
set_option linter.unusedVariables false
section
set_option maxRecDepth 100000
namespace Go.Sx
open Go Go.Proofs
def eZp(p:ZP):DV:=eP p.q
def eRg(r:List ZP):DV:= .sl (r.map eZp)
theorem slOkZ(l:List ZP):slOk 6 (l.map eZp):=fun d hd=>by
 obtain⟨u,_,rfl⟩:=List.mem_map.1 hd;exact⟨rfl,rfl⟩
theorem slOkRg(l:List (List ZP)):slOk 1 (l.map eRg):=fun d hd=>by
 obtain⟨u,_,rfl⟩:=List.mem_map.1 hd;exact⟨rfl,rfl⟩
theorem getZ{r:List ZP}{i:Nat}(h:i<r.length):(r.map eZp)[((i:Nat):Int).toNat]? =some (eZp (r.getD i (0,0))):=by
 rw[Int.toNat_natCast,List.getElem?_map,List.getD_eq_getElem?_getD,List.getElem?_eq_getElem h];rfl
theorem getNx{r:List ZP}{i:Nat}(h:i<r.length):(r.map eZp)[(((i+1)%r.length:Nat):Int).toNat]? =some (eZp (nextZ r i)):=getZ (Nat.mod_lt _ (by omega))
theorem wnd_le(v w p:PtQ):(wndQ v w p).natAbs≤1:=by
 unfold wndQ;split<;>split<;>decide
theorem numN_le(r:List ZP)(p:PtQ): ∀k,(numN r p k).natAbs≤k
 |0=>Nat.le_refl _
 |k+1=>by rw[numN];have:=numN_le r p k;have:=wnd_le (r.getD k (0,0)).q (nextZ r k).q p;omega
set_option maxHeartbeats 1000000 in
theorem q_Edges{GB:Gh}{r:List ZP}(h:RingOk r):PF GB Tryz.prog 104 [.sl (r.map eZp)] (.sl ((edgesZ r).map eFF)):=by
 have hm:=map_len' eZp r
 have h3:=h.n3
 have h6:=h.n6
 refine fn (fu:=⟨15⟩) Tryz.func104 J J Tryz.ntmps104 J J (fun C=>?_)
 refine eqF 8 (.d (vI (r.length:Nat))) rfl (by rw[hm]<;>rfl) ?_
 refine gx rfl<|?_
 refine nr 3 3 186 14 J J J ?_
 refine lp (X:=Nat) (fun k=>[(9, .d (vI (k:Nat))),(3, .rw 3)]) (fun k=>[(3,some (.b 186 14 ((edgesN r k).map eFF) true))]) (fun k=>k≤r.length) (fun k=>r.length-k) 0 rfl (Nat.zero_le _) (fun _=>rfl) (fun k hk=>?_)
 have hel:=fun hh=>(edgesN_ok (k:=k) h hh).1
 refine br J J J (fun hc10=>?_) (fun hc10=>?_)
 ·
  have hkr:k<r.length:=by omega
  have hel:=hel (by omega)
  have hem:=map_len' eFF (edgesN r k)
  refine ix (fu:=⟨7⟩) _ rfl (getZ hkr) rfl<|?_
  refine eqF 22 (.d (vI ((k+1)%r.length:Nat))) rfl (by rw[hm]<;>rfl) ?_
  refine gx rfl<|ix _ rfl (getNx hkr) rfl<|cl rfl (q_Segment (v:=r.getD k (0,0)) (w:=nextZ r k) (h.le _ (getD_mem hkr)) (h.le _ (nextZ_mem hkr)) (h.ne k hkr)) rfl<|?_
  refine rf J J<|ap ((edgesN r (k+1)).map eFF) rfl (by rw[edgesN,List.map_append];rfl) (slOkFF [edgeZ (r.getD k (0,0)) (nextZ r k)]) rfl<|?_
  refine rnE 31 3 rfl ?_
  exact at_ (k+1) ⟨(by omega),(by omega)⟩
 ·
  obtain rfl:k=r.length:=by omega
  refine fzE 3 rfl ?_
  exact rz J J
set_option maxHeartbeats 2000000 in
theorem q_Number{GB:Gh}{r:List ZP}{p:PtQ}{i:Nat}[hp:BPt p i](h:RingOk r)(hi:i≤80000:=by decide):PF GB Tryz.prog 220 [.sl (r.map eZp),eP p] (vI (numZ r p)):=by
 have hm:=map_len' eZp r
 have h3:=h.n3
 have h6:=h.n6
 refine fn (fu:=⟨16⟩) Tryz.func220 J J Tryz.ntmps220 J J (fun C=>?_)
 refine eqF 12 (.d (vI (r.length:Nat))) rfl (by rw[hm]<;>rfl) ?_
 refine gx rfl<|?_
 refine lp (X:=Nat×Int) (fun⟨k,c⟩=>[(13, .d (vI (k:Nat))),(5, .d (vI c))]) (fun⟨k,c⟩=>[]) (fun⟨k,c⟩=>c=numN r p k∧k≤r.length) (fun⟨k,c⟩=>r.length-k) (0,0) rfl ⟨rfl,Nat.zero_le _⟩ (fun _=>rfl) (fun⟨k,c⟩ hk=>?_)
 dsimp only at hk⊢
 obtain⟨h1,h2⟩:=hk
 have hcl:c.natAbs≤k:=by rw[h1];exact numN_le r p k
 refine br J J J (fun hc14=>?_) (fun hc14=>?_)
 ·
  have hkr:k<r.length:=by omega
  obtain⟨v,hv⟩: ∃v,v=r.getD k (0,0):=⟨_,rfl⟩
  obtain⟨w,hw⟩: ∃v,v=nextZ r k:=⟨_,rfl⟩
  haveI hvb:BPt v.q 12:=by rw[hv];exact bpZ (h.le _ (getD_mem hkr))
  haveI hwb:BPt w.q 12:=by rw[hw];exact bpZ (h.le _ (nextZ_mem hkr))
  refine ix (fu:=⟨1⟩) _ rfl (getZ hkr) rfl<|?_
  refine eqF 19 (.d (eP v.q)) rfl (by rw[hv];rfl) ?_
  refine gx (fu:=⟨6⟩) rfl<|?_
  refine eqF 25 (.d (vI ((k+1)%r.length:Nat))) rfl (by rw[hm]<;>rfl) ?_
  refine gx rfl<|ix (fu:=⟨1⟩) _ rfl (getNx hkr) rfl<|?_
  refine eqF 27 (.d (eP w.q)) rfl (by rw[hw];rfl) ?_
  refine gx rfl<|cl rfl (q_C (a:=v.q.y) (b:=p.y) (i:=12) (j:=i) (by decide) (by omega)) rfl<|cl (fu:=⟨9⟩) rfl (q_C (a:=w.q.y) (b:=p.y) (i:=12) (j:=i) (by decide) (by omega)) rfl<|?_
  rcases(show(rcmp v.q.y p.y≤0∧rcmp w.q.y p.y≤0)∨(rcmp v.q.y p.y≤0∧ ¬rcmp w.q.y p.y≤0)∨(¬rcmp v.q.y p.y≤0∧rcmp w.q.y p.y≤0)∨(¬rcmp v.q.y p.y≤0∧ ¬rcmp w.q.y p.y≤0) by omega) with⟨ca,cb⟩|⟨ca,cb⟩|⟨ca,cb⟩|⟨ca,cb⟩
  ·
   refine knT (fu:=⟨3⟩) rfl (by show some (decide _)=some true;rw[decide_eq_true (by omega)]) rfl<|knF (fu:=⟨15⟩) rfl (by show some (decide _)=some false;rw[decide_eq_false (by omega)]) rfl<|?_
   refine knF (fu:=⟨20⟩) rfl (by show some (decide _)=some false;rw[decide_eq_false (by omega)]) rfl<|?_
   exact at_ (k+1,c) (by dsimp only;exact⟨⟨by rw[numN,←h1,←hv,←hw];unfold wndQ;split<;>split<;>omega,by omega⟩,(by omega)⟩)
  ·
   refine knT (fu:=⟨3⟩) rfl (by show some (decide _)=some true;rw[decide_eq_true (by omega)]) rfl<|knT rfl (by show some (decide _)=some true;rw[decide_eq_true (by omega)]) rfl<|?_
   refine cl rfl (q_Orient (a:=v.q) (b:=w.q) (c:=p) (i:=12) (j:=12) (k:=i) (by decide) (by decide) hi) rfl<|?_
   refine br (fu1:=⟨10⟩) (fu2:=⟨6⟩) J J J (fun hc51=>?_) (fun hc51=>?_)
   ·
    refine knF rfl (by show some (decide _)=some false;rw[decide_eq_false (by omega)]) rfl<|?_
    exact at_ (k+1,c+1) (by dsimp only;exact⟨⟨by rw[numN,←h1,←hv,←hw];unfold wndQ;split<;>split<;>omega,by omega⟩,(by omega)⟩)
   ·
    refine knF (fu:=⟨20⟩) rfl (by show some (decide _)=some false;rw[decide_eq_false (by omega)]) rfl<|?_
    exact at_ (k+1,c) (by dsimp only;exact⟨⟨by rw[numN,←h1,←hv,←hw];unfold wndQ;split<;>split<;>omega,by omega⟩,(by omega)⟩)
  ·
   refine knF (fu:=⟨19⟩) rfl (by show some (decide _)=some false;rw[decide_eq_false (by omega)]) rfl<|knT (fu:=⟨2⟩) rfl (by show some (decide _)=some true;rw[decide_eq_true (by omega)]) rfl<|?_
   refine knT rfl (by show some (decide _)=some true;rw[decide_eq_true (by omega)]) rfl<|cl rfl (q_Orient (a:=v.q) (b:=w.q) (c:=p) (i:=12) (j:=12) (k:=i) (by decide) (by decide) hi) rfl<|?_
   refine br (fu2:=⟨8⟩) J J J (fun hc65=>?_) (fun hc65=>?_)
   ·
    exact at_ (k+1,c-1) (by dsimp only;exact⟨⟨by rw[numN,←h1,←hv,←hw];unfold wndQ;split<;>split<;>omega,by omega⟩,(by omega)⟩)
   ·
    exact at_ (k+1,c) (by dsimp only;exact⟨⟨by rw[numN,←h1,←hv,←hw];unfold wndQ;split<;>split<;>omega,by omega⟩,(by omega)⟩)
  ·
   refine knF (fu:=⟨19⟩) rfl (by show some (decide _)=some false;rw[decide_eq_false (by omega)]) rfl<|knT (fu:=⟨2⟩) rfl (by show some (decide _)=some true;rw[decide_eq_true (by omega)]) rfl<|?_
   refine knF rfl (by show some (decide _)=some false;rw[decide_eq_false (by omega)]) rfl<|?_
   exact at_ (k+1,c) (by dsimp only;exact⟨⟨by rw[numN,←h1,←hv,←hw];unfold wndQ;split<;>split<;>omega,by omega⟩,(by omega)⟩)
 ·
  obtain rfl:k=r.length:=by omega
  have hfin:numZ r p=c:=h1.symm
  exact rz rfl (by rw[hfin];rfl)
theorem q_Accepts{GB:Gh}{fill n:Int}(hn:n.natAbs≤1000):PF GB Tryz.prog 221 [vI fill,vI n] (vB (accQ fill n)):=by
 refine fn Tryz.func221 J J Tryz.ntmps221 J J (fun C=>?_)
 refine cs 7 J J J (fun hg7=>?_) (fun hg7=>?_)
 ·
  refine cs 12 J J J (fun hg12=>?_) (fun hg12=>?_)
  ·
   exact rz rfl (by show vB _=vB _;unfold accQ;congr 1;simp_all)
  ·
   refine cs 15 J J J (fun hg15=>?_) (fun hg15=>?_)
   ·
    exact rz rfl (by show vB _=vB _;unfold accQ;congr 1;simp_all)
   ·
    exact rz rfl (by show vB _=vB _;unfold accQ;congr 1;simp_all)
 ·
  refine cs 15 J J J (fun hg15=>?_) (fun hg15=>?_)
  ·
   exact rz rfl (by show vB _=vB _;unfold accQ;congr 1;simp_all)
  ·
   exact rz rfl (by show vB _=vB _;unfold accQ;congr 1;simp_all)
def lnsR(rs:List (List ZP)):List LnQ:=(edgesR rs).map FrQ.l
def eRR(rs:List (List ZP))(fill:Int):DV:= .ag [.sl (rs.map eRg), .v (.int .i64 fill), .sl ((distQ (lnsR rs)).map eL)]
theorem inK_le{rs:List (List ZP)}{p:PtQ}(h: ∀r∈rs,RingOk r)(k:Nat):((rs.take k).foldl (fun n r=>n+numZ r p) 0).natAbs≤6*k:=by
 induction k with
 |zero=>rw[List.take_zero];exact Nat.zero_le _
 |succ k ih=>
  rw[List.take_add_one,List.foldl_append]
  cases e:rs[k]? with
  |none=>exact Nat.le_trans ih (by omega)
  |some r=>
   have h1:(numZ r p).natAbs≤r.length:=numN_le r p r.length
   have h2:=(h r (List.mem_of_getElem? e)).n6
   show(List.foldl _ 0 (rs.take k)+numZ r p).natAbs≤_
   omega
set_option maxHeartbeats 1000000 in
theorem q_RIn{GB:Gh}{rs:List (List ZP)}{fill:Int}{p:PtQ}{i:Nat}[hp:BPt p i](h: ∀r∈rs,RingOk r)(hn:rs.length≤100)(hi:i≤80000:=by decide):PF GB Tryz.prog 173 [eRR rs fill,eP p] (vB (inR rs fill p)):=by
 have hm:=map_len' eRg rs
 refine fn (fu:=⟨18⟩) Tryz.func173 J J Tryz.ntmps173 J J (fun C=>?_)
 refine eqF 10 (.d (vI (rs.length:Nat))) rfl (by rw[hm]<;>rfl) ?_
 refine gx rfl<|?_
 refine lp (X:=Nat×Int) (fun⟨k,c⟩=>[(11, .d (vI (k:Nat))),(5, .d (vI c))]) (fun⟨k,c⟩=>[]) (fun⟨k,c⟩=>c=(rs.take k).foldl (fun n r=>n+numZ r p) 0∧k≤rs.length) (fun⟨k,c⟩=>rs.length-k) (0,0) rfl ⟨by rw[List.take_zero];rfl,Nat.zero_le _⟩ (fun _=>rfl) (fun⟨k,c⟩ hk=>?_)
 dsimp only at hk⊢
 obtain⟨h1,h2⟩:=hk
 have hcl:c.natAbs≤6*k:=by rw[h1];exact inK_le h k
 refine br J J J (fun hc12=>?_) (fun hc12=>?_)
 ·
  obtain⟨r,hz⟩: ∃s,rs[k]? =some s:=⟨_,List.getElem?_eq_getElem (by omega)⟩
  have hr:=h r (List.mem_of_getElem? hz)
  have hnz:(numZ r p).natAbs≤6:=Nat.le_trans (numN_le r p r.length) hr.n6
  refine ix _ rfl (map_getS hz) rfl<|cl rfl (q_Number (r:=r) (p:=p) hr hi) rfl<|?_
  exact at_ (k+1,c+numZ r p) (by dsimp only;exact⟨⟨by rw[List.take_add_one,hz,List.foldl_append,←h1];rfl,by omega⟩,(by omega)⟩)
 ·
  obtain rfl:k=rs.length:=by omega
  rw[List.take_length] at h1
  refine cl rfl (q_Accepts (fill:=fill) (n:=c) (by omega)) rfl<|?_
  exact rz rfl (by unfold inR;rw[←h1];rfl)
end Go.Sx
end

section
set_option maxRecDepth 100000
namespace Go.Sx
open Go Go.Proofs
def eAr(r:List ZP):DV:= .sl ((r.map ZP.q).map ePt)
theorem slOkAr(l:List (List ZP)):slOk 1 (l.map eAr):=fun d hd=>by
 obtain⟨u,_,rfl⟩:=List.mem_map.1 hd;exact⟨rfl,rfl⟩
theorem bp1200{r:List ZP}(h: ∀p∈r,ZP.le 100 p): ∀p∈r.map ZP.q,BPt p 1200:=fun p hp=>by
 obtain⟨z,hz,rfl⟩:=List.mem_map.1 hp
 have:=bpZ (h z hz)
 exact⟨BQ.mono this.x (by decide),BQ.mono this.y (by decide)⟩
theorem eRg_eq(r:List ZP):DV.sl ((r.map ZP.q).map eP)=eRg r:=by unfold eRg;rw[List.map_map];rfl
theorem edgesR_snoc{rs:List (List ZP)}{k:Nat}{r:List ZP}(h:rs[k]? =some r):edgesR (rs.take (k+1))=edgesR (rs.take k)++edgesZ r:=by
 unfold edgesR;rw[List.take_add_one,h,List.flatMap_append];simp
theorem edgesR_take{rs:List (List ZP)}(h: ∀r∈rs,RingOk r)(k:Nat):(edgesR (rs.take k)).length≤6*k:=by
 have:=(edgesR_ok (rs:=rs.take k) (fun r hr=>h r (List.mem_of_mem_take hr))).1
 have h2:(rs.take k).length≤k:=by rw[List.length_take];omega
 omega
set_option maxHeartbeats 2000000 in
theorem q_RMake{GB:Gh}{rs:List (List ZP)}{fill:Int}(h: ∀r∈rs,RingOk r)(hn:rs.length≤100):PF GB Tryz.prog 52 [.sl (rs.map eAr), .v (.int .i64 fill)] (eRR rs fill):=by
 have hm:=map_len' eAr rs
 refine fn (fu:=⟨8⟩) Tryz.func52 J J Tryz.ntmps52 J J (fun C=>?_)
 refine bzp (fu:=⟨14⟩) 100 1 0 [] [.v (.int .i64 fill), .sl []] J J J J J<|?_
 refine eqF 15 (.d (vI (rs.length:Nat))) rfl (by rw[hm]<;>rfl) ?_
 refine gx rfl<|?_
 refine nr 6 6 46 6 J J J ?_
 refine lp (X:=Nat) (fun k=>[(16, .d (vI (k:Nat))),(6, .rw 6),(5, .ov 5 0)]) (fun k=>[(5,some (.o 96 [.rw 13, .d (.v (.int .i64 fill)), .d (.sl [])] true)),(13,some (.b 100 1 ((rs.take k).map eRg) true)),(6,some (.b 46 6 (((edgesR (rs.take k)).map FrQ.l).map eL) true))]) (fun k=>k≤rs.length) (fun k=>rs.length-k) 0 rfl (Nat.zero_le _) (fun _=>rfl) (fun k hk=>?_)
 refine br (fu2:=⟨0⟩) J J J (fun hc17=>?_) (fun hc17=>?_)
 ·
  obtain⟨r,hz⟩: ∃s,rs[k]? =some s:=⟨_,List.getElem?_eq_getElem (by omega)⟩
  have hr:=h r (List.mem_of_getElem? hz)
  have hel:(edgesZ r).length≤6:=by have:=(edges_ok hr).1;have:=hr.n6;omega
  have het:=edgesR_take h k
  have hrl:((rs.take k).map eRg).length=k:=by rw[List.length_map,List.length_take];omega
  refine ix _ rfl (map_getS hz) rfl<|cl (fu:=⟨0⟩) rfl (q_Pts (ps:=r.map ZP.q) (bp1200 hr.le) (by rw[List.length_map];have:=hr.n6;omega)) rfl<|?_
  refine eqF 21 (.d (eRg r)) rfl (by rw[eRg_eq]) ?_
  refine gx rfl<|rf J J<|ap ((rs.take (k+1)).map eRg) rfl (take_map_snoc hz) (slOkRg [r]) rfl<|cl (fu:=⟨1⟩) rfl (q_Edges (r:=r) hr) rfl<|?_
  refine eqF 30 (.d (vI ((edgesZ r).length:Nat))) rfl (by rw[map_len' eFF (edgesZ r)]<;>rfl) ?_
  refine gx rfl<|?_
  rw[←List.append_nil (edgesR (rs.take k)),←List.take_zero (l:=edgesZ r)]
  refine lp (X:=Nat) (fun j=>[(31, .d (vI (j:Nat))),(6, .rw 6)]) (fun j=>[(6,some (.b 46 6 (((edgesR (rs.take k)++(edgesZ r).take j).map FrQ.l).map eL) true))]) (fun j=>j≤(edgesZ r).length) (fun j=>(edgesZ r).length-j) 0 rfl (Nat.zero_le _) (fun _=>rfl) (fun j hk=>?_)
  have hml:(((edgesR (rs.take k)++(edgesZ r).take j).map FrQ.l).map eL).length≤6*k+6:=by rw[List.length_map,List.length_map,List.length_append,List.length_take];omega
  refine br J J J (fun hc32=>?_) (fun hc32=>?_)
  ·
   obtain⟨e,he⟩: ∃s,(edgesZ r)[j]? =some s:=⟨_,List.getElem?_eq_getElem (by omega)⟩
   refine ix _ rfl (map_getS he) rfl<|rf J J<|ap (((edgesR (rs.take k)++(edgesZ r).take (j+1)).map FrQ.l).map eL) rfl (by rw[List.take_add_one,he];simp only[List.map_append,List.append_assoc];rfl) (slOkL [e.l]) rfl<|?_
   refine rnE 39 6 rfl ?_
   exact at_ (j+1) ⟨(by omega),(by omega)⟩
  ·
   obtain rfl:j=(edgesZ r).length:=by omega
   rw[List.take_length,←edgesR_snoc hz]
   refine rnE 26 13 rfl ?_
   exact at_ (k+1) ⟨(by omega),(by omega)⟩
 ·
  obtain rfl:k=rs.length:=by omega
  rw[List.take_length]
  refine fzC 6 rfl ?_
  refine fzC 13 rfl ?_
  refine gx rfl<|cl rfl (q_Distinct (ls:=lnsR rs) (fun l hl=>by obtain⟨f,hf,rfl⟩:=List.mem_map.1 hl;exact((edgesR_ok h).2 f hf).lb) (by unfold lnsR;rw[List.length_map];have:=(edgesR_ok h).1;omega)) rfl<|?_
  exact rz J J
set_option maxHeartbeats 1000000 in
theorem q_Api{GB:Gh}{rs:List (List ZP)}(h: ∀r∈rs,RingOk r)(hn:rs.length≤100):PF GB Tryz.prog 53 [.sl (rs.map eRg)] (.sl (rs.map eAr)):=by
 have hm:=map_len' eRg rs
 refine fn (fu:=⟨15⟩) Tryz.func53 J J Tryz.ntmps53 J J (fun C=>?_)
 refine eqF 7 (.d (vI (rs.length:Nat))) rfl (by rw[hm]<;>rfl) ?_
 refine gx rfl<|?_
 refine nr 3 3 181 1 J J J ?_
 refine lp (X:=Nat) (fun k=>[(8, .d (vI (k:Nat))),(3, .rw 3)]) (fun k=>[(3,some (.b 181 1 ((rs.take k).map eAr) true))]) (fun k=>k≤rs.length) (fun k=>rs.length-k) 0 rfl (Nat.zero_le _) (fun _=>rfl) (fun k hk=>?_)
 have hml:((rs.take k).map eAr).length≤k:=by rw[List.length_map,List.length_take];omega
 refine br J J J (fun hc9=>?_) (fun hc9=>?_)
 ·
  obtain⟨r,hz⟩: ∃s,rs[k]? =some s:=⟨_,List.getElem?_eq_getElem (by omega)⟩
  have hr:=h r (List.mem_of_getElem? hz)
  refine ix (fu:=⟨1⟩) _ rfl (map_getS hz) rfl<|?_
  refine eqF 11 (.d (.sl ((r.map ZP.q).map eP))) rfl (by rw[eRg_eq]) ?_
  refine gx rfl<|cl rfl (q_ToPs (ps:=r.map ZP.q) (bp1200 hr.le) (by rw[List.length_map];have:=hr.n6;omega)) rfl<|rf J J<|ap ((rs.take (k+1)).map eAr) rfl (take_map_snoc hz) (slOkAr [r]) rfl<|?_
  refine rnE 16 3 rfl ?_
  exact at_ (k+1) ⟨(by omega),(by omega)⟩
 ·
  obtain rfl:k=rs.length:=by omega
  refine fzE 3 rfl ?_
  exact rz rfl (by rw[List.take_length];rfl)
end Go.Sx
end

section
set_option maxRecDepth 100000
namespace Go.Sx
open Go Go.Proofs
theorem canonIns_len(out:List LnQ)(l:LnQ):(canonIns out l).length≤out.length+1:=by
 unfold canonIns
 split
 ·omega
 ·simp;omega
theorem canonF_len(c:List LnQ): ∀(t out:List LnQ),(canonF c t out).length≤out.length+t.length
 |[],out=>by simp[canonF]
 |l::t,out=>by
  rw[canonF]
  refine Nat.le_trans (canonF_len c t _) ?_
  have:=canonIns_len out l
  split<;>simp<;>omega
theorem canonL_len(c:List LnQ):(canonL c).length≤c.length:=Nat.le_trans (canonF_len c c []) (by simp)
theorem lb_can{c:List LnQ}(h: ∀m∈c,LB m): ∀m∈canonL c,LB m:=fun m hm=>h m (mem_canonL.1 hm).1
theorem ok_can{c:List LnQ}(h: ∀m∈c,m.ok): ∀m∈canonL c,m.ok:=fun m hm=>h m (mem_canonL.1 hm).1
theorem q_with{GB:Gh}{c:List LnQ}{l:LnQ}(hc: ∀m∈c,LB m)(hok: ∀m∈c,m.ok)(hn:c.length≤900)(hl:LB l)(hlo:l.ok):PF GB Tryz.prog 84 [.sl (c.map eL),eL l] (.sl ((canonL (c++[l])).map eL)):=by
 have hcl:=mapL_len c
 refine fn Tryz.func84 J J Tryz.ntmps84 J J (fun C=>?_)
 refine ro0 J J<|ap (c.map eL) J J (slOkL _) rfl<|rf J J<|apf ((c++[l]).map eL) rfl (by rw[List.map_append];rfl) (slOkL [l]) rfl<|?_
 refine cl rfl (q_Canon (c:=c++[l]) (lb_app hc hl) (ok_app hok hlo) (by simp;omega)) rfl<|?_
 exact rz J J
theorem q_join_n{GB:Gh}{l l1:LnQ}{x y u:Tr}:PF GB Tryz.prog 83 [eL l,eT (.node l1 x y),eT u] (eT (.node l (.node l1 x y) u)):=by
 refine fn (fu:=⟨12⟩) Tryz.func83 J J Tryz.ntmps83 J J (fun C=>?_)
 refine knF J J J<|?_
 refine fzE 33 rfl ?_
 exact rz J J
theorem q_join_ln{GB:Gh}{l l1:LnQ}{x y:Tr}{p:Bool}:PF GB Tryz.prog 83 [eL l,eT (.leaf p),eT (.node l1 x y)] (eT (.node l (.leaf p) (.node l1 x y))):=by
 refine fn (fu:=⟨12⟩) Tryz.func83 J J Tryz.ntmps83 J J (fun C=>?_)
 refine knT (fu:=⟨4⟩) J J J<|knF J J J<|?_
 refine fzE 33 rfl ?_
 exact rz J J
theorem q_join_ll{GB:Gh}{l:LnQ}{p q:Bool}:PF GB Tryz.prog 83 [eL l,eT (.leaf p),eT (.leaf q)] (eT (Tr.joinQ l (.leaf p) (.leaf q))):=by
 refine fn (fu:=⟨12⟩) Tryz.func83 J J Tryz.ntmps83 J J (fun C=>?_)
 refine knT (fu:=⟨4⟩) J J J<|knT J J J<|?_
 refine bd J J J (fun hc27=>?_) (fun hc27=>?_)
 ·
  exact rz rfl (by rw[show Tr.joinQ l (.leaf p) (.leaf q)= .leaf p by simp[Tr.joinQ,Tr.isLeaf,Tr.code,hc27]];rfl)
 ·
  refine fzE 33 rfl ?_
  exact rz rfl (by rw[show Tr.joinQ l (.leaf p) (.leaf q)= .node l (.leaf p) (.leaf q) by simp[Tr.joinQ,Tr.isLeaf,Tr.code,hc27]];rfl)
theorem q_join{GB:Gh}{l:LnQ}: ∀{x y:Tr},PF GB Tryz.prog 83 [eL l,eT x,eT y] (eT (Tr.joinQ l x y))
 | .leaf _, .leaf _=>q_join_ll
 | .leaf _, .node .. =>q_join_ln
 | .node ..,_=>q_join_n
theorem q_RRestrict_leaf{GB:Gh}{b:Bool}{c:List LnQ}:PF GB Tryz.prog 81 [eT (.leaf b), .sl (c.map eL)] (eT (Tr.restrictL (.leaf b) c)):=by
 refine fn (fu:=⟨11⟩) Tryz.func81 J J Tryz.ntmps81 J J (fun C=>?_)
 refine knT J J J<|?_
 exact rz J J
theorem q_RRestrict_node{GB:Gh}{l:LnQ}{x y:Tr}{c:List LnQ}(hl:LB l)(hlo:l.ok)(hc: ∀m∈c,LB m)(hok: ∀m∈c,m.ok)(hn:c.length+(Tr.node l x y).depth≤900)(ihx: ∀{c:List LnQ},(∀m∈c,LB m)→(∀m∈c,m.ok)→c.length+x.depth≤900→PF GB Tryz.prog 81 [eT x, .sl (c.map eL)] (eT (Tr.restrictL x c)))(ihy: ∀{c:List LnQ},(∀m∈c,LB m)→(∀m∈c,m.ok)→c.length+y.depth≤900→PF GB Tryz.prog 81 [eT y, .sl (c.map eL)] (eT (Tr.restrictL y c))):PF GB Tryz.prog 81 [eT (.node l x y), .sl (c.map eL)] (eT (Tr.restrictL (.node l x y) c)):=by
 have hdp:(Tr.node l x y).depth=1+Nat.max x.depth y.depth:=rfl
 have hdx:x.depth≤Nat.max x.depth y.depth:=Nat.le_max_left _ _
 have hdy:y.depth≤Nat.max x.depth y.depth:=Nat.le_max_right _ _
 have hca:=canonL_len (c++[l])
 have hcb:=canonL_len (c++[l.rev])
 rw[List.length_append,List.length_singleton] at hca hcb
 refine fn (fu:=⟨11⟩) Tryz.func81 J J Tryz.ntmps81 J J (fun C=>?_)
 refine knF J J J<|cl rfl (q_Place (c:=c) (l:=l) hc hok (by omega) hl hlo) rfl<|?_
 refine br J J J (fun hc16=>?_) (fun hc16=>?_)
 ·
  refine cl rfl (ihx hc hok (by omega)) rfl<|?_
  exact rz rfl (by rw[Tr.restrictL,if_pos hc16];rfl)
 ·
  refine br J J J (fun hc24=>?_) (fun hc24=>?_)
  ·
   refine cl rfl (ihy hc hok (by omega)) rfl<|?_
   exact rz rfl (by rw[Tr.restrictL,if_neg hc16,if_pos hc24];rfl)
  ·
   refine cl rfl (q_with (c:=c) (l:=l) hc hok (by omega) hl hlo) rfl<|cl rfl (ihx (c:=canonL (c++[l])) (lb_can (lb_app hc hl)) (ok_can (ok_app hok hlo)) (by omega)) rfl<|?_
   refine cl rfl (q_sRev (l:=l)) rfl<|cl rfl (q_with (c:=c) (l:=l.rev) hc hok (by omega) hl.rev hlo.rev) rfl<|cl rfl (ihy (c:=canonL (c++[l.rev])) (lb_can (lb_app hc hl.rev)) (ok_can (ok_app hok hlo.rev)) (by omega)) rfl<|?_
   refine cl rfl q_join rfl<|?_
   exact rz rfl (by rw[Tr.restrictL,if_neg hc16,if_neg hc24];rfl)
theorem q_RRestrict{GB:Gh}: ∀{t:Tr} {c:List LnQ},t.all LB→t.all LnQ.ok→(∀m∈c,LB m)→(∀m∈c,m.ok)→c.length+t.depth≤900→PF GB Tryz.prog 81 [eT t, .sl (c.map eL)] (eT (Tr.restrictL t c))
 | .leaf _,_,_,_,_,_,_=>q_RRestrict_leaf
 | .node l x y,c,hb,ho,hc,hok,hn=>q_RRestrict_node hb.1 ho.1 hc hok hn (fun h1 h2 h3=>q_RRestrict hb.2.1 ho.2.1 h1 h2 h3) (fun h1 h2 h3=>q_RRestrict hb.2.2 ho.2.2 h1 h2 h3)
end Go.Sx
end

section
set_option maxRecDepth 100000
namespace Go.Sx
open Go Go.Proofs
def p7:PtQ:=⟨mkRat 1 7,mkRat 1 5⟩
structure LP (l:LnQ):Prop where
 s:LS l
 p:0<l.value p7
def lsR(es:List Int):Nat→Nat→List LnQ×Nat
 |0,a=>([],a)
 |i+1,a=>((lF es a).1::(lsR es i (lF es a).2).1,(lsR es i (lF es a).2).2)
def lsF(es:List Int)(most a:Nat):List LnQ×Nat:=lsR es (nextF es ((most:Int)+1) a).1 (nextF es ((most:Int)+1) a).2
def flip7(l:LnQ):LnQ:=if(l.value p7).num.sign<0 then l.rev else l
def sideR(xs:List LnQ)(i:Nat):List LnQ:=(xs.take i).map flip7++xs.drop i
def sideF(es:List Int)(a:Nat):List LnQ×Nat:=((lsF es 3 a).1.map flip7,(lsF es 3 a).2)
end Go.Sx
end

section
set_option maxRecDepth 100000
namespace Go.Sx
open Go Go.Proofs
theorem eN_get(xs ys:List NQ)(n:NQ):((xs++(n::ys)).map eN)[((xs.length:Nat):Int).toNat]? =some (eN n):=by simp
theorem eN_set(xs ys:List NQ)(n m:NQ)(e:DV)(h:e=eN m):((xs++(n::ys)).map eN).set ((xs.length:Nat):Int).toNat e=(xs++(m::ys)).map eN:=by subst h;simp
theorem q_write_true{GB:Gh}{ns:List NQ}:PB GB Tryz.prog 49 (fun w=>[eT (.leaf true), .v (.slice w.a w.n w.c)]) 8 141 (ns.map eN) (fun w=> .tp [.v (.slice w.a w.n w.c), .v (.int .i64 (Tr.num (.leaf true) ns.length))]) ((ns++Tr.wr (.leaf true) ns.length).map eN):=by
 refine PB.intro Tryz.func49 J J Tryz.ntmps49 (fun _=>rfl) ?_
 intro C w0
 refine sd_bh ((ns++Tr.wr (.leaf true) ns.length).map eN) (by simp[Tr.wr]) ?_
 refine qR<|tA J J<|tA J J<|sd_end<|sd_seq<|qR<|tM J J<|tY (yq_nilT rfl) rfl<|tY (yq_faE J J) rfl<|?_
 refine tY (yq_ldE1 J J) rfl<|sd_end<|sd_condT rfl<|sd_seq<|qR<|tM J J<|tY (yq_nilT rfl) rfl<|tY (yq_faE J J) rfl<|tY (yq_ldE1 J J) rfl<|?_
 refine sd_end<|sd_condT rfl<|qR<|tM J J<|tA J J<|tA J J<|sd_end<|sd_ret<|?_
 exact sd_doneB (w:=w0) (.tmp rfl (.tmp rfl .nil)) rfl (by repeat (first|exact .hd .. |apply BRemD.tl))
theorem q_write_false{GB:Gh}{ns:List NQ}:PB GB Tryz.prog 49 (fun w=>[eT (.leaf false), .v (.slice w.a w.n w.c)]) 8 141 (ns.map eN) (fun w=> .tp [.v (.slice w.a w.n w.c), .v (.int .i64 (Tr.num (.leaf false) ns.length))]) ((ns++Tr.wr (.leaf false) ns.length).map eN):=by
 refine PB.intro Tryz.func49 J J Tryz.ntmps49 (fun _=>rfl) ?_
 intro C w0
 refine sd_bh ((ns++Tr.wr (.leaf false) ns.length).map eN) (by simp[Tr.wr]) ?_
 refine qR<|tA J J<|tA J J<|sd_end<|sd_seq<|qR<|tM J J<|tY (yq_nilT rfl) rfl<|tY (yq_faE J J) rfl<|?_
 refine tY (yq_ldE1 J J) rfl<|sd_end<|sd_condT rfl<|sd_seq<|qR<|tM J J<|tY (yq_nilT rfl) rfl<|tY (yq_faE J J) rfl<|tY (yq_ldE1 J J) rfl<|?_
 refine sd_end<|sd_condF rfl<|sd_skipc<|qR<|tM J J<|tA J J<|tA J J<|sd_end<|sd_ret<|?_
 exact sd_doneB (w:=w0) (.tmp rfl (.tmp rfl .nil)) rfl (by repeat (first|exact .hd .. |apply BRemD.tl))
theorem q_write_node{GB:Gh}{l:LnQ}{s u:Tr}{ns:List NQ}(hl:BL l 96)(hs:ns.length+(1+s.size+u.size)≤1000000)(ihs: ∀{ns:List NQ},ns.length+s.size≤1000000→PB GB Tryz.prog 49 (fun w=>[eT s, .v (.slice w.a w.n w.c)]) 8 141 (ns.map eN) (fun w=> .tp [.v (.slice w.a w.n w.c), .v (.int .i64 (Tr.num s ns.length))]) ((ns++Tr.wr s ns.length).map eN))(ihu: ∀{ns:List NQ},ns.length+u.size≤1000000→PB GB Tryz.prog 49 (fun w=>[eT u, .v (.slice w.a w.n w.c)]) 8 141 (ns.map eN) (fun w=> .tp [.v (.slice w.a w.n w.c), .v (.int .i64 (Tr.num u ns.length))]) ((ns++Tr.wr u ns.length).map eN)):PB GB Tryz.prog 49 (fun w=>[eT (.node l s u), .v (.slice w.a w.n w.c)]) 8 141 (ns.map eN) (fun w=> .tp [.v (.slice w.a w.n w.c), .v (.int .i64 (Tr.num (.node l s u) ns.length))]) ((ns++Tr.wr (.node l s u) ns.length).map eN):=by
 refine PB.intro Tryz.func49 J J Tryz.ntmps49 (fun _=>rfl) ?_
 intro C w0
 refine qR<|tA J J<|tA J J<|sd_end<|sd_seq<|qR<|tM J J<|tY (yq_nilT rfl) rfl<|tY (yq_faE J J) rfl<|?_
 refine tY (yq_ldE1 J J) rfl<|sd_end<|sd_condF rfl<|sd_skipc<|qR<|tM J J<|tY (yq_lenB rfl) rfl<|?_
 refine sd_eq 20 (.d (.v (.int .i64 (ns.length:Nat)))) rfl (by simp) ?_
 refine tA J J<|sd_end<|qR<|tM J J<|tM J J<|tY (yq_nilT rfl) rfl<|tY (yq_faE J J) rfl<|tY (yq_ldE J J) rfl<|?_
 refine tC (td_call J J (q_ToL hl) rfl)<|tY (yq_build rfl) rfl<|tF (tf_row J J J J J J J)<|?_
 intro w1
 refine tF (tf_appendF (w:=w0) rfl (by repeat (first|exact .hd .. |apply BRemD.tl)) (.bf rfl (okRow_spec rfl)) rfl (by simp only[List.length_map,List.length_cons,List.length_nil];omega) J J)<|?_
 intro w2
 refine sd_bh ((ns++[(⟨l,0,0⟩:NQ)]).map eN) (by rw[List.map_append];rfl) ?_
 refine tA J J<|sd_end<|qR<|tA J J<|tA J J<|sd_end<|qR<|tM J J<|tY (yq_nilT rfl) rfl<|?_
 refine tY (yq_faE J J) rfl<|tY (yq_ldE1 J J) rfl<|tM J J<|tF (tf_callB (w:=w2) J J (ihs (ns:=ns++[(⟨l,0,0⟩:NQ)]) (by simp;omega)) (by repeat (first|exact .hd .. |apply BRemD.tl)) rfl)<|?_
 intro w3
 refine tM J J<|tY (yq_ext J J) rfl<|tY (yq_ext J J) rfl<|tA J J<|tA J J<|sd_end<|qR<|tM J J<|?_
 refine tY (yq_nilT rfl) rfl<|tY (yq_faE J J) rfl<|tY (yq_ldE1 J J) rfl<|tM J J<|tF (tf_callB (w:=w3) J J (ihu (ns:=ns++[(⟨l,0,0⟩:NQ)]++s.wr (ns++[(⟨l,0,0⟩:NQ)]).length) (by simp[Tr.wr_len];omega)) (by repeat (first|exact .hd .. |apply BRemD.tl)) rfl)<|?_
 intro w4
 refine sd_bh ((ns++((⟨l,0,0⟩:NQ)::(s.wr (ns.length+1)++u.wr (ns.length+1+s.size)))).map eN) (by simp[Tr.wr_len,Nat.add_assoc,Nat.add_comm 1]) ?_
 refine tM J J<|tY (yq_ext J J) rfl<|tY (yq_ext J J) rfl<|tA J J<|tA J J<|sd_end<|qR<|tM J J<|?_
 refine tM J J<|tM J J<|tM J J<|tM J J<|tM J J<|tY (yq_ixB J J (by omega) (by simp;omega)) rfl<|?_
 refine tY (yq_faB rfl) rfl<|tC (td_storeBs (d:=eN ⟨l,0,0⟩) J J (by repeat (first|exact .hd .. |apply BRemD.tl)) (eN_get ns _ ⟨l,0,0⟩) J J J)<|?_
 refine sd_bh ((ns++((⟨l,s.num (ns.length+1),0⟩:NQ)::(s.wr (ns.length+1)++u.wr (ns.length+1+s.size)))).map eN) (by rw[eN_set _ _ _ ⟨l,s.num (ns.length+1),0⟩ _ (by simp[eN,DV.cells])]) ?_
 refine tY (yq_ixB J J (by omega) (by simp;omega)) rfl<|tY (yq_faB rfl) rfl<|tC (td_storeBs (d:=eN ⟨l,s.num (ns.length+1),0⟩) J J (by repeat (first|exact .hd .. |apply BRemD.tl)) (eN_get ns _ ⟨l,s.num (ns.length+1),0⟩) J J J)<|?_
 refine sd_bh ((ns++Tr.wr (.node l s u) ns.length).map eN) (by rw[eN_set _ _ _ ⟨l,s.num (ns.length+1),u.num (ns.length+1+s.size)⟩ _ (by simp[eN,DV.cells,Tr.wr_len,Nat.add_assoc,Nat.add_comm 1])];simp[Tr.wr]) ?_
 refine sd_end<|qR<|tM J J<|tM J J<|tA J J<|tA J J<|sd_end<|sd_ret<|?_
 exact sd_doneB (w:=w4) (.tmp rfl (.tmp rfl .nil)) rfl (by repeat (first|exact .hd .. |apply BRemD.tl))
theorem q_write{GB:Gh}: ∀{t:Tr} {ns:List NQ},t.all (fun l=>BL l 96)→ns.length+t.size≤1000000→PB GB Tryz.prog 49 (fun w=>[eT t, .v (.slice w.a w.n w.c)]) 8 141 (ns.map eN) (fun w=> .tp [.v (.slice w.a w.n w.c), .v (.int .i64 (Tr.num t ns.length))]) ((ns++Tr.wr t ns.length).map eN)
 | .leaf true,ns,_,_=>q_write_true
 | .leaf false,ns,_,_=>q_write_false
 | .node l s u,ns,hb,hs=>q_write_node hb.1 hs (fun h=>q_write hb.2.1 h) (fun h=>q_write hb.2.2 h)
theorem q_Write{GB:Gh}{t:Tr}(hb:t.all (fun l=>BL l 96))(hs:t.size≤1000000):PF GB Tryz.prog 13 [eT t] (eA t):=by
 refine PF.intro Tryz.func13 J J Tryz.ntmps13 rfl ?_
 intro C
 refine qR<|tF (tf_alloc rfl)<|?_
 intro b1
 refine sd_end<|qR<|tF (tf_alloc rfl)<|?_
 intro b2
 refine sd_end<|qR<|tM J J<|?_
 refine sd_newB 8 141 ?_
 refine tF (tf_callB (w:=⟨none,0,0⟩) J J (q_write (t:=t) (ns:=[]) hb (by simpa using hs)) (by repeat (first|exact .hd .. |apply BRemD.tl)) rfl)<|?_
 intro w3
 refine tM J J<|tY (yq_ext J J) rfl<|tY (yq_ext J J) rfl<|tY (yq_faP rfl) rfl<|?_
 refine sd_freezeB [7] (w:=w3) (by repeat (first|exact .hd .. |apply BRemD.tl)) (by simp only[List.forall_mem_cons,List.not_mem_nil,false_implies,implies_true,and_true];exact rfl) ?_
 refine tC (td_store1 J J (by first|(dsimp only[DV.cells,ovD,zs1,zs2,Nat.reduceAdd,zs3,zs4];done)|exact rfl) (by repeat (first|exact .hd .. |apply OUpdD.tl)) J J J)<|?_
 refine tY (yq_faP rfl) rfl<|tC (td_store1 J J (by first|(dsimp only[DV.cells,ovD,zs1,zs2,Nat.reduceAdd,zs3,zs4];done)|exact rfl) (by repeat (first|exact .hd .. |apply OUpdD.tl)) J J J)<|?_
 refine sd_end<|qR<|tY (yq_ldO J J) rfl<|tC (tdS J J J J J J)<|?_
 refine sd_end<|sd_ret<|?_
 exact sd_done (.agg rfl ii ii rfl .nil) rfl
end Go.Sx
end

section
set_option maxRecDepth 100000
namespace Go.Sx
open Go Go.Proofs
theorem slOkI(ds:List Int):slOk 1 (ds.map vI):=fun d hd=>by
 obtain⟨n,_,rfl⟩:=List.mem_map.1 hd;exact⟨rfl,rfl⟩
theorem take_400(es:List Int):(es.map vI).take (min es.length 400)=(es.take 400).map vI:=by
 rw[List.map_take]
 rcases Nat.le_total es.length 400 with h|h
 ·rw[Nat.min_eq_left h,List.take_of_length_le (by simp),List.take_of_length_le (by simpa using h)]
 ·rw[Nat.min_eq_right h]
theorem q_New{GB:Gh}{es:List Int}(hb:es.length≤1125899906842624):PN GB Tryz.prog 12 [.sl (es.map vI)] 89 Unit (fun _=>[.sl ((es.take 400).map vI), .v (.int .i64 (0:Nat))]):=by
 have hel:(es.map vI).length=es.length:=by simp
 refine fnN Tryz.func12 J J Tryz.ntmps12 J J (fun C hmb=>?_)
 refine sc' 0 (min es.length 400) ((es.take 400).map vI) J J (by rw[hel];show(if _ then _ else _:Int)=_;split<;>omega) (take_400 es) (slOkI _) (by omega) (by omega) rfl<|?_
 exact rzN () J J J J J
theorem q_RReduce{GB:Gh}{t:Tr}(hb:t.all LB)(hok:t.all LnQ.ok)(hd:t.depth≤900):PF GB Tryz.prog 39 [eT t] (eT (t.restrict [])):=by
 refine fn Tryz.func39 J J Tryz.ntmps39 J J (fun C=>?_)
 refine cl rfl (q_RRestrict (t:=t) (c:=[]) hb hok (by simp) (by simp) (by simpa using hd)) rfl<|?_
 exact rz rfl (by rw[←Tr.restrictL_eq t [] [] hok (by simp) GoodC.nil (fun p=>by unfold InD InL;simp)];rfl)
end Go.Sx
end

section
set_option maxRecDepth 100000
namespace Go.Sx
open Go Go.Proofs
theorem fromN_run{cuts:List Rat}{marks:List Bool}: ∀k,2*(fromN cuts marks k).length≤k+(if 0<k∧marks.getD (k-1) false=true then 1 else 0)
 |0=>by rw[fromN];simp
 |k+1=>by
  have ih:=fromN_run (cuts:=cuts) (marks:=marks) k
  rw[fromN]
  simp only[Nat.add_sub_cancel]
  by_cases hm:marks.getD k false=true
  ·rw[if_pos hm,if_pos (show 0<k+1∧marks.getD k false=true from⟨by omega,hm⟩)]
   by_cases hp:0<k∧marks.getD (k-1) false=true
   ·rw[if_pos hp] at ih⊢
    cases hv:(fromN cuts marks k).getLast? with
    |some v=>
     have:0<(fromN cuts marks k).length:=by
      cases e:fromN cuts marks k with
      |nil=>rw[e] at hv;simp at hv
      |cons a t=>simp
     show 2*((fromN cuts marks k).dropLast++[_]).length≤_
     rw[List.length_append,List.length_dropLast,List.length_singleton];omega
    |none=>
     have:fromN cuts marks k=[]:=List.getLast?_eq_none_iff.1 hv
     simp only[this];simp
   ·rw[if_neg hp] at ih⊢
    rw[List.length_append,List.length_singleton];omega
  ·rw[if_neg hm]
   split at ih<;>split<;>omega
theorem comb_run(op:Int)(a b:List IvQ):(combQ op a b).length≤a.length+b.length+1:=by
 unfold combQ fromQ
 have h:=fromN_run (cuts:=endsQ (a++b)) (marks:=(gapsR (endsQ (a++b))).map fun t=>markQ op (insQ2 a t) (insQ2 b t)) ((gapsR (endsQ (a++b))).map fun t=>markQ op (insQ2 a t) (insQ2 b t)).length
 have h2:=endsQ_len (a++b)
 rw[List.length_append] at h2
 have h3:((gapsR (endsQ (a++b))).map fun t=>markQ op (insQ2 a t) (insQ2 b t)).length=(endsQ (a++b)).length+1:=by rw[List.length_map,gapsR_len]
 split at h<;>omega
theorem split_len(f:FrQ)(m:LnQ)(side:Int):(splitS f m side).length≤3:=by
 unfold splitS
 split
 ·simp
 ·rw[List.length_map]
  have:=comb_run 2 [f.v] (halfQ f.l m side)
  have h2:=half_len (l:=f.l) (m:=m) (side:=side)
  rw[List.length_singleton] at this
  omega
theorem nearStep_bd{p v:PtQ}{m:LnQ}{s:Rat}[hp:BPt p 4500][hv:BPt v 97][hm:LB m](hs:BQ s 60000):BQ (nearStep p v m s) 60000:=by
 unfold nearStep nearT
 split
 ·exact hs
 ·split
  ·exact hs
  ·split
   ·split
    ·haveI:BQ (-(m.value p/(m.value (movQ p v ((1:Int):Rat))-m.value p))) 45000:=BQ.mono inferInstance (by decide)
     exact BQ.mono (inferInstance:BQ (-(m.value p/(m.value (movQ p v ((1:Int):Rat))-m.value p))/2) _) (by decide)
    ·exact hs
   ·exact hs
theorem nearS_bd{p v:PtQ}[hp:BPt p 4500][hv:BPt v 97]: ∀{c:List LnQ} {s:Rat},(∀m∈c,LB m)→BQ s 60000→BQ (nearS p v c s) 60000
 |[],_,_,hs=>hs
 |m::t,s,hc,hs=>by
  haveI:=hc m List.mem_cons_self
  exact nearS_bd (c:=t) (fun q hq=>hc q (List.mem_cons_of_mem _ hq)) (nearStep_bd hs)
theorem innerP_bd{c:List LnQ}(hc: ∀m∈c,LB m)(hok: ∀m∈c,m.ok): ∀{t:List LnQ},(∀m∈t,m∈c)→BPt (innerP c t) 70000
 |[],_=>by
  have h0:BQ (0:Rat) 70000:=BQ.mono (k:=1) ⟨by decide,by decide⟩ (by decide)
  exact⟨h0,h0⟩
 |m::t,h=>by
  have hm:=h m List.mem_cons_self
  haveI:=hc m hm
  rw[innerP]
  split
  ·have hbd:=edgeV_bd (v:=IvQ.all) (hok m hm).ne hc IvZ.all (BQ.mono (k:=1) ⟨by decide,by decide⟩ (by decide)) (BQ.mono (k:=1) ⟨by decide,by decide⟩ (by decide))
   haveI:=hbd.1
   haveI:=hbd.2
   haveI hsb:=sample_bd (v:=(edgeV m c IvQ.all).1) (i:=1200)
   haveI hpt:BPt (m.at (sampleR (edgeV m c IvQ.all).1)) 4500:=by have:=BPt.at m (sampleR (edgeV m c IvQ.all).1) (1200+1200+5);exact⟨this.x.mono (by decide),this.y.mono (by decide)⟩
   haveI hvt:BPt (turnP m.dir) 97:=inferInstance
   haveI hns:BQ (nearS (m.at (sampleR (edgeV m c IvQ.all).1)) (turnP m.dir) c ((1:Int):Rat)) 60000:=nearS_bd hc (BQ.mono (k:=2) ⟨by decide,by decide⟩ (by decide))
   have:=BPt.mov (m.at (sampleR (edgeV m c IvQ.all).1)) (turnP m.dir) (nearS (m.at (sampleR (edgeV m c IvQ.all).1)) (turnP m.dir) c ((1:Int):Rat)) 4500 97 60000
   exact⟨this.x.mono (by decide),this.y.mono (by decide)⟩
  ·exact innerP_bd hc hok (fun q hq=>h q (List.mem_cons_of_mem _ hq))
theorem flat_snoc{l:List FrQ}{k:Nat}{g:FrQ}{m:LnQ}{side:Int}(h:l[k]? =some g):(l.take (k+1)).flatMap (fun g=>splitS g m side)=(l.take k).flatMap (fun g=>splitS g m side)++splitS g m side:=by
 rw[List.take_add_one,h,List.flatMap_append];simp
theorem flat_len(l:List FrQ)(m:LnQ)(side:Int):(l.flatMap fun g=>splitS g m side).length≤3*l.length:=by
 induction l with
 |nil=>simp
 |cons a t ih=>rw[List.flatMap_cons,List.length_append,List.length_cons];have:=split_len a m side;omega
theorem rawT_nil{acc:PtQ→Bool}{n:Nat}{c:List LnQ}:rawT acc n [] c= .leaf (acc (innerP c c)):=by cases n<;>rfl
theorem q_Raw_leaf{GB:Gh}{rs:List (List ZP)}{fill:Int}(hrs: ∀r∈rs,RingOk r)(hrn:rs.length≤100){n:Nat}{c:List LnQ}(hc: ∀m∈c,LB m)(hok: ∀m∈c,m.ok)(hn:c.length≤900):PF GB Tryz.prog 105 [eRR rs fill, .sl [], .sl (c.map eL)] (eT (rawT (inR rs fill) n [] c)):=by
 haveI hpb:=innerP_bd hc hok (t:=c) (fun _ h=>h)
 refine fn (fu:=⟨11⟩) Tryz.func105 J J Tryz.ntmps105 J J (fun C=>?_)
 refine knT J J J<|cl rfl (q_Inner (c:=c) hc hok (by omega)) rfl<|cl rfl (q_RIn (p:=innerP c c) (i:=70000) hrs hrn (by decide)) rfl<|cl rfl (q_CodeT (p:=inR rs fill (innerP c c))) rfl<|?_
 exact rz rfl (by rw[rawT_nil];rfl)
set_option maxHeartbeats 2000000 in
theorem q_Raw_node{GB:Gh}{rs:List (List ZP)}{fill:Int}(hrs: ∀r∈rs,RingOk r)(hrn:rs.length≤100){n:Nat}{f:FrQ}{t:List FrQ}{c:List LnQ}(hfew:Few (n+1) (f::t))(hfo: ∀g∈f::t,FOk g)(hlen:(f::t).length*3^(n+1)≤6973568802)(hc: ∀m∈c,LB m)(hok: ∀m∈c,m.ok)(hn:c.length+(n+1)≤900)(ih: ∀{l:List FrQ} {c:List LnQ},Few n l→(∀f∈l,FOk f)→l.length*3^n≤6973568802→(∀m∈c,LB m)→(∀m∈c,m.ok)→c.length+n≤900→PF GB Tryz.prog 105 [eRR rs fill, .sl (l.map eFF), .sl (c.map eL)] (eT (rawT (inR rs fill) n l c))):PF GB Tryz.prog 105 [eRR rs fill, .sl ((f::t).map eFF), .sl (c.map eL)] (eT (rawT (inR rs fill) (n+1) (f::t) c)):=by
 obtain⟨l,hl⟩: ∃l,l=f::t:=⟨_,rfl⟩
 have hl0:l[0]? =some f:=by rw[hl];rfl
 rw[←hl] at hfew hfo hlen⊢
 have hm:=map_len' eFF l
 have hfl:=hfo f (List.mem_of_getElem? hl0)
 haveI:=hfl.lb
 have hlp:0<l.length:=by rw[hl];simp
 have hlb:l.length≤6973568802:=Nat.le_trans (Nat.le_mul_of_pos_right _ (Nat.pow_pos (by decide))) hlen
 refine fn (fu:=⟨11⟩) Tryz.func105 J J Tryz.ntmps105 J J (fun C=>?_)
 refine eqF 17 (.d (vI (l.length:Nat))) rfl (by rw[hm]<;>rfl) ?_
 refine gx (fu:=⟨0⟩) rfl<|knF rfl (by show some (decide _)=some false;rw[decide_eq_false (by omega)]) rfl<|ix (fu:=⟨17⟩) _ rfl (map_getS (i:=0) hl0) rfl<|?_
 refine eqF 33 (.d (vI (l.length:Nat))) rfl (by rw[hm]<;>rfl) ?_
 refine gx rfl<|?_
 refine nr 10 10 186 14 J J J ?_
 refine nr 11 11 186 14 J J J ?_
 refine lp (X:=Nat) (fun k=>[(34, .d (vI (k:Nat))),(10, .rw 10),(11, .rw 11)]) (fun k=>[(10,some (.b 186 14 (((l.take k).flatMap fun g=>splitS g f.l 1).map eFF) true)),(11,some (.b 186 14 (((l.take k).flatMap fun g=>splitS g f.l (-1)).map eFF) true))]) (fun k=>k≤l.length) (fun k=>l.length-k) 0 rfl (Nat.zero_le _) (fun _=>rfl) (fun k hk=>?_)
 have htk:(l.take k).length≤6973568802:=by rw[List.length_take];omega
 have hb1:(((l.take k).flatMap fun g=>splitS g f.l 1).map eFF).length≤20920706406:=by rw[List.length_map];have:=flat_len (l.take k) f.l 1;omega
 have hb2:(((l.take k).flatMap fun g=>splitS g f.l (-1)).map eFF).length≤20920706406:=by rw[List.length_map];have:=flat_len (l.take k) f.l (-1);omega
 refine br (fu2:=⟨0⟩) J J J (fun hc35=>?_) (fun hc35=>?_)
 ·
  obtain⟨g,hz⟩: ∃s,l[k]? =some s:=⟨_,List.getElem?_eq_getElem (by omega)⟩
  have hg:=hfo g (List.mem_of_getElem? hz)
  have hs1:((splitS g f.l 1).map eFF).length≤3:=by rw[List.length_map];exact split_len _ _ _
  have hs2:((splitS g f.l (-1)).map eFF).length≤3:=by rw[List.length_map];exact split_len _ _ _
  refine ix _ rfl (map_getS hz) rfl<|cl rfl (q_Split (f:=g) (m:=f.l) hg hfl.ok) rfl<|ap (hbd:=by omega) (((l.take (k+1)).flatMap fun g=>splitS g f.l 1).map eFF) rfl (by rw[flat_snoc hz,List.map_append]) (slOkFF _) rfl<|?_
  refine ap (hbd:=by omega) (((l.take (k+1)).flatMap fun g=>splitS g f.l (-1)).map eFF) rfl (by rw[flat_snoc hz,List.map_append]) (slOkFF _) rfl<|?_
  refine rnE 46 10 rfl ?_
  refine rnE 49 11 rfl ?_
  exact at_ (k+1) ⟨(by omega),(by omega)⟩
 ·
  obtain rfl:k=l.length:=by omega
  rw[List.take_length]
  refine fzC 10 rfl ?_
  refine fzC 11 rfl ?_
  refine gx rfl<|ro0 J J<|ap (c.map eL) J J (slOkL c) rfl<|rf J J<|apf ((c++[f.l]).map eL) rfl (by rw[List.map_append];rfl) (slOkL [f.l]) rfl<|?_
  refine cl rfl (ih (c:=c++[f.l]) (by subst hl;exact Few.split hfew hfo) (fun g hg=>by obtain⟨q,hq,hg⟩:=List.mem_flatMap.1 hg;exact(split_ok (hfo q hq) hfl.lb g hg).1) (by have:=flat_len l f.l 1;rw[Nat.pow_succ] at hlen;exact Nat.le_trans (Nat.mul_le_mul_right _ this) (by rw[Nat.mul_comm 3,Nat.mul_assoc];rw[Nat.mul_comm (3^n)] at hlen;exact hlen)) (lb_app hc hfl.lb) (ok_app hok hfl.ok) (by rw[List.length_append,List.length_singleton];omega)) rfl<|?_
  refine ro0 J J<|ap (c.map eL) J J (slOkL c) rfl<|cl rfl (q_sRev (l:=f.l)) rfl<|rf J J<|apf ((c++[f.l.rev]).map eL) rfl (by rw[List.map_append];rfl) (slOkL [f.l.rev]) rfl<|?_
  refine cl (fu:=⟨1⟩) rfl (ih (c:=c++[f.l.rev]) (by subst hl;exact Few.split hfew hfo) (fun g hg=>by obtain⟨q,hq,hg⟩:=List.mem_flatMap.1 hg;exact(split_ok (hfo q hq) hfl.lb g hg).1) (by have:=flat_len l f.l (-1);rw[Nat.pow_succ] at hlen;exact Nat.le_trans (Nat.mul_le_mul_right _ this) (by rw[Nat.mul_comm 3,Nat.mul_assoc];rw[Nat.mul_comm (3^n)] at hlen;exact hlen)) (lb_app hc hfl.lb.rev) (ok_app hok hfl.ok.rev) (by rw[List.length_append,List.length_singleton];omega)) rfl<|?_
  refine bxf J J<|?_
  exact rz rfl (by subst hl;rfl)
theorem q_Raw{GB:Gh}{rs:List (List ZP)}{fill:Int}(hrs: ∀r∈rs,RingOk r)(hrn:rs.length≤100): ∀{n:Nat} {l:List FrQ} {c:List LnQ},Few n l→(∀f∈l,FOk f)→l.length*3^n≤6973568802→(∀m∈c,LB m)→(∀m∈c,m.ok)→c.length+n≤900→PF GB Tryz.prog 105 [eRR rs fill, .sl (l.map eFF), .sl (c.map eL)] (eT (rawT (inR rs fill) n l c))
 |n,[],c,_,_,_,hc,hok,hn=>q_Raw_leaf hrs hrn hc hok (by omega)
 |0,f::t,c,hf,_,_,_,_,_=>by
  obtain⟨K,h1,h2⟩:=hf
  obtain⟨m,hm,_⟩:=h2 f List.mem_cons_self
  rw[List.eq_nil_of_length_eq_zero (l:=K) (by omega)] at hm
  cases hm
 |n+1,f::t,c,hf,ho,hl,hc,hok,hn=>q_Raw_node hrs hrn hf ho hl hc hok hn (fun a1 a2 a3 a4 a5 a6=>q_Raw hrs hrn a1 a2 a3 a4 a5 a6)
end Go.Sx
end

section
set_option maxRecDepth 100000
namespace Go.Sx
open Go Go.Proofs
theorem few_self(l:List FrQ):Few l.length l:=⟨l.map FrQ.l,by rw[List.length_map];exact Nat.le_refl _,fun f hf=>⟨f.l,List.mem_map_of_mem hf, .inl rfl⟩⟩
theorem pow_lim{n:Nat}(h:n≤18):n*3^n≤6973568802:=Nat.le_trans (Nat.mul_le_mul h (Nat.pow_le_pow_right (by decide) h)) (by decide)
set_option maxHeartbeats 1000000 in
theorem q_Build{GB:Gh}{rs:List (List ZP)}{fill:Int}(hrs: ∀r∈rs,RingOk r)(hrn:rs.length≤3):PF GB Tryz.prog 51 [eRR rs fill] (eT (buildR rs fill)):=by
 have hm:=map_len' eRg rs
 have hE:=edgesR_ok hrs
 have hraw:=raw_ok (acc:=inR rs fill) hE.2 rfl
 refine fn (fu:=⟨17⟩) Tryz.func51 J J Tryz.ntmps51 J J (fun C=>?_)
 refine eqF 8 (.d (vI (rs.length:Nat))) rfl (by rw[hm]<;>rfl) ?_
 refine gx rfl<|?_
 refine nr 3 3 186 14 J J J ?_
 refine lp (X:=Nat) (fun k=>[(9, .d (vI (k:Nat))),(3, .rw 3)]) (fun k=>[(3,some (.b 186 14 ((edgesR (rs.take k)).map eFF) true))]) (fun k=>k≤rs.length) (fun k=>rs.length-k) 0 rfl (Nat.zero_le _) (fun _=>rfl) (fun k hk=>?_)
 have het:((edgesR (rs.take k)).map eFF).length≤6*k:=by rw[List.length_map];exact edgesR_take hrs k
 refine br J J J (fun hc10=>?_) (fun hc10=>?_)
 ·
  obtain⟨r,hz⟩: ∃s,rs[k]? =some s:=⟨_,List.getElem?_eq_getElem (by omega)⟩
  have hr:=hrs r (List.mem_of_getElem? hz)
  have hel:((edgesZ r).map eFF).length≤6:=by rw[List.length_map];have:=(edges_ok hr).1;have:=hr.n6;omega
  refine ix _ rfl (map_getS hz) rfl<|cl rfl (q_Edges (r:=r) hr) rfl<|ap (hbd:=by omega) ((edgesR (rs.take (k+1))).map eFF) rfl (by rw[edgesR_snoc hz,List.map_append]) (slOkFF _) rfl<|?_
  refine rnE 16 3 rfl ?_
  exact at_ (k+1) ⟨(by omega),(by omega)⟩
 ·
  obtain rfl:k=rs.length:=by omega
  rw[List.take_length]
  refine fz 3 J J<|cl rfl (q_Raw (n:=(edgesR rs).length) (l:=edgesR rs) (c:=[]) hrs (by omega) (few_self _) hE.2 (pow_lim (by have:=hE.1;omega)) (fun m h=>by cases h) (fun m h=>by cases h) (by have:=hE.1;rw[List.length_nil];omega)) rfl<|?_
  refine cl rfl (q_RReduce (t:=rawR rs fill) hraw.gd.lb hraw.gd.ok (by have:=hraw.dp;have:=hE.1;show(rawT _ _ _ _).depth≤900;omega)) rfl<|?_
  exact rz J J
theorem q_Not_leaf{GB:Gh}{b:Bool}:PF GB Tryz.prog 31 [eT (.leaf b)] (eT (Tr.compl (.leaf b))):=by
 refine fn (fu:=⟨11⟩) Tryz.func31 J J Tryz.ntmps31 J J (fun C=>?_)
 refine knT J J J<|cl rfl (q_CodeT (p:=!b)) rfl<|?_
 exact rz J J
theorem q_Not_node{GB:Gh}{l:LnQ}{x y:Tr}(ihx:PF GB Tryz.prog 31 [eT x] (eT x.compl))(ihy:PF GB Tryz.prog 31 [eT y] (eT y.compl)):PF GB Tryz.prog 31 [eT (.node l x y)] (eT (Tr.compl (.node l x y))):=by
 refine fn (fu:=⟨11⟩) Tryz.func31 J J Tryz.ntmps31 J J (fun C=>?_)
 refine knF J J J<|cl rfl ihx rfl<|cl (fu:=⟨1⟩) rfl ihy rfl<|bxf J J<|?_
 exact rz J J
theorem q_Not{GB:Gh}: ∀{t:Tr},PF GB Tryz.prog 31 [eT t] (eT t.compl)
 | .leaf _=>q_Not_leaf
 | .node _ _ _=>q_Not_node q_Not q_Not
set_option maxHeartbeats 2000000 in
theorem q_RMerge_leaf{GB:Gh}{op:Int}{b:Bool}{u:Tr}{c:List LnQ}(hu:u.all LB)(huo:u.all LnQ.ok)(hc: ∀m∈c,LB m)(hok: ∀m∈c,m.ok)(hn:c.length+u.depth≤900):PF GB Tryz.prog 33 [vI op,eT (.leaf b),eT u, .sl (c.map eL)] (eT (Tr.mergeL op (.leaf b) u c)):=by
 refine fn (fu:=⟨11⟩) Tryz.func33 J J Tryz.ntmps33 J J (fun C=>?_)
 refine knT J J J<|cl rfl (q_RRestrict (t:=u) (c:=c) hu huo hc hok hn) rfl<|?_
 refine cs 20 J J J (fun hg20=>?_) (fun hg20=>?_)
 ·
  refine bb J J J (fun hc17=>?_) (fun hc17=>?_)
  ·
   refine cl rfl (q_CodeT (p:=true)) rfl<|?_
   exact rz rfl (by show eT _=eT _;congr 1;rw[Tr.mergeL];unfold Tr.chooseL;(repeat' split)<;>first|rfl|(exfalso;simp_all;done)|(exfalso;omega))
  ·
   refine cs 30 J J J (fun hg30=>?_) (fun hg30=>?_)
   ·
    refine bb J J J (fun hc27=>?_) (fun hc27=>?_)
    ·
     refine cl rfl (q_CodeT (p:=false)) rfl<|?_
     exact rz rfl (by show eT _=eT _;congr 1;rw[Tr.mergeL];unfold Tr.chooseL;(repeat' split)<;>first|rfl|(exfalso;simp_all;done)|(exfalso;omega))
    ·
     refine cs 45 J J J (fun hg45=>?_) (fun hg45=>?_)
     ·
      refine bb J J J (fun hc42=>?_) (fun hc42=>?_)
      ·
       refine cl rfl q_Not rfl<|?_
       exact rz rfl (by show eT _=eT _;congr 1;rw[Tr.mergeL];unfold Tr.chooseL;(repeat' split)<;>first|rfl|(exfalso;simp_all;done)|(exfalso;omega))
      ·
       exact rz rfl (by show eT _=eT _;congr 1;rw[Tr.mergeL];unfold Tr.chooseL;(repeat' split)<;>first|rfl|(exfalso;simp_all;done)|(exfalso;omega))
     ·
      refine cs 49 J J J (fun hg49=>?_) (fun hg49=>?_)
      ·
       refine bb J J J (fun hc42=>?_) (fun hc42=>?_)
       ·
        refine cl rfl q_Not rfl<|?_
        exact rz rfl (by show eT _=eT _;congr 1;rw[Tr.mergeL];unfold Tr.chooseL;(repeat' split)<;>first|rfl|(exfalso;simp_all;done)|(exfalso;omega))
       ·
        exact rz rfl (by show eT _=eT _;congr 1;rw[Tr.mergeL];unfold Tr.chooseL;(repeat' split)<;>first|rfl|(exfalso;simp_all;done)|(exfalso;omega))
      ·
       exact rz rfl (by show eT _=eT _;congr 1;rw[Tr.mergeL];unfold Tr.chooseL;(repeat' split)<;>first|rfl|(exfalso;simp_all;done)|(exfalso;omega))
   ·
    refine cs 34 J J J (fun hg34=>?_) (fun hg34=>?_)
    ·
     refine bb J J J (fun hc27=>?_) (fun hc27=>?_)
     ·
      refine cl rfl (q_CodeT (p:=false)) rfl<|?_
      exact rz rfl (by show eT _=eT _;congr 1;rw[Tr.mergeL];unfold Tr.chooseL;(repeat' split)<;>first|rfl|(exfalso;simp_all;done)|(exfalso;omega))
     ·
      refine cs 45 J J J (fun hg45=>?_) (fun hg45=>?_)
      ·
       refine bb J J J (fun hc42=>?_) (fun hc42=>?_)
       ·
        refine cl rfl q_Not rfl<|?_
        exact rz rfl (by show eT _=eT _;congr 1;rw[Tr.mergeL];unfold Tr.chooseL;(repeat' split)<;>first|rfl|(exfalso;simp_all;done)|(exfalso;omega))
       ·
        exact rz rfl (by show eT _=eT _;congr 1;rw[Tr.mergeL];unfold Tr.chooseL;(repeat' split)<;>first|rfl|(exfalso;simp_all;done)|(exfalso;omega))
      ·
       refine cs 49 J J J (fun hg49=>?_) (fun hg49=>?_)
       ·
        refine bb J J J (fun hc42=>?_) (fun hc42=>?_)
        ·
         refine cl rfl q_Not rfl<|?_
         exact rz rfl (by show eT _=eT _;congr 1;rw[Tr.mergeL];unfold Tr.chooseL;(repeat' split)<;>first|rfl|(exfalso;simp_all;done)|(exfalso;omega))
        ·
         exact rz rfl (by show eT _=eT _;congr 1;rw[Tr.mergeL];unfold Tr.chooseL;(repeat' split)<;>first|rfl|(exfalso;simp_all;done)|(exfalso;omega))
       ·
        exact rz rfl (by show eT _=eT _;congr 1;rw[Tr.mergeL];unfold Tr.chooseL;(repeat' split)<;>first|rfl|(exfalso;simp_all;done)|(exfalso;omega))
    ·
     refine cs 45 J J J (fun hg45=>?_) (fun hg45=>?_)
     ·
      refine bb J J J (fun hc42=>?_) (fun hc42=>?_)
      ·
       refine cl rfl q_Not rfl<|?_
       exact rz rfl (by show eT _=eT _;congr 1;rw[Tr.mergeL];unfold Tr.chooseL;(repeat' split)<;>first|rfl|(exfalso;simp_all;done)|(exfalso;omega))
      ·
       exact rz rfl (by show eT _=eT _;congr 1;rw[Tr.mergeL];unfold Tr.chooseL;(repeat' split)<;>first|rfl|(exfalso;simp_all;done)|(exfalso;omega))
     ·
      refine cs 49 J J J (fun hg49=>?_) (fun hg49=>?_)
      ·
       refine bb J J J (fun hc42=>?_) (fun hc42=>?_)
       ·
        refine cl rfl q_Not rfl<|?_
        exact rz rfl (by show eT _=eT _;congr 1;rw[Tr.mergeL];unfold Tr.chooseL;(repeat' split)<;>first|rfl|(exfalso;simp_all;done)|(exfalso;omega))
       ·
        exact rz rfl (by show eT _=eT _;congr 1;rw[Tr.mergeL];unfold Tr.chooseL;(repeat' split)<;>first|rfl|(exfalso;simp_all;done)|(exfalso;omega))
      ·
       exact rz rfl (by show eT _=eT _;congr 1;rw[Tr.mergeL];unfold Tr.chooseL;(repeat' split)<;>first|rfl|(exfalso;simp_all;done)|(exfalso;omega))
 ·
  refine cs 30 J J J (fun hg30=>?_) (fun hg30=>?_)
  ·
   refine bb J J J (fun hc27=>?_) (fun hc27=>?_)
   ·
    refine cl rfl (q_CodeT (p:=false)) rfl<|?_
    exact rz rfl (by show eT _=eT _;congr 1;rw[Tr.mergeL];unfold Tr.chooseL;(repeat' split)<;>first|rfl|(exfalso;simp_all;done)|(exfalso;omega))
   ·
    refine cs 45 J J J (fun hg45=>?_) (fun hg45=>?_)
    ·
     refine bb J J J (fun hc42=>?_) (fun hc42=>?_)
     ·
      refine cl rfl q_Not rfl<|?_
      exact rz rfl (by show eT _=eT _;congr 1;rw[Tr.mergeL];unfold Tr.chooseL;(repeat' split)<;>first|rfl|(exfalso;simp_all;done)|(exfalso;omega))
     ·
      exact rz rfl (by show eT _=eT _;congr 1;rw[Tr.mergeL];unfold Tr.chooseL;(repeat' split)<;>first|rfl|(exfalso;simp_all;done)|(exfalso;omega))
    ·
     refine cs 49 J J J (fun hg49=>?_) (fun hg49=>?_)
     ·
      refine bb J J J (fun hc42=>?_) (fun hc42=>?_)
      ·
       refine cl rfl q_Not rfl<|?_
       exact rz rfl (by show eT _=eT _;congr 1;rw[Tr.mergeL];unfold Tr.chooseL;(repeat' split)<;>first|rfl|(exfalso;simp_all;done)|(exfalso;omega))
      ·
       exact rz rfl (by show eT _=eT _;congr 1;rw[Tr.mergeL];unfold Tr.chooseL;(repeat' split)<;>first|rfl|(exfalso;simp_all;done)|(exfalso;omega))
     ·
      exact rz rfl (by show eT _=eT _;congr 1;rw[Tr.mergeL];unfold Tr.chooseL;(repeat' split)<;>first|rfl|(exfalso;simp_all;done)|(exfalso;omega))
  ·
   refine cs 34 J J J (fun hg34=>?_) (fun hg34=>?_)
   ·
    refine bb J J J (fun hc27=>?_) (fun hc27=>?_)
    ·
     refine cl rfl (q_CodeT (p:=false)) rfl<|?_
     exact rz rfl (by show eT _=eT _;congr 1;rw[Tr.mergeL];unfold Tr.chooseL;(repeat' split)<;>first|rfl|(exfalso;simp_all;done)|(exfalso;omega))
    ·
     refine cs 45 J J J (fun hg45=>?_) (fun hg45=>?_)
     ·
      refine bb J J J (fun hc42=>?_) (fun hc42=>?_)
      ·
       refine cl rfl q_Not rfl<|?_
       exact rz rfl (by show eT _=eT _;congr 1;rw[Tr.mergeL];unfold Tr.chooseL;(repeat' split)<;>first|rfl|(exfalso;simp_all;done)|(exfalso;omega))
      ·
       exact rz rfl (by show eT _=eT _;congr 1;rw[Tr.mergeL];unfold Tr.chooseL;(repeat' split)<;>first|rfl|(exfalso;simp_all;done)|(exfalso;omega))
     ·
      refine cs 49 J J J (fun hg49=>?_) (fun hg49=>?_)
      ·
       refine bb J J J (fun hc42=>?_) (fun hc42=>?_)
       ·
        refine cl rfl q_Not rfl<|?_
        exact rz rfl (by show eT _=eT _;congr 1;rw[Tr.mergeL];unfold Tr.chooseL;(repeat' split)<;>first|rfl|(exfalso;simp_all;done)|(exfalso;omega))
       ·
        exact rz rfl (by show eT _=eT _;congr 1;rw[Tr.mergeL];unfold Tr.chooseL;(repeat' split)<;>first|rfl|(exfalso;simp_all;done)|(exfalso;omega))
      ·
       exact rz rfl (by show eT _=eT _;congr 1;rw[Tr.mergeL];unfold Tr.chooseL;(repeat' split)<;>first|rfl|(exfalso;simp_all;done)|(exfalso;omega))
   ·
    refine cs 45 J J J (fun hg45=>?_) (fun hg45=>?_)
    ·
     refine bb J J J (fun hc42=>?_) (fun hc42=>?_)
     ·
      refine cl rfl q_Not rfl<|?_
      exact rz rfl (by show eT _=eT _;congr 1;rw[Tr.mergeL];unfold Tr.chooseL;(repeat' split)<;>first|rfl|(exfalso;simp_all;done)|(exfalso;omega))
     ·
      exact rz rfl (by show eT _=eT _;congr 1;rw[Tr.mergeL];unfold Tr.chooseL;(repeat' split)<;>first|rfl|(exfalso;simp_all;done)|(exfalso;omega))
    ·
     refine cs 49 J J J (fun hg49=>?_) (fun hg49=>?_)
     ·
      refine bb J J J (fun hc42=>?_) (fun hc42=>?_)
      ·
       refine cl rfl q_Not rfl<|?_
       exact rz rfl (by show eT _=eT _;congr 1;rw[Tr.mergeL];unfold Tr.chooseL;(repeat' split)<;>first|rfl|(exfalso;simp_all;done)|(exfalso;omega))
      ·
       exact rz rfl (by show eT _=eT _;congr 1;rw[Tr.mergeL];unfold Tr.chooseL;(repeat' split)<;>first|rfl|(exfalso;simp_all;done)|(exfalso;omega))
     ·
      exact rz rfl (by show eT _=eT _;congr 1;rw[Tr.mergeL];unfold Tr.chooseL;(repeat' split)<;>first|rfl|(exfalso;simp_all;done)|(exfalso;omega))
set_option maxHeartbeats 1000000 in
theorem q_RMerge_node{GB:Gh}{op:Int}{l:LnQ}{x y u:Tr}{c:List LnQ}(hl:LB l)(hlo:l.ok)(hc: ∀m∈c,LB m)(hok: ∀m∈c,m.ok)(hn:c.length+(Tr.node l x y).depth+u.depth≤900)(ihx: ∀{c:List LnQ},(∀m∈c,LB m)→(∀m∈c,m.ok)→c.length+x.depth+u.depth≤900→PF GB Tryz.prog 33 [vI op,eT x,eT u, .sl (c.map eL)] (eT (Tr.mergeL op x u c)))(ihy: ∀{c:List LnQ},(∀m∈c,LB m)→(∀m∈c,m.ok)→c.length+y.depth+u.depth≤900→PF GB Tryz.prog 33 [vI op,eT y,eT u, .sl (c.map eL)] (eT (Tr.mergeL op y u c))):PF GB Tryz.prog 33 [vI op,eT (.node l x y),eT u, .sl (c.map eL)] (eT (Tr.mergeL op (.node l x y) u c)):=by
 have hdp:(Tr.node l x y).depth=1+Nat.max x.depth y.depth:=rfl
 have hdx:x.depth≤Nat.max x.depth y.depth:=Nat.le_max_left _ _
 have hdy:y.depth≤Nat.max x.depth y.depth:=Nat.le_max_right _ _
 have hca:=canonL_len (c++[l])
 have hcb:=canonL_len (c++[l.rev])
 rw[List.length_append,List.length_singleton] at hca hcb
 refine fn (fu:=⟨11⟩) Tryz.func33 J J Tryz.ntmps33 J J (fun C=>?_)
 refine knF J J J<|cl rfl (q_Place (c:=c) (l:=l) hc hok (by omega) hl hlo) rfl<|?_
 refine br J J J (fun hc64=>?_) (fun hc64=>?_)
 ·
  refine cl rfl (ihx hc hok (by omega)) rfl<|?_
  exact rz rfl (by rw[Tr.mergeL,if_pos hc64];rfl)
 ·
  refine br J J J (fun hc74=>?_) (fun hc74=>?_)
  ·
   refine cl rfl (ihy hc hok (by omega)) rfl<|?_
   exact rz rfl (by rw[Tr.mergeL,if_neg hc64,if_pos hc74];rfl)
  ·
   refine cl rfl (q_with (c:=c) (l:=l) hc hok (by omega) hl hlo) rfl<|cl rfl (ihx (c:=canonL (c++[l])) (lb_can (lb_app hc hl)) (ok_can (ok_app hok hlo)) (by omega)) rfl<|?_
   refine cl rfl (q_sRev (l:=l)) rfl<|cl rfl (q_with (c:=c) (l:=l.rev) hc hok (by omega) hl.rev hlo.rev) rfl<|cl rfl (ihy (c:=canonL (c++[l.rev])) (lb_can (lb_app hc hl.rev)) (ok_can (ok_app hok hlo.rev)) (by omega)) rfl<|?_
   refine cl rfl q_join rfl<|?_
   exact rz rfl (by rw[Tr.mergeL,if_neg hc64,if_neg hc74];rfl)
theorem q_RMerge{GB:Gh}{op:Int}{u:Tr}(hu:u.all LB)(huo:u.all LnQ.ok): ∀{t:Tr} {c:List LnQ},t.all LB→t.all LnQ.ok→(∀m∈c,LB m)→(∀m∈c,m.ok)→c.length+t.depth+u.depth≤900→PF GB Tryz.prog 33 [vI op,eT t,eT u, .sl (c.map eL)] (eT (Tr.mergeL op t u c))
 | .leaf _,_,_,_,hc,hok,hn=>q_RMerge_leaf hu huo hc hok (Nat.le_trans (Nat.add_le_add_right (Nat.le_add_right _ _) _) hn)
 | .node l x y,c,hb,ho,hc,hok,hn=>q_RMerge_node hb.1 ho.1 hc hok hn (fun h1 h2 h3=>q_RMerge hu huo hb.2.1 ho.2.1 h1 h2 h3) (fun h1 h2 h3=>q_RMerge hu huo hb.2.2 ho.2.2 h1 h2 h3)
end Go.Sx
end

section
set_option maxRecDepth 100000
namespace Go.Sx
open Go Go.Proofs
theorem cmpP_q(p r:ZP):(cmpP p.q r.q<0↔cmpZ p r<0)∧(cmpP p.q r.q=0↔cmpZ p r=0):=by
 have e1: ∀a b:Int,rcmp (a:Rat) (b:Rat)<0↔a<b:=fun a b=>by rw[rcmp_neg',Rat.intCast_lt_intCast]
 have e2: ∀a b:Int,rcmp (a:Rat) (b:Rat)=0↔a=b:=fun a b=>by rw[rcmp_eq,Rat.intCast_inj]
 have f1:=e1 p.1 r.1
 have f2:=e2 p.1 r.1
 have f3:=e1 p.2 r.2
 have f4:=e2 p.2 r.2
 show(cmpP ⟨(p.1:Rat),(p.2:Rat)⟩ ⟨(r.1:Rat),(r.2:Rat)⟩<0↔_)∧(cmpP ⟨(p.1:Rat),(p.2:Rat)⟩ ⟨(r.1:Rat),(r.2:Rat)⟩=0↔_)
 unfold cmpP cmpZ
 dsimp only
 generalize rcmp (p.1:Rat) (r.1:Rat)=u at*
 generalize rcmp (p.2:Rat) (r.2:Rat)=v at*
 by_cases h:p.1<r.1
 ·rw[if_pos (by omega),if_pos h];omega
 ·by_cases h2:r.1<p.1
  ·rw[if_pos (by omega),if_neg h,if_pos h2];omega
  ·rw[if_neg (by omega),if_neg h,if_neg h2]
   by_cases h3:p.2<r.2
   ·rw[if_pos h3];omega
   ·rw[if_neg h3]
    split<;>omega
theorem insG_q(x:ZP): ∀l:List ZP,insG cmpP x.q (l.map ZP.q)=(insZ x l).map ZP.q
 |[]=>rfl
 |u::t=>by
  obtain⟨h1,h2⟩:=cmpP_q u x
  rw[List.map_cons,insG,insZ,insG_q x t]
  by_cases k1:cmpZ u x<0
  ·rw[if_pos (h1.2 k1),if_pos k1];rfl
  ·rw[if_neg (fun e=>k1 (h1.1 e)),if_neg k1]
   by_cases k2:cmpZ u x=0
   ·rw[if_pos (h2.2 k2),if_pos k2];rfl
   ·rw[if_neg (fun e=>k2 (h2.1 e)),if_neg k2];rfl
theorem sortG_q(l:List ZP):sortG cmpP (l.map ZP.q)=(sortZ l).map ZP.q:=by
 have key: ∀(l o:List ZP),(l.map ZP.q).foldl (fun out x=>insG cmpP x out) (o.map ZP.q)=(l.foldl (fun out x=>insZ x out) o).map ZP.q:=by
  intro l
  induction l with
  |nil=>intro o;rfl
  |cons x t ih=>intro o;rw[List.map_cons,List.foldl_cons,List.foldl_cons,insG_q,ih]
 exact key l []
theorem mapZ(l:List ZP):(l.map ZP.q).map eP=l.map eZp:=by rw[List.map_map];rfl
theorem q_SortedZ{GB:Gh}{l:List ZP}(h: ∀p∈l,ZP.le 100 p)(hn:l.length≤100000):PF GB Tryz.prog 202 [.sl (l.map eZp)] (.sl ((sortZ l).map eZp)):=by
 have:=q_Sorted (GB:=GB) (ps:=l.map ZP.q) (bp1200 h) (by rw[List.length_map];exact hn)
 rw[sortG_q,mapZ,mapZ] at this
 exact this
theorem cross_q(u v:ZP):(PtQ.cross (iP u.1 u.2) (iP v.1 v.2))=((crossZ u v:Int):Rat):=by
 unfold PtQ.cross iP crossZ
 push_cast
 rfl
theorem crossZ_ne(u v:ZP):(PtQ.cross (iP u.1 u.2) (iP v.1 v.2)).num.sign≠0↔crossZ u v≠0:=by
 rw[cross_q,Rat.num_intCast]
 exact not_congr Int.sign_eq_zero_iff_zero
theorem dropL_take{α β:Type}(f:α→β)(l:List α):((l.map f).take (l.length-1)).drop 0=l.dropLast.map f:=by
 rw[List.drop_zero,←List.map_take,List.dropLast_eq_take]
theorem get_last{l:List ZP}(h:0<l.length): ∃u,l.getLast? =some u∧l[l.length-1]? =some u∧l.getD (l.length-1) (0,0)=u:=by
 refine⟨l[l.length-1],?_,List.getElem?_eq_getElem (by omega),?_⟩
 ·rw[List.getLast?_eq_getElem?];exact List.getElem?_eq_getElem (by omega)
 ·rw[List.getD_eq_getElem?_getD,List.getElem?_eq_getElem (by omega)];rfl
theorem get_first{l:List ZP}(h:0<l.length): ∃u,l[0]? =some u∧l.getD 0 (0,0)=u:=by
 refine⟨l[0],List.getElem?_eq_getElem (by omega),?_⟩
 rw[List.getD_eq_getElem?_getD,List.getElem?_eq_getElem (by omega)];rfl
theorem zp_eq{u p:ZP}:(u.1=p.1∧u.2=p.2)↔u=p:=⟨fun h=>Prod.ext h.1 h.2,fun h=>by rw[h];exact⟨rfl,rfl⟩⟩
set_option maxHeartbeats 4000000 in
theorem q_RingT{GB:Gh}{b:Nat}{es:List Int}(hes:es.length≤400){a:Nat}(ha:a≤es.length):PM GB Tryz.prog 144 (mkP [none] b) b 89 [.sl (es.map vI), .v (.int .i64 (a:Nat))] (eRg (ringF es a).1) [.sl (es.map vI), .v (.int .i64 ((ringF es a).2:Nat))]:=by
 have hk0:=nextF_le (n:=4) ha
 refine fnM (fu:=⟨6⟩) Tryz.func144 J J Tryz.ntmps144 J J (fun C b m lo hmb=>?_)
 refine mg (X:=Nat) (fun a2=>[]) (fun a2=>[(1000000,some (.o 89 [.d (.sl (es.map vI)), .d (.v (.int .i64 (a2:Nat)))] false))]) (fun a2=>ringF es a=genF es a2∧a2≤es.length) [] [1000000] rfl ?_ (fun _=>rfl) (fun a2 ⟨hR,ha2⟩=>?_)
 ·
  refine gx rfl<|cm rfl (fun b=>(q_NextT (n:=4) hes ha (by decide) (by decide))) rfl<|?_
  refine br J J J (fun hc15=>?_) (fun hc15=>?_)
  ·
   have hx1:=nextF_le (n:=5) hk0
   have hy1:=nextF_le (n:=5) hx1
   have hz1:=nextF_le (n:=4) hy1
   have hw1:=nextF_le (n:=4) hz1
   have hl0:=nextF_lt (es:=es) (n:=5) (a:=(nextF es 4 a).2) (by decide)
   have hl1:=nextF_lt (es:=es) (n:=5) (a:=(nextF es 5 (nextF es 4 a).2).2) (by decide)
   have hl2:=nextF_lt (es:=es) (n:=4) (a:=(nextF es 5 (nextF es 5 (nextF es 4 a).2).2).2) (by decide)
   have hl3:=nextF_lt (es:=es) (n:=4) (a:=(nextF es 4 (nextF es 5 (nextF es 5 (nextF es 4 a).2).2).2).2) (by decide)
   refine cm rfl (fun b=>(q_NextT (n:=5) hes hk0 (by decide) (by decide))) rfl<|cm rfl (fun b=>(q_NextT (n:=5) hes hx1 (by decide) (by decide))) rfl<|?_
   refine cm rfl (fun b=>(q_NextT (n:=4) hes hy1 (by decide) (by decide))) rfl<|cm rfl (fun b=>(q_NextT (n:=4) hes hz1 (by decide) (by decide))) rfl<|?_
   refine cl rfl (q_Xy (m:=(((nextF es 5 (nextF es 4 a).2).1:Int)-4)) (n:=(((nextF es 5 (nextF es 5 (nextF es 4 a).2).2).1:Int)-4)) (by omega) (by omega)) rfl<|?_
   refine cl rfl (q_Xy (m:=(((nextF es 5 (nextF es 4 a).2).1:Int)-4+1+((nextF es 4 (nextF es 5 (nextF es 5 (nextF es 4 a).2).2).2).1:Int))) (n:=(((nextF es 5 (nextF es 5 (nextF es 4 a).2).2).1:Int)-4)) (by omega) (by omega)) rfl<|?_
   refine cl rfl (q_Xy (m:=(((nextF es 5 (nextF es 4 a).2).1:Int)-4+1+((nextF es 4 (nextF es 5 (nextF es 5 (nextF es 4 a).2).2).2).1:Int))) (n:=(((nextF es 5 (nextF es 5 (nextF es 4 a).2).2).1:Int)-4+1+((nextF es 4 (nextF es 4 (nextF es 5 (nextF es 5 (nextF es 4 a).2).2).2).2).1:Int))) (by omega) (by omega)) rfl<|?_
   refine cl rfl (q_Xy (m:=(((nextF es 5 (nextF es 4 a).2).1:Int)-4)) (n:=(((nextF es 5 (nextF es 5 (nextF es 4 a).2).2).1:Int)-4+1+((nextF es 4 (nextF es 4 (nextF es 5 (nextF es 5 (nextF es 4 a).2).2).2).2).1:Int))) (by omega) (by omega)) rfl<|?_
   refine rf J J<|?_
   exact rzM hmb J J (by rw[show ringF es a=_ from if_pos hc15];rfl) (by rw[show ringF es a=_ from if_pos hc15];rfl)
  ·
   refine br J J J (fun hc46=>?_) (fun hc46=>?_)
   ·
    obtain⟨hp1,hp2,hp3⟩:=pF_ok hk0
    obtain⟨hu1,hu2,hu3,hu4⟩:=vF_ok hp3
    obtain⟨hv1,hv2,hv3,hv4⟩:=vF_ok hu4
    haveI:=biC (k:=10) (m:=(vF es (pF es (nextF es 4 a).2).2).1.1) (by omega) (by decide)
    haveI:=biC (k:=10) (m:=(vF es (pF es (nextF es 4 a).2).2).1.2) (by omega) (by decide)
    haveI:=biC (k:=10) (m:=(vF es (vF es (pF es (nextF es 4 a).2).2).2).1.1) (by omega) (by decide)
    haveI:=biC (k:=10) (m:=(vF es (vF es (pF es (nextF es 4 a).2).2).2).1.2) (by omega) (by decide)
    refine cm rfl (fun b=>(q_PT hes hk0)) rfl<|cm rfl (fun b=>(q_VT hes hp3)) rfl<|cm rfl (fun b=>(q_VT hes hu4)) rfl<|cl rfl (q_Cross (p:=iP (vF es (pF es (nextF es 4 a).2).2).1.1 (vF es (pF es (nextF es 4 a).2).2).1.2) (q:=iP (vF es (vF es (pF es (nextF es 4 a).2).2).2).1.1 (vF es (vF es (pF es (nextF es 4 a).2).2).2).1.2)) rfl<|?_
    refine cl rfl (q_S (q:=PtQ.cross (iP (vF es (pF es (nextF es 4 a).2).2).1.1 (vF es (pF es (nextF es 4 a).2).2).1.2) (iP (vF es (vF es (pF es (nextF es 4 a).2).2).2).1.1 (vF es (vF es (pF es (nextF es 4 a).2).2).2).1.2))) rfl<|?_
    refine br J J J (fun hc58=>?_) (fun hc58=>?_)
    ·
     refine cl rfl (q_Of (n:=1) (by decide) (by decide)) rfl<|cl rfl (q_AddI (m:=(pF es (nextF es 4 a).2).1.1) (n:=(pF es (nextF es 4 a).2).1.2) (m':=(vF es (pF es (nextF es 4 a).2).2).1.1) (n':=(vF es (pF es (nextF es 4 a).2).2).1.2) (k:=1) (by omega) (by omega) (by omega) (by omega) (by decide)) rfl<|?_
     refine cl rfl (q_Of (n:=1) (by decide) (by decide)) rfl<|cl rfl (q_AddI (m:=(pF es (nextF es 4 a).2).1.1) (n:=(pF es (nextF es 4 a).2).1.2) (m':=(vF es (vF es (pF es (nextF es 4 a).2).2).2).1.1) (n':=(vF es (vF es (pF es (nextF es 4 a).2).2).2).1.2) (k:=1) (by omega) (by omega) (by omega) (by omega) (by decide)) rfl<|?_
     refine rf J J<|?_
     exact rzM hmb J J (by rw[show ringF es a=_ from(if_neg hc15).trans ((if_pos hc46).trans (if_pos ((crossZ_ne _ _).1 hc58)))];rfl) (by rw[show ringF es a=_ from(if_neg hc15).trans ((if_pos hc46).trans (if_pos ((crossZ_ne _ _).1 hc58)))])
    ·
     exact at_ (vF es (vF es (pF es (nextF es 4 a).2).2).2).2 ⟨(if_neg hc15).trans ((if_pos hc46).trans (if_neg (fun e=>hc58 ((crossZ_ne _ _).2 e)))),hv4⟩
   ·
    exact at_ (nextF es 4 a).2 ⟨(if_neg hc15).trans (if_neg hc46),hk0⟩
 ·
  have hj1:=nextF_lt (es:=es) (n:=4) (a:=a2) (by decide)
  have hj2:=nextF_le (n:=4) ha2
  refine cm rfl (fun b=>(q_NextT (n:=4) hes ha2 (by decide) (by decide))) rfl<|?_
  refine nr 10 10 86 6 J J J ?_
  refine lp (X:=List ZP×Nat×Nat) (fun⟨r,i,a3⟩=>[(11, .d (vI (i:Nat))),(10, .rw 10)]) (fun⟨r,i,a3⟩=>[(1000000,some (.o 89 [.d (.sl (es.map vI)), .d (.v (.int .i64 (a3:Nat)))] false)),(10,some (.b 86 6 (r.map eZp) true))]) (fun⟨r,i,a3⟩=>ptsF es i a3 r=ptsF es (3+(nextF es 4 a2).1) (nextF es 4 a2).2 []∧a3≤es.length∧Adj r∧r.length+i≤6) (fun⟨r,i,a3⟩=>i) ⟨[],3+(nextF es 4 a2).1,(nextF es 4 a2).2⟩ rfl ⟨rfl,hj2,Adj.nil,by simp;omega⟩ (fun _=>rfl) (fun⟨r,i,a3⟩ hk=>?_)
  try dsimp only at hk⊢
  obtain⟨h1,h2,h3,h4⟩:=hk
  have hrl:(r.map eZp).length=r.length:=by simp
  refine br (fu2:=⟨0⟩) J J J (fun hc73=>?_) (fun hc73=>?_)
  ·
   obtain⟨j,rfl⟩: ∃j,i=j+1:=⟨i-1,by omega⟩
   obtain⟨hq1,hq2,hq3⟩:=pF_ok h2
   refine cm (fu:=⟨8⟩) rfl (fun b=>(q_PT hes h2)) rfl<|?_
   refine csS (v1:=fun hg80=>by simp only[allP];kernel_rfl) J J J J (fun hg80=>?_) (fun hg80=>?_)
   ·
    have hlast: ¬r.getLast? =some (pF es a3).1:=by rw[List.eq_nil_of_length_eq_zero (l:=r) (by omega)];simp
    refine rf J J<|ap ((r++[(pF es a3).1]).map eZp) rfl (by rw[List.map_append];rfl) (slOkZ [_]) rfl<|?_
    refine rnE 95 10 rfl ?_
    exact at_ ⟨r++[(pF es a3).1],j,(pF es a3).2⟩ (by dsimp only;exact⟨⟨by rw[←h1,ptsF,if_neg hlast],hq3,h3.snoc ⟨by omega,by omega⟩ hlast,by simp;omega⟩,(by omega)⟩)
   ·
    obtain⟨q,hq,hqi,hqd⟩:=get_last (l:=r) (by omega)
    have hqm:=h3.le q (List.mem_of_getLast? hq)
    unfold ZP.le at hqm
    refine lb (eZp q) rfl (by rw[show(((r.map eZp).length:Nat):Int)-1=((r.length-1:Nat):Int) by omega];exact map_getS hqi) rfl<|cl rfl (q_SameI' (m:=q.1) (n:=q.2) (m':=(pF es a3).1.1) (n':=(pF es a3).1.2) (by omega) (by omega) (by omega) (by omega)) rfl<|?_
    refine bb J J J (fun hc91=>?_) (fun hc91=>?_)
    ·
     have hlast: ¬r.getLast? =some (pF es a3).1:=by rw[hq];intro e;have:=zp_eq.2 (Option.some.inj e);simp[this] at hc91
     refine rf J J<|ap ((r++[(pF es a3).1]).map eZp) rfl (by rw[List.map_append];rfl) (slOkZ [_]) rfl<|?_
     refine rnE 95 10 rfl ?_
     exact at_ ⟨r++[(pF es a3).1],j,(pF es a3).2⟩ (by dsimp only;exact⟨⟨by rw[←h1,ptsF,if_neg hlast],hq3,h3.snoc ⟨by omega,by omega⟩ hlast,by simp;omega⟩,(by omega)⟩)
    ·
     have hlast:r.getLast? =some (pF es a3).1:=by rw[hq];congr 1;exact zp_eq.1 (by simpa using hc91)
     exact at_ ⟨r,j,(pF es a3).2⟩ (by dsimp only;exact⟨⟨by rw[←h1,ptsF,if_pos hlast],hq3,h3,by omega⟩,(by omega)⟩)
  ·
   obtain rfl:i=0:=by omega
   have hg:=h1
   rw[ptsF] at hg
   refine fzC 10 rfl ?_
   refine gx rfl<|?_
   refine lp (fu:=⟨5⟩) (X:=List ZP×Nat) (fun⟨l,m⟩=>[(10, .d (.sl (l.map eZp)))]) (fun⟨l,m⟩=>[]) (fun⟨l,m⟩=>trimZ m l=trimZ 6 r∧l.length≤m+1∧Adj l∧l.length≤6) (fun⟨l,m⟩=>m) ⟨r,6⟩ rfl ⟨rfl,by omega,h3,by omega⟩ (fun _=>rfl) (fun⟨l,m⟩ hk=>?_)
   try dsimp only at hk⊢
   obtain⟨t1,t2,t3,t4⟩:=hk
   have hll:(l.map eZp).length=l.length:=by simp
   refine csS (v2:=fun hg98=>by simp only[allP];kernel_rfl) J J J J (fun hg98=>?_) (fun hg98=>?_)
   ·
    obtain⟨q,hqi,hqd⟩:=get_first (l:=l) (by omega)
    obtain⟨q2,hq0,hqi2,hqd2⟩:=get_last (l:=l) (by omega)
    have hqm:=t3.le q (List.mem_of_getElem? hqi)
    have hqm2:=t3.le q2 (List.mem_of_getElem? hqi2)
    unfold ZP.le at hqm hqm2
    refine ix _ rfl (map_getS (i:=0) hqi) rfl<|ix (eZp q2) rfl (by rw[show(((l.map eZp).length:Nat):Int)-1=((l.length-1:Nat):Int) by omega];exact map_getS hqi2) rfl<|?_
    refine cl rfl (q_SameI' (m:=q.1) (n:=q.2) (m':=q2.1) (n':=q2.2) (by omega) (by omega) (by omega) (by omega)) rfl<|?_
    refine bd J J J (fun hc110=>?_) (fun hc110=>?_)
    ·
     have hcond:1<l.length∧l.getD 0 (0,0)=l.getD (l.length-1) (0,0):=⟨by omega,by rw[hqd,hqd2];exact zp_eq.1 hc110⟩
     refine sc' 0 (l.length-1) (l.dropLast.map eZp) J J (by omega) (dropL_take eZp l) (slOkZ l) (Nat.zero_le _) (by omega) rfl<|?_
     exact at_ ⟨l.dropLast,m-1⟩ (by dsimp only;exact⟨⟨by rw[←t1];obtain⟨m,rfl⟩: ∃q,m=q+1:=⟨m-1,by omega⟩;rw[trimZ,if_pos hcond];rfl,by rw[List.length_dropLast];omega,t3.drop,by rw[List.length_dropLast];omega⟩,(by omega)⟩)
    ·
     have hcond: ¬(1<l.length∧l.getD 0 (0,0)=l.getD (l.length-1) (0,0)):=fun e=>hc110 (zp_eq.2 (by rw[←hqd,←hqd2];exact e.2))
     refine cl (fu:=⟨1⟩) rfl (q_SortedZ (l:=l) t3.le (by omega)) rfl<|?_
     have hgen:trimZ 6 r=l:=by rw[←t1];cases m with|zero=>rfl|succ m=>rw[trimZ,if_neg hcond]
     refine eqF 118 (.d (vI ((sortZ l).length:Nat))) rfl (by rw[List.length_map];rfl) ?_
     refine gx rfl<|?_
     refine br J J J (fun hc119=>?_) (fun hc119=>?_)
     ·
      have hfin:ringF es a=(tri0,a3):=by rw[hR,genF,←hg,hgen,if_pos (by omega)]
      refine cl rfl (q_Xy (m:=0) (n:=0) (by decide) (by decide)) rfl<|cl rfl (q_Xy (m:=2) (n:=0) (by decide) (by decide)) rfl<|cl rfl (q_Xy (m:=0) (n:=2) (by decide) (by decide)) rfl<|?_
      refine rf J J<|?_
      exact rzM hmb J J (by rw[hfin];rfl) (by rw[hfin])
     ·
      have hfin:ringF es a=(l,a3):=by rw[hR,genF,←hg,hgen,if_neg (by omega)]
      exact rzM hmb J J (by rw[hfin];rfl) (by rw[hfin])
   ·
    have hcond: ¬(1<l.length∧l.getD 0 (0,0)=l.getD (l.length-1) (0,0)):=fun e=>by omega
    refine cl (fu:=⟨1⟩) rfl (q_SortedZ (l:=l) t3.le (by omega)) rfl<|?_
    have hgen:trimZ 6 r=l:=by rw[←t1];cases m with|zero=>rfl|succ m=>rw[trimZ,if_neg hcond]
    refine eqF 118 (.d (vI ((sortZ l).length:Nat))) rfl (by rw[List.length_map];rfl) ?_
    refine gx rfl<|?_
    refine br J J J (fun hc119=>?_) (fun hc119=>?_)
    ·
     have hfin:ringF es a=(tri0,a3):=by rw[hR,genF,←hg,hgen,if_pos (by omega)]
     refine cl rfl (q_Xy (m:=0) (n:=0) (by decide) (by decide)) rfl<|cl rfl (q_Xy (m:=2) (n:=0) (by decide) (by decide)) rfl<|cl rfl (q_Xy (m:=0) (n:=2) (by decide) (by decide)) rfl<|?_
     refine rf J J<|?_
     exact rzM hmb J J (by rw[hfin];rfl) (by rw[hfin])
    ·
     have hfin:ringF es a=(l,a3):=by rw[hR,genF,←hg,hgen,if_neg (by omega)]
     exact rzM hmb J J (by rw[hfin];rfl) (by rw[hfin])
end Go.Sx
end

section
set_option maxRecDepth 100000
namespace Go.Sx
open Go Go.Proofs
def noneQ(op:Int)(a b:Tr):Bool:=decide ((a.mergeQ op b []).isLeaf=true∧(a.mergeQ op b []).code=false)
theorem noneQ_leaf{op:Int}{a b:Tr}:noneQ op a b=true↔a.mergeQ op b []= .leaf false:=by
 unfold noneQ
 rw[decide_eq_true_iff]
 cases a.mergeQ op b [] with
 |leaf v=>simp[Tr.isLeaf,Tr.code]
 |node l x y=>simp[Tr.isLeaf]
theorem Gen.none{L:List LnQ}{a b:Tr}(h:Gen L a b){op:Int}:noneQ op a b=true↔ ∀p,Off L p→opB op (a.val p) (b.val p)=false:=by rw[noneQ_leaf,h.leaf]
theorem equal_sub{a b:Tr}(ha:a.all LnQ.ok)(hb:b.all LnQ.ok):noneQ 4 a b=(noneQ 3 a b&&noneQ 3 b a):=by
 have h:=Gen.mk0 ha hb
 rw[Bool.eq_iff_iff,Bool.and_eq_true,h.none,h.none,h.symm.none]
 constructor
 ·intro g
  refine⟨fun p hp=>?_,fun p hp=>?_⟩<;>
  ·have:=g p hp
   unfold opB at this⊢
   simp at this⊢
   rw[this];cases b.val p<;>simp
 ·rintro ⟨g1,g2⟩ p hp
  have h1:=g1 p hp
  have h2:=g2 p hp
  unfold opB at h1 h2⊢
  simp at h1 h2⊢
  cases e1:a.val p<;>cases e2:b.val p<;>simp_all
def compareQ(a b:Tr):Int:=if noneQ 4 a b then 0 else if noneQ 3 a b then-1 else if noneQ 3 b a then 1 else 2
def atQ:Tr→PtQ→Bool
 | .leaf b,_=>b
 | .node l x y,p=>if(l.value p).num.sign=1 then atQ x p else if(l.value p).num.sign= -1 then atQ y p else false
theorem atQ_val: ∀{t:Tr} {p:PtQ},Off t.lns p→atQ t p=t.val p
 | .leaf b,p,_=>rfl
 | .node l x y,p,h=>by
  rw[atQ,Tr.val]
  have h0:=h.l
  by_cases h1:0<l.value p
  ·rw[if_pos ((sgn_one _).2 h1),if_pos h1,atQ_val h.x]
  ·have h2:l.value p<0:=by grind
   have h3:=(sgn_neg _).2 h2
   have h4:(l.value p).num.sign= -1:=by
    rcases Int.sign_trichotomy (l.value p).num with e|e|e<;>omega
   rw[if_neg (by omega),if_pos h4,if_neg h1,atQ_val h.y]
theorem val_side{L:List LnQ}{p q:PtQ}(h: ∀l∈L,0<l.value q↔0<l.value p): ∀{t:Tr},(∀l∈t.lns,l∈L)→t.val q=t.val p
 | .leaf _,_=>rfl
 | .node l x y,hl=>by
  have hx:=val_side h (t:=x) fun m hm=>hl m (List.mem_cons_of_mem _ (List.mem_append_left _ hm))
  have hy:=val_side h (t:=y) fun m hm=>hl m (List.mem_cons_of_mem _ (List.mem_append_right _ hm))
  rw[Tr.val,Tr.val,hx,hy]
  by_cases h1:0<l.value q
  ·rw[if_pos h1,if_pos ((h l (hl l List.mem_cons_self)).1 h1)]
  ·rw[if_neg h1,if_neg (fun e=>h1 ((h l (hl l List.mem_cons_self)).2 e))]
end Go.Sx
end

section
set_option maxRecDepth 100000
namespace Go.Sx
open Go Go.Proofs
def nilP:DV:= .v (.pointer none)
def cTd(l:LnQ)(p q:DV):List DV:=[.v (.bool false), .v (.bool false), .v (.bool (decide (l.a<0))),dN l.a.natAbs, .v (.bool (decide (l.b<0))),dN l.b.natAbs, .v (.bool (decide (l.c<0))),dN l.c.natAbs,p,q]
inductive RF (ns:List RN):Int→(Nat→Bool)→DV→Bool→(Nat→Bool)→Prop where
 |leaf (b:Bool) (f:Nat→Bool):RF ns (leafCode b) f (eT (.leaf b)) true f
 |bad (rt:Int) (f:Nat→Bool) (h1:rt≠ -1) (h2:rt≠ -2) (h:rt<0∨(ns.length:Int)≤rt∨(∃k:Nat,rt=k∧k<ns.length∧f k=true)):RF ns rt f nilP false f
 |line (k:Nat) (n:RN) (f:Nat→Bool) (h:ns[k]? =some n) (hf:f k=false) (hl:n.g.ln=none):RF ns (k:Int) f nilP false (setF f k)
 |left (k:Nat) (n:RN) (l:LnQ) (f f2:Nat→Bool) (p:DV) (h:ns[k]? =some n) (hf:f k=false) (hl:n.g.ln=some l) (h1:RF ns n.l (setF f k) p false f2):RF ns (k:Int) f nilP false f2
 |node (k:Nat) (n:RN) (l:LnQ) (f f2 f3:Nat→Bool) (p q:DV) (ok:Bool) (h:ns[k]? =some n) (hf:f k=false) (hl:n.g.ln=some l) (h1:RF ns n.l (setF f k) p true f2) (h2:RF ns n.r f2 q ok f3):RF ns (k:Int) f (.pt (cTd l p q)) ok f3
def allK(n:Nat)(f:Nat→Bool):Bool:=(List.range n).all f
end Go.Sx
end

section
set_option maxRecDepth 100000
namespace Go.Sx
open Go Go.Proofs
def RN.of(n:NQ):RN:=⟨⟨decide (n.l.a<0),dg n.l.a.natAbs,decide (n.l.b<0),dg n.l.b.natAbs,decide (n.l.c<0),dg n.l.c.natAbs⟩,n.a,n.b⟩
theorem eN_of(ns:List NQ):ns.map eN=(ns.map RN.of).map RN.d:=by
 rw[List.map_map];rfl
theorem eA_RT(t:Tr):eA t=eRT (t.num 0) ((t.wr 0).map RN.of):=by
 unfold eA eRT
 rw[eN_of];rfl
theorem ivalR_of(a:Int):ivalR (decide (a<0)) (dg a.natAbs)=a:=by
 unfold ivalR
 rw[(dg_spec _).1]
 split
 ·rename_i h;have:=of_decide_eq_true h;omega
 ·rename_i h;have: ¬a<0:=fun e=>h (decide_eq_true e);omega
theorem NrmI_of(a:Int):NrmI (decide (a<0)) (dg a.natAbs):=⟨(dg_spec _).2.2,fun h=>dg_len0.2 (by have:=of_decide_eq_true h;omega)⟩
theorem RN.of_l(n:NQ):(RN.of n).g.l=n.l:=by
 unfold RN.of RL.l
 simp only[ivalR_of]
theorem RN.of_ln{n:NQ}(h:n.l.ok):(RN.of n).g.ln=some n.l:=by
 unfold RL.ln
 rw[if_pos ⟨⟨NrmI_of _,NrmI_of _,NrmI_of _⟩,by rw[RN.of_l];exact h⟩,RN.of_l]
theorem RN.of_sm{n:NQ}(h:LB n.l):(RN.of n).g.sm:=by
 have key: ∀a:Int,a.natAbs<2^96→DOk (dg a.natAbs)∧(dg a.natAbs).length≤3:=fun a ha=>⟨(dg_spec _).2.1,by have:=dg_len_le ha;omega⟩
 exact⟨key _ h.bl.a,key _ h.bl.b,key _ h.bl.c⟩
theorem leafCode_ne(b:Bool)(k:Nat):leafCode b≠(k:Int):=by cases b<;>(unfold leafCode;simp)
theorem RR.det{ns:List RN}{rt:Int}{s s1:RS}{t1:Tr}(h:RR ns rt s t1 s1): ∀{s2:RS} {t2:Tr},RR ns rt s t2 s2→t1=t2∧s1=s2:=by
 induction h with
 |leaf b s=>
  intro s2 t2 h
  generalize hr:leafCode b=r at h
  cases h with
  |leaf b' s=>
   have:b=b':=by cases b<;>cases b'<;>first|rfl|(simp[leafCode] at hr)
   subst this;exact⟨rfl,rfl⟩
  |bad rt s h1 h2 h=>cases b<;>simp[leafCode] at hr<;>omega
  |line k=>exact absurd hr (leafCode_ne _ _)
  |node k=>exact absurd hr (leafCode_ne _ _)
 |bad rt s h1 h2 h=>
  intro s2 t2 h'
  cases h' with
  |leaf b s=>cases b<;>simp[leafCode] at h1 h2
  |bad=>exact⟨rfl,rfl⟩
  |line k n s hn hf=>
   have:=(List.getElem?_eq_some_iff.1 hn).1
   rcases h with h|h|⟨j,e,_,hj⟩
   ·omega
   ·omega
   ·have:j=k:=by omega
    subst this;rw[hf] at hj;cases hj
  |node k n l s s2 s3 x y hn hf=>
   have:=(List.getElem?_eq_some_iff.1 hn).1
   rcases h with h|h|⟨j,e,_,hj⟩
   ·omega
   ·omega
   ·have:j=k:=by omega
    subst this;rw[hf] at hj;cases hj
 |line k n s hn hf hl=>
  intro s2 t2 h'
  generalize hr:(k:Int)=r at h'
  cases h' with
  |leaf b s=>exact absurd hr.symm (leafCode_ne _ _)
  |bad rt s h1 h2 h=>
   have:=(List.getElem?_eq_some_iff.1 hn).1
   rcases h with h|h|⟨j,e,_,hj⟩
   ·omega
   ·omega
   ·have:j=k:=by omega
    subst this;rw[hf] at hj;cases hj
  |line k' n' s hn' hf' hl'=>
   have:k=k':=by omega
   subst this;exact⟨rfl,rfl⟩
  |node k' n' l s s2 s3 x y hn' hf' hl'=>
   have:k=k':=by omega
   subst this;rw[hn] at hn';cases hn';rw[hl] at hl';cases hl'
 |node k n l s s2 s3 x y hn hf hl h1 h2 i1 i2=>
  intro s4 t4 h'
  generalize hr:(k:Int)=r at h'
  cases h' with
  |leaf b s=>exact absurd hr.symm (leafCode_ne _ _)
  |bad rt s h1 h2 h=>
   have:=(List.getElem?_eq_some_iff.1 hn).1
   rcases h with h|h|⟨j,e,_,hj⟩
   ·omega
   ·omega
   ·have:j=k:=by omega
    subst this;rw[hf] at hj;cases hj
  |line k' n' s hn' hf' hl'=>
   have:k=k':=by omega
   subst this;rw[hn] at hn';cases hn';rw[hl] at hl';cases hl'
  |node k' n' l' s s2' s3' x' y' hn' hf' hl' h1' h2'=>
   have:k=k':=by omega
   subst this;rw[hn] at hn';cases hn';rw[hl] at hl';cases hl'
   obtain⟨rfl,rfl⟩:=i1 h1'
   obtain⟨rfl,rfl⟩:=i2 h2'
   exact⟨rfl,rfl⟩
def RT'(ns:List NQ):Tr→Int→List Nat→Prop
 | .leaf b,rt,L=>rt=leafCode b∧L=[]
 | .node l x y,rt,L=> ∃(k:Nat) (a b:Int) (L1 L2:List Nat),rt=(k:Int)∧ns[k]? =some ⟨l,a,b⟩∧RT' ns x a L1∧RT' ns y b L2∧L=k::(L1++L2)
theorem RT'.rr{ns:List NQ}: ∀{t:Tr} {rt:Int} {L:List Nat} {s:RS},RT' ns t rt L→t.all LnQ.ok→L.Nodup→(∀j∈L,s.f j=false)→ ∃f,RR (ns.map RN.of) rt s t ⟨f,s.c+t.size,s.b⟩∧ ∀j,j∉L→f j=s.f j
 | .leaf b,rt,L,s,⟨e,e2⟩,_,_,_=>by
  subst e e2
  exact⟨s.f, .leaf b s,fun _ _=>rfl⟩
 | .node l x y,rt,L,s,⟨k,a,b,L1,L2,e,hk,hx,hy,e2⟩,⟨h0,h1,h2⟩,hnd,hf=>by
  subst e e2
  obtain⟨hkn,hnd⟩:=List.nodup_cons.1 hnd
  obtain⟨hd1,hd2,hdis⟩:=List.nodup_append.1 hnd
  have hfk:=hf k List.mem_cons_self
  have hn1: ∀j∈L1,j≠k:=fun j hj e=>hkn (e▸List.mem_append_left _ hj)
  have hn2: ∀j∈L2,j≠k:=fun j hj e=>hkn (e▸List.mem_append_right _ hj)
  obtain⟨f1,r1,g1⟩:=RT'.rr (s:=⟨setF s.f k,s.c+1,s.b⟩) hx h1 hd1 (fun j hj=>by simp only;rw[setF_ne (hn1 j hj)];exact hf j (List.mem_cons_of_mem _ (List.mem_append_left _ hj)))
  simp only at r1 g1
  obtain⟨f2,r2,g2⟩:=RT'.rr (s:=⟨f1,s.c+1+x.size,s.b⟩) hy h2 hd2 (fun j hj=>by
   simp only
   rw[g1 j (fun h=>hdis _ h _ hj rfl),setF_ne (hn2 j hj)]
   exact hf j (List.mem_cons_of_mem _ (List.mem_append_right _ hj)))
  simp only at r2 g2
  have hc:s.c+(Tr.node l x y).size=s.c+1+x.size+y.size:=by simp only[Tr.size];omega
  rw[hc]
  refine⟨f2, .node k (RN.of ⟨l,a,b⟩) l s _ _ x y (by rw[List.getElem?_map,hk];rfl) hfk (RN.of_ln h0) r1 r2,fun j hj=>?_⟩
  simp only[List.mem_cons,List.mem_append,not_or] at hj
  rw[g2 j hj.2.2,g1 j hj.2.1,setF_ne hj.1]
theorem RT'.len{ns:List NQ}: ∀{t:Tr} {rt:Int} {L:List Nat},RT' ns t rt L→L.length=t.size
 | .leaf _,_,_,⟨_,h⟩=>by rw[h];rfl
 | .node l x y,_,_,⟨k,a,b,L1,L2,_,_,h1,h2,h⟩=>by
  rw[h,List.length_cons,List.length_append,RT'.len h1,RT'.len h2]
  simp only[Tr.size]
  omega
def RD'(ns:List NQ)(t:Tr)(rt:Int):Prop:= ∃L,RT' ns t rt L∧L.Nodup∧L.length=ns.length
theorem ofQ_RD{ns:List NQ}{t:Tr}{rt:Int}(h:RD' ns t rt)(ho:t.all LnQ.ok):ofQ (ns.map RN.of) rt=some t:=by
 obtain⟨L,h1,h2,h3⟩:=h
 obtain⟨f,r,_⟩:=h1.rr (s:=rs0) ho h2 (fun _ _=>rfl)
 have hr:=rdF_ok (ns:=ns.map RN.of) (m:=(ns.map RN.of).length+1) (rt:=rt) (s:=rs0) (by have:=unseen_le (ns.map RN.of).length rs0.f;omega)
 obtain⟨e1,e2⟩:=hr.1.det r
 unfold ofQ
 simp only
 rw[e2,e1,if_pos ⟨rfl,by show rs0.c+t.size=_;rw[List.length_map,←h3,h1.len];show 0+_=_;omega⟩]
theorem wr_RT{ns:List NQ}: ∀{t:Tr} {n:Nat},(∀i,i<t.size→ns[n+i]? =(t.wr n)[i]?)→RT' ns t (t.num n) (List.range' n t.size)
 | .leaf b,n,_=>⟨rfl,rfl⟩
 | .node l x y,n,h=>by
  have hsz:(Tr.node l x y).size=1+x.size+y.size:=rfl
  have hw:(Tr.node l x y).wr n=⟨l,x.num (n+1),y.num (n+1+x.size)⟩::(x.wr (n+1)++y.wr (n+1+x.size)):=by simp[Tr.wr]
  have hx:=x.wr_len (n+1)
  have hy:=y.wr_len (n+1+x.size)
  refine⟨n,x.num (n+1),y.num (n+1+x.size),List.range' (n+1) x.size,List.range' (n+1+x.size) y.size,rfl,?_,wr_RT fun i hi=>?_,wr_RT fun i hi=>?_,?_⟩
  ·have:=h 0 (by omega)
   rw[hw,Nat.add_zero] at this
   rw[this];rfl
  ·have:=h (1+i) (by omega)
   rw[hw,Nat.add_comm 1 i,List.getElem?_cons_succ,List.getElem?_append_left (by omega)] at this
   rw[show n+1+i=n+(i+1) by omega];exact this
  ·have:=h (1+x.size+i) (by omega)
   rw[hw,show 1+x.size+i=(x.size+i)+1 by omega,List.getElem?_cons_succ,List.getElem?_append_right (by omega),hx,Nat.add_sub_cancel_left] at this
   rw[show n+1+x.size+i=n+(x.size+i+1) by omega];exact this
  ·rw[hsz,show 1+x.size+y.size=(x.size+y.size)+1 by omega,List.range'_succ,List.range'_append_1]
theorem ofQ_wr{t:Tr}(ho:t.all LnQ.ok):ofQ ((t.wr 0).map RN.of) (t.num 0)=some t:=
 ofQ_RD ⟨_,wr_RT (n:=0) (fun i _=>by rw[Nat.zero_add]),List.nodup_range',by rw[List.length_range',t.wr_len]⟩ ho
theorem wr_sm{t:Tr}(hb:t.all LB): ∀n∈(t.wr 0).map RN.of,n.g.sm:=fun n hn=>by
 obtain⟨m,hm,rfl⟩:=List.mem_map.1 hn
 exact RN.of_sm (Tr.all_wr 0 hb m hm)
end Go.Sx
end

section
set_option maxRecDepth 100000
namespace Go.Sx
open Go Go.Proofs
theorem Tr.all_imp{p q:LnQ→Prop}(h: ∀l,p l→q l): ∀{t:Tr},t.all p→t.all q
 | .leaf _,_=>trivial
 | .node _ _ _,⟨h0,h1,h2⟩=>⟨h _ h0,Tr.all_imp h h1,Tr.all_imp h h2⟩
theorem wr_n{t:Tr}(hs:t.size≤65536):((t.wr 0).map RN.of).length≤65536:=by rw[List.length_map,t.wr_len];exact hs
def l00:LnQ:=⟨0,1,0⟩
def t00:Tr:= .node l00 (.leaf true) (.leaf false)
end Go.Sx
end

section
set_option maxRecDepth 100000
namespace Go.Sx
open Go Go.Proofs
theorem TrOk.red_size{k:Nat}{t:Tr}(h:TrOk k t)(hr:t.Red []):t.size≤k*(1+k):=by
 obtain⟨K,h1,h2,h3⟩:=h.am
 exact Nat.le_trans (Tr.size_le h2 hr h.gd.ok GoodC.nil h3) (Nat.mul_le_mul h1 (by omega))
structure TrX (k:Nat) (t:Tr):Prop where
 o:TrOk k t
 s:t.size≤3000
theorem TrX.gd{k:Nat}{t:Tr}(h:TrX k t):t.gd:=h.o.gd
theorem TrX.lb{k:Nat}{t:Tr}(h:TrX k t):t.all LB:=h.o.gd.lb
theorem TrX.ok{k:Nat}{t:Tr}(h:TrX k t):t.all LnQ.ok:=h.o.gd.ok
theorem TrX.bl{k:Nat}{t:Tr}(h:TrX k t):t.all (fun l=>BL l 96):=Tr.all_imp (fun _ h=>h.bl) h.o.gd.lb
theorem TrX.dp{k:Nat}{t:Tr}(h:TrX k t):t.depth≤k:=h.o.dp
theorem TrX.mono{j k:Nat}{t:Tr}(h:TrX j t)(hk:j≤k):TrX k t:=⟨h.o.mono hk,h.s⟩
theorem TrOk.x{k:Nat}{t:Tr}(h:TrOk k t)(hr:t.Red [])(hk:k≤54):TrX k t:=
 ⟨h,Nat.le_trans (h.red_size hr) (Nat.le_trans (Nat.mul_le_mul hk (show 1+k≤55 by omega)) (by decide))⟩
theorem TrX.merge{j k:Nat}{op:Int}{t u:Tr}(h:TrX j t)(hu:TrX k u)(hk:j+k≤54):TrX (j+k) (t.mergeQ op u []):=(h.o.merge hu.o).x (Tr.merge_red op u t []) hk
theorem TrX.lim{j k:Nat}{op:Int}{t u:Tr}(h:TrX j t)(hu:TrX k u)(hk:j+k≤200):limQ op t u=some (t.mergeQ op u []):=h.o.lim hu.o hk
theorem build_red(rs:List (List ZP))(fill:Int):(buildR rs fill).Red []:=Tr.restrict_red _ _
theorem boundF_red(es:List Int)(a:Nat):(boundF es a).1.Red []:=by
 unfold boundF
 dsimp only
 split<;>exact build_red _ _
theorem region0_red(es:List Int)(a:Nat):(regionF es 0 a).1.Red []:=by
 rw[regionF]
 try dsimp only
 split
 ·exact Tr.restrict_red _ _
 ·split
  ·exact Tr.restrict_red _ _
  ·split
   ·exact Tr.compl_red (boundF_red _ _)
   ·exact boundF_red _ _
theorem region0_ok{es:List Int}{a:Nat}(ha:a≤es.length):TrX 18 (regionF es 0 a).1∧(regionF es 0 a).2≤es.length:=by
 obtain⟨h1,h2⟩:=regionF_ok (d:=0) ha
 exact⟨(TrOk.mono h1 (by decide)).x (region0_red es a) (by decide),h2⟩
theorem tree3_ok{es:List Int}{a:Nat}(ha:a≤es.length):TrX 18 (treeF es 3 a).1∧(treeF es 3 a).2≤es.length:=by
 obtain⟨h1,h2⟩:=tree_ok (d:=3) ha (by decide)
 have h5:=Tr.size_lt (treeF es 3 a).1
 have h6:(2:Nat)^(treeF es 3 a).1.depth≤2^4:=Nat.pow_le_pow_right (by decide) (by have:=(treeF_ok (d:=3) ha).1;omega)
 exact⟨⟨h1,by omega⟩,h2⟩
def bothF(es:List Int)(a:Nat):(Tr×Tr)×Nat:=
 let x:=regionF es 0 a
 let y:=regionF es 0 x.2
 let k:=nextF es 3 y.2
 let u:=if(k.1:Int)=0 then treeF es 3 k.2 else(x.1,k.2)
 let j:=nextF es 3 u.2
 let v:=if(j.1:Int)=0 then treeF es 3 j.2 else(y.1,j.2)
 ((u.1,v.1),v.2)
def pairF(es:List Int)(a:Nat):(Tr×Tr)×Nat:=
 let x:=regionF es 0 a
 let y:=regionF es 0 x.2
 let k:=nextF es 6 y.2
 if(k.1:Int)=0 then((x.1, .node (lF es k.2).1 x.1 x.1),(lF es k.2).2)
 else if(k.1:Int)=1 then((x.1,y.1.mergeQ 1 x.1 []),k.2)
 else if(k.1:Int)=2 then((x.1,y.1.mergeQ 3 x.1 []),k.2)
 else if(k.1:Int)=3 then((x.1,(treeF es 3 k.2).1),(treeF es 3 k.2).2)
 else((x.1,y.1),k.2)
theorem TrX.above{k:Nat}{t:Tr}(h:TrX k t)(hs:t.size≤1400){l:LnQ}(hl:LS l):TrX (k+1) (.node l t t):=by
 obtain⟨K,h1,h2,h3⟩:=h.o.am
 have a3:Among (l::K) t:=h3.mono fun m hm=>⟨m,List.mem_cons_of_mem _ hm, .inl rfl⟩
 exact⟨⟨⟨⟨⟨hl.bl⟩,h.lb,h.lb⟩,⟨hl.ok,h.ok,h.ok⟩⟩,by have:=h.dp;show 1+max _ _≤_;omega,l::K,by simp;exact h1,fun m hm=>by
  rcases List.mem_cons.1 hm with rfl|hm
  ·exact hl.ok
  ·exact h2 m hm,⟨⟨l,List.mem_cons_self, .inl rfl⟩,a3,a3⟩⟩,by have:=h.s;simp only[Tr.size];omega⟩
theorem region0_size{es:List Int}{a:Nat}(ha:a≤es.length):(regionF es 0 a).1.size≤342:=
 (TrOk.mono (regionF_ok (d:=0) ha).1 (by decide:18*2^0≤18)).red_size (region0_red es a)
theorem pairF_ok{es:List Int}{a:Nat}(ha:a≤es.length):TrX 18 (pairF es a).1.1∧TrX 36 (pairF es a).1.2∧(pairF es a).2≤es.length:=by
 obtain⟨x1,x2⟩:=region0_ok ha
 obtain⟨y1,y2⟩:=region0_ok x2
 have xs:=region0_size ha
 have hk:=nextF_le (n:=6) y2
 unfold pairF
 dsimp only
 split
 ·obtain⟨h1,h2⟩:=lF_ok hk
  exact⟨x1,(x1.above (by omega) h1).mono (by decide),h2⟩
 ·split
  ·exact⟨x1,y1.merge x1 (by decide),hk⟩
  ·split
   ·exact⟨x1,y1.merge x1 (by decide),hk⟩
   ·split
    ·obtain⟨h1,h2⟩:=tree3_ok hk
     exact⟨x1,h1.mono (by decide),h2⟩
    ·exact⟨x1,y1.mono (by decide),hk⟩
def regsF(es:List Int):Nat→Nat→List Tr×Nat
 |0,a=>([],a)
 |n+1,a=>((regionF es 0 a).1::(regsF es n (regionF es 0 a).2).1,(regsF es n (regionF es 0 a).2).2)
end Go.Sx
end
