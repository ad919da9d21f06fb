import Derived.Test.YtfccecinjmbfhaaGreatDoorMd16
set_option linter.unusedSimpArgs false
set_option maxHeartbeats 4000000
set_option maxRecDepth 100000
set_option linter.unusedVariables false
section
namespace Go.Sx
open Go Go.Proofs Tryz
variable {GB:Gh}
def eZp(p:ZP):DV:=eP p.q
def eRg(r:List ZP):DV:= .sl (r.map eZp)
theorem aB5(l:List ZP):adl 6 (l.map eZp):=fun d hd=>by
 obtain⟨u,_,rfl⟩:=bK.1 hd;exact⟨rfl,rfl⟩
theorem ay1(l:List (List ZP)):adl 1 (l.map eRg):=fun d hd=>by
 obtain⟨u,_,rfl⟩:=bK.1 hd;exact⟨rfl,rfl⟩
theorem aGF{r:List ZP}{i:Nat}(h:i<r.length):(r.map eZp)[((i:Nat):Int).toNat]? =some (eZp (r.getD i (0,0))):=by
 rw[bZ,cW,aX,aQ h];rfl
theorem aD4{r:List ZP}{i:Nat}(h:i<r.length):(r.map eZp)[(((i+1)%r.length:Nat):Int).toNat]? =some (eZp (acS r i)):=aGF (dJ _ (by omega))
theorem aEK(v w p:PtQ):(atB v w p).natAbs≤1:=by
 unfold atB;split<;>split<;>decide
theorem alD(r:List ZP)(p:PtQ): ∀k,(aru r p k).natAbs≤k
 |0=>aM _
 |k+1=>by rw[aru];have:=alD r p k;have:=aEK (r.getD k (0,0)).q (acS r k).q p;omega
theorem atw{r:List ZP}(h:aaU r):PF GB prog 133 [.sl (r.map eZp)] (.sl ((acP r).map eFF)):=by
 have hm:=aaI eZp r
 have h3:=h.n3
 have h6:=h.n6
 refine fn (fu:=⟨15⟩) func133 J J ntmps133 J J (fun C=>?_)
 refine eqF 8 (.d (vI (r.length:Nat))) rfl (by rw[hm]<;>rfl) ?_
 refine gx rfl<|?_
 refine nr 3 3 235 14 J J J ?_
 refine lp (X:=Nat) (fun k=>[(9, .d (vI (k:Nat))),(3, .rw 3)]) (fun k=>[(3,some (.b 235 14 ((afj r k).map eFF) true))]) (fun k=>k≤r.length) (fun k=>r.length-k) 0 rfl (bQ _) (fun _=>rfl) (fun k hk=>?_)
 have hel:=fun hh=>(ajr (k:=k) h hh).1
 refine br J J J (fun hc10=>?_) (fun hc10=>?_)
 ·
  have hkr:k<r.length:=by omega
  have hel:=hel (by omega)
  have hem:=aaI eFF (afj r k)
  refine ix (fu:=⟨7⟩) _ rfl (aGF hkr) rfl<|?_
  refine eqF 22 (.d (vI ((k+1)%r.length:Nat))) rfl (by rw[hm]<;>rfl) ?_
  refine gx rfl<|ix _ rfl (aD4 hkr) rfl<|cl rfl (atY (v:=r.getD k (0,0)) (w:=acS r k) (h.le _ (agn hkr)) (h.le _ (ag0 hkr)) (h.ne k hkr)) rfl<|?_
  refine rf J J<|ap ((afj r (k+1)).map eFF) rfl (by rw[afj,bY];rfl) (akV [afb (r.getD k (0,0)) (acS r k)]) rfl<|?_
  refine rnE 31 3 rfl ?_
  exact at_ (k+1) ⟨(by omega),(by omega)⟩
 ·
  obtain rfl:k=r.length:=by omega
  refine fzE 3 rfl ?_
  exact rz J J
theorem awU{r:List ZP}{p:PtQ}{i:Nat}[hp:BPt p i](h:aaU r)(hi:i≤80000:=by decide):PF GB prog 248 [.sl (r.map eZp),eP p] (vI (anA r p)):=by
 have hm:=aaI eZp r
 have h3:=h.n3
 have h6:=h.n6
 refine fn (fu:=⟨16⟩) func248 J J ntmps248 J J (fun C=>?_)
 refine eqF 12 (.d (vI (r.length:Nat))) rfl (by rw[hm]<;>rfl) ?_
 refine gx rfl<|?_
 refine lp (X:=Nat×Int) (fun⟨k,c⟩=>[(13, .d (vI (k:Nat))),(5, .d (vI c))]) (fun⟨k,c⟩=>[]) (fun⟨k,c⟩=>c=aru r p k∧k≤r.length) (fun⟨k,c⟩=>r.length-k) (0,0) rfl ⟨rfl,bQ _⟩ (fun _=>rfl) (fun⟨k,c⟩ hk=>?_)
 dsimp only at hk⊢
 obtain⟨h1,h2⟩:=hk
 have hcl:c.natAbs≤k:=by rw[h1];exact alD r p k
 refine br J J J (fun hc14=>?_) (fun hc14=>?_)
 ·
  have hkr:k<r.length:=by omega
  obtain⟨v,hv⟩: ∃v,v=r.getD k (0,0):=⟨_,rfl⟩
  obtain⟨w,hw⟩: ∃v,v=acS r k:=⟨_,rfl⟩
  haveI hvb:BPt v.q 12:=by rw[hv];exact bpZ (h.le _ (agn hkr))
  haveI hwb:BPt w.q 12:=by rw[hw];exact bpZ (h.le _ (ag0 hkr))
  refine ix (fu:=⟨1⟩) _ rfl (aGF hkr) rfl<|?_
  refine eqF 19 (.d (eP v.q)) rfl (by rw[hv];rfl) ?_
  refine gx (fu:=⟨6⟩) rfl<|?_
  refine eqF 25 (.d (vI ((k+1)%r.length:Nat))) rfl (by rw[hm]<;>rfl) ?_
  refine gx rfl<|ix (fu:=⟨1⟩) _ rfl (aD4 hkr) rfl<|?_
  refine eqF 27 (.d (eP w.q)) rfl (by rw[hw];rfl) ?_
  refine gx rfl<|cl rfl (q_C (a:=v.q.y) (b:=p.y) (i:=12) (j:=i) (by decide) (by omega)) rfl<|cl (fu:=⟨9⟩) rfl (q_C (a:=w.q.y) (b:=p.y) (i:=12) (j:=i) (by decide) (by omega)) rfl<|?_
  rcases(show(aa9 v.q.y p.y≤0∧aa9 w.q.y p.y≤0)∨(aa9 v.q.y p.y≤0∧ ¬aa9 w.q.y p.y≤0)∨(¬aa9 v.q.y p.y≤0∧aa9 w.q.y p.y≤0)∨(¬aa9 v.q.y p.y≤0∧ ¬aa9 w.q.y p.y≤0) by omega) with⟨ca,cb⟩|⟨ca,cb⟩|⟨ca,cb⟩|⟨ca,cb⟩
  ·
   refine knT (fu:=⟨3⟩) rfl (by show some (decide _)=some true;rw[decide_eq_true (by omega)]) rfl<|knF (fu:=⟨15⟩) rfl (by show some (decide _)=some false;rw[decide_eq_false (by omega)]) rfl<|?_
   refine knF (fu:=⟨20⟩) rfl (by show some (decide _)=some false;rw[decide_eq_false (by omega)]) rfl<|?_
   exact at_ (k+1,c) (by dsimp only;exact⟨⟨by rw[aru,←h1,←hv,←hw];unfold atB;split<;>split<;>omega,by omega⟩,(by omega)⟩)
  ·
   refine knT (fu:=⟨3⟩) rfl (by show some (decide _)=some true;rw[decide_eq_true (by omega)]) rfl<|knT rfl (by show some (decide _)=some true;rw[decide_eq_true (by omega)]) rfl<|?_
   refine cl rfl (aqT (a:=v.q) (b:=w.q) (c:=p) (i:=12) (j:=12) (k:=i) (by decide) (by decide) hi) rfl<|?_
   refine br (fu1:=⟨10⟩) (fu2:=⟨6⟩) J J J (fun hc51=>?_) (fun hc51=>?_)
   ·
    refine knF rfl (by show some (decide _)=some false;rw[decide_eq_false (by omega)]) rfl<|?_
    exact at_ (k+1,c+1) (by dsimp only;exact⟨⟨by rw[aru,←h1,←hv,←hw];unfold atB;split<;>split<;>omega,by omega⟩,(by omega)⟩)
   ·
    refine knF (fu:=⟨20⟩) rfl (by show some (decide _)=some false;rw[decide_eq_false (by omega)]) rfl<|?_
    exact at_ (k+1,c) (by dsimp only;exact⟨⟨by rw[aru,←h1,←hv,←hw];unfold atB;split<;>split<;>omega,by omega⟩,(by omega)⟩)
  ·
   refine knF (fu:=⟨19⟩) rfl (by show some (decide _)=some false;rw[decide_eq_false (by omega)]) rfl<|knT (fu:=⟨2⟩) rfl (by show some (decide _)=some true;rw[decide_eq_true (by omega)]) rfl<|?_
   refine knT rfl (by show some (decide _)=some true;rw[decide_eq_true (by omega)]) rfl<|cl rfl (aqT (a:=v.q) (b:=w.q) (c:=p) (i:=12) (j:=12) (k:=i) (by decide) (by decide) hi) rfl<|?_
   refine br (fu2:=⟨8⟩) J J J (fun hc65=>?_) (fun hc65=>?_)
   ·
    exact at_ (k+1,c-1) (by dsimp only;exact⟨⟨by rw[aru,←h1,←hv,←hw];unfold atB;split<;>split<;>omega,by omega⟩,(by omega)⟩)
   ·
    exact at_ (k+1,c) (by dsimp only;exact⟨⟨by rw[aru,←h1,←hv,←hw];unfold atB;split<;>split<;>omega,by omega⟩,(by omega)⟩)
  ·
   refine knF (fu:=⟨19⟩) rfl (by show some (decide _)=some false;rw[decide_eq_false (by omega)]) rfl<|knT (fu:=⟨2⟩) rfl (by show some (decide _)=some true;rw[decide_eq_true (by omega)]) rfl<|?_
   refine knF rfl (by show some (decide _)=some false;rw[decide_eq_false (by omega)]) rfl<|?_
   exact at_ (k+1,c) (by dsimp only;exact⟨⟨by rw[aru,←h1,←hv,←hw];unfold atB;split<;>split<;>omega,by omega⟩,(by omega)⟩)
 ·
  obtain rfl:k=r.length:=by omega
  have hfin:anA r p=c:=h1.symm
  exact rz rfl (by rw[hfin];rfl)
theorem avF{fill n:Int}(hn:n.natAbs≤1000):PF GB prog 249 [vI fill,vI n] (vB (avZ fill n)):=by
 refine fn func249 J J ntmps249 J J (fun C=>?_)
 refine cs 7 J J J (fun hg7=>?_) (fun hg7=>?_)
 ·
  refine cs 12 J J J (fun hg12=>?_) (fun hg12=>?_)
  ·
   exact rz rfl (by show vB _=vB _;unfold avZ;congr 1;simp_all)
  ·
   refine cs 15 J J J (fun hg15=>?_) (fun hg15=>?_)
   ·
    exact rz rfl (by show vB _=vB _;unfold avZ;congr 1;simp_all)
   ·
    exact rz rfl (by show vB _=vB _;unfold avZ;congr 1;simp_all)
 ·
  refine cs 15 J J J (fun hg15=>?_) (fun hg15=>?_)
  ·
   exact rz rfl (by show vB _=vB _;unfold avZ;congr 1;simp_all)
  ·
   exact rz rfl (by show vB _=vB _;unfold avZ;congr 1;simp_all)
def aFx(rs:List (List ZP)):List LnQ:=(abU rs).map FrQ.l
def eRR(rs:List (List ZP))(fill:Int):DV:= .ag [.sl (rs.map eRg), .v (.int .i64 fill), .sl ((aov (aFx rs)).map eL)]
theorem aEE{rs:List (List ZP)}{p:PtQ}(h: ∀r∈rs,aaU r)(k:Nat):((rs.take k).foldl (fun n r=>n+anA r p) 0).natAbs≤6*k:=by
 induction k with
 |zero=>rw[rQ];exact bQ _
 |succ k ih=>
  rw[iX,pZ]
  cases e:rs[k]? with
  |none=>exact cJ ih (by omega)
  |some r=>
   have h1:(anA r p).natAbs≤r.length:=alD r p r.length
   have h2:=(h r (aY e)).n6
   show(List.foldl _ 0 (rs.take k)+anA r p).natAbs≤_
   omega
theorem aFL{rs:List (List ZP)}{fill:Int}{p:PtQ}{i:Nat}[hp:BPt p i](h: ∀r∈rs,aaU r)(hn:rs.length≤100)(hi:i≤80000:=by decide):PF GB prog 192 [eRR rs fill,eP p] (vB (inR rs fill p)):=by
 have hm:=aaI eRg rs
 refine fn (fu:=⟨18⟩) func192 J J ntmps192 J J (fun C=>?_)
 refine eqF 10 (.d (vI (rs.length:Nat))) rfl (by rw[hm]<;>rfl) ?_
 refine gx rfl<|?_
 refine lp (X:=Nat×Int) (fun⟨k,c⟩=>[(11, .d (vI (k:Nat))),(5, .d (vI c))]) (fun⟨k,c⟩=>[]) (fun⟨k,c⟩=>c=(rs.take k).foldl (fun n r=>n+anA r p) 0∧k≤rs.length) (fun⟨k,c⟩=>rs.length-k) (0,0) rfl ⟨by rw[rQ];rfl,bQ _⟩ (fun _=>rfl) (fun⟨k,c⟩ hk=>?_)
 dsimp only at hk⊢
 obtain⟨h1,h2⟩:=hk
 have hcl:c.natAbs≤6*k:=by rw[h1];exact aEE h k
 refine br J J J (fun hc12=>?_) (fun hc12=>?_)
 ·
  obtain⟨r,hz⟩: ∃s,rs[k]? =some s:=⟨_,aQ (by omega)⟩
  have hr:=h r (aY hz)
  have hnz:(anA r p).natAbs≤6:=cJ (alD r p r.length) hr.n6
  refine ix _ rfl (aas hz) rfl<|cl rfl (awU (r:=r) (p:=p) hr hi) rfl<|?_
  exact at_ (k+1,c+anA r p) (by dsimp only;exact⟨⟨by rw[iX,hz,pZ,←h1];rfl,by omega⟩,(by omega)⟩)
 ·
  obtain rfl:k=rs.length:=by omega
  rw[dX] at h1
  refine cl rfl (avF (fill:=fill) (n:=c) (by omega)) rfl<|?_
  exact rz rfl (by unfold inR;rw[←h1];rfl)
def eAr(r:List ZP):DV:= .sl ((r.map ZP.q).map ePt)
theorem aEp(l:List (List ZP)):adl 1 (l.map eAr):=fun d hd=>by
 obtain⟨u,_,rfl⟩:=bK.1 hd;exact⟨rfl,rfl⟩
theorem ate{r:List ZP}(h: ∀p∈r,ZP.le 100 p): ∀p∈r.map ZP.q,BPt p 1200:=fun p hp=>by
 obtain⟨z,hz,rfl⟩:=bK.1 hp
 have:=bpZ (h z hz)
 exact⟨BQ.mono this.x (by decide),BQ.mono this.y (by decide)⟩
theorem ayn(r:List ZP):DV.sl ((r.map ZP.q).map eP)=eRg r:=by unfold eRg;rw[pM];rfl
theorem ajE{rs:List (List ZP)}{k:Nat}{r:List ZP}(h:rs[k]? =some r):abU (rs.take (k+1))=abU (rs.take k)++acP r:=by
 unfold abU;rw[iX,h,nS];simp
theorem ajo{rs:List (List ZP)}(h: ∀r∈rs,aaU r)(k:Nat):(abU (rs.take k)).length≤6*k:=by
 have:=(acI (rs:=rs.take k) (fun r hr=>h r (dK hr))).1
 have h2:(rs.take k).length≤k:=by rw[cR];omega
 omega
theorem auh{rs:List (List ZP)}{fill:Int}(h: ∀r∈rs,aaU r)(hn:rs.length≤100):PF GB prog 66 [.sl (rs.map eAr), .v (.int .i64 fill)] (eRR rs fill):=by
 have hm:=aaI eAr rs
 refine fn (fu:=⟨8⟩) func66 J J ntmps66 J J (fun C=>?_)
 refine bzp (fu:=⟨14⟩) 46 1 0 [] [.v (.int .i64 fill), .sl []] J J J J J<|?_
 refine eqF 15 (.d (vI (rs.length:Nat))) rfl (by rw[hm]<;>rfl) ?_
 refine gx rfl<|?_
 refine nr 6 6 109 6 J J J ?_
 refine lp (X:=Nat) (fun k=>[(16, .d (vI (k:Nat))),(6, .rw 6),(5, .ov 5 0)]) (fun k=>[(5,some (.o 132 [.rw 13, .d (.v (.int .i64 fill)), .d (.sl [])] true)),(13,some (.b 46 1 ((rs.take k).map eRg) true)),(6,some (.b 109 6 (((abU (rs.take k)).map FrQ.l).map eL) true))]) (fun k=>k≤rs.length) (fun k=>rs.length-k) 0 rfl (bQ _) (fun _=>rfl) (fun k hk=>?_)
 refine br (fu2:=⟨0⟩) J J J (fun hc17=>?_) (fun hc17=>?_)
 ·
  obtain⟨r,hz⟩: ∃s,rs[k]? =some s:=⟨_,aQ (by omega)⟩
  have hr:=h r (aY hz)
  have hel:(acP r).length≤6:=by have:=(aiT hr).1;have:=hr.n6;omega
  have het:=ajo h k
  have hrl:((rs.take k).map eRg).length=k:=by rw[aJ,cR];omega
  refine ix _ rfl (aas hz) rfl<|cl (fu:=⟨0⟩) rfl (aF8 (ps:=r.map ZP.q) (ate hr.le) (by rw[aJ];have:=hr.n6;omega)) rfl<|?_
  refine eqF 21 (.d (eRg r)) rfl (by rw[ayn]) ?_
  refine gx rfl<|rf J J<|ap ((rs.take (k+1)).map eRg) rfl (abp hz) (ay1 [r]) rfl<|cl (fu:=⟨1⟩) rfl (atw (r:=r) hr) rfl<|?_
  refine eqF 30 (.d (vI ((acP r).length:Nat))) rfl (by rw[aaI eFF (acP r)]<;>rfl) ?_
  refine gx rfl<|?_
  rw[←oR (abU (rs.take k)),←rQ (l:=acP r)]
  refine lp (X:=Nat) (fun j=>[(31, .d (vI (j:Nat))),(6, .rw 6)]) (fun j=>[(6,some (.b 109 6 (((abU (rs.take k)++(acP r).take j).map FrQ.l).map eL) true))]) (fun j=>j≤(acP r).length) (fun j=>(acP r).length-j) 0 rfl (bQ _) (fun _=>rfl) (fun j hk=>?_)
  have hml:(((abU (rs.take k)++(acP r).take j).map FrQ.l).map eL).length≤6*k+6:=by rw[aJ,aJ,aW,cR];omega
  refine br J J J (fun hc32=>?_) (fun hc32=>?_)
  ·
   obtain⟨e,he⟩: ∃s,(acP r)[j]? =some s:=⟨_,aQ (by omega)⟩
   refine ix _ rfl (aas he) rfl<|rf J J<|ap (((abU (rs.take k)++(acP r).take (j+1)).map FrQ.l).map eL) rfl (by rw[iX,he];simp only[bY,iY];rfl) (acs [e.l]) rfl<|?_
   refine rnE 39 6 rfl ?_
   exact at_ (j+1) ⟨(by omega),(by omega)⟩
  ·
   obtain rfl:j=(acP r).length:=by omega
   rw[dX,←ajE hz]
   refine rnE 26 13 rfl ?_
   exact at_ (k+1) ⟨(by omega),(by omega)⟩
 ·
  obtain rfl:k=rs.length:=by omega
  rw[dX]
  refine fzC 6 rfl ?_
  refine fzC 13 rfl ?_
  refine gx rfl<|cl rfl (ar7 (ls:=aFx rs) (fun l hl=>by obtain⟨f,hf,rfl⟩:=bK.1 hl;exact((acI h).2 f hf).lb) (by unfold aFx;rw[aJ];have:=(acI h).1;omega)) rfl<|?_
  exact rz J J
theorem aGU{rs:List (List ZP)}(h: ∀r∈rs,aaU r)(hn:rs.length≤100):PF GB prog 124 [.sl (rs.map eRg)] (.sl (rs.map eAr)):=by
 have hm:=aaI eRg rs
 refine fn (fu:=⟨15⟩) func124 J J ntmps124 J J (fun C=>?_)
 refine eqF 7 (.d (vI (rs.length:Nat))) rfl (by rw[hm]<;>rfl) ?_
 refine gx rfl<|?_
 refine nr 3 3 120 1 J J J ?_
 refine lp (X:=Nat) (fun k=>[(8, .d (vI (k:Nat))),(3, .rw 3)]) (fun k=>[(3,some (.b 120 1 ((rs.take k).map eAr) true))]) (fun k=>k≤rs.length) (fun k=>rs.length-k) 0 rfl (bQ _) (fun _=>rfl) (fun k hk=>?_)
 have hml:((rs.take k).map eAr).length≤k:=by rw[aJ,cR];omega
 refine br J J J (fun hc9=>?_) (fun hc9=>?_)
 ·
  obtain⟨r,hz⟩: ∃s,rs[k]? =some s:=⟨_,aQ (by omega)⟩
  have hr:=h r (aY hz)
  refine ix (fu:=⟨1⟩) _ rfl (aas hz) rfl<|?_
  refine eqF 11 (.d (.sl ((r.map ZP.q).map eP))) rfl (by rw[ayn]) ?_
  refine gx rfl<|cl rfl (ay2 (ps:=r.map ZP.q) (ate hr.le) (by rw[aJ];have:=hr.n6;omega)) rfl<|rf J J<|ap ((rs.take (k+1)).map eAr) rfl (abp hz) (aEp [r]) rfl<|?_
  refine rnE 16 3 rfl ?_
  exact at_ (k+1) ⟨(by omega),(by omega)⟩
 ·
  obtain rfl:k=rs.length:=by omega
  refine fzE 3 rfl ?_
  exact rz rfl (by rw[dX];rfl)
theorem ang(out:List LnQ)(l:LnQ):(acv out l).length≤out.length+1:=by
 unfold acv
 split
 ·omega
 ·simp;omega
theorem akE(c:List LnQ): ∀(t out:List LnQ),(aed c t out).length≤out.length+t.length
 |[],out=>by simp[aed]
 |l::t,out=>by
  rw[aed]
  refine cJ (akE c t _) ?_
  have:=ang out l
  split<;>simp<;>omega
theorem aet(c:List LnQ):(aaJ c).length≤c.length:=cJ (akE c c []) (by simp)
theorem aqp{c:List LnQ}(h: ∀m∈c,LB m): ∀m∈aaJ c,LB m:=fun m hm=>h m (aa4.1 hm).1
theorem aqV{c:List LnQ}(h: ∀m∈c,m.ok): ∀m∈aaJ c,m.ok:=fun m hm=>h m (aa4.1 hm).1
theorem aq3{c:List LnQ}{l:LnQ}(hc: ∀m∈c,LB m)(hok: ∀m∈c,m.ok)(hn:c.length≤900)(hl:LB l)(hlo:l.ok):PF GB prog 118 [.sl (c.map eL),eL l] (.sl ((aaJ (c++[l])).map eL)):=by
 have hcl:=aeX c
 refine fn func118 J J ntmps118 J J (fun C=>?_)
 refine ro0 J J<|ap (c.map eL) J J (acs _) rfl<|rf J J<|apf ((c++[l]).map eL) rfl (by rw[bY];rfl) (acs [l]) rfl<|?_
 refine cl rfl (aoI (c:=c++[l]) (agQ hc hl) (abW hok hlo) (by simp;omega)) rfl<|?_
 exact rz J J
theorem axl{l l1:LnQ}{x y u:Tr}:PF GB prog 117 [eL l,eT (.node l1 x y),eT u] (eT (.node l (.node l1 x y) u)):=by
 refine fn (fu:=⟨12⟩) func117 J J ntmps117 J J (fun C=>?_)
 refine knF J J J<|?_
 refine fzE 33 rfl ?_
 exact rz J J
theorem asq{l l1:LnQ}{x y:Tr}{p:Bool}:PF GB prog 117 [eL l,eT (.leaf p),eT (.node l1 x y)] (eT (.node l (.leaf p) (.node l1 x y))):=by
 refine fn (fu:=⟨12⟩) func117 J J ntmps117 J J (fun C=>?_)
 refine knT (fu:=⟨4⟩) J J J<|knF J J J<|?_
 refine fzE 33 rfl ?_
 exact rz J J
theorem au2{l:LnQ}{p q:Bool}:PF GB prog 117 [eL l,eT (.leaf p),eT (.leaf q)] (eT (Tr.joinQ l (.leaf p) (.leaf q))):=by
 refine fn (fu:=⟨12⟩) func117 J J ntmps117 J J (fun C=>?_)
 refine knT (fu:=⟨4⟩) J J J<|knT J J J<|?_
 refine bd J J J (fun hc27=>?_) (fun hc27=>?_)
 ·
  exact rz rfl (by rw[show Tr.joinQ l (.leaf p) (.leaf q)= .leaf p by simp[Tr.joinQ,Tr.isLeaf,Tr.code,hc27]];rfl)
 ·
  refine fzE 33 rfl ?_
  exact rz rfl (by rw[show Tr.joinQ l (.leaf p) (.leaf q)= .node l (.leaf p) (.leaf q) by simp[Tr.joinQ,Tr.isLeaf,Tr.code,hc27]];rfl)
theorem ayo{l:LnQ}: ∀{x y:Tr},PF GB prog 117 [eL l,eT x,eT y] (eT (Tr.joinQ l x y))
 | .leaf _, .leaf _=>au2
 | .leaf _, .node .. =>asq
 | .node ..,_=>axl
theorem aik{b:Bool}{c:List LnQ}:PF GB prog 115 [eT (.leaf b), .sl (c.map eL)] (eT (Tr.restrictL (.leaf b) c)):=by
 refine fn (fu:=⟨11⟩) func115 J J ntmps115 J J (fun C=>?_)
 refine knT J J J<|?_
 exact rz J J
theorem aim{l:LnQ}{x y:Tr}{c:List LnQ}(hl:LB l)(hlo:l.ok)(hc: ∀m∈c,LB m)(hok: ∀m∈c,m.ok)(hn:c.length+(Tr.node l x y).depth≤900)(ihx: ∀{c:List LnQ},(∀m∈c,LB m)→(∀m∈c,m.ok)→c.length+x.depth≤900→PF GB prog 115 [eT x, .sl (c.map eL)] (eT (Tr.restrictL x c)))(ihy: ∀{c:List LnQ},(∀m∈c,LB m)→(∀m∈c,m.ok)→c.length+y.depth≤900→PF GB prog 115 [eT y, .sl (c.map eL)] (eT (Tr.restrictL y c))):PF GB prog 115 [eT (.node l x y), .sl (c.map eL)] (eT (Tr.restrictL (.node l x y) c)):=by
 have hdp:(Tr.node l x y).depth=1+Nat.max x.depth y.depth:=rfl
 have hdx:x.depth≤Nat.max x.depth y.depth:=qU _ _
 have hdy:y.depth≤Nat.max x.depth y.depth:=pS _ _
 have hca:=aet (c++[l])
 have hcb:=aet (c++[l.rev])
 rw[aW,fT] at hca hcb
 refine fn (fu:=⟨11⟩) func115 J J ntmps115 J J (fun C=>?_)
 refine knF J J J<|cl rfl (auW (c:=c) (l:=l) hc hok (by omega) hl hlo) rfl<|?_
 refine br J J J (fun hc16=>?_) (fun hc16=>?_)
 ·
  refine cl rfl (ihx hc hok (by omega)) rfl<|?_
  exact rz rfl (by rw[Tr.restrictL,if_pos hc16];rfl)
 ·
  refine br J J J (fun hc24=>?_) (fun hc24=>?_)
  ·
   refine cl rfl (ihy hc hok (by omega)) rfl<|?_
   exact rz rfl (by rw[Tr.restrictL,if_neg hc16,if_pos hc24];rfl)
  ·
   refine cl rfl (aq3 (c:=c) (l:=l) hc hok (by omega) hl hlo) rfl<|cl rfl (ihx (c:=aaJ (c++[l])) (aqp (agQ hc hl)) (aqV (abW hok hlo)) (by omega)) rfl<|?_
   refine cl rfl (ajO (l:=l)) rfl<|cl rfl (aq3 (c:=c) (l:=l.rev) hc hok (by omega) hl.rev hlo.rev) rfl<|cl rfl (ihy (c:=aaJ (c++[l.rev])) (aqp (agQ hc hl.rev)) (aqV (abW hok hlo.rev)) (by omega)) rfl<|?_
   refine cl rfl ayo rfl<|?_
   exact rz rfl (by rw[Tr.restrictL,if_neg hc16,if_neg hc24];rfl)
theorem aeH: ∀{t:Tr} {c:List LnQ},t.all LB→t.all LnQ.ok→(∀m∈c,LB m)→(∀m∈c,m.ok)→c.length+t.depth≤900→PF GB prog 115 [eT t, .sl (c.map eL)] (eT (Tr.restrictL t c))
 | .leaf _,_,_,_,_,_,_=>aik
 | .node l x y,c,hb,ho,hc,hok,hn=>aim hb.1 ho.1 hc hok hn (fun h1 h2 h3=>aeH hb.2.1 ho.2.1 h1 h2 h3) (fun h1 h2 h3=>aeH hb.2.2 ho.2.2 h1 h2 h3)
def p7:PtQ:=⟨mkRat 1 7,mkRat 1 5⟩
structure LP (l:LnQ):Prop where
 s:LS l
 p:0<l.value p7
def lsR(es:List Int):Nat→Nat→List LnQ×Nat
 |0,a=>([],a)
 |i+1,a=>((lF es a).1::(lsR es i (lF es a).2).1,(lsR es i (lF es a).2).2)
def lsF(es:List Int)(most a:Nat):List LnQ×Nat:=lsR es (aae es ((most:Int)+1) a).1 (aae es ((most:Int)+1) a).2
def aDO(l:LnQ):LnQ:=if(l.value p7).num.sign<0 then l.rev else l
def aHP(xs:List LnQ)(i:Nat):List LnQ:=(xs.take i).map aDO++xs.drop i
def aH6(es:List Int)(a:Nat):List LnQ×Nat:=((lsF es 3 a).1.map aDO,(lsF es 3 a).2)
theorem aAd{n d:Nat}(hn:n≤1000)(hd:0<d)(hd1:d≤1000):PF GB prog 22 [.v (.int .i64 (n:Int)), .v (.int .i64 (d:Nat))] (eQ (mkRat n d)):=by
 haveI:BI (n:Int) 10:=aFm (by rw[iS];omega)
 haveI:BN d 10:=⟨by omega⟩
 refine fn func22 J J ntmps22 J J (fun C=>?_)
 refine cl rfl (aDo (n:=(n:Int)) (by omega) (by omega)) rfl<|cl rfl (agz (u:=d) (by omega)) rfl<|cl rfl (ai0 (x:=(n:Int)) (d:=d) hd) rfl<|?_
 exact rz J J
theorem ayC(xs ys:List NQ)(n:NQ):((xs++(n::ys)).map eN)[((xs.length:Nat):Int).toNat]? =some (eN n):=by simp
theorem azv(xs ys:List NQ)(n m:NQ)(e:DV)(h:e=eN m):((xs++(n::ys)).map eN).set ((xs.length:Nat):Int).toNat e=(xs++(m::ys)).map eN:=by subst h;simp
theorem anl{ns:List NQ}:PB GB prog 60 (mkB [some (eT (.leaf true)),none]) 8 221 (ns.map eN) (fun w=> .tp ([]++ .v (.slice w.a w.n w.c)::[.v (.int .i64 (Tr.num (.leaf true) ns.length))])) ((ns++Tr.wr (.leaf true) ns.length).map eN):=by
 refine fnB (fu:=⟨12⟩) func60 J J ntmps60 J J (fun C=>?_)
 refine knT (fu:=⟨9⟩) J J J<|knT J J J<|?_
 exact rzB J J J J J (by simp[Tr.wr]) rfl
theorem alv{ns:List NQ}:PB GB prog 60 (mkB [some (eT (.leaf false)),none]) 8 221 (ns.map eN) (fun w=> .tp ([]++ .v (.slice w.a w.n w.c)::[.v (.int .i64 (Tr.num (.leaf false) ns.length))])) ((ns++Tr.wr (.leaf false) ns.length).map eN):=by
 refine fnB (fu:=⟨12⟩) func60 J J ntmps60 J J (fun C=>?_)
 refine knT (fu:=⟨9⟩) J J J<|knF J J J<|?_
 exact rzB J J J J J (by simp[Tr.wr]) rfl
theorem anc{l:LnQ}{s u:Tr}{ns:List NQ}(hl:BL l 96)(hs:ns.length+(1+s.size+u.size)≤1000000)(ihs: ∀{ns:List NQ},ns.length+s.size≤1000000→PB GB prog 60 (mkB [some (eT s),none]) 8 221 (ns.map eN) (fun w=> .tp ([]++ .v (.slice w.a w.n w.c)::[.v (.int .i64 (Tr.num s ns.length))])) ((ns++Tr.wr s ns.length).map eN))(ihu: ∀{ns:List NQ},ns.length+u.size≤1000000→PB GB prog 60 (mkB [some (eT u),none]) 8 221 (ns.map eN) (fun w=> .tp ([]++ .v (.slice w.a w.n w.c)::[.v (.int .i64 (Tr.num u ns.length))])) ((ns++Tr.wr u ns.length).map eN)):PB GB prog 60 (mkB [some (eT (.node l s u)),none]) 8 221 (ns.map eN) (fun w=> .tp ([]++ .v (.slice w.a w.n w.c)::[.v (.int .i64 (Tr.num (.node l s u) ns.length))])) ((ns++Tr.wr (.node l s u) ns.length).map eN):=by
 refine fnB (fu:=⟨12⟩) func60 J J ntmps60 J J (fun C=>?_)
 refine knF (fu:=⟨9⟩) J J J<|?_
 refine eqF 20 (.d (.v (.int .i64 (ns.length:Nat)))) rfl (by simp) ?_
 refine gx rfl<|cl rfl (aFR hl) rfl<|rf J J<|apB ((ns++[(⟨l,0,0⟩:NQ)]).map eN) rfl (by rw[bY]<;>rfl) (aF6 [(⟨l,0,0⟩:NQ)]) rfl<|?_
 refine cb _ rfl (ihs (ns:=ns++[(⟨l,0,0⟩:NQ)]) (by simp;omega)) J J<|cb (hv:=by simp only[aah];exact(by simp;omega)) ((ns++((⟨l,0,0⟩:NQ)::(s.wr (ns.length+1)++u.wr (ns.length+1+s.size)))).map eN) rfl (ihu (ns:=ns++[(⟨l,0,0⟩:NQ)]++s.wr (ns++[(⟨l,0,0⟩:NQ)]).length) (by simp[Tr.wr_len];omega)) (by simp[Tr.wr_len,jY,jK 1]) rfl<|?_
 refine sb (hv:=by simp only[aah];exact(by simp;omega)) (eN ⟨l,0,0⟩) ((ns++((⟨l,s.num (ns.length+1),0⟩:NQ)::(s.wr (ns.length+1)++u.wr (ns.length+1+s.size)))).map eN) rfl (ayC ns _ ⟨l,0,0⟩) rfl (by rw[azv _ _ _ ⟨l,s.num (ns.length+1),0⟩ _ (by simp[eN,DV.cells])]) rfl<|?_
 refine sb (eN ⟨l,s.num (ns.length+1),0⟩) ((ns++Tr.wr (.node l s u) ns.length).map eN) rfl (ayC ns _ ⟨l,s.num (ns.length+1),0⟩) rfl (by rw[azv _ _ _ ⟨l,s.num (ns.length+1),u.num (ns.length+1+s.size)⟩ _ (by simp[eN,DV.cells,Tr.wr_len,jY,jK 1])];simp[Tr.wr]) rfl<|?_
 exact rzB J J J J J J J
theorem ao6: ∀{t:Tr} {ns:List NQ},t.all (fun l=>BL l 96)→ns.length+t.size≤1000000→PB GB prog 60 (mkB [some (eT t),none]) 8 221 (ns.map eN) (fun w=> .tp ([]++ .v (.slice w.a w.n w.c)::[.v (.int .i64 (Tr.num t ns.length))])) ((ns++Tr.wr t ns.length).map eN)
 | .leaf true,ns,_,_=>anl
 | .leaf false,ns,_,_=>alv
 | .node l s u,ns,hb,hs=>anc hb.1 hs (fun h=>ao6 hb.2.1 h) (fun h=>ao6 hb.2.2 h)
theorem az0{t:Tr}(hb:t.all (fun l=>BL l 96))(hs:t.size≤1000000):PF GB prog 14 [eT t] (eA t):=by
 refine fn func14 J J ntmps14 J J (fun C=>?_)
 refine cbn _ rfl (ao6 (t:=t) (ns:=[]) hb (by simpa using hs)) J J<|?_
 refine fzE 6 rfl ?_
 exact rz J J
theorem aF5(ds:List Int):adl 1 (ds.map vI):=fun d hd=>by
 obtain⟨n,_,rfl⟩:=bK.1 hd;exact⟨rfl,rfl⟩
theorem avV(es:List Int):(es.map vI).take (min es.length 400)=(es.take 400).map vI:=by
 rw[gT]
 rcases Nat.le_total es.length 400 with h|h
 ·rw[iZ h,aT (by simp),aT (by simpa using h)]
 ·rw[Nat.min_eq_right h]
theorem aF9{es:List Int}(hb:es.length≤1125899906842624):PN GB prog 11 [.sl (es.map vI)] 104 Unit (fun _=>[.sl ((es.take 400).map vI), .v (.int .i64 (0:Nat))]):=by
 have hel:(es.map vI).length=es.length:=by simp
 refine fnN func11 J J ntmps11 J J (fun C hmb=>?_)
 refine sc' 0 (min es.length 400) ((es.take 400).map vI) J J (by rw[hel];show(if _ then _ else _:Int)=_;split<;>omega) (avV es) (aF5 _) (by omega) (by omega) rfl<|?_
 exact rzN () J J J J J
theorem afm{t:Tr}(hb:t.all LB)(hok:t.all LnQ.ok)(hd:t.depth≤900):PF GB prog 52 [eT t] (eT (t.restrict [])):=by
 refine fn func52 J J ntmps52 J J (fun C=>?_)
 refine cl rfl (aeH (t:=t) (c:=[]) hb hok (by simp) (by simp) (by simpa using hd)) rfl<|?_
 exact rz rfl (by rw[←Tr.restrictL_eq t [] [] hok (by simp) aaV.nil (fun p=>by unfold InD InL;simp)];rfl)
theorem anG{cuts:List Rat}{marks:List Bool}: ∀k,2*(acl cuts marks k).length≤k+(if 0<k∧marks.getD (k-1) false=true then 1 else 0)
 |0=>by rw[acl];simp
 |k+1=>by
  have ih:=anG (cuts:=cuts) (marks:=marks) k
  rw[acl]
  simp only[lK]
  by_cases hm:marks.getD k false=true
  ·rw[if_pos hm,if_pos (show 0<k+1∧marks.getD k false=true from⟨by omega,hm⟩)]
   by_cases hp:0<k∧marks.getD (k-1) false=true
   ·rw[if_pos hp] at ih⊢
    cases hv:(acl cuts marks k).getLast? with
    |some v=>
     have:0<(acl cuts marks k).length:=by
      cases e:acl cuts marks k with
      |nil=>rw[e] at hv;simp at hv
      |cons a t=>simp
     show 2*((acl cuts marks k).dropLast++[_]).length≤_
     rw[aW,gM,fT];omega
    |none=>
     have:acl cuts marks k=[]:=List.getLast?_eq_none_iff.1 hv
     simp only[this];simp
   ·rw[if_neg hp] at ih⊢
    rw[aW,fT];omega
  ·rw[if_neg hm]
   split at ih<;>split<;>omega
theorem axb(op:Int)(a b:List IvQ):(ahm op a b).length≤a.length+b.length+1:=by
 unfold ahm anp
 have h:=anG (cuts:=adj (a++b)) (marks:=(abZ (adj (a++b))).map fun t=>ag6 op (act a t) (act b t)) ((abZ (adj (a++b))).map fun t=>ag6 op (act a t) (act b t)).length
 have h2:=ajU (a++b)
 rw[aW] at h2
 have h3:((abZ (adj (a++b))).map fun t=>ag6 op (act a t) (act b t)).length=(adj (a++b)).length+1:=by rw[aJ,afo]
 split at h<;>omega
theorem aka(f:FrQ)(m:LnQ)(side:Int):(aaW f m side).length≤3:=by
 unfold aaW
 split
 ·simp
 ·rw[aJ]
  have:=axb 2 [f.v] (adH f.l m side)
  have h2:=agO (l:=f.l) (m:=m) (side:=side)
  rw[fT] at this
  omega
theorem apa{p v:PtQ}{m:LnQ}{s:Rat}[hp:BPt p 4500][hv:BPt v 97][hm:LB m](hs:BQ s 60000):BQ (ab7 p v m s) 60000:=by
 unfold ab7 alT
 split
 ·exact hs
 ·split
  ·exact hs
  ·split
   ·split
    ·haveI:BQ (-(m.value p/(m.value (adv p v ((1:Int):Rat))-m.value p))) 45000:=BQ.mono inferInstance (by decide)
     exact BQ.mono (inferInstance:BQ (-(m.value p/(m.value (adv p v ((1:Int):Rat))-m.value p))/2) _) (by decide)
    ·exact hs
   ·exact hs
theorem apL{p v:PtQ}[hp:BPt p 4500][hv:BPt v 97]: ∀{c:List LnQ} {s:Rat},(∀m∈c,LB m)→BQ s 60000→BQ (af9 p v c s) 60000
 |[],_,_,hs=>hs
 |m::t,s,hc,hs=>by
  haveI:=hc m aZ
  exact apL (c:=t) (fun q hq=>hc q (aK _ hq)) (apa hs)
theorem anW{c:List LnQ}(hc: ∀m∈c,LB m)(hok: ∀m∈c,m.ok): ∀{t:List LnQ},(∀m∈t,m∈c)→BPt (ab4 c t) 70000
 |[],_=>by
  have h0:BQ (0:Rat) 70000:=BQ.mono (k:=1) ⟨by decide,by decide⟩ (by decide)
  exact⟨h0,h0⟩
 |m::t,h=>by
  have hm:=h m aZ
  haveI:=hc m hm
  rw[ab4]
  split
  ·have hbd:=aiA (v:=IvQ.all) (hok m hm).ne hc IvZ.all (BQ.mono (k:=1) ⟨by decide,by decide⟩ (by decide)) (BQ.mono (k:=1) ⟨by decide,by decide⟩ (by decide))
   haveI:=hbd.1
   haveI:=hbd.2
   haveI hsb:=am3 (v:=(acf m c IvQ.all).1) (i:=1200)
   haveI hpt:BPt (m.at (abH (acf m c IvQ.all).1)) 4500:=by have:=BPt.at m (abH (acf m c IvQ.all).1) (1200+1200+5);exact⟨this.x.mono (by decide),this.y.mono (by decide)⟩
   haveI hvt:BPt (ahL m.dir) 97:=inferInstance
   haveI hns:BQ (af9 (m.at (abH (acf m c IvQ.all).1)) (ahL m.dir) c ((1:Int):Rat)) 60000:=apL hc (BQ.mono (k:=2) ⟨by decide,by decide⟩ (by decide))
   have:=BPt.mov (m.at (abH (acf m c IvQ.all).1)) (ahL m.dir) (af9 (m.at (abH (acf m c IvQ.all).1)) (ahL m.dir) c ((1:Int):Rat)) 4500 97 60000
   exact⟨this.x.mono (by decide),this.y.mono (by decide)⟩
  ·exact anW hc hok (fun q hq=>h q (aK _ hq))
theorem amW{l:List FrQ}{k:Nat}{g:FrQ}{m:LnQ}{side:Int}(h:l[k]? =some g):(l.take (k+1)).flatMap (fun g=>aaW g m side)=(l.take k).flatMap (fun g=>aaW g m side)++aaW g m side:=by
 rw[iX,h,nS];simp
theorem aiJ(l:List FrQ)(m:LnQ)(side:Int):(l.flatMap fun g=>aaW g m side).length≤3*l.length:=by
 induction l with
 |nil=>simp
 |cons a t ih=>rw[kZ,aW,bW];have:=aka a m side;omega
theorem awb{acc:PtQ→Bool}{n:Nat}{c:List LnQ}:akh acc n [] c= .leaf (acc (ab4 c c)):=by cases n<;>rfl
theorem arG{rs:List (List ZP)}{fill:Int}(hrs: ∀r∈rs,aaU r)(hrn:rs.length≤100){n:Nat}{c:List LnQ}(hc: ∀m∈c,LB m)(hok: ∀m∈c,m.ok)(hn:c.length≤900):PF GB prog 134 [eRR rs fill, .sl [], .sl (c.map eL)] (eT (akh (inR rs fill) n [] c)):=by
 haveI hpb:=anW hc hok (t:=c) (fun _ h=>h)
 refine fn (fu:=⟨11⟩) func134 J J ntmps134 J J (fun C=>?_)
 refine knT J J J<|cl rfl (apk (c:=c) hc hok (by omega)) rfl<|cl rfl (aFL (p:=ab4 c c) (i:=70000) hrs hrn (by decide)) rfl<|cl rfl (ac4 (p:=inR rs fill (ab4 c c))) rfl<|?_
 exact rz rfl (by rw[awb];rfl)
theorem ary{rs:List (List ZP)}{fill:Int}(hrs: ∀r∈rs,aaU r)(hrn:rs.length≤100){n:Nat}{f:FrQ}{t:List FrQ}{c:List LnQ}(hfew:Few (n+1) (f::t))(hfo: ∀g∈f::t,FOk g)(hlen:(f::t).length*3^(n+1)≤6973568802)(hc: ∀m∈c,LB m)(hok: ∀m∈c,m.ok)(hn:c.length+(n+1)≤900)(ih: ∀{l:List FrQ} {c:List LnQ},Few n l→(∀f∈l,FOk f)→l.length*3^n≤6973568802→(∀m∈c,LB m)→(∀m∈c,m.ok)→c.length+n≤900→PF GB prog 134 [eRR rs fill, .sl (l.map eFF), .sl (c.map eL)] (eT (akh (inR rs fill) n l c))):PF GB prog 134 [eRR rs fill, .sl ((f::t).map eFF), .sl (c.map eL)] (eT (akh (inR rs fill) (n+1) (f::t) c)):=by
 obtain⟨l,hl⟩: ∃l,l=f::t:=⟨_,rfl⟩
 have hl0:l[0]? =some f:=by rw[hl];rfl
 rw[←hl] at hfew hfo hlen⊢
 have hm:=aaI eFF l
 have hfl:=hfo f (aY hl0)
 haveI:=hfl.lb
 have hlp:0<l.length:=by rw[hl];simp
 have hlb:l.length≤6973568802:=cJ (nL _ (eJ (by decide))) hlen
 refine fn (fu:=⟨11⟩) func134 J J ntmps134 J J (fun C=>?_)
 refine eqF 17 (.d (vI (l.length:Nat))) rfl (by rw[hm]<;>rfl) ?_
 refine gx (fu:=⟨0⟩) rfl<|knF rfl (by show some (decide _)=some false;rw[decide_eq_false (by omega)]) rfl<|ix (fu:=⟨17⟩) _ rfl (aas (i:=0) hl0) rfl<|?_
 refine eqF 33 (.d (vI (l.length:Nat))) rfl (by rw[hm]<;>rfl) ?_
 refine gx rfl<|?_
 refine nr 10 10 235 14 J J J ?_
 refine nr 11 11 235 14 J J J ?_
 refine lp (X:=Nat) (fun k=>[(34, .d (vI (k:Nat))),(10, .rw 10),(11, .rw 11)]) (fun k=>[(10,some (.b 235 14 (((l.take k).flatMap fun g=>aaW g f.l 1).map eFF) true)),(11,some (.b 235 14 (((l.take k).flatMap fun g=>aaW g f.l (-1)).map eFF) true))]) (fun k=>k≤l.length) (fun k=>l.length-k) 0 rfl (bQ _) (fun _=>rfl) (fun k hk=>?_)
 have htk:(l.take k).length≤6973568802:=by rw[cR];omega
 have hb1:(((l.take k).flatMap fun g=>aaW g f.l 1).map eFF).length≤20920706406:=by rw[aJ];have:=aiJ (l.take k) f.l 1;omega
 have hb2:(((l.take k).flatMap fun g=>aaW g f.l (-1)).map eFF).length≤20920706406:=by rw[aJ];have:=aiJ (l.take k) f.l (-1);omega
 refine br (fu2:=⟨0⟩) J J J (fun hc35=>?_) (fun hc35=>?_)
 ·
  obtain⟨g,hz⟩: ∃s,l[k]? =some s:=⟨_,aQ (by omega)⟩
  have hg:=hfo g (aY hz)
  have hs1:((aaW g f.l 1).map eFF).length≤3:=by rw[aJ];exact aka _ _ _
  have hs2:((aaW g f.l (-1)).map eFF).length≤3:=by rw[aJ];exact aka _ _ _
  refine ix _ rfl (aas hz) rfl<|cl rfl (aAI (f:=g) (m:=f.l) hg hfl.ok) rfl<|ap (hbd:=by omega) (((l.take (k+1)).flatMap fun g=>aaW g f.l 1).map eFF) rfl (by rw[amW hz,bY]) (akV _) rfl<|?_
  refine ap (hbd:=by omega) (((l.take (k+1)).flatMap fun g=>aaW g f.l (-1)).map eFF) rfl (by rw[amW hz,bY]) (akV _) rfl<|?_
  refine rnE 46 10 rfl ?_
  refine rnE 49 11 rfl ?_
  exact at_ (k+1) ⟨(by omega),(by omega)⟩
 ·
  obtain rfl:k=l.length:=by omega
  rw[dX]
  refine fzC 10 rfl ?_
  refine fzC 11 rfl ?_
  refine gx rfl<|ro0 J J<|ap (c.map eL) J J (acs c) rfl<|rf J J<|apf ((c++[f.l]).map eL) rfl (by rw[bY];rfl) (acs [f.l]) rfl<|?_
  refine cl rfl (ih (c:=c++[f.l]) (by subst hl;exact Few.split hfew hfo) (fun g hg=>by obtain⟨q,hq,hg⟩:=fX.1 hg;exact(aiI (hfo q hq) hfl.lb g hg).1) (by have:=aiJ l f.l 1;rw[fQ] at hlen;exact cJ (bV _ this) (by rw[bL 3,bM];rw[bL (3^n)] at hlen;exact hlen)) (agQ hc hfl.lb) (abW hok hfl.ok) (by rw[aW,fT];omega)) rfl<|?_
  refine ro0 J J<|ap (c.map eL) J J (acs c) rfl<|cl rfl (ajO (l:=f.l)) rfl<|rf J J<|apf ((c++[f.l.rev]).map eL) rfl (by rw[bY];rfl) (acs [f.l.rev]) rfl<|?_
  refine cl (fu:=⟨1⟩) rfl (ih (c:=c++[f.l.rev]) (by subst hl;exact Few.split hfew hfo) (fun g hg=>by obtain⟨q,hq,hg⟩:=fX.1 hg;exact(aiI (hfo q hq) hfl.lb g hg).1) (by have:=aiJ l f.l (-1);rw[fQ] at hlen;exact cJ (bV _ this) (by rw[bL 3,bM];rw[bL (3^n)] at hlen;exact hlen)) (agQ hc hfl.lb.rev) (abW hok hfl.ok.rev) (by rw[aW,fT];omega)) rfl<|?_
  refine bxf J J<|?_
  exact rz rfl (by subst hl;rfl)
theorem aDF{rs:List (List ZP)}{fill:Int}(hrs: ∀r∈rs,aaU r)(hrn:rs.length≤100): ∀{n:Nat} {l:List FrQ} {c:List LnQ},Few n l→(∀f∈l,FOk f)→l.length*3^n≤6973568802→(∀m∈c,LB m)→(∀m∈c,m.ok)→c.length+n≤900→PF GB prog 134 [eRR rs fill, .sl (l.map eFF), .sl (c.map eL)] (eT (akh (inR rs fill) n l c))
 |n,[],c,_,_,_,hc,hok,hn=>arG hrs hrn hc hok (by omega)
 |0,f::t,c,hf,_,_,_,_,_=>by
  obtain⟨K,h1,h2⟩:=hf
  obtain⟨m,hm,_⟩:=h2 f aZ
  rw[bU (l:=K) (by omega)] at hm
  cases hm
 |n+1,f::t,c,hf,ho,hl,hc,hok,hn=>ary hrs hrn hf ho hl hc hok hn (fun a1 a2 a3 a4 a5 a6=>aDF hrs hrn a1 a2 a3 a4 a5 a6)
theorem av2(l:List FrQ):Few l.length l:=⟨l.map FrQ.l,by rw[aJ];exact aM _,fun f hf=>⟨f.l,dS hf, .inl rfl⟩⟩
theorem aBH{n:Nat}(h:n≤18):n*3^n≤6973568802:=cJ (gW h (bX (by decide) h)) (by decide)
theorem atk{rs:List (List ZP)}{fill:Int}(hrs: ∀r∈rs,aaU r)(hrn:rs.length≤3):PF GB prog 65 [eRR rs fill] (eT (ae4 rs fill)):=by
 have hm:=aaI eRg rs
 have hE:=acI hrs
 have hraw:=avn (acc:=inR rs fill) hE.2 rfl
 refine fn (fu:=⟨17⟩) func65 J J ntmps65 J J (fun C=>?_)
 refine eqF 8 (.d (vI (rs.length:Nat))) rfl (by rw[hm]<;>rfl) ?_
 refine gx rfl<|?_
 refine nr 3 3 235 14 J J J ?_
 refine lp (X:=Nat) (fun k=>[(9, .d (vI (k:Nat))),(3, .rw 3)]) (fun k=>[(3,some (.b 235 14 ((abU (rs.take k)).map eFF) true))]) (fun k=>k≤rs.length) (fun k=>rs.length-k) 0 rfl (bQ _) (fun _=>rfl) (fun k hk=>?_)
 have het:((abU (rs.take k)).map eFF).length≤6*k:=by rw[aJ];exact ajo hrs k
 refine br J J J (fun hc10=>?_) (fun hc10=>?_)
 ·
  obtain⟨r,hz⟩: ∃s,rs[k]? =some s:=⟨_,aQ (by omega)⟩
  have hr:=hrs r (aY hz)
  have hel:((acP r).map eFF).length≤6:=by rw[aJ];have:=(aiT hr).1;have:=hr.n6;omega
  refine ix _ rfl (aas hz) rfl<|cl rfl (atw (r:=r) hr) rfl<|ap (hbd:=by omega) ((abU (rs.take (k+1))).map eFF) rfl (by rw[ajE hz,bY]) (akV _) rfl<|?_
  refine rnE 16 3 rfl ?_
  exact at_ (k+1) ⟨(by omega),(by omega)⟩
 ·
  obtain rfl:k=rs.length:=by omega
  rw[dX]
  refine fz 3 J J<|cl rfl (aDF (n:=(abU rs).length) (l:=abU rs) (c:=[]) hrs (by omega) (av2 _) hE.2 (aBH (by have:=hE.1;omega)) (fun m h=>by cases h) (fun m h=>by cases h) (by have:=hE.1;rw[fY];omega)) rfl<|?_
  refine cl rfl (afm (t:=aAP rs fill) hraw.gd.lb hraw.gd.ok (by have:=hraw.dp;have:=hE.1;show(akh _ _ _ _).depth≤900;omega)) rfl<|?_
  exact rz J J
theorem asa{b:Bool}:PF GB prog 56 [eT (.leaf b)] (eT (Tr.compl (.leaf b))):=by
 refine fn (fu:=⟨11⟩) func56 J J ntmps56 J J (fun C=>?_)
 refine knT J J J<|cl rfl (ac4 (p:=!b)) rfl<|?_
 exact rz J J
theorem arC{l:LnQ}{x y:Tr}(ihx:PF GB prog 56 [eT x] (eT x.compl))(ihy:PF GB prog 56 [eT y] (eT y.compl)):PF GB prog 56 [eT (.node l x y)] (eT (Tr.compl (.node l x y))):=by
 refine fn (fu:=⟨11⟩) func56 J J ntmps56 J J (fun C=>?_)
 refine knF J J J<|cl rfl ihx rfl<|cl (fu:=⟨1⟩) rfl ihy rfl<|bxf J J<|?_
 exact rz J J
theorem afT: ∀{t:Tr},PF GB prog 56 [eT t] (eT t.compl)
 | .leaf _=>asa
 | .node _ _ _=>arC afT afT
theorem aml{op:Int}{b:Bool}{u:Tr}{c:List LnQ}(hu:u.all LB)(huo:u.all LnQ.ok)(hc: ∀m∈c,LB m)(hok: ∀m∈c,m.ok)(hn:c.length+u.depth≤900):PF GB prog 51 [vI op,eT (.leaf b),eT u, .sl (c.map eL)] (eT (Tr.mergeL op (.leaf b) u c)):=by
 refine fn (fu:=⟨11⟩) func51 J J ntmps51 J J (fun C=>?_)
 refine knT J J J<|cl rfl (aeH (t:=u) (c:=c) hu huo hc hok hn) rfl<|?_
 refine cs 20 J J J (fun hg20=>?_) (fun hg20=>?_)
 ·
  refine bb J J J (fun hc17=>?_) (fun hc17=>?_)
  ·
   refine cl rfl (ac4 (p:=true)) rfl<|?_
   exact rz rfl (by show eT _=eT _;congr 1;rw[Tr.mergeL];unfold Tr.chooseL;(repeat' split)<;>first|rfl|(exfalso;simp_all;done)|(exfalso;omega))
  ·
   refine cs 30 J J J (fun hg30=>?_) (fun hg30=>?_)
   ·
    refine bb J J J (fun hc27=>?_) (fun hc27=>?_)
    ·
     refine cl rfl (ac4 (p:=false)) rfl<|?_
     exact rz rfl (by show eT _=eT _;congr 1;rw[Tr.mergeL];unfold Tr.chooseL;(repeat' split)<;>first|rfl|(exfalso;simp_all;done)|(exfalso;omega))
    ·
     refine cs 45 J J J (fun hg45=>?_) (fun hg45=>?_)
     ·
      refine bb J J J (fun hc42=>?_) (fun hc42=>?_)
      ·
       refine cl rfl afT rfl<|?_
       exact rz rfl (by show eT _=eT _;congr 1;rw[Tr.mergeL];unfold Tr.chooseL;(repeat' split)<;>first|rfl|(exfalso;simp_all;done)|(exfalso;omega))
      ·
       exact rz rfl (by show eT _=eT _;congr 1;rw[Tr.mergeL];unfold Tr.chooseL;(repeat' split)<;>first|rfl|(exfalso;simp_all;done)|(exfalso;omega))
     ·
      refine cs 49 J J J (fun hg49=>?_) (fun hg49=>?_)
      ·
       refine bb J J J (fun hc42=>?_) (fun hc42=>?_)
       ·
        refine cl rfl afT rfl<|?_
        exact rz rfl (by show eT _=eT _;congr 1;rw[Tr.mergeL];unfold Tr.chooseL;(repeat' split)<;>first|rfl|(exfalso;simp_all;done)|(exfalso;omega))
       ·
        exact rz rfl (by show eT _=eT _;congr 1;rw[Tr.mergeL];unfold Tr.chooseL;(repeat' split)<;>first|rfl|(exfalso;simp_all;done)|(exfalso;omega))
      ·
       exact rz rfl (by show eT _=eT _;congr 1;rw[Tr.mergeL];unfold Tr.chooseL;(repeat' split)<;>first|rfl|(exfalso;simp_all;done)|(exfalso;omega))
   ·
    refine cs 34 J J J (fun hg34=>?_) (fun hg34=>?_)
    ·
     refine bb J J J (fun hc27=>?_) (fun hc27=>?_)
     ·
      refine cl rfl (ac4 (p:=false)) rfl<|?_
      exact rz rfl (by show eT _=eT _;congr 1;rw[Tr.mergeL];unfold Tr.chooseL;(repeat' split)<;>first|rfl|(exfalso;simp_all;done)|(exfalso;omega))
     ·
      refine cs 45 J J J (fun hg45=>?_) (fun hg45=>?_)
      ·
       refine bb J J J (fun hc42=>?_) (fun hc42=>?_)
       ·
        refine cl rfl afT rfl<|?_
        exact rz rfl (by show eT _=eT _;congr 1;rw[Tr.mergeL];unfold Tr.chooseL;(repeat' split)<;>first|rfl|(exfalso;simp_all;done)|(exfalso;omega))
       ·
        exact rz rfl (by show eT _=eT _;congr 1;rw[Tr.mergeL];unfold Tr.chooseL;(repeat' split)<;>first|rfl|(exfalso;simp_all;done)|(exfalso;omega))
      ·
       refine cs 49 J J J (fun hg49=>?_) (fun hg49=>?_)
       ·
        refine bb J J J (fun hc42=>?_) (fun hc42=>?_)
        ·
         refine cl rfl afT rfl<|?_
         exact rz rfl (by show eT _=eT _;congr 1;rw[Tr.mergeL];unfold Tr.chooseL;(repeat' split)<;>first|rfl|(exfalso;simp_all;done)|(exfalso;omega))
        ·
         exact rz rfl (by show eT _=eT _;congr 1;rw[Tr.mergeL];unfold Tr.chooseL;(repeat' split)<;>first|rfl|(exfalso;simp_all;done)|(exfalso;omega))
       ·
        exact rz rfl (by show eT _=eT _;congr 1;rw[Tr.mergeL];unfold Tr.chooseL;(repeat' split)<;>first|rfl|(exfalso;simp_all;done)|(exfalso;omega))
    ·
     refine cs 45 J J J (fun hg45=>?_) (fun hg45=>?_)
     ·
      refine bb J J J (fun hc42=>?_) (fun hc42=>?_)
      ·
       refine cl rfl afT rfl<|?_
       exact rz rfl (by show eT _=eT _;congr 1;rw[Tr.mergeL];unfold Tr.chooseL;(repeat' split)<;>first|rfl|(exfalso;simp_all;done)|(exfalso;omega))
      ·
       exact rz rfl (by show eT _=eT _;congr 1;rw[Tr.mergeL];unfold Tr.chooseL;(repeat' split)<;>first|rfl|(exfalso;simp_all;done)|(exfalso;omega))
     ·
      refine cs 49 J J J (fun hg49=>?_) (fun hg49=>?_)
      ·
       refine bb J J J (fun hc42=>?_) (fun hc42=>?_)
       ·
        refine cl rfl afT rfl<|?_
        exact rz rfl (by show eT _=eT _;congr 1;rw[Tr.mergeL];unfold Tr.chooseL;(repeat' split)<;>first|rfl|(exfalso;simp_all;done)|(exfalso;omega))
       ·
        exact rz rfl (by show eT _=eT _;congr 1;rw[Tr.mergeL];unfold Tr.chooseL;(repeat' split)<;>first|rfl|(exfalso;simp_all;done)|(exfalso;omega))
      ·
       exact rz rfl (by show eT _=eT _;congr 1;rw[Tr.mergeL];unfold Tr.chooseL;(repeat' split)<;>first|rfl|(exfalso;simp_all;done)|(exfalso;omega))
 ·
  refine cs 30 J J J (fun hg30=>?_) (fun hg30=>?_)
  ·
   refine bb J J J (fun hc27=>?_) (fun hc27=>?_)
   ·
    refine cl rfl (ac4 (p:=false)) rfl<|?_
    exact rz rfl (by show eT _=eT _;congr 1;rw[Tr.mergeL];unfold Tr.chooseL;(repeat' split)<;>first|rfl|(exfalso;simp_all;done)|(exfalso;omega))
   ·
    refine cs 45 J J J (fun hg45=>?_) (fun hg45=>?_)
    ·
     refine bb J J J (fun hc42=>?_) (fun hc42=>?_)
     ·
      refine cl rfl afT rfl<|?_
      exact rz rfl (by show eT _=eT _;congr 1;rw[Tr.mergeL];unfold Tr.chooseL;(repeat' split)<;>first|rfl|(exfalso;simp_all;done)|(exfalso;omega))
     ·
      exact rz rfl (by show eT _=eT _;congr 1;rw[Tr.mergeL];unfold Tr.chooseL;(repeat' split)<;>first|rfl|(exfalso;simp_all;done)|(exfalso;omega))
    ·
     refine cs 49 J J J (fun hg49=>?_) (fun hg49=>?_)
     ·
      refine bb J J J (fun hc42=>?_) (fun hc42=>?_)
      ·
       refine cl rfl afT rfl<|?_
       exact rz rfl (by show eT _=eT _;congr 1;rw[Tr.mergeL];unfold Tr.chooseL;(repeat' split)<;>first|rfl|(exfalso;simp_all;done)|(exfalso;omega))
      ·
       exact rz rfl (by show eT _=eT _;congr 1;rw[Tr.mergeL];unfold Tr.chooseL;(repeat' split)<;>first|rfl|(exfalso;simp_all;done)|(exfalso;omega))
     ·
      exact rz rfl (by show eT _=eT _;congr 1;rw[Tr.mergeL];unfold Tr.chooseL;(repeat' split)<;>first|rfl|(exfalso;simp_all;done)|(exfalso;omega))
  ·
   refine cs 34 J J J (fun hg34=>?_) (fun hg34=>?_)
   ·
    refine bb J J J (fun hc27=>?_) (fun hc27=>?_)
    ·
     refine cl rfl (ac4 (p:=false)) rfl<|?_
     exact rz rfl (by show eT _=eT _;congr 1;rw[Tr.mergeL];unfold Tr.chooseL;(repeat' split)<;>first|rfl|(exfalso;simp_all;done)|(exfalso;omega))
    ·
     refine cs 45 J J J (fun hg45=>?_) (fun hg45=>?_)
     ·
      refine bb J J J (fun hc42=>?_) (fun hc42=>?_)
      ·
       refine cl rfl afT rfl<|?_
       exact rz rfl (by show eT _=eT _;congr 1;rw[Tr.mergeL];unfold Tr.chooseL;(repeat' split)<;>first|rfl|(exfalso;simp_all;done)|(exfalso;omega))
      ·
       exact rz rfl (by show eT _=eT _;congr 1;rw[Tr.mergeL];unfold Tr.chooseL;(repeat' split)<;>first|rfl|(exfalso;simp_all;done)|(exfalso;omega))
     ·
      refine cs 49 J J J (fun hg49=>?_) (fun hg49=>?_)
      ·
       refine bb J J J (fun hc42=>?_) (fun hc42=>?_)
       ·
        refine cl rfl afT rfl<|?_
        exact rz rfl (by show eT _=eT _;congr 1;rw[Tr.mergeL];unfold Tr.chooseL;(repeat' split)<;>first|rfl|(exfalso;simp_all;done)|(exfalso;omega))
       ·
        exact rz rfl (by show eT _=eT _;congr 1;rw[Tr.mergeL];unfold Tr.chooseL;(repeat' split)<;>first|rfl|(exfalso;simp_all;done)|(exfalso;omega))
      ·
       exact rz rfl (by show eT _=eT _;congr 1;rw[Tr.mergeL];unfold Tr.chooseL;(repeat' split)<;>first|rfl|(exfalso;simp_all;done)|(exfalso;omega))
   ·
    refine cs 45 J J J (fun hg45=>?_) (fun hg45=>?_)
    ·
     refine bb J J J (fun hc42=>?_) (fun hc42=>?_)
     ·
      refine cl rfl afT rfl<|?_
      exact rz rfl (by show eT _=eT _;congr 1;rw[Tr.mergeL];unfold Tr.chooseL;(repeat' split)<;>first|rfl|(exfalso;simp_all;done)|(exfalso;omega))
     ·
      exact rz rfl (by show eT _=eT _;congr 1;rw[Tr.mergeL];unfold Tr.chooseL;(repeat' split)<;>first|rfl|(exfalso;simp_all;done)|(exfalso;omega))
    ·
     refine cs 49 J J J (fun hg49=>?_) (fun hg49=>?_)
     ·
      refine bb J J J (fun hc42=>?_) (fun hc42=>?_)
      ·
       refine cl rfl afT rfl<|?_
       exact rz rfl (by show eT _=eT _;congr 1;rw[Tr.mergeL];unfold Tr.chooseL;(repeat' split)<;>first|rfl|(exfalso;simp_all;done)|(exfalso;omega))
      ·
       exact rz rfl (by show eT _=eT _;congr 1;rw[Tr.mergeL];unfold Tr.chooseL;(repeat' split)<;>first|rfl|(exfalso;simp_all;done)|(exfalso;omega))
     ·
      exact rz rfl (by show eT _=eT _;congr 1;rw[Tr.mergeL];unfold Tr.chooseL;(repeat' split)<;>first|rfl|(exfalso;simp_all;done)|(exfalso;omega))
theorem amb{op:Int}{l:LnQ}{x y u:Tr}{c:List LnQ}(hl:LB l)(hlo:l.ok)(hc: ∀m∈c,LB m)(hok: ∀m∈c,m.ok)(hn:c.length+(Tr.node l x y).depth+u.depth≤900)(ihx: ∀{c:List LnQ},(∀m∈c,LB m)→(∀m∈c,m.ok)→c.length+x.depth+u.depth≤900→PF GB prog 51 [vI op,eT x,eT u, .sl (c.map eL)] (eT (Tr.mergeL op x u c)))(ihy: ∀{c:List LnQ},(∀m∈c,LB m)→(∀m∈c,m.ok)→c.length+y.depth+u.depth≤900→PF GB prog 51 [vI op,eT y,eT u, .sl (c.map eL)] (eT (Tr.mergeL op y u c))):PF GB prog 51 [vI op,eT (.node l x y),eT u, .sl (c.map eL)] (eT (Tr.mergeL op (.node l x y) u c)):=by
 have hdp:(Tr.node l x y).depth=1+Nat.max x.depth y.depth:=rfl
 have hdx:x.depth≤Nat.max x.depth y.depth:=qU _ _
 have hdy:y.depth≤Nat.max x.depth y.depth:=pS _ _
 have hca:=aet (c++[l])
 have hcb:=aet (c++[l.rev])
 rw[aW,fT] at hca hcb
 refine fn (fu:=⟨11⟩) func51 J J ntmps51 J J (fun C=>?_)
 refine knF J J J<|cl rfl (auW (c:=c) (l:=l) hc hok (by omega) hl hlo) rfl<|?_
 refine br J J J (fun hc64=>?_) (fun hc64=>?_)
 ·
  refine cl rfl (ihx hc hok (by omega)) rfl<|?_
  exact rz rfl (by rw[Tr.mergeL,if_pos hc64];rfl)
 ·
  refine br J J J (fun hc74=>?_) (fun hc74=>?_)
  ·
   refine cl rfl (ihy hc hok (by omega)) rfl<|?_
   exact rz rfl (by rw[Tr.mergeL,if_neg hc64,if_pos hc74];rfl)
  ·
   refine cl rfl (aq3 (c:=c) (l:=l) hc hok (by omega) hl hlo) rfl<|cl rfl (ihx (c:=aaJ (c++[l])) (aqp (agQ hc hl)) (aqV (abW hok hlo)) (by omega)) rfl<|?_
   refine cl rfl (ajO (l:=l)) rfl<|cl rfl (aq3 (c:=c) (l:=l.rev) hc hok (by omega) hl.rev hlo.rev) rfl<|cl rfl (ihy (c:=aaJ (c++[l.rev])) (aqp (agQ hc hl.rev)) (aqV (abW hok hlo.rev)) (by omega)) rfl<|?_
   refine cl rfl ayo rfl<|?_
   exact rz rfl (by rw[Tr.mergeL,if_neg hc64,if_neg hc74];rfl)
theorem ama{op:Int}{u:Tr}(hu:u.all LB)(huo:u.all LnQ.ok): ∀{t:Tr} {c:List LnQ},t.all LB→t.all LnQ.ok→(∀m∈c,LB m)→(∀m∈c,m.ok)→c.length+t.depth+u.depth≤900→PF GB prog 51 [vI op,eT t,eT u, .sl (c.map eL)] (eT (Tr.mergeL op t u c))
 | .leaf _,_,_,_,hc,hok,hn=>aml hu huo hc hok (cJ (Nat.add_le_add_right (mK _ _) _) hn)
 | .node l x y,c,hb,ho,hc,hok,hn=>amb hb.1 ho.1 hc hok hn (fun h1 h2 h3=>ama hu huo hb.2.1 ho.2.1 h1 h2 h3) (fun h1 h2 h3=>ama hu huo hb.2.2 ho.2.2 h1 h2 h3)
theorem aCD(p r:ZP):(agN p.q r.q<0↔aAx p r<0)∧(agN p.q r.q=0↔aAx p r=0):=by
 have e1: ∀a b:Int,aa9 (a:Rat) (b:Rat)<0↔a<b:=fun a b=>by rw[afp,Rat.intCast_lt_intCast]
 have e2: ∀a b:Int,aa9 (a:Rat) (b:Rat)=0↔a=b:=fun a b=>by rw[aeU,nQ]
 have f1:=e1 p.1 r.1
 have f2:=e2 p.1 r.1
 have f3:=e1 p.2 r.2
 have f4:=e2 p.2 r.2
 show(agN ⟨(p.1:Rat),(p.2:Rat)⟩ ⟨(r.1:Rat),(r.2:Rat)⟩<0↔_)∧(agN ⟨(p.1:Rat),(p.2:Rat)⟩ ⟨(r.1:Rat),(r.2:Rat)⟩=0↔_)
 unfold agN aAx
 dsimp only
 generalize aa9 (p.1:Rat) (r.1:Rat)=u at*
 generalize aa9 (p.2:Rat) (r.2:Rat)=v at*
 by_cases h:p.1<r.1
 ·rw[if_pos (by omega),if_pos h];omega
 ·by_cases h2:r.1<p.1
  ·rw[if_pos (by omega),if_neg h,if_pos h2];omega
  ·rw[if_neg (by omega),if_neg h,if_neg h2]
   by_cases h3:p.2<r.2
   ·rw[if_pos h3];omega
   ·rw[if_neg h3]
    split<;>omega
theorem ays(x:ZP): ∀l:List ZP,afS agN x.q (l.map ZP.q)=(awN x l).map ZP.q
 |[]=>rfl
 |u::t=>by
  obtain⟨h1,h2⟩:=aCD u x
  rw[cX,afS,awN,ays x t]
  by_cases k1:aAx u x<0
  ·rw[if_pos (h1.2 k1),if_pos k1];rfl
  ·rw[if_neg (fun e=>k1 (h1.1 e)),if_neg k1]
   by_cases k2:aAx u x=0
   ·rw[if_pos (h2.2 k2),if_pos k2];rfl
   ·rw[if_neg (fun e=>k2 (h2.1 e)),if_neg k2];rfl
theorem aAC(l:List ZP):amp agN (l.map ZP.q)=(anz l).map ZP.q:=by
 have key: ∀(l o:List ZP),(l.map ZP.q).foldl (fun out x=>afS agN x out) (o.map ZP.q)=(l.foldl (fun out x=>awN x out) o).map ZP.q:=by
  intro l
  induction l with
  |nil=>intro o;rfl
  |cons x t ih=>intro o;rw[cX,jW,jW,ays,ih]
 exact key l []
theorem aHI(l:List ZP):(l.map ZP.q).map eP=l.map eZp:=by rw[pM];rfl
theorem amJ{l:List ZP}(h: ∀p∈l,ZP.le 100 p)(hn:l.length≤100000):PF GB prog 188 [.sl (l.map eZp)] (.sl ((anz l).map eZp)):=by
 have:=axh (GB:=GB) (ps:=l.map ZP.q) (ate h) (by rw[aJ];exact hn)
 rw[aAC,aHI,aHI] at this
 exact this
theorem az4(u v:ZP):(PtQ.cross (iP u.1 u.2) (iP v.1 v.2))=((aj5 u v:Int):Rat):=by
 unfold PtQ.cross iP aj5
 push_cast
 rfl
theorem aj0(u v:ZP):(PtQ.cross (iP u.1 u.2) (iP v.1 v.2)).num.sign≠0↔aj5 u v≠0:=by
 rw[az4,qW]
 exact not_congr jX
theorem arv{α β:Type}(f:α→β)(l:List α):((l.map f).take (l.length-1)).drop 0=l.dropLast.map f:=by
 rw[gR,←gT,List.dropLast_eq_take]
theorem apD{l:List ZP}(h:0<l.length): ∃u,l.getLast? =some u∧l[l.length-1]? =some u∧l.getD (l.length-1) (0,0)=u:=by
 refine⟨l[l.length-1],?_,aQ (by omega),?_⟩
 ·rw[lX];exact aQ (by omega)
 ·rw[aX,aQ (by omega)];rfl
theorem auT{l:List ZP}(h:0<l.length): ∃u,l[0]? =some u∧l.getD 0 (0,0)=u:=by
 refine⟨l[0],aQ (by omega),?_⟩
 rw[aX,aQ (by omega)];rfl
theorem axV{u p:ZP}:(u.1=p.1∧u.2=p.2)↔u=p:=⟨fun h=>Prod.ext h.1 h.2,fun h=>by rw[h];exact⟨rfl,rfl⟩⟩
theorem avk{b:Nat}{es:List Int}(hes:es.length≤400){a:Nat}(ha:a≤es.length):PM GB prog 123 (mkP [none] b) b 104 [.sl (es.map vI), .v (.int .i64 (a:Nat))] (eRg (acR es a).1) [.sl (es.map vI), .v (.int .i64 ((acR es a).2:Nat))]:=by
 have hk0:=aaF (n:=4) ha
 refine fnM (fu:=⟨6⟩) func123 J J ntmps123 J J (fun C b m lo hmb=>?_)
 refine mg (X:=Nat) (fun a2=>[]) (fun a2=>[(1000000,some (.o 104 [.d (.sl (es.map vI)), .d (.v (.int .i64 (a2:Nat)))] false))]) (fun a2=>acR es a=avO es a2∧a2≤es.length) [] [1000000] rfl ?_ (fun _=>rfl) (fun a2 ⟨hR,ha2⟩=>?_)
 ·
  refine gx rfl<|cm rfl (fun b=>(acg (n:=4) hes ha (by decide) (by decide))) rfl<|?_
  refine br J J J (fun hc15=>?_) (fun hc15=>?_)
  ·
   have hx1:=aaF (n:=5) hk0
   have hy1:=aaF (n:=5) hx1
   have hz1:=aaF (n:=4) hy1
   have hw1:=aaF (n:=4) hz1
   have hl0:=abB (es:=es) (n:=5) (a:=(aae es 4 a).2) (by decide)
   have hl1:=abB (es:=es) (n:=5) (a:=(aae es 5 (aae es 4 a).2).2) (by decide)
   have hl2:=abB (es:=es) (n:=4) (a:=(aae es 5 (aae es 5 (aae es 4 a).2).2).2) (by decide)
   have hl3:=abB (es:=es) (n:=4) (a:=(aae es 4 (aae es 5 (aae es 5 (aae es 4 a).2).2).2).2) (by decide)
   refine cm rfl (fun b=>(acg (n:=5) hes hk0 (by decide) (by decide))) rfl<|cm rfl (fun b=>(acg (n:=5) hes hx1 (by decide) (by decide))) rfl<|?_
   refine cm rfl (fun b=>(acg (n:=4) hes hy1 (by decide) (by decide))) rfl<|cm rfl (fun b=>(acg (n:=4) hes hz1 (by decide) (by decide))) rfl<|?_
   refine cl rfl (aot (m:=(((aae es 5 (aae es 4 a).2).1:Int)-4)) (n:=(((aae es 5 (aae es 5 (aae es 4 a).2).2).1:Int)-4)) (by omega) (by omega)) rfl<|?_
   refine cl rfl (aot (m:=(((aae es 5 (aae es 4 a).2).1:Int)-4+1+((aae es 4 (aae es 5 (aae es 5 (aae es 4 a).2).2).2).1:Int))) (n:=(((aae es 5 (aae es 5 (aae es 4 a).2).2).1:Int)-4)) (by omega) (by omega)) rfl<|?_
   refine cl rfl (aot (m:=(((aae es 5 (aae es 4 a).2).1:Int)-4+1+((aae es 4 (aae es 5 (aae es 5 (aae es 4 a).2).2).2).1:Int))) (n:=(((aae es 5 (aae es 5 (aae es 4 a).2).2).1:Int)-4+1+((aae es 4 (aae es 4 (aae es 5 (aae es 5 (aae es 4 a).2).2).2).2).1:Int))) (by omega) (by omega)) rfl<|?_
   refine cl rfl (aot (m:=(((aae es 5 (aae es 4 a).2).1:Int)-4)) (n:=(((aae es 5 (aae es 5 (aae es 4 a).2).2).1:Int)-4+1+((aae es 4 (aae es 4 (aae es 5 (aae es 5 (aae es 4 a).2).2).2).2).1:Int))) (by omega) (by omega)) rfl<|?_
   refine rf J J<|?_
   exact rzM hmb J J (by rw[show acR es a=_ from if_pos hc15];rfl) (by rw[show acR es a=_ from if_pos hc15];rfl)
  ·
   refine br J J J (fun hc46=>?_) (fun hc46=>?_)
   ·
    obtain⟨hp1,hp2,hp3⟩:=anJ hk0
    obtain⟨hu1,hu2,hu3,hu4⟩:=arJ hp3
    obtain⟨hv1,hv2,hv3,hv4⟩:=arJ hu4
    haveI:=biC (k:=10) (m:=(vF es (pF es (aae es 4 a).2).2).1.1) (by omega) (by decide)
    haveI:=biC (k:=10) (m:=(vF es (pF es (aae es 4 a).2).2).1.2) (by omega) (by decide)
    haveI:=biC (k:=10) (m:=(vF es (vF es (pF es (aae es 4 a).2).2).2).1.1) (by omega) (by decide)
    haveI:=biC (k:=10) (m:=(vF es (vF es (pF es (aae es 4 a).2).2).2).1.2) (by omega) (by decide)
    refine cm rfl (fun b=>(aFr hes hk0)) rfl<|cm rfl (fun b=>(aFJ hes hp3)) rfl<|cm rfl (fun b=>(aFJ hes hu4)) rfl<|cl rfl (ahG (p:=iP (vF es (pF es (aae es 4 a).2).2).1.1 (vF es (pF es (aae es 4 a).2).2).1.2) (q:=iP (vF es (vF es (pF es (aae es 4 a).2).2).2).1.1 (vF es (vF es (pF es (aae es 4 a).2).2).2).1.2)) rfl<|?_
    refine cl rfl (q_S (q:=PtQ.cross (iP (vF es (pF es (aae es 4 a).2).2).1.1 (vF es (pF es (aae es 4 a).2).2).1.2) (iP (vF es (vF es (pF es (aae es 4 a).2).2).2).1.1 (vF es (vF es (pF es (aae es 4 a).2).2).2).1.2))) rfl<|?_
    refine br J J J (fun hc58=>?_) (fun hc58=>?_)
    ·
     refine cl rfl (amw (n:=1) (by decide) (by decide)) rfl<|cl rfl (aqq (m:=(pF es (aae es 4 a).2).1.1) (n:=(pF es (aae es 4 a).2).1.2) (m':=(vF es (pF es (aae es 4 a).2).2).1.1) (n':=(vF es (pF es (aae es 4 a).2).2).1.2) (k:=1) (by omega) (by omega) (by omega) (by omega) (by decide)) rfl<|?_
     refine cl rfl (amw (n:=1) (by decide) (by decide)) rfl<|cl rfl (aqq (m:=(pF es (aae es 4 a).2).1.1) (n:=(pF es (aae es 4 a).2).1.2) (m':=(vF es (vF es (pF es (aae es 4 a).2).2).2).1.1) (n':=(vF es (vF es (pF es (aae es 4 a).2).2).2).1.2) (k:=1) (by omega) (by omega) (by omega) (by omega) (by decide)) rfl<|?_
     refine rf J J<|?_
     exact rzM hmb J J (by rw[show acR es a=_ from(if_neg hc15).trans ((if_pos hc46).trans (if_pos ((aj0 _ _).1 hc58)))];rfl) (by rw[show acR es a=_ from(if_neg hc15).trans ((if_pos hc46).trans (if_pos ((aj0 _ _).1 hc58)))])
    ·
     exact at_ (vF es (vF es (pF es (aae es 4 a).2).2).2).2 ⟨(if_neg hc15).trans ((if_pos hc46).trans (if_neg (fun e=>hc58 ((aj0 _ _).2 e)))),hv4⟩
   ·
    exact at_ (aae es 4 a).2 ⟨(if_neg hc15).trans (if_neg hc46),hk0⟩
 ·
  have hj1:=abB (es:=es) (n:=4) (a:=a2) (by decide)
  have hj2:=aaF (n:=4) ha2
  refine cm rfl (fun b=>(acg (n:=4) hes ha2 (by decide) (by decide))) rfl<|?_
  refine nr 10 10 54 6 J J J ?_
  refine lp (X:=List ZP×Nat×Nat) (fun⟨r,i,a3⟩=>[(11, .d (vI (i:Nat))),(10, .rw 10)]) (fun⟨r,i,a3⟩=>[(1000000,some (.o 104 [.d (.sl (es.map vI)), .d (.v (.int .i64 (a3:Nat)))] false)),(10,some (.b 54 6 (r.map eZp) true))]) (fun⟨r,i,a3⟩=>apE es i a3 r=apE es (3+(aae es 4 a2).1) (aae es 4 a2).2 []∧a3≤es.length∧Adj r∧r.length+i≤6) (fun⟨r,i,a3⟩=>i) ⟨[],3+(aae es 4 a2).1,(aae es 4 a2).2⟩ rfl ⟨rfl,hj2,Adj.nil,by simp;omega⟩ (fun _=>rfl) (fun⟨r,i,a3⟩ hk=>?_)
  try dsimp only at hk⊢
  obtain⟨h1,h2,h3,h4⟩:=hk
  have hrl:(r.map eZp).length=r.length:=by simp
  refine br (fu2:=⟨0⟩) J J J (fun hc73=>?_) (fun hc73=>?_)
  ·
   obtain⟨j,rfl⟩: ∃j,i=j+1:=⟨i-1,by omega⟩
   obtain⟨hq1,hq2,hq3⟩:=anJ h2
   refine cm (fu:=⟨8⟩) rfl (fun b=>(aFr hes h2)) rfl<|?_
   refine csS (v1:=fun hg80=>by simp only[aah];kernel_rfl) J J J J (fun hg80=>?_) (fun hg80=>?_)
   ·
    have hlast: ¬r.getLast? =some (pF es a3).1:=by rw[bU (l:=r) (by omega)];simp
    refine rf J J<|ap ((r++[(pF es a3).1]).map eZp) rfl (by rw[bY];rfl) (aB5 [_]) rfl<|?_
    refine rnE 95 10 rfl ?_
    exact at_ ⟨r++[(pF es a3).1],j,(pF es a3).2⟩ (by dsimp only;exact⟨⟨by rw[←h1,apE,if_neg hlast],hq3,h3.snoc ⟨by omega,by omega⟩ hlast,by simp;omega⟩,(by omega)⟩)
   ·
    obtain⟨q,hq,hqi,hqd⟩:=apD (l:=r) (by omega)
    have hqm:=h3.le q (nK hq)
    unfold ZP.le at hqm
    refine lb (eZp q) rfl (by rw[show(((r.map eZp).length:Nat):Int)-1=((r.length-1:Nat):Int) by omega];exact aas hqi) rfl<|cl rfl (amj (m:=q.1) (n:=q.2) (m':=(pF es a3).1.1) (n':=(pF es a3).1.2) (by omega) (by omega) (by omega) (by omega)) rfl<|?_
    refine bb J J J (fun hc91=>?_) (fun hc91=>?_)
    ·
     have hlast: ¬r.getLast? =some (pF es a3).1:=by rw[hq];intro e;have:=axV.2 (Option.some.inj e);simp[this] at hc91
     refine rf J J<|ap ((r++[(pF es a3).1]).map eZp) rfl (by rw[bY];rfl) (aB5 [_]) rfl<|?_
     refine rnE 95 10 rfl ?_
     exact at_ ⟨r++[(pF es a3).1],j,(pF es a3).2⟩ (by dsimp only;exact⟨⟨by rw[←h1,apE,if_neg hlast],hq3,h3.snoc ⟨by omega,by omega⟩ hlast,by simp;omega⟩,(by omega)⟩)
    ·
     have hlast:r.getLast? =some (pF es a3).1:=by rw[hq];congr 1;exact axV.1 (by simpa using hc91)
     exact at_ ⟨r,j,(pF es a3).2⟩ (by dsimp only;exact⟨⟨by rw[←h1,apE,if_pos hlast],hq3,h3,by omega⟩,(by omega)⟩)
  ·
   obtain rfl:i=0:=by omega
   have hg:=h1
   rw[apE] at hg
   refine fzC 10 rfl ?_
   refine gx rfl<|?_
   refine lp (fu:=⟨5⟩) (X:=List ZP×Nat) (fun⟨l,m⟩=>[(10, .d (.sl (l.map eZp)))]) (fun⟨l,m⟩=>[]) (fun⟨l,m⟩=>ae7 m l=ae7 6 r∧l.length≤m+1∧Adj l∧l.length≤6) (fun⟨l,m⟩=>m) ⟨r,6⟩ rfl ⟨rfl,by omega,h3,by omega⟩ (fun _=>rfl) (fun⟨l,m⟩ hk=>?_)
   try dsimp only at hk⊢
   obtain⟨t1,t2,t3,t4⟩:=hk
   have hll:(l.map eZp).length=l.length:=by simp
   refine csS (v2:=fun hg98=>by simp only[aah];kernel_rfl) J J J J (fun hg98=>?_) (fun hg98=>?_)
   ·
    obtain⟨q,hqi,hqd⟩:=auT (l:=l) (by omega)
    obtain⟨q2,hq0,hqi2,hqd2⟩:=apD (l:=l) (by omega)
    have hqm:=t3.le q (aY hqi)
    have hqm2:=t3.le q2 (aY hqi2)
    unfold ZP.le at hqm hqm2
    refine ix _ rfl (aas (i:=0) hqi) rfl<|ix (eZp q2) rfl (by rw[show(((l.map eZp).length:Nat):Int)-1=((l.length-1:Nat):Int) by omega];exact aas hqi2) rfl<|?_
    refine cl rfl (amj (m:=q.1) (n:=q.2) (m':=q2.1) (n':=q2.2) (by omega) (by omega) (by omega) (by omega)) rfl<|?_
    refine bd J J J (fun hc110=>?_) (fun hc110=>?_)
    ·
     have hcond:1<l.length∧l.getD 0 (0,0)=l.getD (l.length-1) (0,0):=⟨by omega,by rw[hqd,hqd2];exact axV.1 hc110⟩
     refine sc' 0 (l.length-1) (l.dropLast.map eZp) J J (by omega) (arv eZp l) (aB5 l) (bQ _) (by omega) rfl<|?_
     exact at_ ⟨l.dropLast,m-1⟩ (by dsimp only;exact⟨⟨by rw[←t1];obtain⟨m,rfl⟩: ∃q,m=q+1:=⟨m-1,by omega⟩;rw[ae7,if_pos hcond];rfl,by rw[gM];omega,t3.drop,by rw[gM];omega⟩,(by omega)⟩)
    ·
     have hcond: ¬(1<l.length∧l.getD 0 (0,0)=l.getD (l.length-1) (0,0)):=fun e=>hc110 (axV.2 (by rw[←hqd,←hqd2];exact e.2))
     refine cl (fu:=⟨1⟩) rfl (amJ (l:=l) t3.le (by omega)) rfl<|?_
     have hgen:ae7 6 r=l:=by rw[←t1];cases m with|zero=>rfl|succ m=>rw[ae7,if_neg hcond]
     refine eqF 118 (.d (vI ((anz l).length:Nat))) rfl (by rw[aJ];rfl) ?_
     refine gx rfl<|?_
     refine br J J J (fun hc119=>?_) (fun hc119=>?_)
     ·
      have hfin:acR es a=(aCr,a3):=by rw[hR,avO,←hg,hgen,if_pos (by omega)]
      refine cl rfl (aot (m:=0) (n:=0) (by decide) (by decide)) rfl<|cl rfl (aot (m:=2) (n:=0) (by decide) (by decide)) rfl<|cl rfl (aot (m:=0) (n:=2) (by decide) (by decide)) rfl<|?_
      refine rf J J<|?_
      exact rzM hmb J J (by rw[hfin];rfl) (by rw[hfin])
     ·
      have hfin:acR es a=(l,a3):=by rw[hR,avO,←hg,hgen,if_neg (by omega)]
      exact rzM hmb J J (by rw[hfin];rfl) (by rw[hfin])
   ·
    have hcond: ¬(1<l.length∧l.getD 0 (0,0)=l.getD (l.length-1) (0,0)):=fun e=>by omega
    refine cl (fu:=⟨1⟩) rfl (amJ (l:=l) t3.le (by omega)) rfl<|?_
    have hgen:ae7 6 r=l:=by rw[←t1];cases m with|zero=>rfl|succ m=>rw[ae7,if_neg hcond]
    refine eqF 118 (.d (vI ((anz l).length:Nat))) rfl (by rw[aJ];rfl) ?_
    refine gx rfl<|?_
    refine br J J J (fun hc119=>?_) (fun hc119=>?_)
    ·
     have hfin:acR es a=(aCr,a3):=by rw[hR,avO,←hg,hgen,if_pos (by omega)]
     refine cl rfl (aot (m:=0) (n:=0) (by decide) (by decide)) rfl<|cl rfl (aot (m:=2) (n:=0) (by decide) (by decide)) rfl<|cl rfl (aot (m:=0) (n:=2) (by decide) (by decide)) rfl<|?_
     refine rf J J<|?_
     exact rzM hmb J J (by rw[hfin];rfl) (by rw[hfin])
    ·
     have hfin:acR es a=(l,a3):=by rw[hR,avO,←hg,hgen,if_neg (by omega)]
     exact rzM hmb J J (by rw[hfin];rfl) (by rw[hfin])
def aFG:DV:= .v (.pointer none)
def cTd(l:LnQ)(p q:DV):List DV:=[.v (.bool false), .v (.bool false), .v (.bool (decide (l.a<0))),dN l.a.natAbs, .v (.bool (decide (l.b<0))),dN l.b.natAbs, .v (.bool (decide (l.c<0))),dN l.c.natAbs,p,q]
inductive RF (ns:List RN):Int→(Nat→Bool)→DV→Bool→(Nat→Bool)→Prop where
 |leaf (b:Bool) (f:Nat→Bool):RF ns (adc b) f (eT (.leaf b)) true f
 |bad (rt:Int) (f:Nat→Bool) (h1:rt≠ -1) (h2:rt≠ -2) (h:rt<0∨(ns.length:Int)≤rt∨(∃k:Nat,rt=k∧k<ns.length∧f k=true)):RF ns rt f aFG false f
 |line (k:Nat) (n:RN) (f:Nat→Bool) (h:ns[k]? =some n) (hf:f k=false) (hl:n.g.ln=none):RF ns (k:Int) f aFG false (amS f k)
 |left (k:Nat) (n:RN) (l:LnQ) (f f2:Nat→Bool) (p:DV) (h:ns[k]? =some n) (hf:f k=false) (hl:n.g.ln=some l) (h1:RF ns n.l (amS f k) p false f2):RF ns (k:Int) f aFG false f2
 |node (k:Nat) (n:RN) (l:LnQ) (f f2 f3:Nat→Bool) (p q:DV) (ok:Bool) (h:ns[k]? =some n) (hf:f k=false) (hl:n.g.ln=some l) (h1:RF ns n.l (amS f k) p true f2) (h2:RF ns n.r f2 q ok f3):RF ns (k:Int) f (.pt (cTd l p q)) ok f3
def aJb(n:Nat)(f:Nat→Bool):Bool:=(List.range n).all f
theorem Tr.all_imp{p q:LnQ→Prop}(h: ∀l,p l→q l): ∀{t:Tr},t.all p→t.all q
 | .leaf _,_=>trivial
 | .node _ _ _,⟨h0,h1,h2⟩=>⟨h _ h0,Tr.all_imp h h1,Tr.all_imp h h2⟩
theorem aIo{t:Tr}(hs:t.size≤65536):((t.wr 0).map RN.of).length≤65536:=by rw[aJ,t.wr_len];exact hs
def l00:LnQ:=⟨0,1,0⟩
def t00:Tr:= .node l00 (.leaf true) (.leaf false)
theorem ahY.red_size{k:Nat}{t:Tr}(h:ahY k t)(hr:t.Red []):t.size≤k*(1+k):=by
 obtain⟨K,h1,h2,h3⟩:=h.am
 exact cJ (Tr.size_le h2 hr h.gd.ok aaV.nil h3) (gW h1 (by omega))
structure TrX (k:Nat) (t:Tr):Prop where
 o:ahY k t
 s:t.size≤3000
theorem TrX.lb{k:Nat}{t:Tr}(h:TrX k t):t.all LB:=h.o.gd.lb
theorem TrX.ok{k:Nat}{t:Tr}(h:TrX k t):t.all LnQ.ok:=h.o.gd.ok
theorem TrX.bl{k:Nat}{t:Tr}(h:TrX k t):t.all (fun l=>BL l 96):=Tr.all_imp (fun _ h=>h.bl) h.o.gd.lb
theorem TrX.dp{k:Nat}{t:Tr}(h:TrX k t):t.depth≤k:=h.o.dp
theorem ahY.x{k:Nat}{t:Tr}(h:ahY k t)(hr:t.Red [])(hk:k≤54):TrX k t:=
 ⟨h,cJ (h.red_size hr) (cJ (gW hk (show 1+k≤55 by omega)) (by decide))⟩
theorem anH(rs:List (List ZP))(fill:Int):(ae4 rs fill).Red []:=Tr.restrict_red _ _
theorem afB(es:List Int)(a:Nat):(ads es a).1.Red []:=by
 unfold ads
 dsimp only
 split<;>exact anH _ _
theorem apd(es:List Int)(a:Nat):(aar es 0 a).1.Red []:=by
 rw[aar]
 try dsimp only
 split
 ·exact Tr.restrict_red _ _
 ·split
  ·exact Tr.restrict_red _ _
  ·split
   ·exact Tr.compl_red (afB _ _)
   ·exact afB _ _
theorem apI{es:List Int}{a:Nat}(ha:a≤es.length):TrX 18 (abx es 3 a).1∧(abx es 3 a).2≤es.length:=by
 obtain⟨h1,h2⟩:=aoT (d:=3) ha (by decide)
 have h5:=Tr.size_lt (abx es 3 a).1
 have h6:(2:Nat)^(abx es 3 a).1.depth≤2^4:=bX (by decide) (by have:=(ago (d:=3) ha).1;omega)
 exact⟨⟨h1,by omega⟩,h2⟩
def aIa(es:List Int)(a:Nat):(Tr×Tr)×Nat:=
 let x:=aar es 0 a
 let y:=aar es 0 x.2
 let k:=aae es 3 y.2
 let u:=if(k.1:Int)=0 then abx es 3 k.2 else(x.1,k.2)
 let j:=aae es 3 u.2
 let v:=if(j.1:Int)=0 then abx es 3 j.2 else(y.1,j.2)
 ((u.1,v.1),v.2)
def aIb(es:List Int)(a:Nat):(Tr×Tr)×Nat:=
 let x:=aar es 0 a
 let y:=aar es 0 x.2
 let k:=aae es 6 y.2
 if(k.1:Int)=0 then((x.1, .node (lF es k.2).1 x.1 x.1),(lF es k.2).2)
 else if(k.1:Int)=1 then((x.1,y.1.mergeQ 1 x.1 []),k.2)
 else if(k.1:Int)=2 then((x.1,y.1.mergeQ 3 x.1 []),k.2)
 else if(k.1:Int)=3 then((x.1,(abx es 3 k.2).1),(abx es 3 k.2).2)
 else((x.1,y.1),k.2)
def aDM(es:List Int):Nat→Nat→List Tr×Nat
 |0,a=>([],a)
 |n+1,a=>((aar es 0 a).1::(aDM es n (aar es 0 a).2).1,(aDM es n (aar es 0 a).2).2)
def aHT(r:List ZP)(i k:Nat):Bool:=decide (k=i)||decide (k=(i+1)%r.length)||decide (0<ahX (r.getD i (0,0)).q (acS r i).q (r.getD k (0,0)).q)
def aGP(r:List ZP):Bool:=(List.range r.length).all fun i=>(List.range r.length).all fun k=>aHT r i k
theorem aDY{r:List ZP}(h:aaU r): ∀x∈[r],aaU x:=fun x hx=>by rw[aV] at hx;subst hx;exact h
theorem aEb{r s:List ZP}(h:aaU r)(k:aaU s): ∀x∈[r,s],aaU x:=fun x hx=>by
 simp only[aR,jL,or_false] at hx
 rcases hx with rfl|rfl
 ·exact h
 ·exact k
theorem agL{b:Nat}{es:List Int}(hes:es.length≤400){a:Nat}(ha:a≤es.length):PM GB prog 57 (mkP [none] b) b 104 [.sl (es.map vI), .v (.int .i64 (a:Nat))] (eT (ads es a).1) [.sl (es.map vI), .v (.int .i64 ((ads es a).2:Nat))]:=by
 obtain⟨r1,r2⟩:=aiQ ha
 have hk3:=aaF (n:=3) r2
 refine fnM func57 J J ntmps57 J J (fun C b m lo hmb=>?_)
 refine cm rfl (fun b=>(avk hes ha)) rfl<|ro (fu:=⟨4⟩) J J<|?_
 refine mg (X:=List (List ZP)×Nat) (fun⟨rs,a2⟩=>[(3, .rw 6)]) (fun⟨rs,a2⟩=>[(1000000,some (.o 104 [.d (.sl (es.map vI)), .d (.v (.int .i64 (a2:Nat)))] false)),(6,some (.b 46 1 (rs.map eRg) true))]) (fun⟨rs,a2⟩=>ads es a=(ae4 rs (1+((aae es 2 a2).1:Int)),(aae es 2 a2).2)∧a2≤es.length∧(∀r∈rs,aaU r)∧rs.length≤2) [3] [1000000,6] rfl ?_ (fun _=>rfl) (fun⟨rs,a2⟩ ⟨hB,ha2,hrs,hrl⟩=>?_)
 ·
  refine gx rfl<|cm rfl (fun b=>(acg (n:=3) hes r2 (by decide) (by decide))) rfl<|?_
  refine br J J J (fun hc9=>?_) (fun hc9=>?_)
  ·
   obtain⟨s1,s2⟩:=aiQ hk3
   refine cm rfl (fun b=>(avk hes hk3)) rfl<|rf J J<|ap (hbd:=by simp) ([(acR es a).1,(acR es (aae es 3 (acR es a).2).2).1].map eRg) J J (ay1 [(acR es (aae es 3 (acR es a).2).2).1]) rfl<|?_
   refine rnE 14 6 rfl ?_
   exact at_ ⟨[(acR es a).1,(acR es (aae es 3 (acR es a).2).2).1],(acR es (aae es 3 (acR es a).2).2).2⟩ ⟨if_pos hc9,s2,aEb r1 s1,by simp⟩
  ·
   exact at_ ⟨[(acR es a).1],(aae es 3 (acR es a).2).2⟩ ⟨if_neg hc9,hk3,aDY r1,by simp⟩
 ·
  try dsimp only at hB ha2 hrs hrl⊢
  have hf2:=abB (es:=es) (n:=2) (a:=a2) (by decide)
  refine fz 6 J J<|cl rfl (aGU (rs:=rs) hrs (by omega)) rfl<|cm rfl (fun b=>(acg (n:=2) hes ha2 (by decide) (by decide))) rfl<|cl rfl (auh (rs:=rs) (fill:=1+((aae es 2 a2).1:Int)) hrs (by omega)) rfl<|?_
  refine cl rfl (atk (rs:=rs) (fill:=1+((aae es 2 a2).1:Int)) hrs (by omega)) rfl<|?_
  exact rzM hmb J J (by rw[hB];rfl) (by rw[hB])
theorem alp{b:Nat}{es:List Int}(hes:es.length≤400){a:Nat}(ha:a≤es.length){n:Int}(hn:n=0):PM GB prog 12 (mkP [none,some (.v (.int .i64 n))] b) b 104 [.sl (es.map vI), .v (.int .i64 (a:Nat))] (eT (aar es 0 a).1) [.sl (es.map vI), .v (.int .i64 ((aar es 0 a).2:Nat))]:=by
 have hk0:=aaF (n:=6) ha
 obtain⟨hl,hl2⟩:=art hk0
 obtain⟨ht,ht2⟩:=apI hk0
 obtain⟨hb,hb2⟩:=aev hk0
 refine fnM func12 J J ntmps12 J J (fun C b m lo hmb=>?_)
 refine cm (fu:=⟨5⟩) rfl (fun b=>(acg (n:=6) hes ha (by decide) (by decide))) rfl<|?_
 refine mg (X:=Unit) (fun _=>[(9, .ff)]) (fun _=>[]) (fun _=>True) [9] [] rfl ?_ (fun _=>rfl) (fun _ _=>?_)
 ·
  refine gx rfl<|?_
  refine cs (fu1:=⟨1⟩) 12 J J J (fun hg12=>?_) (fun hg12=>?_)
  ·
   refine knF rfl (by show some (decide _)=some false;rw[decide_eq_false (by omega)]) rfl<|?_
   exact at_ () trivial
  ·
   exact at_ () trivial
 ·
  refine br J J J (fun hc29=>?_) (fun hc29=>?_)
  ·
   refine cm rfl (fun b=>(aGN hes hk0)) rfl<|cl rfl (ac4 (p:=true)) rfl<|cl (fu:=⟨1⟩) rfl (ac4 (p:=false)) rfl<|bxf J J<|cl rfl (afm (t:= .node (lF es (aae es 6 a).2).1 (.leaf true) (.leaf false)) ⟨⟨hl.bl⟩,trivial,trivial⟩ ⟨hl.ok,trivial,trivial⟩ (by simp[Tr.depth])) rfl<|?_
   exact rzM hmb J J (by rw[show aar es 0 a=_ from if_pos hc29];rfl) (by rw[show aar es 0 a=_ from if_pos hc29])
  ·
   refine br J J J (fun hc39=>?_) (fun hc39=>?_)
   ·
    refine cm rfl (fun b=>(avp (d:=3) hes hk0 (by decide))) rfl<|cl rfl (afm (t:=(abx es 3 (aae es 6 a).2).1) ht.lb ht.ok (by have:=ht.dp;omega)) rfl<|?_
    exact rzM hmb J J (by rw[show aar es 0 a=_ from(if_neg hc29).trans (if_pos hc39)];rfl) (by rw[show aar es 0 a=_ from(if_neg hc29).trans (if_pos hc39)])
   ·
    refine br J J J (fun hc45=>?_) (fun hc45=>?_)
    ·
     refine cm rfl (fun b=>(agL hes hk0)) rfl<|cl rfl afT rfl<|?_
     exact rzM hmb J J (by rw[show aar es 0 a=_ from(if_neg hc29).trans ((if_neg hc39).trans (if_pos hc45))];rfl) (by rw[show aar es 0 a=_ from(if_neg hc29).trans ((if_neg hc39).trans (if_pos hc45))])
    ·
     refine cm rfl (fun b=>(agL hes hk0)) rfl<|?_
     exact rzM hmb J J (by rw[show aar es 0 a=_ from(if_neg hc29).trans ((if_neg hc39).trans (if_neg hc45))];rfl) (by rw[show aar es 0 a=_ from(if_neg hc29).trans ((if_neg hc39).trans (if_neg hc45))])
theorem alq{b:Nat}{es:List Int}(hes:es.length≤400){a:Nat}(ha:a≤es.length){d:Nat}{n:Int}(hn:n=((d+1:Nat):Int))(hd:d≤3)(ih: ∀{GB:Gh} {b a:Nat} {n:Int},a≤es.length→n=(d:Int)→PM GB prog 12 (mkP [none,some (.v (.int .i64 n))] b) b 104 [.sl (es.map vI), .v (.int .i64 (a:Nat))] (eT (aar es d a).1) [.sl (es.map vI), .v (.int .i64 ((aar es d a).2:Nat))]):PM GB prog 12 (mkP [none,some (.v (.int .i64 n))] b) b 104 [.sl (es.map vI), .v (.int .i64 (a:Nat))] (eT (aar es (d+1) a).1) [.sl (es.map vI), .v (.int .i64 ((aar es (d+1) a).2:Nat))]:=by
 have hk0:=aaF (n:=6) ha
 obtain⟨hl,hl2⟩:=art hk0
 obtain⟨ht,ht2⟩:=apI hk0
 obtain⟨hb,hb2⟩:=aev hk0
 obtain⟨g1,g2⟩:=aeA (d:=d) hk0
 have hj:=aaF (n:=4) g2
 have hjl:=abB (es:=es) (n:=4) (a:=(aar es d (aae es 6 a).2).2) (by decide)
 obtain⟨g3,g4⟩:=aeA (d:=d) hj
 have hpw:18*2^d≤18*2^3:=eX _ (bX (by decide) hd)
 refine fnM func12 J J ntmps12 J J (fun C b m lo hmb=>?_)
 refine cm rfl (fun b=>(acg (n:=6) hes ha (by decide) (by decide))) rfl<|?_
 refine cs (fu1:=⟨1⟩) 12 J J J (fun hg12=>?_) (fun hg12=>?_)
 ·
  refine knT rfl (by show some (decide _)=some true;rw[decide_eq_true (by omega)]) rfl<|cm rfl (fun b=>(ih hk0 (by omega))) rfl<|cm rfl (fun b=>(acg (n:=4) hes g2 (by decide) (by decide))) rfl<|?_
  refine cm rfl (fun b=>(ih hj (by omega))) rfl<|cl rfl (ama (op:=1+((aae es 4 (aar es d (aae es 6 a).2).2).1:Int)) (t:=(aar es d (aae es 6 a).2).1) (u:=(aar es d (aae es 4 (aar es d (aae es 6 a).2).2).2).1) (c:=[]) g3.gd.lb g3.gd.ok g1.gd.lb g1.gd.ok (fun m h=>by cases h) (fun m h=>by cases h) (by have:=g1.dp;have:=g3.dp;rw[fY];omega)) rfl<|?_
  exact rzM hmb J J (by rw[show aar es (d+1) a=_ from if_pos hg12];show eT (Tr.mergeL _ _ _ _)=eT (Tr.mergeQ _ _ _ _);rw[Tr.mergeL_nil (by omega) g1.gd.ok g3.gd.ok]) (by rw[show aar es (d+1) a=_ from if_pos hg12])
 ·
  refine br J J J (fun hc29=>?_) (fun hc29=>?_)
  ·
   refine cm rfl (fun b=>(aGN hes hk0)) rfl<|cl rfl (ac4 (p:=true)) rfl<|cl (fu:=⟨1⟩) rfl (ac4 (p:=false)) rfl<|bxf J J<|cl rfl (afm (t:= .node (lF es (aae es 6 a).2).1 (.leaf true) (.leaf false)) ⟨⟨hl.bl⟩,trivial,trivial⟩ ⟨hl.ok,trivial,trivial⟩ (by simp[Tr.depth])) rfl<|?_
   exact rzM hmb J J (by rw[show aar es (d+1) a=_ from(if_neg hg12).trans (if_pos hc29)];rfl) (by rw[show aar es (d+1) a=_ from(if_neg hg12).trans (if_pos hc29)])
  ·
   refine br J J J (fun hc39=>?_) (fun hc39=>?_)
   ·
    refine cm rfl (fun b=>(avp (d:=3) hes hk0 (by decide))) rfl<|cl rfl (afm (t:=(abx es 3 (aae es 6 a).2).1) ht.lb ht.ok (by have:=ht.dp;omega)) rfl<|?_
    exact rzM hmb J J (by rw[show aar es (d+1) a=_ from(if_neg hg12).trans ((if_neg hc29).trans (if_pos hc39))];rfl) (by rw[show aar es (d+1) a=_ from(if_neg hg12).trans ((if_neg hc29).trans (if_pos hc39))])
   ·
    refine br J J J (fun hc45=>?_) (fun hc45=>?_)
    ·
     refine cm rfl (fun b=>(agL hes hk0)) rfl<|cl rfl afT rfl<|?_
     exact rzM hmb J J (by rw[show aar es (d+1) a=_ from(if_neg hg12).trans ((if_neg hc29).trans ((if_neg hc39).trans (if_pos hc45)))];rfl) (by rw[show aar es (d+1) a=_ from(if_neg hg12).trans ((if_neg hc29).trans ((if_neg hc39).trans (if_pos hc45)))])
    ·
     refine cm rfl (fun b=>(agL hes hk0)) rfl<|?_
     exact rzM hmb J J (by rw[show aar es (d+1) a=_ from(if_neg hg12).trans ((if_neg hc29).trans ((if_neg hc39).trans (if_neg hc45)))];rfl) (by rw[show aar es (d+1) a=_ from(if_neg hg12).trans ((if_neg hc29).trans ((if_neg hc39).trans (if_neg hc45)))])
theorem aoi{es:List Int}(hes:es.length≤400): ∀{d:Nat} {GB:Gh} {b a:Nat} {n:Int},d≤4→a≤es.length→n=(d:Int)→PM GB prog 12 (mkP [none,some (.v (.int .i64 n))] b) b 104 [.sl (es.map vI), .v (.int .i64 (a:Nat))] (eT (aar es d a).1) [.sl (es.map vI), .v (.int .i64 ((aar es d a).2:Nat))]
 |0,_,_,_,_,_,ha,hn=>alp hes ha hn
 |d+1,_,_,_,_,hd,ha,hn=>alq hes ha hn (by omega) (fun h1 h2=>aoi hes (by omega) h1 h2)
theorem atK{es:List Int}(hes:es.length≤400){a d b:Nat}(ha:a≤es.length)(hd:d≤4):PM GB prog 12 (mkP [none,some (.v (.int .i64 (d:Nat)))] b) b 104 [.sl (es.map vI), .v (.int .i64 (a:Nat))] (eT (aar es d a).1) [.sl (es.map vI), .v (.int .i64 ((aar es d a).2:Nat))]:=aoi (GB:=GB) hes hd ha rfl
section
variable {GB:Gh} {C:Ctx} {n:Nat} {Q0:Exit→Act→World→Prop} {fr fr' fr1 fr2:FrX} {own own' own1 own2:OwX} {cf cf' cf1 cf2:Cf} {vc vc1 vc2:List Prop}
def aIU(fr:FrX)(cf:Cf):Option Int:=match opC fr cf with
 |some ⟨_, .binOp .and _ x (.const (.int .i64 3)) _,_,_,_,_⟩=>match evX (lkC fr cf) x with
  |some (.d (.v (.int .i64 p)))=>some p
  |_=>none
 |_=>none
end
theorem aEg{es0 es:List Int}(hb:es0.length≤1125899906842624)(he:es=es0.take 400):PN GB prog 11 [.sl (es0.map vI)] 104 Unit (fun _=>[.sl (es.map vI), .v (.int .i64 (0:Nat))]):=by
 subst he;exact aF9 hb
theorem apO{k:Nat}{t:Tr}(h:TrX k t):PF GB prog 14 [eT t] (eA t):=az0 h.bl (by have:=h.s;omega)
section
variable {GB:Gh} {C:Ctx} {n:Nat} {Q0:Exit→Act→World→Prop} {fr fr':FrX} {own own':OwX} {cf cf':Cf} {vc:List Prop} {ops:Array Oper} {r:List Oper} {K:List Kt}
theorem aFQ(k:Nat){d:DV}(hl:aao fr k=some (.d d))(h: ∀(GB':Gh) (pv:Value),GLe GB GB'→Is GB' d pv→CfS prog GB' C n Q0 ((k, .d (.v pv))::fr) own (.ops ops r K)):CfS prog GB C n Q0 fr own (.ops ops r K):=by
 refine⟨fun ρ G ov a w r0=>?_⟩
 obtain⟨y,hy,hy'⟩:=r0.fx k _ hl
 refine(h G y r0.gb hy').run ρ G ov a w ⟨GLe.refl _,r0.h,r0.sz,r0.df,fun j f e=>?_,r0.bx,r0.dj,r0.fxd⟩
 rw[aaM] at e
 split at e
 ·rename_i hj
  cases e;subst hj
  exact⟨y,hy,(aaX (G:=G)).2 rfl⟩
 ·exact r0.fx j f e
def aII(fr:FrX)(cf:Cf):Option (FuncId×Value):=match opC fr cf with
 |some ⟨_, .makeFunc (.func f) ⟨[x]⟩ ⟨[]⟩,_,_,_,_⟩=>match evX (lkC fr cf) x with
  |some (.d (.v pv))=>some (f,pv)
  |_=>none
 |_=>none
def aIG(fr:FrX)(cf:Cf):Option (FuncId×List Value×List DV):=match opC fr cf with
 |some ⟨_, .call ⟨.value fo,args,_⟩,_,_,_,_⟩=>match evX (lkC fr cf) fo,evDs (lkC fr cf) args.toList with
  |some (.d (.v (.func (.func f) ⟨c1⟩ ⟨[]⟩))),some ds=>some (f,c1,ds)
  |_,_=>none
 |_=>none
def ay0:List (Nat×Operand)→Option (List (Nat×Value))
 |[]=>some []
 |(i, .const v)::t=>match ay0 t with
  |some l=>some ((i,v)::l)
  |none=>none
 |_::_=>none
def aIQ(cf:Cf)(fr:FrX):Option (TypeId×List (Nat×Value)):=match opC fr cf with
 |some ⟨_, .build t ⟨ps⟩,_,_,_,_⟩=>match ay0 ps with
  |some vs=>some (t,vs)
  |none=>none
 |_=>none
def aHg(fr:FrX)(own:OwX)(cf:Cf):Option (TypeId×Nat×Nat×List FX×Bool×FX):=match opC fr cf with
 |some ⟨_, .store t x y,_,_,_,_⟩=>match evX (lkC fr cf) x with
  |some (.ov nm 0)=>match bkC fr own cf nm with
   |some (.o ty cs lo)=>match evX (lkC fr cf) y with
    |some fv=>some (t,nm,ty,cs,lo,fv)
    |_=>none
   |_=>none
  |_=>none
 |_=>none
theorem sta[fu:Fu]{t nm ty len e:Nat}{cs:List FX}{lo:Bool}{fv:FX}{j:TypeInfo}(h:aHg fr own cf=some (t,nm,ty,cs,lo,fv))(hu:prog.underlying t=some (.array len e))(hj:prog.info? t=some j)(hc:fv.okc=true∧fv.cells.length=j.size∧j.size=cs.length)
  (hgo:goA tt n fu.n fr own cf .un [(nm,some (.o ty (ovX cs 0 fv.cells) lo))] []=⟨vc,fr',own',cf'⟩)(k:CfS prog GB C n Q0 fr' own' cf')
  (hv:aah vc:=by first|exact trivial|(simp only[aah];kernel_rfl)|(simp only[aah];omega)):CfS prog GB C n Q0 fr own cf:=by
 unfold aHg at h
 split at h<;>try (cases h;done)
 rename_i hh
 split at h<;>try (cases h;done)
 rename_i e1
 split at h<;>try (cases h;done)
 rename_i hb
 split at h<;>cases h
 rename_i e2
 obtain⟨c1,c2,c3⟩:=hc
 have:TyA prog t j.size:=⟨fun w=>ajY hu w,fun w=>aee hj w⟩
 refine us hh ?_ hgo hv k
 intro hd tl tb K s1 s2 hf hk
 refine⟨fun ρ G ov a w r Q=>?_⟩
 have r1:=r.mono s1 s2
 obtain⟨p,h1,h2⟩:=r1.ev e1
 obtain⟨q,h3,h4⟩:=r1.ev e2
 obtain⟨b,m,rfl,ha,h5,h6⟩:=r1.own h2 hb
 obtain⟨h7,h8⟩:=h4.cells c1
 obtain⟨own',u1,u2,u3⟩:=agk.of_mem (cs':=ovw m 0 (aaf q)) h6
 exact ais h1 h3 u1 (by rw[h7.len,c2]) (by rw[h5.len,c3];omega) (dZ.2 h8) hd (fun a' w' rl=>r.wrote (m:=m) (s2 _ _ hb) ha (h5.ov h7) u2 u3 hk rl) a w Q ⟨r.h,r.sz,aaD a,r.df⟩
def aIK(fr:FrX)(cf:Cf):Option RwA:=match opC fr cf with
 |some ⟨some d, .buildSlice t len parts,_,_,_,_⟩=>match abc tt t with
  |some ⟨.sl e s _,_,_,_⟩=>match aBx (lkC fr cf) 0 parts.toList with
   |some ds=>bif axj s ds&&(Nat.beq parts.toList.length len&&(Nat.ble (len*s) 1000&&Nat.blt 0 (len*s))) then some ⟨d,e,s,ds⟩ else none
   |none=>none
  |_=>none
 |_=>none
def aJg(fr:FrX)(cf:Cf):Option (TypeId×List DV):=match opC fr cf with
 |some ⟨_, .load t x,_,_,_,_⟩=>match evX (lkC fr cf) x with
  |some (.ep l)=>some (t,l)
  |_=>none
 |_=>none
def aJf:TypeDesc→Bool
 | .struct _=>false
 | .array _ _=>false
 |_=>true
end
def ePr(a b:Tr):DV:= .ag [eU a,eU b]
def prZ:DV:= .ag [.v (.pointer none), .v (.pointer none)]
theorem aGu{k:Nat}{t:Tr}(h:TrX k t):PF GB prog 108 [eA t] (.tp [eU t,vB true]):=by
 have:=aGy (GB:=GB) (rt:=t.num 0) (aGz h.lb) (aIo (by have:=h.s;omega)) (aC4 h.ok)
 rw[←aGC] at this
 exact this
def mtQ(a:LnQ)(t:List LnQ):List Rat:=t.filterMap fun b=>if crossI a b=0 then none else some (abq a b).x
def aJq(l:List LnQ)(x:Rat):List PtQ:=(abZ (aAL (ysQ l x))).map fun y=>⟨x,y⟩
end Go.Sx
end
