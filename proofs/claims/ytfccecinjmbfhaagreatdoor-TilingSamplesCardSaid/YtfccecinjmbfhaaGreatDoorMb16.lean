/- Part 16 of a proof. -/
import Derived.Test.YtfccecinjmbfhaaGreatDoorMb15
set_option linter.unusedSimpArgs false
set_option maxHeartbeats 2000000
set_option maxRecDepth 100000
set_option linter.unusedVariables false
section
namespace Go.Sx
open Go Go.Proofs Tryz
variable {GB:Gh}
def eZp(p:ZP):DV:=eP p.q
def eRg(r:List ZP):DV:= .sl (r.map eZp)
theorem ay4(l:List ZP):acI 6 (l.map eZp):=fun d hd=>by
 obtain⟨u,_,rfl⟩:=bW.1 hd;exact⟨rfl,rfl⟩
theorem aw9(l:List (List ZP)):acI 1 (l.map eRg):=fun d hd=>by
 obtain⟨u,_,rfl⟩:=bW.1 hd;exact⟨rfl,rfl⟩
theorem aEn{r:List ZP}{i:Nat}(h:i<r.length):(r.map eZp)[((i:Nat):Int).toNat]? =some (eZp (r.getD i (0,0))):=by
 rw[bZ,cN,aX,aQ h];rfl
theorem aCR{r:List ZP}{i:Nat}(h:i<r.length):(r.map eZp)[(((i+1)%r.length:Nat):Int).toNat]? =some (eZp (acE r i)):=aEn (cS _ (by omega))
theorem aBu(v w p:PtQ):(atY v w p).natAbs≤1:=by
 unfold atY;split<;>split<;>decide
theorem alr(r:List ZP)(p:PtQ): ∀k,(aq0 r p k).natAbs≤k
 |0=>aL _
 |k+1=>by rw[aq0];have:=alr r p k;have:=aBu (r.getD k (0,0)).q (acE r k).q p;omega
theorem arb{r:List ZP}(h:aaU r):PF GB prog 133 [.sl (r.map eZp)] (.sl ((acC r).map eFF)):=by
 have hm:=aaI eZp r
 have h3:=h.n3
 have h6:=h.n6
 refine fn (fu:=⟨15⟩) func133 J J ntmps133 J J (fun C=>?_)
 refine eqF 8 (.d (vI (r.length:Nat))) rfl (by rw[hm]<;>rfl) ?_
 refine gx rfl<|?_
 refine nr 3 3 235 14 J J J ?_
 refine lp (X:=Nat) (fun k=>[(9, .d (vI (k:Nat))),(3, .rw 3)]) (fun k=>[(3,some (.b 235 14 ((aeV r k).map eFF) true))]) (fun k=>k≤r.length) (fun k=>r.length-k) 0 rfl (aR _) (fun _=>rfl) (fun k hk=>?_)
 have hel:=fun hh=>(aiB (k:=k) h hh).1
 refine br J J J (fun hc10=>?_) (fun hc10=>?_)
 ·
  have hkr:k<r.length:=by omega
  have hel:=hel (by omega)
  have hem:=aaI eFF (aeV r k)
  refine ix (fu:=⟨7⟩) _ rfl (aEn hkr) rfl<|?_
  refine eqF 22 (.d (vI ((k+1)%r.length:Nat))) rfl (by rw[hm]<;>rfl) ?_
  refine gx rfl<|ix _ rfl (aCR hkr) rfl<|cl rfl (aq7 (v:=r.getD k (0,0)) (w:=acE r k) (h.le _ (af8 hkr)) (h.le _ (agz hkr)) (h.ne k hkr)) rfl<|?_
  refine rf J J<|ap ((aeV r (k+1)).map eFF) rfl (by rw[aeV,aN];rfl) (ajZ [aeS (r.getD k (0,0)) (acE r k)]) rfl<|?_
  refine rnE 31 3 rfl ?_
  exact at_ (k+1) ⟨(by omega),(by omega)⟩
 ·
  obtain rfl:k=r.length:=by omega
  refine fzE 3 rfl ?_
  exact rz J J
theorem au7{r:List ZP}{p:PtQ}{i:Nat}[hp:BPt p i](h:aaU r)(hi:i≤80000:=by decide):PF GB prog 248 [.sl (r.map eZp),eP p] (vI (anx r p)):=by
 have hm:=aaI eZp r
 have h3:=h.n3
 have h6:=h.n6
 refine fn (fu:=⟨16⟩) func248 J J ntmps248 J J (fun C=>?_)
 refine eqF 12 (.d (vI (r.length:Nat))) rfl (by rw[hm]<;>rfl) ?_
 refine gx rfl<|?_
 refine lp (X:=Nat×Int) (fun⟨k,c⟩=>[(13, .d (vI (k:Nat))),(5, .d (vI c))]) (fun⟨k,c⟩=>[]) (fun⟨k,c⟩=>c=aq0 r p k∧k≤r.length) (fun⟨k,c⟩=>r.length-k) (0,0) rfl ⟨rfl,aR _⟩ (fun _=>rfl) (fun⟨k,c⟩ hk=>?_)
 dsimp only at hk⊢
 obtain⟨h1,h2⟩:=hk
 have hcl:c.natAbs≤k:=by rw[h1];exact alr r p k
 refine br J J J (fun hc14=>?_) (fun hc14=>?_)
 ·
  have hkr:k<r.length:=by omega
  obtain⟨v,hv⟩: ∃v,v=r.getD k (0,0):=⟨_,rfl⟩
  obtain⟨w,hw⟩: ∃v,v=acE r k:=⟨_,rfl⟩
  haveI hvb:BPt v.q 12:=by rw[hv];exact bpZ (h.le _ (af8 hkr))
  haveI hwb:BPt w.q 12:=by rw[hw];exact bpZ (h.le _ (agz hkr))
  refine ix (fu:=⟨1⟩) _ rfl (aEn hkr) rfl<|?_
  refine eqF 19 (.d (eP v.q)) rfl (by rw[hv];rfl) ?_
  refine gx (fu:=⟨6⟩) rfl<|?_
  refine eqF 25 (.d (vI ((k+1)%r.length:Nat))) rfl (by rw[hm]<;>rfl) ?_
  refine gx rfl<|ix (fu:=⟨1⟩) _ rfl (aCR hkr) rfl<|?_
  refine eqF 27 (.d (eP w.q)) rfl (by rw[hw];rfl) ?_
  refine gx rfl<|cl rfl (q_C (a:=v.q.y) (b:=p.y) (i:=12) (j:=i) (by decide) (by omega)) rfl<|cl (fu:=⟨9⟩) rfl (q_C (a:=w.q.y) (b:=p.y) (i:=12) (j:=i) (by decide) (by omega)) rfl<|?_
  rcases(show(abc v.q.y p.y≤0∧abc w.q.y p.y≤0)∨(abc v.q.y p.y≤0∧ ¬abc w.q.y p.y≤0)∨(¬abc v.q.y p.y≤0∧abc w.q.y p.y≤0)∨(¬abc v.q.y p.y≤0∧ ¬abc w.q.y p.y≤0) by omega) with⟨ca,cb⟩|⟨ca,cb⟩|⟨ca,cb⟩|⟨ca,cb⟩
  ·
   refine knT (fu:=⟨3⟩) rfl (by show some (decide _)=some true;rw[decide_eq_true (by omega)]) rfl<|knF (fu:=⟨15⟩) rfl (by show some (decide _)=some false;rw[decide_eq_false (by omega)]) rfl<|?_
   refine knF (fu:=⟨20⟩) rfl (by show some (decide _)=some false;rw[decide_eq_false (by omega)]) rfl<|?_
   exact at_ (k+1,c) (by dsimp only;exact⟨⟨by rw[aq0,←h1,←hv,←hw];unfold atY;split<;>split<;>omega,by omega⟩,(by omega)⟩)
  ·
   refine knT (fu:=⟨3⟩) rfl (by show some (decide _)=some true;rw[decide_eq_true (by omega)]) rfl<|knT rfl (by show some (decide _)=some true;rw[decide_eq_true (by omega)]) rfl<|?_
   refine cl rfl (aps (a:=v.q) (b:=w.q) (c:=p) (i:=12) (j:=12) (k:=i) (by decide) (by decide) hi) rfl<|?_
   refine br (fu1:=⟨10⟩) (fu2:=⟨6⟩) J J J (fun hc51=>?_) (fun hc51=>?_)
   ·
    refine knF rfl (by show some (decide _)=some false;rw[decide_eq_false (by omega)]) rfl<|?_
    exact at_ (k+1,c+1) (by dsimp only;exact⟨⟨by rw[aq0,←h1,←hv,←hw];unfold atY;split<;>split<;>omega,by omega⟩,(by omega)⟩)
   ·
    refine knF (fu:=⟨20⟩) rfl (by show some (decide _)=some false;rw[decide_eq_false (by omega)]) rfl<|?_
    exact at_ (k+1,c) (by dsimp only;exact⟨⟨by rw[aq0,←h1,←hv,←hw];unfold atY;split<;>split<;>omega,by omega⟩,(by omega)⟩)
  ·
   refine knF (fu:=⟨19⟩) rfl (by show some (decide _)=some false;rw[decide_eq_false (by omega)]) rfl<|knT (fu:=⟨2⟩) rfl (by show some (decide _)=some true;rw[decide_eq_true (by omega)]) rfl<|?_
   refine knT rfl (by show some (decide _)=some true;rw[decide_eq_true (by omega)]) rfl<|cl rfl (aps (a:=v.q) (b:=w.q) (c:=p) (i:=12) (j:=12) (k:=i) (by decide) (by decide) hi) rfl<|?_
   refine br (fu2:=⟨8⟩) J J J (fun hc65=>?_) (fun hc65=>?_)
   ·
    exact at_ (k+1,c-1) (by dsimp only;exact⟨⟨by rw[aq0,←h1,←hv,←hw];unfold atY;split<;>split<;>omega,by omega⟩,(by omega)⟩)
   ·
    exact at_ (k+1,c) (by dsimp only;exact⟨⟨by rw[aq0,←h1,←hv,←hw];unfold atY;split<;>split<;>omega,by omega⟩,(by omega)⟩)
  ·
   refine knF (fu:=⟨19⟩) rfl (by show some (decide _)=some false;rw[decide_eq_false (by omega)]) rfl<|knT (fu:=⟨2⟩) rfl (by show some (decide _)=some true;rw[decide_eq_true (by omega)]) rfl<|?_
   refine knF rfl (by show some (decide _)=some false;rw[decide_eq_false (by omega)]) rfl<|?_
   exact at_ (k+1,c) (by dsimp only;exact⟨⟨by rw[aq0,←h1,←hv,←hw];unfold atY;split<;>split<;>omega,by omega⟩,(by omega)⟩)
 ·
  obtain rfl:k=r.length:=by omega
  have hfin:anx r p=c:=h1.symm
  exact rz rfl (by rw[hfin];rfl)
theorem asT{fill n:Int}(hn:n.natAbs≤1000):PF GB prog 249 [vI fill,vI n] (vB (auZ fill n)):=by
 refine fn func249 J J ntmps249 J J (fun C=>?_)
 refine cs 7 J J J (fun hg7=>?_) (fun hg7=>?_)
 ·
  refine cs 12 J J J (fun hg12=>?_) (fun hg12=>?_)
  ·
   exact rz rfl (by show vB _=vB _;unfold auZ;congr 1;simp_all)
  ·
   refine cs 15 J J J (fun hg15=>?_) (fun hg15=>?_)
   ·
    exact rz rfl (by show vB _=vB _;unfold auZ;congr 1;simp_all)
   ·
    exact rz rfl (by show vB _=vB _;unfold auZ;congr 1;simp_all)
 ·
  refine cs 15 J J J (fun hg15=>?_) (fun hg15=>?_)
  ·
   exact rz rfl (by show vB _=vB _;unfold auZ;congr 1;simp_all)
  ·
   exact rz rfl (by show vB _=vB _;unfold auZ;congr 1;simp_all)
def aEK(rs:List (List ZP)):List LnQ:=(abT rs).map FrQ.l
def eRR(rs:List (List ZP))(fill:Int):DV:= .ag [.sl (rs.map eRg), .v (.int .i64 fill), .sl ((anX (aEK rs)).map eL)]
theorem aC5{rs:List (List ZP)}{p:PtQ}(h: ∀r∈rs,aaU r)(k:Nat):((rs.take k).foldl (fun n r=>n+anx r p) 0).natAbs≤6*k:=by
 induction k with
 |zero=>rw[rR];exact aR _
 |succ k ih=>
  rw[gQ,qJ]
  cases e:rs[k]? with
  |none=>exact cJ ih (by omega)
  |some r=>
   have h1:(anx r p).natAbs≤r.length:=alr r p r.length
   have h2:=(h r (aM e)).n6
   show(List.foldl _ 0 (rs.take k)+anx r p).natAbs≤_
   omega
theorem aEk{rs:List (List ZP)}{fill:Int}{p:PtQ}{i:Nat}[hp:BPt p i](h: ∀r∈rs,aaU r)(hn:rs.length≤100)(hi:i≤80000:=by decide):PF GB prog 192 [eRR rs fill,eP p] (vB (inR rs fill p)):=by
 have hm:=aaI eRg rs
 refine fn (fu:=⟨18⟩) func192 J J ntmps192 J J (fun C=>?_)
 refine eqF 10 (.d (vI (rs.length:Nat))) rfl (by rw[hm]<;>rfl) ?_
 refine gx rfl<|?_
 refine lp (X:=Nat×Int) (fun⟨k,c⟩=>[(11, .d (vI (k:Nat))),(5, .d (vI c))]) (fun⟨k,c⟩=>[]) (fun⟨k,c⟩=>c=(rs.take k).foldl (fun n r=>n+anx r p) 0∧k≤rs.length) (fun⟨k,c⟩=>rs.length-k) (0,0) rfl ⟨by rw[rR];rfl,aR _⟩ (fun _=>rfl) (fun⟨k,c⟩ hk=>?_)
 dsimp only at hk⊢
 obtain⟨h1,h2⟩:=hk
 have hcl:c.natAbs≤6*k:=by rw[h1];exact aC5 h k
 refine br J J J (fun hc12=>?_) (fun hc12=>?_)
 ·
  obtain⟨r,hz⟩: ∃s,rs[k]? =some s:=⟨_,aQ (by omega)⟩
  have hr:=h r (aM hz)
  have hnz:(anx r p).natAbs≤6:=cJ (alr r p r.length) hr.n6
  refine ix _ rfl (aak hz) rfl<|cl rfl (au7 (r:=r) (p:=p) hr hi) rfl<|?_
  exact at_ (k+1,c+anx r p) (by dsimp only;exact⟨⟨by rw[gQ,hz,qJ,←h1];rfl,by omega⟩,(by omega)⟩)
 ·
  obtain rfl:k=rs.length:=by omega
  rw[fV] at h1
  refine cl rfl (asT (fill:=fill) (n:=c) (by omega)) rfl<|?_
  exact rz rfl (by unfold inR;rw[←h1];rfl)
def eAr(r:List ZP):DV:= .sl ((r.map ZP.q).map ePt)
theorem aCp(l:List (List ZP)):acI 1 (l.map eAr):=fun d hd=>by
 obtain⟨u,_,rfl⟩:=bW.1 hd;exact⟨rfl,rfl⟩
theorem at8{r:List ZP}(h: ∀p∈r,ZP.le 100 p): ∀p∈r.map ZP.q,BPt p 1200:=fun p hp=>by
 obtain⟨z,hz,rfl⟩:=bW.1 hp
 have:=bpZ (h z hz)
 exact⟨BQ.mono this.x (by decide),BQ.mono this.y (by decide)⟩
theorem ayb(r:List ZP):DV.sl ((r.map ZP.q).map eP)=eRg r:=by unfold eRg;rw[qK];rfl
theorem aiU{rs:List (List ZP)}{k:Nat}{r:List ZP}(h:rs[k]? =some r):abT (rs.take (k+1))=abT (rs.take k)++acC r:=by
 unfold abT;rw[gQ,h,lX];simp
theorem aiF{rs:List (List ZP)}(h: ∀r∈rs,aaU r)(k:Nat):(abT (rs.take k)).length≤6*k:=by
 have:=(acw (rs:=rs.take k) (fun r hr=>h r (eJ hr))).1
 have h2:(rs.take k).length≤k:=by rw[cK];omega
 omega
theorem asv{rs:List (List ZP)}{fill:Int}(h: ∀r∈rs,aaU r)(hn:rs.length≤100):PF GB prog 66 [.sl (rs.map eAr), .v (.int .i64 fill)] (eRR rs fill):=by
 have hm:=aaI eAr rs
 refine fn (fu:=⟨8⟩) func66 J J ntmps66 J J (fun C=>?_)
 refine bzp (fu:=⟨14⟩) 46 1 0 [] [.v (.int .i64 fill), .sl []] J J J J J<|?_
 refine eqF 15 (.d (vI (rs.length:Nat))) rfl (by rw[hm]<;>rfl) ?_
 refine gx rfl<|?_
 refine nr 6 6 109 6 J J J ?_
 refine lp (X:=Nat) (fun k=>[(16, .d (vI (k:Nat))),(6, .rw 6),(5, .ov 5 0)]) (fun k=>[(5,some (.o 132 [.rw 13, .d (.v (.int .i64 fill)), .d (.sl [])] true)),(13,some (.b 46 1 ((rs.take k).map eRg) true)),(6,some (.b 109 6 (((abT (rs.take k)).map FrQ.l).map eL) true))]) (fun k=>k≤rs.length) (fun k=>rs.length-k) 0 rfl (aR _) (fun _=>rfl) (fun k hk=>?_)
 refine br (fu2:=⟨0⟩) J J J (fun hc17=>?_) (fun hc17=>?_)
 ·
  obtain⟨r,hz⟩: ∃s,rs[k]? =some s:=⟨_,aQ (by omega)⟩
  have hr:=h r (aM hz)
  have hel:(acC r).length≤6:=by have:=(ahW hr).1;have:=hr.n6;omega
  have het:=aiF h k
  have hrl:((rs.take k).map eRg).length=k:=by rw[aJ,cK];omega
  refine ix _ rfl (aak hz) rfl<|cl (fu:=⟨0⟩) rfl (aEO (ps:=r.map ZP.q) (at8 hr.le) (by rw[aJ];have:=hr.n6;omega)) rfl<|?_
  refine eqF 21 (.d (eRg r)) rfl (by rw[ayb]) ?_
  refine gx rfl<|rf J J<|ap ((rs.take (k+1)).map eRg) rfl (abm hz) (aw9 [r]) rfl<|cl (fu:=⟨1⟩) rfl (arb (r:=r) hr) rfl<|?_
  refine eqF 30 (.d (vI ((acC r).length:Nat))) rfl (by rw[aaI eFF (acC r)]<;>rfl) ?_
  refine gx rfl<|?_
  rw[←nM (abT (rs.take k)),←rR (l:=acC r)]
  refine lp (X:=Nat) (fun j=>[(31, .d (vI (j:Nat))),(6, .rw 6)]) (fun j=>[(6,some (.b 109 6 (((abT (rs.take k)++(acC r).take j).map FrQ.l).map eL) true))]) (fun j=>j≤(acC r).length) (fun j=>(acC r).length-j) 0 rfl (aR _) (fun _=>rfl) (fun j hk=>?_)
  have hml:(((abT (rs.take k)++(acC r).take j).map FrQ.l).map eL).length≤6*k+6:=by rw[aJ,aJ,aW,cK];omega
  refine br J J J (fun hc32=>?_) (fun hc32=>?_)
  ·
   obtain⟨e,he⟩: ∃s,(acC r)[j]? =some s:=⟨_,aQ (by omega)⟩
   refine ix _ rfl (aak he) rfl<|rf J J<|ap (((abT (rs.take k)++(acC r).take (j+1)).map FrQ.l).map eL) rfl (by rw[gQ,he];simp only[aN,fL];rfl) (acj [e.l]) rfl<|?_
   refine rnE 39 6 rfl ?_
   exact at_ (j+1) ⟨(by omega),(by omega)⟩
  ·
   obtain rfl:j=(acC r).length:=by omega
   rw[fV,←aiU hz]
   refine rnE 26 13 rfl ?_
   exact at_ (k+1) ⟨(by omega),(by omega)⟩
 ·
  obtain rfl:k=rs.length:=by omega
  rw[fV]
  refine fzC 6 rfl ?_
  refine fzC 13 rfl ?_
  refine gx rfl<|cl rfl (aqU (ls:=aEK rs) (fun l hl=>by obtain⟨f,hf,rfl⟩:=bW.1 hl;exact((acw h).2 f hf).lb) (by unfold aEK;rw[aJ];have:=(acw h).1;omega)) rfl<|?_
  exact rz J J
theorem aDO{rs:List (List ZP)}(h: ∀r∈rs,aaU r)(hn:rs.length≤100):PF GB prog 124 [.sl (rs.map eRg)] (.sl (rs.map eAr)):=by
 have hm:=aaI eRg rs
 refine fn (fu:=⟨15⟩) func124 J J ntmps124 J J (fun C=>?_)
 refine eqF 7 (.d (vI (rs.length:Nat))) rfl (by rw[hm]<;>rfl) ?_
 refine gx rfl<|?_
 refine nr 3 3 120 1 J J J ?_
 refine lp (X:=Nat) (fun k=>[(8, .d (vI (k:Nat))),(3, .rw 3)]) (fun k=>[(3,some (.b 120 1 ((rs.take k).map eAr) true))]) (fun k=>k≤rs.length) (fun k=>rs.length-k) 0 rfl (aR _) (fun _=>rfl) (fun k hk=>?_)
 have hml:((rs.take k).map eAr).length≤k:=by rw[aJ,cK];omega
 refine br J J J (fun hc9=>?_) (fun hc9=>?_)
 ·
  obtain⟨r,hz⟩: ∃s,rs[k]? =some s:=⟨_,aQ (by omega)⟩
  have hr:=h r (aM hz)
  refine ix (fu:=⟨1⟩) _ rfl (aak hz) rfl<|?_
  refine eqF 11 (.d (.sl ((r.map ZP.q).map eP))) rfl (by rw[ayb]) ?_
  refine gx rfl<|cl rfl (axE (ps:=r.map ZP.q) (at8 hr.le) (by rw[aJ];have:=hr.n6;omega)) rfl<|rf J J<|ap ((rs.take (k+1)).map eAr) rfl (abm hz) (aCp [r]) rfl<|?_
  refine rnE 16 3 rfl ?_
  exact at_ (k+1) ⟨(by omega),(by omega)⟩
 ·
  obtain rfl:k=rs.length:=by omega
  refine fzE 3 rfl ?_
  exact rz rfl (by rw[fV];rfl)
theorem ams(out:List LnQ)(l:LnQ):(acm out l).length≤out.length+1:=by
 unfold acm
 split
 ·omega
 ·simp;omega
theorem aj9(c:List LnQ): ∀(t out:List LnQ),(adR c t out).length≤out.length+t.length
 |[],out=>by simp[adR]
 |l::t,out=>by
  rw[adR]
  refine cJ (aj9 c t _) ?_
  have:=ams out l
  split<;>simp<;>omega
theorem aek(c:List LnQ):(aaJ c).length≤c.length:=cJ (aj9 c c []) (by simp)
theorem aoX{c:List LnQ}(h: ∀m∈c,LB m): ∀m∈aaJ c,LB m:=fun m hm=>h m (aa4.1 hm).1
theorem apW{c:List LnQ}(h: ∀m∈c,m.ok): ∀m∈aaJ c,m.ok:=fun m hm=>h m (aa4.1 hm).1
theorem apt{c:List LnQ}{l:LnQ}(hc: ∀m∈c,LB m)(hok: ∀m∈c,m.ok)(hn:c.length≤900)(hl:LB l)(hlo:l.ok):PF GB prog 118 [.sl (c.map eL),eL l] (.sl ((aaJ (c++[l])).map eL)):=by
 have hcl:=aeB c
 refine fn func118 J J ntmps118 J J (fun C=>?_)
 refine ro0 J J<|ap (c.map eL) J J (acj _) rfl<|rf J J<|apf ((c++[l]).map eL) rfl (by rw[aN];rfl) (acj [l]) rfl<|?_
 refine cl rfl (aow (c:=c++[l]) (agQ hc hl) (abO hok hlo) (by simp;omega)) rfl<|?_
 exact rz J J
theorem awr{l l1:LnQ}{x y u:Tr}:PF GB prog 117 [eL l,eT (.node l1 x y),eT u] (eT (.node l (.node l1 x y) u)):=by
 refine fn (fu:=⟨12⟩) func117 J J ntmps117 J J (fun C=>?_)
 refine knF J J J<|?_
 refine fzE 33 rfl ?_
 exact rz J J
theorem ask{l l1:LnQ}{x y:Tr}{p:Bool}:PF GB prog 117 [eL l,eT (.leaf p),eT (.node l1 x y)] (eT (.node l (.leaf p) (.node l1 x y))):=by
 refine fn (fu:=⟨12⟩) func117 J J ntmps117 J J (fun C=>?_)
 refine knT (fu:=⟨4⟩) J J J<|knF J J J<|?_
 refine fzE 33 rfl ?_
 exact rz J J
theorem arm{l:LnQ}{p q:Bool}:PF GB prog 117 [eL l,eT (.leaf p),eT (.leaf q)] (eT (Tr.joinQ l (.leaf p) (.leaf q))):=by
 refine fn (fu:=⟨12⟩) func117 J J ntmps117 J J (fun C=>?_)
 refine knT (fu:=⟨4⟩) J J J<|knT J J J<|?_
 refine bd J J J (fun hc27=>?_) (fun hc27=>?_)
 ·
  exact rz rfl (by rw[show Tr.joinQ l (.leaf p) (.leaf q)= .leaf p by simp[Tr.joinQ,Tr.isLeaf,Tr.code,hc27]];rfl)
 ·
  refine fzE 33 rfl ?_
  exact rz rfl (by rw[show Tr.joinQ l (.leaf p) (.leaf q)= .node l (.leaf p) (.leaf q) by simp[Tr.joinQ,Tr.isLeaf,Tr.code,hc27]];rfl)
theorem ax9{l:LnQ}: ∀{x y:Tr},PF GB prog 117 [eL l,eT x,eT y] (eT (Tr.joinQ l x y))
 | .leaf _, .leaf _=>arm
 | .leaf _, .node .. =>ask
 | .node ..,_=>awr
theorem ahR{b:Bool}{c:List LnQ}:PF GB prog 115 [eT (.leaf b), .sl (c.map eL)] (eT (Tr.restrictL (.leaf b) c)):=by
 refine fn (fu:=⟨11⟩) func115 J J ntmps115 J J (fun C=>?_)
 refine knT J J J<|?_
 exact rz J J
theorem ahS{l:LnQ}{x y:Tr}{c:List LnQ}(hl:LB l)(hlo:l.ok)(hc: ∀m∈c,LB m)(hok: ∀m∈c,m.ok)(hn:c.length+(Tr.node l x y).depth≤900)(ihx: ∀{c:List LnQ},(∀m∈c,LB m)→(∀m∈c,m.ok)→c.length+x.depth≤900→PF GB prog 115 [eT x, .sl (c.map eL)] (eT (Tr.restrictL x c)))(ihy: ∀{c:List LnQ},(∀m∈c,LB m)→(∀m∈c,m.ok)→c.length+y.depth≤900→PF GB prog 115 [eT y, .sl (c.map eL)] (eT (Tr.restrictL y c))):PF GB prog 115 [eT (.node l x y), .sl (c.map eL)] (eT (Tr.restrictL (.node l x y) c)):=by
 have hdp:(Tr.node l x y).depth=1+Nat.max x.depth y.depth:=rfl
 have hdx:x.depth≤Nat.max x.depth y.depth:=nS _ _
 have hdy:y.depth≤Nat.max x.depth y.depth:=nZ _ _
 have hca:=aek (c++[l])
 have hcb:=aek (c++[l.rev])
 rw[aW,dK] at hca hcb
 refine fn (fu:=⟨11⟩) func115 J J ntmps115 J J (fun C=>?_)
 refine knF J J J<|cl rfl (atD (c:=c) (l:=l) hc hok (by omega) hl hlo) rfl<|?_
 refine br J J J (fun hc16=>?_) (fun hc16=>?_)
 ·
  refine cl rfl (ihx hc hok (by omega)) rfl<|?_
  exact rz rfl (by rw[Tr.restrictL,if_pos hc16];rfl)
 ·
  refine br J J J (fun hc24=>?_) (fun hc24=>?_)
  ·
   refine cl rfl (ihy hc hok (by omega)) rfl<|?_
   exact rz rfl (by rw[Tr.restrictL,if_neg hc16,if_pos hc24];rfl)
  ·
   refine cl rfl (apt (c:=c) (l:=l) hc hok (by omega) hl hlo) rfl<|cl rfl (ihx (c:=aaJ (c++[l])) (aoX (agQ hc hl)) (apW (abO hok hlo)) (by omega)) rfl<|?_
   refine cl rfl (aiH (l:=l)) rfl<|cl rfl (apt (c:=c) (l:=l.rev) hc hok (by omega) hl.rev hlo.rev) rfl<|cl rfl (ihy (c:=aaJ (c++[l.rev])) (aoX (agQ hc hl.rev)) (apW (abO hok hlo.rev)) (by omega)) rfl<|?_
   refine cl rfl ax9 rfl<|?_
   exact rz rfl (by rw[Tr.restrictL,if_neg hc16,if_neg hc24];rfl)
theorem aex: ∀{t:Tr} {c:List LnQ},t.all LB→t.all LnQ.ok→(∀m∈c,LB m)→(∀m∈c,m.ok)→c.length+t.depth≤900→PF GB prog 115 [eT t, .sl (c.map eL)] (eT (Tr.restrictL t c))
 | .leaf _,_,_,_,_,_,_=>ahR
 | .node l x y,c,hb,ho,hc,hok,hn=>ahS hb.1 ho.1 hc hok hn (fun h1 h2 h3=>aex hb.2.1 ho.2.1 h1 h2 h3) (fun h1 h2 h3=>aex hb.2.2 ho.2.2 h1 h2 h3)
def p7:PtQ:=⟨mkRat 1 7,mkRat 1 5⟩
structure LP (l:LnQ):Prop where
 s:LS l
 p:0<l.value p7
def lsR(es:List Int):Nat→Nat→List LnQ×Nat
 |0,a=>([],a)
 |i+1,a=>((lF es a).1::(lsR es i (lF es a).2).1,(lsR es i (lF es a).2).2)
def lsF(es:List Int)(most a:Nat):List LnQ×Nat:=lsR es (aae es ((most:Int)+1) a).1 (aae es ((most:Int)+1) a).2
def aBK(l:LnQ):LnQ:=if(l.value p7).num.sign<0 then l.rev else l
def aGb(xs:List LnQ)(i:Nat):List LnQ:=(xs.take i).map aBK++xs.drop i
def aGp(es:List Int)(a:Nat):List LnQ×Nat:=((lsF es 3 a).1.map aBK,(lsF es 3 a).2)
section
variable {GB:Gh} {C:Ctx} {n:Nat} {Q0:Exit→Act→World→Prop} {fr fr':FrX} {own own':OwX} {cf cf':Cf} {vc:List Prop}
def PR(GB:Gh)(P:Program)(f:FuncId)(ds:List DV)(s:Nat)(ty:TypeId)(rows:List DV):Prop:=
 ∀G vs,GLe GB G→IsLs G ds vs→FnO P f vs [] G (fun v own' G'=> ∃w:SV,v= .slice w.a w.n w.c∧abx G' ⟨w,s,ty,rows,true⟩ own')
theorem asA: ∀(l:List Own),(∀o∈l,o.lo=true)→l.map (relo (flM []))=l
 |[],_=>rfl
 |a::t,h=>by
  have h1:=h a aZ
  rw[cZ,asA t fun o ho=>h o (aK _ ho)]
  congr 1
  cases a
  simp[relo,flM] at*
  exact h1
theorem aws{lk:LK}{bk:BM}{fo:Operand}{args:Array Operand}{tys:Array TypeId}{f:FuncId}{d s:Nat}{ds rows:List DV}{ty ty2:TypeId}{pos:String}{af:Array Edge}{gd:Option (Nat×Bool)}
  (ha:ak3 lk fo args=some (f,ds))(hF:PR GB prog f ds s ty2 rows):OpR prog GB C n lk bk ⟨some d, .call ⟨.value fo,args,tys⟩,ty,pos,af,gd⟩ (.rw d) [(d,some (.b ty2 s rows true))] [d]:=by
 intro hd tl tb K' s1 s2 hf hk
 refine⟨fun ρ G ov a w r Q=>?_⟩
 have r1:=r.mono s1 s2
 obtain⟨h1,h2⟩:=alu ha
 obtain⟨y,hy,hy'⟩:=r1.ev h1
 rw[(aa2 (G:=G)).1 hy'] at hy
 obtain⟨vs,h3,h4⟩:=r1.evDs h2
 refine aew (M:=[]) (rest:=ov) hy h3 (List.Perm.refl _) (hF G vs r.gb h4) hd (fun v own1 G' hG hK a' w' rl=>?_) a w Q ⟨r.h,r.sz,aaP a,r.df⟩
 obtain⟨z,rfl,vs',k1,k2,k3,k4⟩:=hK
 rw[asA _ (k4 rfl)] at rl
 have rl':Rel C n (Sx.put (frA a) (some d) (.slice z.a z.n z.c)) (own1++ov) G' a' w':=rl
 have hdis:=(fW.1 rl'.h.nd).2.2
 have r3:=r.new' (x:=z) (B':= .b ty2 s rows true) (os:=own1) (ov':=own1++ov) (f:= .rw d) (y:= .slice z.a z.n z.c) hf hG.le rl'.h ⟨vs',by simpa using k1,k2,k3,k4⟩ (fun o ho=>cX _ ho)
  (fun q B0 hq e o ho hbq=>⟨cW _ ho,fun hc=>by
   have hx: ∃o1∈own1,o1.b=o.b:=by
    rcases k1 with⟨_,h,_⟩|⟨b0,rest0,lo0,h,hB,_⟩
    ·rw[show z=_ from h] at hc;cases hc
    ·rw[show z=_ from h] at hc;cases hc;exact⟨⟨_,aai vs'++rest0,_,lo0⟩,by rw[hB];exact aZ,rfl⟩
   obtain⟨o1,ho1,he1⟩:=hx
   exact hdis o1 ho1 o ho he1⟩) (by simp[IsX]) (abk rl')
 exact hk.run _ G' _ a' w' r3
def aFn(fr:FrX)(cf:Cf):Option (FuncId×List DV×Nat):=match opC fr cf with
 |some ⟨some d, .call ⟨.value fo,args,_⟩,_,_,_,_⟩=>match ak3 (lkC fr cf) fo args with
  |some (f,ds)=>some (f,ds,d)
  |none=>none
 |_=>none
theorem cr[fu:Fu]{f:FuncId}{d s:Nat}{ds rows:List DV}{ty:TypeId}(ha:aFn fr cf=some (f,ds,d))(hF:PR GB prog f ds s ty rows)
  (hgo:goA tt n fu.n fr own cf (.rw d) [(d,some (.b ty s rows true))] [d]=⟨vc,fr',own',cf'⟩)(k:CfS prog GB C n Q0 fr' own' cf')
  (hv:aah vc:=by first|exact trivial|(simp only[aah];kernel_rfl)|(simp only[aah];omega)|(simp only[aah,aJ,bX,aU];omega)):CfS prog GB C n Q0 fr own cf:=by
 unfold aFn at ha
 split at ha<;>try (cases ha;done)
 rename_i hh
 split at ha<;>cases ha
 rename_i h1
 exact us hh (aws h1 hF) hgo hv k
def aqk(C:Ctx)(s:Nat)(ty:TypeId)(rows:List DV):Ending→World→Prop:=af3 C (fun v own' G'=> ∃w:SV,v= .slice w.a w.n w.c∧abx G' ⟨w,s,ty,rows,true⟩ own')
theorem fnR[fu:Fu]{f:FuncId}{fb:Func}{c:Code}{m s:Nat}{ds rows:List DV}{ty:TypeId}(hf:prog.funcs[f]? =some fb)(hb:fb.body=some c)(hn:(fb.name== "runtime.NumGoroutine")=false)(hm:fb.ntmps=m)(hlen:Nat.ble ds.length m=true)
  (hgo:go tt m fu.n [] (ai7 0 ds) [] (.code c [])=⟨vc,fr,own,cf⟩)(k: ∀C:Ctx,C.mb=[]→CfS prog GB C m (bodyPost prog fb (aqk C s ty rows)) fr own cf)
  (hv:aah vc:=by first|exact trivial|(simp only[aah];kernel_rfl)|(simp only[aah];omega)|(simp only[aah,aJ,bX,aU];omega)):PR GB prog f ds s ty rows:=by
 intro G vs hg hvs
 refine FnO.intro hf hb hn hm (by rw[hvs.len];exact hlen) fun C _ hmb=>?_
 intro a w rl
 have h:=gx' (GB:=GB) (C:=C) (Q0:=bodyPost prog fb (aqk C s ty rows)) hgo hv (k C (by simpa using hmb))
 exact h.run (fun _=>⟨none,0,0⟩) G [] a w ⟨hg,rl.h,rl.sz,rl.df,(fun k f e=>aor hvs rl.fr k f e),(fun nm B e=>by cases e),(fun nm nm' B B' e=>by cases e)⟩
theorem rzR{fb:Func}{t d s:Nat}{ty:TypeId}{rows rws:List DV}(hr:fb.results.toList=[.tmp t])(hl:aaw fr t=some (.rw d))(hw:aaz own d=some (.b ty s rws true))(er:rws=rows):
  CfS prog GB C n (bodyPost prog fb (aqk C s ty rows)) fr own (.ex .ret []):=by
 subst er
 refine⟨fun ρ G ov a w r=>?_⟩
 obtain⟨B,g1,g2⟩:=r.bx _ _ hw
 have hB:abx G ⟨ρ d,s,ty,rws,true⟩ B:=g1
 obtain⟨rest,hp⟩:=ak7 hB g2
 obtain⟨y,hy,hy'⟩:=r.ev (x:= .tmp t) (f:= .rw d) hl
 cases (show y=_ from hy')
 exact ah3 (C:=C) (n:=n) (fr:=frA a) (own:=ov) (G:=G) (vs:=[.slice (ρ d).a (ρ d).n (ρ d).c]) (by rw[hr];exact .tmp hy .nil) (B++rest) B hp (mY _ _) ⟨ρ d,rfl,hB⟩ a w ⟨r.h,r.sz,aaP a,r.df⟩
theorem aFD{fb:Func}{t s:Nat}{ty:TypeId}{rows:List DV}(hr:fb.results.toList=[.tmp t])(hl:aaw fr t=some .nl)(er:rows=[]):
  CfS prog GB C n (bodyPost prog fb (aqk C s ty rows)) fr own (.ex .ret []):=by
 subst er
 refine⟨fun ρ G ov a w r=>?_⟩
 obtain⟨y,hy,hy'⟩:=r.ev (x:= .tmp t) (f:= .nl) hl
 cases (show y=_ from hy')
 exact ah3 (C:=C) (n:=n) (fr:=frA a) (own:=ov) (G:=G) (vs:=[.slice none 0 0]) (by rw[hr];exact .tmp hy .nil) ([]++ov) [] (List.Perm.refl _) (kW _) ⟨⟨none,0,0⟩,rfl,[], .inl ⟨rfl,rfl,rfl⟩,aaM.2 rfl,fun v h=>(by cases h),fun _ o h=>(by cases h)⟩ a w ⟨r.h,r.sz,aaP a,r.df⟩
end
section
variable {GB:Gh} {C:Ctx} {n:Nat} {Q0:Exit→Act→World→Prop} {fr fr':FrX} {own own':OwX} {cf cf':Cf} {vc:List Prop}
theorem awC{lk:LK}{bk:BM}{fo:Operand}{args:Array Operand}{tys:Array TypeId}{f:FuncId}{nm d:Nat}{l:List (Option DV)}{s:Nat}{ty ty0:TypeId}{pos:String}{af:Array Edge}{gd:Option (Nat×Bool)}{dsi dso:List DV}{lo:Bool}(hne:Nat.beq nm d=false)
  (ha:asI lk fo args=some (f,nm,l))(hb:bk nm=some (.b ty0 s dsi lo))(hF:PB GB prog f (mkB l) s ty0 dsi (fun w=> .v (.slice w.a w.n w.c)) dso):OpR prog GB C n lk bk ⟨some d, .call ⟨.value fo,args,tys⟩,ty,pos,af,gd⟩ (.rw d) [(nm,none),(d,some (.b ty0 s dso lo))] [d]:=by
 intro hd tl tb K' s1 s2 hf hk
 refine⟨fun ρ G ov a w r Q=>?_⟩
 have r1:=r.mono s1 s2
 unfold asI at ha
 split at ha<;>try (cases ha;done)
 rename_i h1
 split at ha<;>cases ha
 rename_i h2
 obtain⟨y,hy,hy'⟩:=r1.ev h1
 rw[(aa2 (G:=G)).1 hy'] at hy
 obtain⟨B,g1,g2⟩:=r1.bx _ _ hb
 have hB:abx G ⟨ρ nm,s,ty0,dsi,lo⟩ B:=g1
 obtain⟨vs,h7,h8⟩:=alE r1 (z:=ρ nm) h2 (fun nm e=>by cases e;rfl)
 have hp: ∃rest,ov.Perm (B++rest)∧ ∀o∈ov,(∀o'∈B,o.b≠o'.b)→o∈rest:=by
  rcases hB with⟨vs',⟨_,_,e⟩|⟨b0,r0,lo0,_,e,_⟩,_⟩
  ·rw[e];exact⟨ov,List.Perm.refl _,fun o ho _=>ho⟩
  ·rw[e] at g2⊢
   obtain⟨l1,l2,e2⟩:=kR (g2 _ aZ)
   rw[e2]
   refine⟨l1++l2,nX,fun o ho hno=>?_⟩
   rcases bS.1 ho with ho|ho
   ·exact cX _ ho
   ·rcases aS.1 ho with rfl|ho
    ·exact absurd rfl (hno _ aZ)
    ·exact cW _ ho
 obtain⟨rest,h5,h6⟩:=hp
 refine aew (M:=B) (rest:=rest) hy h7 h5 (hF G (ρ nm) vs B r.gb hB.weak h8) hd (fun v own1 G' hG hK a' w' rl=>?_) a w Q ⟨r.h,r.sz,aaP a,r.df⟩
 obtain⟨z,hr,vs',k1,k2,k3,k4⟩:=hK
 have k1':=k1.relo (flM B)
 have e2:lo=true→ ∀o∈own1.map (relo (flM B)),o.lo=true:=fun hl o ho=>by
  obtain⟨o',_,rfl⟩:=bW.1 ho
  obtain⟨_,_,_,_,hlo⟩:=hB
  exact ak6 _ (hlo hl)
 generalize own1.map (relo (flM B))=B' at rl e2 k1'
 have rl':Rel C n (Sx.put (frA a) (some d) v) (B'++rest) G' a' w':=rl
 have hdis:=(fW.1 rl'.h.nd).2.2
 have r2:=r.dropB nm
 have hnn:nm≠d:=fun e=>by subst e;rw[nT] at hne;cases hne
 have hf2:acH [d] (some d) tl (Sx.upB tb [(nm,none)]):=fun q hq=>by
  obtain⟨f1,f2⟩:=hf q hq
  refine⟨f1,fun k B e1 e=>?_⟩
  simp only[Sx.upB] at e
  split at e
  ·cases e
  ·exact f2 k B e1 e
 have hsep: ∀q B0,Sx.upB tb [(nm,none)] q=some B0→ ∀o∈ov,(ρ q).a=some ⟨o.b,0,none⟩→o∈rest:=fun q B0 e o ho hbq=>by
  simp only[Sx.upB] at e
  split at e
  ·cases e
  ·rename_i hqn
   refine h6 o ho fun o' ho' he=>?_
   exact r.dj nm q _ _ (s2 _ _ hb) e (Ne.symm hqn) o'.b (g1.blk ho') (by rw[hbq,he])
 rw[aa2.1 hr] at rl'
 have r3:=r2.new' (x:=z) (B':= .b ty0 s dso lo) (os:=B') (ov':=B'++rest) (f:= .rw d) (y:= .slice z.a z.n z.c) hf2 hG.le rl'.h ⟨vs',by simpa using k1',k2,k3,e2⟩ (fun o ho=>cX _ ho)
  (fun q B0 hq e o ho hbq=>⟨cW _ (hsep q B0 e o ho hbq),fun hc=>by
   have hx: ∃o1∈B',o1.b=o.b:=by
    rcases k1' with⟨_,h,_⟩|⟨b0,rest0,lo0,h,hB,_⟩
    ·rw[show z=_ from h] at hc;cases hc
    ·rw[show z=_ from h] at hc;cases hc;exact⟨⟨_,aai vs'++rest0,_,lo0⟩,by rw[hB];exact aZ,rfl⟩
   obtain⟨o1,ho1,he1⟩:=hx
   exact hdis o1 ho1 o (hsep q B0 e o ho hbq) he1⟩) (by simp[IsX]) (abk rl')
 exact hk.run _ G' _ a' w' r3
theorem cq[fu:Fu]{f:FuncId}{nm d:Nat}{l:List (Option DV)}{ty:TypeId}{s:Nat}{dsi dso:List DV}{lo:Bool}(dso':List DV)(ha:aDB fr own cf=some ⟨f,nm,l,ty,s,dsi,lo,d⟩)(hF:PB GB prog f (mkB l) s ty dsi (fun w=> .v (.slice w.a w.n w.c)) dso)(he:dso=dso')
  (hgo:goA tt n fu.n fr own cf (.rw d) [(nm,none),(d,some (.b ty s dso' lo))] [d]=⟨vc,fr',own',cf'⟩)(k:CfS prog GB C n Q0 fr' own' cf')
  (hv:aah vc:=by first|exact trivial|(simp only[aah];kernel_rfl)|(simp only[aah];omega)|(simp only[aah,aJ,bX,aU];omega)):CfS prog GB C n Q0 fr own cf:=by
 subst he
 unfold aDB at ha
 split at ha<;>try (cases ha;done)
 rename_i hh
 split at ha<;>try (cases ha;done)
 rename_i h1
 split at ha<;>try (cases ha;done)
 rename_i h2
 rw[cond_eq_ite] at ha
 split at ha<;>cases ha
 rename_i h3
 exact us hh (awC (by cases hq:Nat.beq nm d with|false=>rfl|true=>exact absurd hq h3) h1 h2 hF) hgo hv k
def at1(C:Ctx)(s:Nat)(ty:TypeId)(dso:List DV):Ending→World→Prop:=af3 C (fun v own' G'=> ∃w',Is G' (.v (.slice w'.a w'.n w'.c)) v∧abx G' ⟨w',s,ty,dso,false⟩ own')
theorem fnQ[fu:Fu]{f:FuncId}{fb:Func}{c:Code}{k s:Nat}{l:List (Option DV)}{dsi dso:List DV}{ty:TypeId}(hf:prog.funcs[f]? =some fb)(hb:fb.body=some c)(hn:(fb.name== "runtime.NumGoroutine")=false)(hm:fb.ntmps=k)(hlen:Nat.ble l.length k=true)
  (hgo:go tt k fu.n [] (ai4 0 l) [(NM,some (.b ty s dsi false))] (.code c [])=⟨vc,fr,own,cf⟩)(h: ∀C,CfS prog GB C k (bodyPost prog fb (at1 C s ty dso)) fr own cf)
  (hv:aah vc:=by first|exact trivial|(simp only[aah];kernel_rfl)|(simp only[aah];omega)|(simp only[aah,aJ,bX,aU];omega)):PB GB prog f (mkB l) s ty dsi (fun w=> .v (.slice w.a w.n w.c)) dso:=by
 intro G w vs B hg hB hvs
 refine FnO.intro hf hb hn hm (by rw[hvs.len,alN];exact hlen) fun C _ hmb=>?_
 intro a wd rl
 have h1:=gx' (GB:=GB) (C:=C) (Q0:=bodyPost prog fb (at1 C s ty dso)) hgo hv (h C)
 refine h1.run (fun _=>w) G (Sx.asB B) a wd ⟨hg,rl.h,rl.sz,rl.df,fun k f e=>?_,fun nm B' e=>?_,fun nm nm' B' B2 e e' hne=>?_⟩
 ·obtain⟨y,⟨j,hj,hy⟩,h2⟩:=aet (ρ:=fun _=>w) (w:=w) rfl 0 hvs k f e
  refine⟨y,rl.fr k y ?_,h2⟩
  rw[hj];exact acr vs 0 j y hy
 ·rw[aaH] at e
  split at e
  ·cases e;exact⟨Sx.asB B,hB.asB,fun o ho=>ho⟩
  ·cases e
 ·rw[aaH] at e e'
  split at e<;>split at e'
  ·rename_i h2 h3;exact absurd (h2.trans h3.symm) hne
  ·cases e'
  ·cases e
  ·cases e
theorem rzQ{fb:Func}{t d s:Nat}{ty:TypeId}{ds dso:List DV}(hr:fb.results.toList=[.tmp t])(hl:aaw fr t=some (.rw d))(hw:aaz own d=some (.b ty s ds false))(ed:ds=dso):
  CfS prog GB C n (bodyPost prog fb (at1 C s ty dso)) fr own (.ex .ret []):=by
 subst ed
 refine⟨fun ρ G ov a w r=>?_⟩
 obtain⟨B,g1,g2⟩:=r.bx _ _ hw
 have hB:abx G ⟨ρ d,s,ty,ds,false⟩ B:=g1
 obtain⟨rest,hp⟩:=ak7 hB g2
 obtain⟨y,hy,hy'⟩:=r.ev (x:= .tmp t) (f:= .rw d) hl
 cases (show y=_ from hy')
 exact ah3 (C:=C) (n:=n) (fr:=frA a) (own:=ov) (G:=G) (vs:=[.slice (ρ d).a (ρ d).n (ρ d).c]) (by rw[hr];exact .tmp hy .nil) (B++rest) B hp (mY _ _) ⟨ρ d,aa2.2 rfl,hB⟩ a w ⟨r.h,r.sz,aaP a,r.df⟩
/-! the same with nil as the row of nothing, the last argument -/
def aAF(lk:LK):List Operand→Option (List (Option DV))
 |[]=>none
 |[x]=>match evX lk x with
  |some .nl=>some [none]
  |_=>none
 |x::t=>match evX lk x,aAF lk t with
  |some f,some l=>match aj8 f with
   |some d=>some (some d::l)
   |none=>none
  |_,_=>none
def azO(lk:LK)(fo:Operand)(args:Array Operand):Option (FuncId×List (Option DV)):=match evX lk fo with
 |some (.d (.v (.func (.func f) ⟨[]⟩ ⟨[]⟩)))=>match aAF lk args.toList with
  |some l=>some (f,l)
  |_=>none
 |_=>none
theorem art{lk:LK}{bk:BM}{ρ:NE}{G:Gh}{ov:List Own}{a:Act}{w:World}(r:RlX GB C n lk bk ρ G ov a w): ∀{x:List Operand} {l:List (Option DV)},aAF lk x=some l→ ∃y,af2 (frA a) x=some y∧IsLs G (mkB l ⟨none,0,0⟩) y
 |[],l,e=>by cases e
 |[x],l,e=>by
  simp only[aAF] at e
  split at e<;>cases e
  rename_i h1
  obtain⟨y,h3,h4⟩:=r.ev h1
  cases (show y=_ from h4)
  exact⟨[Value.slice none 0 0],by simp only[af2,h3], .cons ((aa2 (G:=G)).2 rfl) .nil⟩
 |x::x2::t,l,e=>by
  simp only[aAF] at e
  split at e
  ·rename_i f l' h1 h2
   cases hd:aj8 f with
   |none=>rw[hd] at e;cases e
   |some d=>
   rw[hd] at e;cases e
   obtain⟨y,h3,h4⟩:=r.ev h1
   obtain⟨ys,h5,h6⟩:=art r (x:=x2::t) (by simpa only[aAF] using h2)
   exact⟨y::ys,by simp only[af2,h3] at h5⊢;rw[h5], .cons (aco h4 hd) h6⟩
  ·cases e
theorem atM{lk:LK}{bk:BM}{fo:Operand}{args:Array Operand}{tys:Array TypeId}{f:FuncId}{d:Nat}{l:List (Option DV)}{s:Nat}{ty ty0:TypeId}{pos:String}{af:Array Edge}{gd:Option (Nat×Bool)}{dso:List DV}
  (ha:azO lk fo args=some (f,l))(hF:PB GB prog f (mkB l) s ty0 [] (fun w=> .v (.slice w.a w.n w.c)) dso):OpR prog GB C n lk bk ⟨some d, .call ⟨.value fo,args,tys⟩,ty,pos,af,gd⟩ (.rw d) [(d,some (.b ty0 s dso true))] [d]:=by
 intro hd tl tb K' s1 s2 hf hk
 refine⟨fun ρ G ov a w r Q=>?_⟩
 have r1:=r.mono s1 s2
 unfold azO at ha
 split at ha<;>try (cases ha;done)
 rename_i h1
 split at ha<;>cases ha
 rename_i h2
 obtain⟨y,hy,hy'⟩:=r1.ev h1
 rw[(aa2 (G:=G)).1 hy'] at hy
 obtain⟨vs,h7,h8⟩:=art r1 h2
 refine aew (M:=[]) (rest:=ov) hy h7 (List.Perm.refl _) (hF G ⟨none,0,0⟩ vs [] r.gb ⟨[], .nil _ _, .nil,by simp,fun h=>by cases h⟩ h8) hd (fun v own1 G' hG hK a' w' rl=>?_) a w Q ⟨r.h,r.sz,aaP a,r.df⟩
 obtain⟨z,hr,vs',k1,k2,k3,k4⟩:=hK
 have k1':=k1.relo (flM [])
 have e2: ∀o∈own1.map (relo (flM [])),o.lo=true:=fun o ho=>by
  obtain⟨o',_,rfl⟩:=bW.1 ho
  rfl
 generalize own1.map (relo (flM []))=B' at rl e2 k1'
 have rl':Rel C n (Sx.put (frA a) (some d) v) (B'++ov) G' a' w':=rl
 have hdis:=(fW.1 rl'.h.nd).2.2
 rw[aa2.1 hr] at rl'
 have r3:=r.new (x:=z) (B':= .b ty0 s dso true) (os:=B') (ov':=B'++ov) (f:= .rw d) (y:= .slice z.a z.n z.c) hf hG.le rl'.h ⟨vs',by simpa using k1',k2,k3,fun _=>e2⟩ (fun o ho=>cX _ ho) (fun o ho=>cW _ ho)
  (fun o ho hc=>by
   have hx: ∃o1∈B',o1.b=o.b:=by
    rcases k1' with⟨_,h,_⟩|⟨b0,rest0,lo0,h,hB,_⟩
    ·rw[show z=_ from h] at hc;cases hc
    ·rw[show z=_ from h] at hc;cases hc;exact⟨⟨_,aai vs'++rest0,_,lo0⟩,by rw[hB];exact aZ,rfl⟩
   obtain⟨o1,ho1,he1⟩:=hx
   exact hdis o1 ho1 o ho he1) (by simp[IsX]) (abk rl')
 exact hk.run _ G' _ a' w' r3
def aCK(fr:FrX)(cf:Cf):Option (FuncId×List (Option DV)×Nat):=match opC fr cf with
 |some ⟨some d, .call ⟨.value fo,args,_⟩,_,_,_,_⟩=>match azO (lkC fr cf) fo args with
  |some (f,l)=>some (f,l,d)
  |none=>none
 |_=>none
theorem cqn[fu:Fu]{f:FuncId}{d:Nat}{l:List (Option DV)}{ty:TypeId}{s:Nat}{dso:List DV}(dso':List DV)(ha:aCK fr cf=some (f,l,d))(hF:PB GB prog f (mkB l) s ty [] (fun w=> .v (.slice w.a w.n w.c)) dso)(he:dso=dso')
  (hgo:goA tt n fu.n fr own cf (.rw d) [(d,some (.b ty s dso' true))] [d]=⟨vc,fr',own',cf'⟩)(k:CfS prog GB C n Q0 fr' own' cf')
  (hv:aah vc:=by first|exact trivial|(simp only[aah];kernel_rfl)|(simp only[aah];omega)|(simp only[aah,aJ,bX,aU];omega)):CfS prog GB C n Q0 fr own cf:=by
 subst he
 unfold aCK at ha
 split at ha<;>try (cases ha;done)
 rename_i hh
 split at ha<;>cases ha
 rename_i h1
 exact us hh (atM h1 hF) hgo hv k
end
/-! append to a row that was handed over -/
section
variable {P:Program} {T:TT} {GB:Gh} {C:Ctx} {n:Nat} {lk:LK} {bk:BM} {ρ:NE} {G:Gh} {ov:List Own} {a:Act} {w:World}
variable {dst:Option Nat} {t t' ty':TypeId} {pos:String} {af:Array Edge} {gd:Option (Nat×Bool)} {x y:Operand} {e s by_:Nat}
theorem avp{d nm:Nat}{i:TI}{z:DV}{ds ds2:List DV}[hT:acN P t e s by_][hN:TyN P t'](hi:aft P e=some i)(hz:zeE i=some z)(hs:Nat.beq z.cells.length s=true)(hx:evX lk x=some (.rw nm))(hb:bk nm=some (.b e s ds false))(hy:atK lk bk s y=some ds2)(hk2:acI s ds2)
  (hby:Nat.blt 0 by_=true)(hbd:(ds.length+ds2.length)*by_≤140737488355328)(hnd:Nat.beq nm d=false){ds':List DV}(hds:ds++ds2=ds'):
  OpR P GB C n lk bk ⟨some d, .call ⟨.builtin .append, #[x,y], #[t,t']⟩,ty',pos,af,gd⟩ (.rw d) [(nm,none),(d,some (.b e s ds' false))] [d]:=by
 intro hd tl tb K s1 s2 hf hk
 refine⟨fun ρ G ov a w r Q=>?_⟩
 subst hds
 have r1:=r.mono s1 s2
 obtain⟨v,hz1,hz2,hz3⟩:=akA hi hz
 have cz:=((hz2 G).cells hz3).1.len
 replace hs:=aT hs
 rw[oK] at hby
 have hne:nm≠d:=fun e=>by subst e;simp at hnd
 obtain⟨u,hx',hx2⟩:=r1.ev hx
 cases hx2
 obtain⟨B,hB0,hBo⟩:=r1.bx _ _ hb
 have hB1:abx G ⟨ρ nm,s,e,ds,false⟩ B:=hB0
 clear hB0
 obtain⟨vs,hB,hv,hvs,_⟩:=hB1
 simp only[] at hB hv hvs
 obtain⟨w2,us,hy',h2,h3,h4,h5,h6⟩:=al1 (P:=P) r1 hy hk2
 have hus:(aai us).length=us.length*s:=aav us h4
 have hbd':(vs.length+us.length)*by_≤140737488355328:=by rw[hv.len,h3.len];exact hbd
 have hall: ∀v∈vs++us,(aaf v).length=s:=fun v hv=>by
  rcases bS.1 hv with hv|hv
  ·exact hvs v hv
  ·exact h4 v hv
 have rd:=r.dropB nm
 have hf':acH [d] (some d) tl (Sx.upB tb [(nm,none)]):=fun m hm=>by
  obtain⟨g1,g2⟩:=hf m hm
  refine⟨g1,fun k B' hk e=>g2 k B' hk ?_⟩
  simp only[Sx.upB] at e
  split at e
  ·cases e
  ·exact e
 have hbk: ∀m B',(Sx.upB tb [(nm,none)]) m=some B'→m≠nm∧tb m=some B':=fun m B' e=>by
  simp only[Sx.upB] at e
  split at e
  ·cases e
  ·exact⟨by assumption,e⟩
 have hnew: ∀{z:SV} {ov':List Own} {B1:List Own} {a':Act} {w':World} {dz:List DV},abx G ⟨z,s,e,dz,false⟩ B1→(∀o∈B1,o∈ov')→(∀m B',m≠d→(Sx.upB tb [(nm,none)]) m=some B'→ ∀o∈ov,(ρ m).a=some ⟨o.b,0,none⟩→o∈ov'∧z.a≠some ⟨o.b,0,none⟩)→
   SX GB C n (upL tl (some d) (.rw d)) (Sx.upB (Sx.upB tb [(nm,none)]) [(d,some (.b e s dz false))]) K→Rel C n (Sx.put (frA a) (some d) (.slice z.a z.n z.c)) ov' G a' w'→K a' w':=fun hB1 hos hov hk1 rl=>
  hk1.run _ _ _ _ _ (rd.new' (f:= .rw d) (y:= .slice _ _ _) hf' (GLe.refl _) rl.h (hB1.toBk (by simp)) hos hov (by show _=_;simp) (abk rl))
 have hfin: ∀(b:Nat) (lo1:Bool) (cap':Nat) (rest':List Value) (ov1:List Own) a' w',vs.length+us.length≤cap'→rest'.length+(vs.length+us.length)*s=cap'*s→(∀o∈ov,(ρ nm).a≠some ⟨o.b,0,none⟩→o∈ov1)→
   Rel C n (put (frA a) (some d) (.slice (some ⟨b,0,none⟩) (vs.length+us.length) cap')) (⟨b,aai (vs++us)++rest',e,lo1⟩::ov1) G a' w'→K a' w':=by
  intro b lo1 cap' rest' ov1 a' w' hc hr ho1 rl
  have hnd':=(bN.1 rl.h.nd).1
  refine hnew (z:=⟨some ⟨b,0,none⟩,vs.length+us.length,cap'⟩) (B1:=[⟨b,aai (vs++us)++rest',e,lo1⟩]) ⟨vs++us, .inr ⟨b,rest',lo1,by simp,rfl,aav _ hall,?_,by simpa using hc⟩,hv.app h3,hall,fun h=>by cases h⟩
   (fun o ho=>by rw[aY.1 ho];exact aZ) (fun m B' hm e o ho hmo=>?_) hk rl
  ·rw[aav _ hall,aW]
   simp only[]
   omega
  ·obtain⟨h7,h8⟩:=hbk m B' e
   have ho2:=ho1 o ho fun hc=>r.dj m nm B' _ h8 (s2 _ _ hb) h7 _ hmo hc
   exact⟨aK _ ho2,fun e'=>by cases e';exact hnd' o ho2 rfl⟩
 rcases hB with⟨e1,e2,e3⟩|⟨b,rest,lo',k3,k4,k5,k6,k7⟩
 ·subst e1
  rw[e2] at hx'
  by_cases hne:us=[]
  ·subst hne
   have:ds2=[]:=bY (by rw[←h3.len];rfl)
   subst this
   rw[h2] at hy'
   refine agI hx' hy' hd (fun a' w' rl=>?_) a w Q ⟨r.h,r.sz,aaP a,r.df⟩
   refine hnew (z:=⟨none,0,0⟩) (B1:=[]) ⟨[], .inl ⟨rfl,rfl,rfl⟩,by simpa using hv,by simp,fun h=>by cases h⟩ (fun o ho=>by cases ho) (fun m B' hm e o ho hmo=>⟨ho,fun e'=>by cases e'⟩) hk rl
  ·have hup:0<us.length:=mS.2 hne
   rw[h2] at hy' h6
   refine acX (z:=v) (xs:=[]) (ys:=aai us) hx' hy' aeu h6 (by show(0:Nat)<0+us.length;omega) hby (by simpa using hbd') hd (fun b cap' hc a' w' rl=>?_) a w Q ⟨r.h,r.sz,aaP a,r.df⟩
   exact hfin b true cap' (abC v (cap'-us.length)) ov a' w' (by simpa using hc) (by rw[abY,cz,hs,←cY];simp at hc⊢;congr 1;omega) (fun o ho _=>ho) (by simpa using rl)
 ·subst k4
  have ha:(ρ nm).a=some ⟨b,0,none⟩:=by rw[k3]
  have hn:(ρ nm).n=vs.length:=by rw[k3]
  rw[ha,hn] at hx'
  rw[h2] at hy' h6
  obtain⟨ov1,o1,o2⟩:=alc.of_mem (hBo _ aZ)
  refine akM (z:=v) (xs:=aai vs) (ys:=aai us) (rest:=rest) (own1:=ov1) hx' hy' o1 k5 k6 k7 h6 hus h5 hby hbd' (by rw[cz,hs]) hd (fun b' lo2 cap' rest' hc hr a' w' rl=>?_) a w Q ⟨r.h,r.sz,aaP a,r.df⟩
  rw[←ac1] at rl
  exact hfin b' lo2 cap' rest' ov1 a' w' hc hr (fun o ho hne=>o2 o ho fun e'=>hne (by rw[ha,e'])) rl
end
section
variable {GB:Gh} {C:Ctx} {n:Nat} {Q0:Exit→Act→World→Prop} {fr fr':FrX} {own own':OwX} {cf cf':Cf} {vc:List Prop}
def aFe(fr:FrX)(own:OwX)(cf:Cf):Option (Nat×Nat×Nat×Nat×Nat×List DV×List DV):=match opC fr cf with
 |some ⟨some d, .call ⟨.builtin .append,⟨[x,y]⟩,⟨[t,t']⟩⟩,_,_,_,_⟩=>match abD tt t with
  |some ⟨.sl e s b,_,_,_⟩=>match abD tt t' with
   |some ⟨.sl _ _ _,_,_,_⟩=>match abD tt e with
    |some i=>match zeE i with
     |some z=>bif Nat.beq z.cells.length s&&Nat.blt 0 b then(match atK (lkC fr cf) (bkC fr own cf) s y with
      |some ds2=>match evX (lkC fr cf) x with
       |some (.rw nm)=>match bkC fr own cf nm with
        |some (.b e' s' ds false)=>bif (Nat.beq e' e&&Nat.beq s' s)&&!Nat.beq nm d then some (d,nm,e,s,b,ds,ds2) else none
        |_=>none
       |_=>none
      |none=>none) else none
     |none=>none
    |none=>none
   |_=>none
  |_=>none
 |_=>none
theorem apB[fu:Fu]{d nm:Nat}{e s b:Nat}{ds ds2:List DV}(ds':List DV)(h:aFe fr own cf=some (d,nm,e,s,b,ds,ds2))(hds:ds++ds2=ds')(ho2:acI s ds2)(hgo:goA tt n fu.n fr own cf (.rw d) [(nm,none),(d,some (.b e s ds' false))] [d]=⟨vc,fr',own',cf'⟩)(k:CfS prog GB C n Q0 fr' own' cf')
  (hbd:(ds.length+ds2.length)*b≤140737488355328:=by simp;omega)
  (hv:aah vc:=by first|exact trivial|(simp only[aah];kernel_rfl)|(simp only[aah];omega)|(simp only[aah,aJ,bX,aU];omega)):CfS prog GB C n Q0 fr own cf:=by
 unfold aFe at h
 split at h<;>try (cases h;done)
 rename_i hh
 split at h<;>try (cases h;done)
 rename_i hT
 split at h<;>try (cases h;done)
 rename_i hT'
 split at h<;>try (cases h;done)
 rename_i hi
 split at h<;>try (cases h;done)
 rename_i hz
 rw[cond_eq_ite] at h
 split at h<;>try (cases h;done)
 rename_i hc
 simp only[bL] at hc
 split at h<;>try (cases h;done)
 rename_i hy
 have:=afD (ab2 _ _ hT) rfl
 have hN:TyN prog _:=⟨_,(afD (ab2 _ _ hT') rfl).un⟩
 split at h<;>try (cases h;done)
 rename_i hx
 split at h<;>try (cases h;done)
 rename_i hb
 rw[cond_eq_ite] at h
 split at h<;>cases h
 rename_i hq
 simp only[bL,fS] at hq
 cases aT hq.1.1
 cases aT hq.1.2
 exact us hh (avp (ab2 _ _ hi) hz hc.1 hx hb hy ho2 hc.2 hbd hq.2 hds) hgo hv k
end
theorem axn(xs ys:List NQ)(n:NQ):((xs++(n::ys)).map eN)[((xs.length:Nat):Int).toNat]? =some (eN n):=by simp
theorem aw2(xs ys:List NQ)(n m:NQ)(e:DV)(h:e=eN m):((xs++(n::ys)).map eN).set ((xs.length:Nat):Int).toNat e=(xs++(m::ys)).map eN:=by subst h;simp
theorem am5{ns:List NQ}:PB GB prog 60 (mkB [some (eT (.leaf true)),none]) 8 221 (ns.map eN) (fun w=> .tp ([]++ .v (.slice w.a w.n w.c)::[.v (.int .i64 (Tr.num (.leaf true) ns.length))])) ((ns++Tr.wr (.leaf true) ns.length).map eN):=by
 refine fnB (fu:=⟨12⟩) func60 J J ntmps60 J J (fun C=>?_)
 refine knT (fu:=⟨9⟩) J J J<|knT J J J<|?_
 exact rzB J J J J J (by simp[Tr.wr]) rfl
theorem alM{ns:List NQ}:PB GB prog 60 (mkB [some (eT (.leaf false)),none]) 8 221 (ns.map eN) (fun w=> .tp ([]++ .v (.slice w.a w.n w.c)::[.v (.int .i64 (Tr.num (.leaf false) ns.length))])) ((ns++Tr.wr (.leaf false) ns.length).map eN):=by
 refine fnB (fu:=⟨12⟩) func60 J J ntmps60 J J (fun C=>?_)
 refine knT (fu:=⟨9⟩) J J J<|knF J J J<|?_
 exact rzB J J J J J (by simp[Tr.wr]) rfl
theorem al3{l:LnQ}{s u:Tr}{ns:List NQ}(hl:BL l 96)(hs:ns.length+(1+s.size+u.size)≤1000000)(ihs: ∀{ns:List NQ},ns.length+s.size≤1000000→PB GB prog 60 (mkB [some (eT s),none]) 8 221 (ns.map eN) (fun w=> .tp ([]++ .v (.slice w.a w.n w.c)::[.v (.int .i64 (Tr.num s ns.length))])) ((ns++Tr.wr s ns.length).map eN))(ihu: ∀{ns:List NQ},ns.length+u.size≤1000000→PB GB prog 60 (mkB [some (eT u),none]) 8 221 (ns.map eN) (fun w=> .tp ([]++ .v (.slice w.a w.n w.c)::[.v (.int .i64 (Tr.num u ns.length))])) ((ns++Tr.wr u ns.length).map eN)):PB GB prog 60 (mkB [some (eT (.node l s u)),none]) 8 221 (ns.map eN) (fun w=> .tp ([]++ .v (.slice w.a w.n w.c)::[.v (.int .i64 (Tr.num (.node l s u) ns.length))])) ((ns++Tr.wr (.node l s u) ns.length).map eN):=by
 refine fnB (fu:=⟨12⟩) func60 J J ntmps60 J J (fun C=>?_)
 refine knF (fu:=⟨9⟩) J J J<|?_
 refine eqF 20 (.d (.v (.int .i64 (ns.length:Nat)))) rfl (by simp) ?_
 refine gx rfl<|cl rfl (aEJ hl) rfl<|rf J J<|apB ((ns++[(⟨l,0,0⟩:NQ)]).map eN) rfl (by rw[aN]<;>rfl) (aEu [(⟨l,0,0⟩:NQ)]) rfl<|?_
 refine cb _ rfl (ihs (ns:=ns++[(⟨l,0,0⟩:NQ)]) (by simp;omega)) J J<|cb (hv:=by simp only[aah];exact(by simp;omega)) ((ns++((⟨l,0,0⟩:NQ)::(s.wr (ns.length+1)++u.wr (ns.length+1+s.size)))).map eN) rfl (ihu (ns:=ns++[(⟨l,0,0⟩:NQ)]++s.wr (ns++[(⟨l,0,0⟩:NQ)]).length) (by simp[Tr.wr_len];omega)) (by simp[Tr.wr_len,iL,jX 1]) rfl<|?_
 refine sb (hv:=by simp only[aah];exact(by simp;omega)) (eN ⟨l,0,0⟩) ((ns++((⟨l,s.num (ns.length+1),0⟩:NQ)::(s.wr (ns.length+1)++u.wr (ns.length+1+s.size)))).map eN) rfl (axn ns _ ⟨l,0,0⟩) rfl (by rw[aw2 _ _ _ ⟨l,s.num (ns.length+1),0⟩ _ (by simp[eN,DV.cells])]) rfl<|?_
 refine sb (eN ⟨l,s.num (ns.length+1),0⟩) ((ns++Tr.wr (.node l s u) ns.length).map eN) rfl (axn ns _ ⟨l,s.num (ns.length+1),0⟩) rfl (by rw[aw2 _ _ _ ⟨l,s.num (ns.length+1),u.num (ns.length+1+s.size)⟩ _ (by simp[eN,DV.cells,Tr.wr_len,iL,jX 1])];simp[Tr.wr]) rfl<|?_
 exact rzB J J J J J J J
theorem aou: ∀{t:Tr} {ns:List NQ},t.all (fun l=>BL l 96)→ns.length+t.size≤1000000→PB GB prog 60 (mkB [some (eT t),none]) 8 221 (ns.map eN) (fun w=> .tp ([]++ .v (.slice w.a w.n w.c)::[.v (.int .i64 (Tr.num t ns.length))])) ((ns++Tr.wr t ns.length).map eN)
 | .leaf true,ns,_,_=>am5
 | .leaf false,ns,_,_=>alM
 | .node l s u,ns,hb,hs=>al3 hb.1 hs (fun h=>aou hb.2.1 h) (fun h=>aou hb.2.2 h)
theorem aAl{t:Tr}(hb:t.all (fun l=>BL l 96))(hs:t.size≤1000000):PF GB prog 14 [eT t] (eA t):=by
 refine fn func14 J J ntmps14 J J (fun C=>?_)
 refine cbn _ rfl (aou (t:=t) (ns:=[]) hb (by simpa using hs)) J J<|?_
 refine fzE 6 rfl ?_
 exact rz J J
theorem aDK(ds:List Int):acI 1 (ds.map vI):=fun d hd=>by
 obtain⟨n,_,rfl⟩:=bW.1 hd;exact⟨rfl,rfl⟩
theorem auB(es:List Int):(es.map vI).take (min es.length 400)=(es.take 400).map vI:=by
 rw[gX]
 rcases Nat.le_total es.length 400 with h|h
 ·rw[gT h,aV (by simp),aV (by simpa using h)]
 ·rw[Nat.min_eq_right h]
theorem aEi{es:List Int}(hb:es.length≤1125899906842624):PN GB prog 11 [.sl (es.map vI)] 104 Unit (fun _=>[.sl ((es.take 400).map vI), .v (.int .i64 (0:Nat))]):=by
 have hel:(es.map vI).length=es.length:=by simp
 refine fnN func11 J J ntmps11 J J (fun C hmb=>?_)
 refine sc' 0 (min es.length 400) ((es.take 400).map vI) J J (by rw[hel];show(if _ then _ else _:Int)=_;split<;>omega) (auB es) (aDK _) (by omega) (by omega) rfl<|?_
 exact rzN () J J J J J
theorem aem{t:Tr}(hb:t.all LB)(hok:t.all LnQ.ok)(hd:t.depth≤900):PF GB prog 52 [eT t] (eT (t.restrict [])):=by
 refine fn func52 J J ntmps52 J J (fun C=>?_)
 refine cl rfl (aex (t:=t) (c:=[]) hb hok (by simp) (by simp) (by simpa using hd)) rfl<|?_
 exact rz rfl (by rw[←Tr.restrictL_eq t [] [] hok (by simp) aba.nil (fun p=>by unfold InD InL;simp)];rfl)
theorem amx{cuts:List Rat}{marks:List Bool}: ∀k,2*(acg cuts marks k).length≤k+(if 0<k∧marks.getD (k-1) false=true then 1 else 0)
 |0=>by rw[acg];simp
 |k+1=>by
  have ih:=amx (cuts:=cuts) (marks:=marks) k
  rw[acg]
  simp only[kU]
  by_cases hm:marks.getD k false=true
  ·rw[if_pos hm,if_pos (show 0<k+1∧marks.getD k false=true from⟨by omega,hm⟩)]
   by_cases hp:0<k∧marks.getD (k-1) false=true
   ·rw[if_pos hp] at ih⊢
    cases hv:(acg cuts marks k).getLast? with
    |some v=>
     have:0<(acg cuts marks k).length:=by
      cases e:acg cuts marks k with
      |nil=>rw[e] at hv;simp at hv
      |cons a t=>simp
     show 2*((acg cuts marks k).dropLast++[_]).length≤_
     rw[aW,gV,dK];omega
    |none=>
     have:acg cuts marks k=[]:=List.getLast?_eq_none_iff.1 hv
     simp only[this];simp
   ·rw[if_neg hp] at ih⊢
    rw[aW,dK];omega
  ·rw[if_neg hm]
   split at ih<;>split<;>omega
theorem av0(op:Int)(a b:List IvQ):(ahc op a b).length≤a.length+b.length+1:=by
 unfold ahc amo
 have h:=amx (cuts:=acZ (a++b)) (marks:=(abW (acZ (a++b))).map fun t=>agp op (ace a t) (ace b t)) ((abW (acZ (a++b))).map fun t=>agp op (ace a t) (ace b t)).length
 have h2:=ajp (a++b)
 rw[aW] at h2
 have h3:((abW (acZ (a++b))).map fun t=>agp op (ace a t) (ace b t)).length=(acZ (a++b)).length+1:=by rw[aJ,ae3]
 split at h<;>omega
theorem aiv(f:FrQ)(m:LnQ)(side:Int):(aaV f m side).length≤3:=by
 unfold aaV
 split
 ·simp
 ·rw[aJ]
  have:=av0 2 [f.v] (adt f.l m side)
  have h2:=af5 (l:=f.l) (m:=m) (side:=side)
  rw[dK] at this
  omega
theorem anI{p v:PtQ}{m:LnQ}{s:Rat}[hp:BPt p 4500][hv:BPt v 97][hm:LB m](hs:BQ s 60000):BQ (ab6 p v m s) 60000:=by
 unfold ab6 akT
 split
 ·exact hs
 ·split
  ·exact hs
  ·split
   ·split
    ·haveI:BQ (-(m.value p/(m.value (acu p v ((1:Int):Rat))-m.value p))) 45000:=BQ.mono inferInstance (by decide)
     exact BQ.mono (inferInstance:BQ (-(m.value p/(m.value (acu p v ((1:Int):Rat))-m.value p))/2) _) (by decide)
    ·exact hs
   ·exact hs
theorem ao4{p v:PtQ}[hp:BPt p 4500][hv:BPt v 97]: ∀{c:List LnQ} {s:Rat},(∀m∈c,LB m)→BQ s 60000→BQ (afZ p v c s) 60000
 |[],_,_,hs=>hs
 |m::t,s,hc,hs=>by
  haveI:=hc m aZ
  exact ao4 (c:=t) (fun q hq=>hc q (aK _ hq)) (anI hs)
theorem amH{c:List LnQ}(hc: ∀m∈c,LB m)(hok: ∀m∈c,m.ok): ∀{t:List LnQ},(∀m∈t,m∈c)→BPt (ab0 c t) 70000
 |[],_=>by
  have h0:BQ (0:Rat) 70000:=BQ.mono (k:=1) ⟨by decide,by decide⟩ (by decide)
  exact⟨h0,h0⟩
 |m::t,h=>by
  have hm:=h m aZ
  haveI:=hc m hm
  rw[ab0]
  split
  ·have hbd:=aig (v:=IvQ.all) (hok m hm).ne hc IvZ.all (BQ.mono (k:=1) ⟨by decide,by decide⟩ (by decide)) (BQ.mono (k:=1) ⟨by decide,by decide⟩ (by decide))
   haveI:=hbd.1
   haveI:=hbd.2
   haveI hsb:=amY (v:=(aca m c IvQ.all).1) (i:=1200)
   haveI hpt:BPt (m.at (abA (aca m c IvQ.all).1)) 4500:=by have:=BPt.at m (abA (aca m c IvQ.all).1) (1200+1200+5);exact⟨this.x.mono (by decide),this.y.mono (by decide)⟩
   haveI hvt:BPt (ag3 m.dir) 97:=inferInstance
   haveI hns:BQ (afZ (m.at (abA (aca m c IvQ.all).1)) (ag3 m.dir) c ((1:Int):Rat)) 60000:=ao4 hc (BQ.mono (k:=2) ⟨by decide,by decide⟩ (by decide))
   have:=BPt.mov (m.at (abA (aca m c IvQ.all).1)) (ag3 m.dir) (afZ (m.at (abA (aca m c IvQ.all).1)) (ag3 m.dir) c ((1:Int):Rat)) 4500 97 60000
   exact⟨this.x.mono (by decide),this.y.mono (by decide)⟩
  ·exact amH hc hok (fun q hq=>h q (aK _ hq))
theorem anv{l:List FrQ}{k:Nat}{g:FrQ}{m:LnQ}{side:Int}(h:l[k]? =some g):(l.take (k+1)).flatMap (fun g=>aaV g m side)=(l.take k).flatMap (fun g=>aaV g m side)++aaV g m side:=by
 rw[gQ,h,lX];simp
theorem ah1(l:List FrQ)(m:LnQ)(side:Int):(l.flatMap fun g=>aaV g m side).length≤3*l.length:=by
 induction l with
 |nil=>simp
 |cons a t ih=>rw[qZ,aW,bU];have:=aiv a m side;omega
theorem avP{acc:PtQ→Bool}{n:Nat}{c:List LnQ}:ajE acc n [] c= .leaf (acc (ab0 c c)):=by cases n<;>rfl
theorem aqs{rs:List (List ZP)}{fill:Int}(hrs: ∀r∈rs,aaU r)(hrn:rs.length≤100){n:Nat}{c:List LnQ}(hc: ∀m∈c,LB m)(hok: ∀m∈c,m.ok)(hn:c.length≤900):PF GB prog 134 [eRR rs fill, .sl [], .sl (c.map eL)] (eT (ajE (inR rs fill) n [] c)):=by
 haveI hpb:=amH hc hok (t:=c) (fun _ h=>h)
 refine fn (fu:=⟨11⟩) func134 J J ntmps134 J J (fun C=>?_)
 refine knT J J J<|cl rfl (an2 (c:=c) hc hok (by omega)) rfl<|cl rfl (aEk (p:=ab0 c c) (i:=70000) hrs hrn (by decide)) rfl<|cl rfl (acP (p:=inR rs fill (ab0 c c))) rfl<|?_
 exact rz rfl (by rw[avP];rfl)
theorem aqA{rs:List (List ZP)}{fill:Int}(hrs: ∀r∈rs,aaU r)(hrn:rs.length≤100){n:Nat}{f:FrQ}{t:List FrQ}{c:List LnQ}(hfew:Few (n+1) (f::t))(hfo: ∀g∈f::t,FOk g)(hlen:(f::t).length*3^(n+1)≤6973568802)(hc: ∀m∈c,LB m)(hok: ∀m∈c,m.ok)(hn:c.length+(n+1)≤900)(ih: ∀{l:List FrQ} {c:List LnQ},Few n l→(∀f∈l,FOk f)→l.length*3^n≤6973568802→(∀m∈c,LB m)→(∀m∈c,m.ok)→c.length+n≤900→PF GB prog 134 [eRR rs fill, .sl (l.map eFF), .sl (c.map eL)] (eT (ajE (inR rs fill) n l c))):PF GB prog 134 [eRR rs fill, .sl ((f::t).map eFF), .sl (c.map eL)] (eT (ajE (inR rs fill) (n+1) (f::t) c)):=by
 obtain⟨l,hl⟩: ∃l,l=f::t:=⟨_,rfl⟩
 have hl0:l[0]? =some f:=by rw[hl];rfl
 rw[←hl] at hfew hfo hlen⊢
 have hm:=aaI eFF l
 have hfl:=hfo f (aM hl0)
 haveI:=hfl.lb
 have hlp:0<l.length:=by rw[hl];simp
 have hlb:l.length≤6973568802:=cJ (mM _ (dJ (by decide))) hlen
 refine fn (fu:=⟨11⟩) func134 J J ntmps134 J J (fun C=>?_)
 refine eqF 17 (.d (vI (l.length:Nat))) rfl (by rw[hm]<;>rfl) ?_
 refine gx (fu:=⟨0⟩) rfl<|knF rfl (by show some (decide _)=some false;rw[decide_eq_false (by omega)]) rfl<|ix (fu:=⟨17⟩) _ rfl (aak (i:=0) hl0) rfl<|?_
 refine eqF 33 (.d (vI (l.length:Nat))) rfl (by rw[hm]<;>rfl) ?_
 refine gx rfl<|?_
 refine nr 10 10 235 14 J J J ?_
 refine nr 11 11 235 14 J J J ?_
 refine lp (X:=Nat) (fun k=>[(34, .d (vI (k:Nat))),(10, .rw 10),(11, .rw 11)]) (fun k=>[(10,some (.b 235 14 (((l.take k).flatMap fun g=>aaV g f.l 1).map eFF) true)),(11,some (.b 235 14 (((l.take k).flatMap fun g=>aaV g f.l (-1)).map eFF) true))]) (fun k=>k≤l.length) (fun k=>l.length-k) 0 rfl (aR _) (fun _=>rfl) (fun k hk=>?_)
 have htk:(l.take k).length≤6973568802:=by rw[cK];omega
 have hb1:(((l.take k).flatMap fun g=>aaV g f.l 1).map eFF).length≤20920706406:=by rw[aJ];have:=ah1 (l.take k) f.l 1;omega
 have hb2:(((l.take k).flatMap fun g=>aaV g f.l (-1)).map eFF).length≤20920706406:=by rw[aJ];have:=ah1 (l.take k) f.l (-1);omega
 refine br (fu2:=⟨0⟩) J J J (fun hc35=>?_) (fun hc35=>?_)
 ·
  obtain⟨g,hz⟩: ∃s,l[k]? =some s:=⟨_,aQ (by omega)⟩
  have hg:=hfo g (aM hz)
  have hs1:((aaV g f.l 1).map eFF).length≤3:=by rw[aJ];exact aiv _ _ _
  have hs2:((aaV g f.l (-1)).map eFF).length≤3:=by rw[aJ];exact aiv _ _ _
  refine ix _ rfl (aak hz) rfl<|cl rfl (az2 (f:=g) (m:=f.l) hg hfl.ok) rfl<|ap (hbd:=by omega) (((l.take (k+1)).flatMap fun g=>aaV g f.l 1).map eFF) rfl (by rw[anv hz,aN]) (ajZ _) rfl<|?_
  refine ap (hbd:=by omega) (((l.take (k+1)).flatMap fun g=>aaV g f.l (-1)).map eFF) rfl (by rw[anv hz,aN]) (ajZ _) rfl<|?_
  refine rnE 46 10 rfl ?_
  refine rnE 49 11 rfl ?_
  exact at_ (k+1) ⟨(by omega),(by omega)⟩
 ·
  obtain rfl:k=l.length:=by omega
  rw[fV]
  refine fzC 10 rfl ?_
  refine fzC 11 rfl ?_
  refine gx rfl<|ro0 J J<|ap (c.map eL) J J (acj c) rfl<|rf J J<|apf ((c++[f.l]).map eL) rfl (by rw[aN];rfl) (acj [f.l]) rfl<|?_
  refine cl rfl (ih (c:=c++[f.l]) (by subst hl;exact Few.split hfew hfo) (fun g hg=>by obtain⟨q,hq,hg⟩:=fN.1 hg;exact(ahX (hfo q hq) hfl.lb g hg).1) (by have:=ah1 l f.l 1;rw[dV] at hlen;exact cJ (bV _ this) (by rw[bT 3,bR];rw[bT (3^n)] at hlen;exact hlen)) (agQ hc hfl.lb) (abO hok hfl.ok) (by rw[aW,dK];omega)) rfl<|?_
  refine ro0 J J<|ap (c.map eL) J J (acj c) rfl<|cl rfl (aiH (l:=f.l)) rfl<|rf J J<|apf ((c++[f.l.rev]).map eL) rfl (by rw[aN];rfl) (acj [f.l.rev]) rfl<|?_
  refine cl (fu:=⟨1⟩) rfl (ih (c:=c++[f.l.rev]) (by subst hl;exact Few.split hfew hfo) (fun g hg=>by obtain⟨q,hq,hg⟩:=fN.1 hg;exact(ahX (hfo q hq) hfl.lb g hg).1) (by have:=ah1 l f.l (-1);rw[dV] at hlen;exact cJ (bV _ this) (by rw[bT 3,bR];rw[bT (3^n)] at hlen;exact hlen)) (agQ hc hfl.lb.rev) (abO hok hfl.ok.rev) (by rw[aW,dK];omega)) rfl<|?_
  refine bxf J J<|?_
  exact rz rfl (by subst hl;rfl)
theorem aCo{rs:List (List ZP)}{fill:Int}(hrs: ∀r∈rs,aaU r)(hrn:rs.length≤100): ∀{n:Nat} {l:List FrQ} {c:List LnQ},Few n l→(∀f∈l,FOk f)→l.length*3^n≤6973568802→(∀m∈c,LB m)→(∀m∈c,m.ok)→c.length+n≤900→PF GB prog 134 [eRR rs fill, .sl (l.map eFF), .sl (c.map eL)] (eT (ajE (inR rs fill) n l c))
 |n,[],c,_,_,_,hc,hok,hn=>aqs hrs hrn hc hok (by omega)
 |0,f::t,c,hf,_,_,_,_,_=>by
  obtain⟨K,h1,h2⟩:=hf
  obtain⟨m,hm,_⟩:=h2 f aZ
  rw[bY (l:=K) (by omega)] at hm
  cases hm
 |n+1,f::t,c,hf,ho,hl,hc,hok,hn=>aqA hrs hrn hf ho hl hc hok hn (fun a1 a2 a3 a4 a5 a6=>aCo hrs hrn a1 a2 a3 a4 a5 a6)
theorem auV(l:List FrQ):Few l.length l:=⟨l.map FrQ.l,by rw[aJ];exact aL _,fun f hf=>⟨f.l,gS hf, .inl rfl⟩⟩
theorem az7{n:Nat}(h:n≤18):n*3^n≤6973568802:=cJ (jU h (bK (by decide) h)) (by decide)
theorem aty{rs:List (List ZP)}{fill:Int}(hrs: ∀r∈rs,aaU r)(hrn:rs.length≤3):PF GB prog 65 [eRR rs fill] (eT (adb rs fill)):=by
 have hm:=aaI eRg rs
 have hE:=acw hrs
 have hraw:=att (acc:=inR rs fill) hE.2 rfl
 refine fn (fu:=⟨17⟩) func65 J J ntmps65 J J (fun C=>?_)
 refine eqF 8 (.d (vI (rs.length:Nat))) rfl (by rw[hm]<;>rfl) ?_
 refine gx rfl<|?_
 refine nr 3 3 235 14 J J J ?_
 refine lp (X:=Nat) (fun k=>[(9, .d (vI (k:Nat))),(3, .rw 3)]) (fun k=>[(3,some (.b 235 14 ((abT (rs.take k)).map eFF) true))]) (fun k=>k≤rs.length) (fun k=>rs.length-k) 0 rfl (aR _) (fun _=>rfl) (fun k hk=>?_)
 have het:((abT (rs.take k)).map eFF).length≤6*k:=by rw[aJ];exact aiF hrs k
 refine br J J J (fun hc10=>?_) (fun hc10=>?_)
 ·
  obtain⟨r,hz⟩: ∃s,rs[k]? =some s:=⟨_,aQ (by omega)⟩
  have hr:=hrs r (aM hz)
  have hel:((acC r).map eFF).length≤6:=by rw[aJ];have:=(ahW hr).1;have:=hr.n6;omega
  refine ix _ rfl (aak hz) rfl<|cl rfl (arb (r:=r) hr) rfl<|ap (hbd:=by omega) ((abT (rs.take (k+1))).map eFF) rfl (by rw[aiU hz,aN]) (ajZ _) rfl<|?_
  refine rnE 16 3 rfl ?_
  exact at_ (k+1) ⟨(by omega),(by omega)⟩
 ·
  obtain rfl:k=rs.length:=by omega
  rw[fV]
  refine fz 3 J J<|cl rfl (aCo (n:=(abT rs).length) (l:=abT rs) (c:=[]) hrs (by omega) (auV _) hE.2 (az7 (by have:=hE.1;omega)) (fun m h=>by cases h) (fun m h=>by cases h) (by have:=hE.1;rw[fY];omega)) rfl<|?_
  refine cl rfl (aem (t:=az0 rs fill) hraw.gd.lb hraw.gd.ok (by have:=hraw.dp;have:=hE.1;show(ajE _ _ _ _).depth≤900;omega)) rfl<|?_
  exact rz J J
theorem aqS{b:Bool}:PF GB prog 56 [eT (.leaf b)] (eT (Tr.compl (.leaf b))):=by
 refine fn (fu:=⟨11⟩) func56 J J ntmps56 J J (fun C=>?_)
 refine knT J J J<|cl rfl (acP (p:=!b)) rfl<|?_
 exact rz J J
theorem aqn{l:LnQ}{x y:Tr}(ihx:PF GB prog 56 [eT x] (eT x.compl))(ihy:PF GB prog 56 [eT y] (eT y.compl)):PF GB prog 56 [eT (.node l x y)] (eT (Tr.compl (.node l x y))):=by
 refine fn (fu:=⟨11⟩) func56 J J ntmps56 J J (fun C=>?_)
 refine knF J J J<|cl rfl ihx rfl<|cl (fu:=⟨1⟩) rfl ihy rfl<|bxf J J<|?_
 exact rz J J
theorem afF: ∀{t:Tr},PF GB prog 56 [eT t] (eT t.compl)
 | .leaf _=>aqS
 | .node _ _ _=>aqn afF afF
theorem alH{op:Int}{b:Bool}{u:Tr}{c:List LnQ}(hu:u.all LB)(huo:u.all LnQ.ok)(hc: ∀m∈c,LB m)(hok: ∀m∈c,m.ok)(hn:c.length+u.depth≤900):PF GB prog 51 [vI op,eT (.leaf b),eT u, .sl (c.map eL)] (eT (Tr.mergeL op (.leaf b) u c)):=by
 refine fn (fu:=⟨11⟩) func51 J J ntmps51 J J (fun C=>?_)
 refine knT J J J<|cl rfl (aex (t:=u) (c:=c) hu huo hc hok hn) rfl<|?_
 refine cs 20 J J J (fun hg20=>?_) (fun hg20=>?_)
 ·
  refine bb J J J (fun hc17=>?_) (fun hc17=>?_)
  ·
   refine cl rfl (acP (p:=true)) rfl<|?_
   exact rz rfl (by show eT _=eT _;congr 1;rw[Tr.mergeL];unfold Tr.chooseL;(repeat' split)<;>first|rfl|(exfalso;simp_all;done)|(exfalso;omega))
  ·
   refine cs 30 J J J (fun hg30=>?_) (fun hg30=>?_)
   ·
    refine bb J J J (fun hc27=>?_) (fun hc27=>?_)
    ·
     refine cl rfl (acP (p:=false)) rfl<|?_
     exact rz rfl (by show eT _=eT _;congr 1;rw[Tr.mergeL];unfold Tr.chooseL;(repeat' split)<;>first|rfl|(exfalso;simp_all;done)|(exfalso;omega))
    ·
     refine cs 45 J J J (fun hg45=>?_) (fun hg45=>?_)
     ·
      refine bb J J J (fun hc42=>?_) (fun hc42=>?_)
      ·
       refine cl rfl afF rfl<|?_
       exact rz rfl (by show eT _=eT _;congr 1;rw[Tr.mergeL];unfold Tr.chooseL;(repeat' split)<;>first|rfl|(exfalso;simp_all;done)|(exfalso;omega))
      ·
       exact rz rfl (by show eT _=eT _;congr 1;rw[Tr.mergeL];unfold Tr.chooseL;(repeat' split)<;>first|rfl|(exfalso;simp_all;done)|(exfalso;omega))
     ·
      refine cs 49 J J J (fun hg49=>?_) (fun hg49=>?_)
      ·
       refine bb J J J (fun hc42=>?_) (fun hc42=>?_)
       ·
        refine cl rfl afF rfl<|?_
        exact rz rfl (by show eT _=eT _;congr 1;rw[Tr.mergeL];unfold Tr.chooseL;(repeat' split)<;>first|rfl|(exfalso;simp_all;done)|(exfalso;omega))
       ·
        exact rz rfl (by show eT _=eT _;congr 1;rw[Tr.mergeL];unfold Tr.chooseL;(repeat' split)<;>first|rfl|(exfalso;simp_all;done)|(exfalso;omega))
      ·
       exact rz rfl (by show eT _=eT _;congr 1;rw[Tr.mergeL];unfold Tr.chooseL;(repeat' split)<;>first|rfl|(exfalso;simp_all;done)|(exfalso;omega))
   ·
    refine cs 34 J J J (fun hg34=>?_) (fun hg34=>?_)
    ·
     refine bb J J J (fun hc27=>?_) (fun hc27=>?_)
     ·
      refine cl rfl (acP (p:=false)) rfl<|?_
      exact rz rfl (by show eT _=eT _;congr 1;rw[Tr.mergeL];unfold Tr.chooseL;(repeat' split)<;>first|rfl|(exfalso;simp_all;done)|(exfalso;omega))
     ·
      refine cs 45 J J J (fun hg45=>?_) (fun hg45=>?_)
      ·
       refine bb J J J (fun hc42=>?_) (fun hc42=>?_)
       ·
        refine cl rfl afF rfl<|?_
        exact rz rfl (by show eT _=eT _;congr 1;rw[Tr.mergeL];unfold Tr.chooseL;(repeat' split)<;>first|rfl|(exfalso;simp_all;done)|(exfalso;omega))
       ·
        exact rz rfl (by show eT _=eT _;congr 1;rw[Tr.mergeL];unfold Tr.chooseL;(repeat' split)<;>first|rfl|(exfalso;simp_all;done)|(exfalso;omega))
      ·
       refine cs 49 J J J (fun hg49=>?_) (fun hg49=>?_)
       ·
        refine bb J J J (fun hc42=>?_) (fun hc42=>?_)
        ·
         refine cl rfl afF rfl<|?_
         exact rz rfl (by show eT _=eT _;congr 1;rw[Tr.mergeL];unfold Tr.chooseL;(repeat' split)<;>first|rfl|(exfalso;simp_all;done)|(exfalso;omega))
        ·
         exact rz rfl (by show eT _=eT _;congr 1;rw[Tr.mergeL];unfold Tr.chooseL;(repeat' split)<;>first|rfl|(exfalso;simp_all;done)|(exfalso;omega))
       ·
        exact rz rfl (by show eT _=eT _;congr 1;rw[Tr.mergeL];unfold Tr.chooseL;(repeat' split)<;>first|rfl|(exfalso;simp_all;done)|(exfalso;omega))
    ·
     refine cs 45 J J J (fun hg45=>?_) (fun hg45=>?_)
     ·
      refine bb J J J (fun hc42=>?_) (fun hc42=>?_)
      ·
       refine cl rfl afF rfl<|?_
       exact rz rfl (by show eT _=eT _;congr 1;rw[Tr.mergeL];unfold Tr.chooseL;(repeat' split)<;>first|rfl|(exfalso;simp_all;done)|(exfalso;omega))
      ·
       exact rz rfl (by show eT _=eT _;congr 1;rw[Tr.mergeL];unfold Tr.chooseL;(repeat' split)<;>first|rfl|(exfalso;simp_all;done)|(exfalso;omega))
     ·
      refine cs 49 J J J (fun hg49=>?_) (fun hg49=>?_)
      ·
       refine bb J J J (fun hc42=>?_) (fun hc42=>?_)
       ·
        refine cl rfl afF rfl<|?_
        exact rz rfl (by show eT _=eT _;congr 1;rw[Tr.mergeL];unfold Tr.chooseL;(repeat' split)<;>first|rfl|(exfalso;simp_all;done)|(exfalso;omega))
       ·
        exact rz rfl (by show eT _=eT _;congr 1;rw[Tr.mergeL];unfold Tr.chooseL;(repeat' split)<;>first|rfl|(exfalso;simp_all;done)|(exfalso;omega))
      ·
       exact rz rfl (by show eT _=eT _;congr 1;rw[Tr.mergeL];unfold Tr.chooseL;(repeat' split)<;>first|rfl|(exfalso;simp_all;done)|(exfalso;omega))
 ·
  refine cs 30 J J J (fun hg30=>?_) (fun hg30=>?_)
  ·
   refine bb J J J (fun hc27=>?_) (fun hc27=>?_)
   ·
    refine cl rfl (acP (p:=false)) rfl<|?_
    exact rz rfl (by show eT _=eT _;congr 1;rw[Tr.mergeL];unfold Tr.chooseL;(repeat' split)<;>first|rfl|(exfalso;simp_all;done)|(exfalso;omega))
   ·
    refine cs 45 J J J (fun hg45=>?_) (fun hg45=>?_)
    ·
     refine bb J J J (fun hc42=>?_) (fun hc42=>?_)
     ·
      refine cl rfl afF rfl<|?_
      exact rz rfl (by show eT _=eT _;congr 1;rw[Tr.mergeL];unfold Tr.chooseL;(repeat' split)<;>first|rfl|(exfalso;simp_all;done)|(exfalso;omega))
     ·
      exact rz rfl (by show eT _=eT _;congr 1;rw[Tr.mergeL];unfold Tr.chooseL;(repeat' split)<;>first|rfl|(exfalso;simp_all;done)|(exfalso;omega))
    ·
     refine cs 49 J J J (fun hg49=>?_) (fun hg49=>?_)
     ·
      refine bb J J J (fun hc42=>?_) (fun hc42=>?_)
      ·
       refine cl rfl afF rfl<|?_
       exact rz rfl (by show eT _=eT _;congr 1;rw[Tr.mergeL];unfold Tr.chooseL;(repeat' split)<;>first|rfl|(exfalso;simp_all;done)|(exfalso;omega))
      ·
       exact rz rfl (by show eT _=eT _;congr 1;rw[Tr.mergeL];unfold Tr.chooseL;(repeat' split)<;>first|rfl|(exfalso;simp_all;done)|(exfalso;omega))
     ·
      exact rz rfl (by show eT _=eT _;congr 1;rw[Tr.mergeL];unfold Tr.chooseL;(repeat' split)<;>first|rfl|(exfalso;simp_all;done)|(exfalso;omega))
  ·
   refine cs 34 J J J (fun hg34=>?_) (fun hg34=>?_)
   ·
    refine bb J J J (fun hc27=>?_) (fun hc27=>?_)
    ·
     refine cl rfl (acP (p:=false)) rfl<|?_
     exact rz rfl (by show eT _=eT _;congr 1;rw[Tr.mergeL];unfold Tr.chooseL;(repeat' split)<;>first|rfl|(exfalso;simp_all;done)|(exfalso;omega))
    ·
     refine cs 45 J J J (fun hg45=>?_) (fun hg45=>?_)
     ·
      refine bb J J J (fun hc42=>?_) (fun hc42=>?_)
      ·
       refine cl rfl afF rfl<|?_
       exact rz rfl (by show eT _=eT _;congr 1;rw[Tr.mergeL];unfold Tr.chooseL;(repeat' split)<;>first|rfl|(exfalso;simp_all;done)|(exfalso;omega))
      ·
       exact rz rfl (by show eT _=eT _;congr 1;rw[Tr.mergeL];unfold Tr.chooseL;(repeat' split)<;>first|rfl|(exfalso;simp_all;done)|(exfalso;omega))
     ·
      refine cs 49 J J J (fun hg49=>?_) (fun hg49=>?_)
      ·
       refine bb J J J (fun hc42=>?_) (fun hc42=>?_)
       ·
        refine cl rfl afF rfl<|?_
        exact rz rfl (by show eT _=eT _;congr 1;rw[Tr.mergeL];unfold Tr.chooseL;(repeat' split)<;>first|rfl|(exfalso;simp_all;done)|(exfalso;omega))
       ·
        exact rz rfl (by show eT _=eT _;congr 1;rw[Tr.mergeL];unfold Tr.chooseL;(repeat' split)<;>first|rfl|(exfalso;simp_all;done)|(exfalso;omega))
      ·
       exact rz rfl (by show eT _=eT _;congr 1;rw[Tr.mergeL];unfold Tr.chooseL;(repeat' split)<;>first|rfl|(exfalso;simp_all;done)|(exfalso;omega))
   ·
    refine cs 45 J J J (fun hg45=>?_) (fun hg45=>?_)
    ·
     refine bb J J J (fun hc42=>?_) (fun hc42=>?_)
     ·
      refine cl rfl afF rfl<|?_
      exact rz rfl (by show eT _=eT _;congr 1;rw[Tr.mergeL];unfold Tr.chooseL;(repeat' split)<;>first|rfl|(exfalso;simp_all;done)|(exfalso;omega))
     ·
      exact rz rfl (by show eT _=eT _;congr 1;rw[Tr.mergeL];unfold Tr.chooseL;(repeat' split)<;>first|rfl|(exfalso;simp_all;done)|(exfalso;omega))
    ·
     refine cs 49 J J J (fun hg49=>?_) (fun hg49=>?_)
     ·
      refine bb J J J (fun hc42=>?_) (fun hc42=>?_)
      ·
       refine cl rfl afF rfl<|?_
       exact rz rfl (by show eT _=eT _;congr 1;rw[Tr.mergeL];unfold Tr.chooseL;(repeat' split)<;>first|rfl|(exfalso;simp_all;done)|(exfalso;omega))
      ·
       exact rz rfl (by show eT _=eT _;congr 1;rw[Tr.mergeL];unfold Tr.chooseL;(repeat' split)<;>first|rfl|(exfalso;simp_all;done)|(exfalso;omega))
     ·
      exact rz rfl (by show eT _=eT _;congr 1;rw[Tr.mergeL];unfold Tr.chooseL;(repeat' split)<;>first|rfl|(exfalso;simp_all;done)|(exfalso;omega))
theorem ali{op:Int}{l:LnQ}{x y u:Tr}{c:List LnQ}(hl:LB l)(hlo:l.ok)(hc: ∀m∈c,LB m)(hok: ∀m∈c,m.ok)(hn:c.length+(Tr.node l x y).depth+u.depth≤900)(ihx: ∀{c:List LnQ},(∀m∈c,LB m)→(∀m∈c,m.ok)→c.length+x.depth+u.depth≤900→PF GB prog 51 [vI op,eT x,eT u, .sl (c.map eL)] (eT (Tr.mergeL op x u c)))(ihy: ∀{c:List LnQ},(∀m∈c,LB m)→(∀m∈c,m.ok)→c.length+y.depth+u.depth≤900→PF GB prog 51 [vI op,eT y,eT u, .sl (c.map eL)] (eT (Tr.mergeL op y u c))):PF GB prog 51 [vI op,eT (.node l x y),eT u, .sl (c.map eL)] (eT (Tr.mergeL op (.node l x y) u c)):=by
 have hdp:(Tr.node l x y).depth=1+Nat.max x.depth y.depth:=rfl
 have hdx:x.depth≤Nat.max x.depth y.depth:=nS _ _
 have hdy:y.depth≤Nat.max x.depth y.depth:=nZ _ _
 have hca:=aek (c++[l])
 have hcb:=aek (c++[l.rev])
 rw[aW,dK] at hca hcb
 refine fn (fu:=⟨11⟩) func51 J J ntmps51 J J (fun C=>?_)
 refine knF J J J<|cl rfl (atD (c:=c) (l:=l) hc hok (by omega) hl hlo) rfl<|?_
 refine br J J J (fun hc64=>?_) (fun hc64=>?_)
 ·
  refine cl rfl (ihx hc hok (by omega)) rfl<|?_
  exact rz rfl (by rw[Tr.mergeL,if_pos hc64];rfl)
 ·
  refine br J J J (fun hc74=>?_) (fun hc74=>?_)
  ·
   refine cl rfl (ihy hc hok (by omega)) rfl<|?_
   exact rz rfl (by rw[Tr.mergeL,if_neg hc64,if_pos hc74];rfl)
  ·
   refine cl rfl (apt (c:=c) (l:=l) hc hok (by omega) hl hlo) rfl<|cl rfl (ihx (c:=aaJ (c++[l])) (aoX (agQ hc hl)) (apW (abO hok hlo)) (by omega)) rfl<|?_
   refine cl rfl (aiH (l:=l)) rfl<|cl rfl (apt (c:=c) (l:=l.rev) hc hok (by omega) hl.rev hlo.rev) rfl<|cl rfl (ihy (c:=aaJ (c++[l.rev])) (aoX (agQ hc hl.rev)) (apW (abO hok hlo.rev)) (by omega)) rfl<|?_
   refine cl rfl ax9 rfl<|?_
   exact rz rfl (by rw[Tr.mergeL,if_neg hc64,if_neg hc74];rfl)
theorem alG{op:Int}{u:Tr}(hu:u.all LB)(huo:u.all LnQ.ok): ∀{t:Tr} {c:List LnQ},t.all LB→t.all LnQ.ok→(∀m∈c,LB m)→(∀m∈c,m.ok)→c.length+t.depth+u.depth≤900→PF GB prog 51 [vI op,eT t,eT u, .sl (c.map eL)] (eT (Tr.mergeL op t u c))
 | .leaf _,_,_,_,hc,hok,hn=>alH hu huo hc hok (cJ (Nat.add_le_add_right (lW _ _) _) hn)
 | .node l x y,c,hb,ho,hc,hok,hn=>ali hb.1 ho.1 hc hok hn (fun h1 h2 h3=>alG hu huo hb.2.1 ho.2.1 h1 h2 h3) (fun h1 h2 h3=>alG hu huo hb.2.2 ho.2.2 h1 h2 h3)
end Go.Sx
end
