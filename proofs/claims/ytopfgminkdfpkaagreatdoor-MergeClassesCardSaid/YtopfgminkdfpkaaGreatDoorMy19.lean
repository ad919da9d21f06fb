/- Part 19 of a proof. -/
import Derived.Test.YtopfgminkdfpkaaGreatDoorMy18
set_option linter.unusedSimpArgs false
set_option maxHeartbeats 4000000
set_option maxRecDepth 100000
set_option linter.unusedVariables false
section
namespace Go.Sx
open Go Go.Proofs Tryz
variable {GB:Gh}
def eZp(p:ZP):DV:=eP p.q
def eRg(r:List ZP):DV:= .sl (r.map eZp)
theorem azf(l:List ZP):adx 6 (l.map eZp):=fun d hd=>by
 obtain⟨u,_,rfl⟩:=bL.1 hd;exact⟨rfl,rfl⟩
theorem ayd(l:List (List ZP)):adx 1 (l.map eRg):=fun d hd=>by
 obtain⟨u,_,rfl⟩:=bL.1 hd;exact⟨rfl,rfl⟩
theorem aEi{r:List ZP}{i:Nat}(h:i<r.length):(r.map eZp)[((i:Nat):Int).toNat]? =some (eZp (r.getD i (0,0))):=by
 rw[aL,dR,aK,aZ h];rfl
theorem aA5{r:List ZP}{i:Nat}(h:i<r.length):(r.map eZp)[(((i+1)%r.length:Nat):Int).toNat]? =some (eZp (afT r i)):=aEi (dQ _ (by omega))
theorem aCc(v w p:PtQ):(aw4 v w p).natAbs≤1:=by
 unfold aw4;split<;>split<;>decide
theorem alg(r:List ZP)(p:PtQ): ∀k,(auk r p k).natAbs≤k
 |0=>aM _
 |k+1=>by rw[auk];have:=alg r p k;have:=aCc (r.getD k (0,0)).q (afT r k).q p;omega
theorem auy{r:List ZP}(h:abx r):PF GB prog 220 [.sl (r.map eZp)] (.sl ((adi r).map eFF)):=by
 have hm:=aaJ eZp r
 have h3:=h.n3
 have h6:=h.n6
 refine fn (fu:=⟨15⟩) func220 J J ntmps220 J J (fun C=>?_)
 refine eqF 8 (.d (vI (r.length:Nat))) rfl (by rw[hm]<;>rfl) ?_
 refine gx rfl<|?_
 refine nr 3 3 303 14 J J J ?_
 refine lp (X:=Nat) (fun k=>[(9, .d (vI (k:Nat))),(3, .rw 3)]) (fun k=>[(3,some (.b 303 14 ((agY r k).map eFF) true))]) (fun k=>k≤r.length) (fun k=>r.length-k) 0 rfl (bK _) (fun _=>rfl) (fun k hk=>?_)
 have hel:=fun hh=>(ai7 (k:=k) h hh).1
 refine br J J J (fun hc10=>?_) (fun hc10=>?_)
 ·
  have hkr:k<r.length:=by omega
  have hel:=hel (by omega)
  have hem:=aaJ eFF (agY r k)
  refine ix (fu:=⟨7⟩) _ rfl (aEi hkr) rfl<|?_
  refine eqF 22 (.d (vI ((k+1)%r.length:Nat))) rfl (by rw[hm]<;>rfl) ?_
  refine gx rfl<|ix _ rfl (aA5 hkr) rfl<|cl rfl (atn (v:=r.getD k (0,0)) (w:=afT r k) (h.le _ (aia hkr)) (h.le _ (aiY hkr)) (h.ne k hkr)) rfl<|?_
  refine rf J J<|ap ((agY r (k+1)).map eFF) rfl (by rw[agY,bU];rfl) (akx [av8 (r.getD k (0,0)) (afT r k)]) rfl<|?_
  refine rnE 31 3 rfl ?_
  exact at_ (k+1) ⟨(by omega),(by omega)⟩
 ·
  obtain rfl:k=r.length:=by omega
  refine fzE 3 rfl ?_
  exact rz J J
theorem avt{r:List ZP}{p:PtQ}{i:Nat}[hp:BPt p i](h:abx r)(hi:i≤80000:=by decide):PF GB prog 296 [.sl (r.map eZp),eP p] (vI (avQ r p)):=by
 have hm:=aaJ eZp r
 have h3:=h.n3
 have h6:=h.n6
 refine fn (fu:=⟨16⟩) func296 J J ntmps296 J J (fun C=>?_)
 refine eqF 12 (.d (vI (r.length:Nat))) rfl (by rw[hm]<;>rfl) ?_
 refine gx rfl<|?_
 refine lp (X:=Nat×Int) (fun⟨k,c⟩=>[(13, .d (vI (k:Nat))),(5, .d (vI c))]) (fun⟨k,c⟩=>[]) (fun⟨k,c⟩=>c=auk r p k∧k≤r.length) (fun⟨k,c⟩=>r.length-k) (0,0) rfl ⟨rfl,bK _⟩ (fun _=>rfl) (fun⟨k,c⟩ hk=>?_)
 dsimp only at hk⊢
 obtain⟨h1,h2⟩:=hk
 have hcl:c.natAbs≤k:=by rw[h1];exact alg r p k
 refine br J J J (fun hc14=>?_) (fun hc14=>?_)
 ·
  have hkr:k<r.length:=by omega
  obtain⟨v,hv⟩: ∃v,v=r.getD k (0,0):=⟨_,rfl⟩
  obtain⟨w,hw⟩: ∃v,v=afT r k:=⟨_,rfl⟩
  haveI hvb:BPt v.q 12:=by rw[hv];exact bpZ (h.le _ (aia hkr))
  haveI hwb:BPt w.q 12:=by rw[hw];exact bpZ (h.le _ (aiY hkr))
  refine ix (fu:=⟨1⟩) _ rfl (aEi hkr) rfl<|?_
  refine eqF 19 (.d (eP v.q)) rfl (by rw[hv];rfl) ?_
  refine gx (fu:=⟨6⟩) rfl<|?_
  refine eqF 25 (.d (vI ((k+1)%r.length:Nat))) rfl (by rw[hm]<;>rfl) ?_
  refine gx rfl<|ix (fu:=⟨1⟩) _ rfl (aA5 hkr) rfl<|?_
  refine eqF 27 (.d (eP w.q)) rfl (by rw[hw];rfl) ?_
  refine gx rfl<|cl rfl (q_C (a:=v.q.y) (b:=p.y) (i:=12) (j:=i) (by decide) (by omega)) rfl<|cl (fu:=⟨9⟩) rfl (q_C (a:=w.q.y) (b:=p.y) (i:=12) (j:=i) (by decide) (by omega)) rfl<|?_
  rcases(show(abh v.q.y p.y≤0∧abh w.q.y p.y≤0)∨(abh v.q.y p.y≤0∧ ¬abh w.q.y p.y≤0)∨(¬abh v.q.y p.y≤0∧abh w.q.y p.y≤0)∨(¬abh v.q.y p.y≤0∧ ¬abh w.q.y p.y≤0) by omega) with⟨ca,cb⟩|⟨ca,cb⟩|⟨ca,cb⟩|⟨ca,cb⟩
  ·
   refine knT (fu:=⟨3⟩) rfl (by show some (decide _)=some true;rw[decide_eq_true (by omega)]) rfl<|knF (fu:=⟨15⟩) rfl (by show some (decide _)=some false;rw[decide_eq_false (by omega)]) rfl<|?_
   refine knF (fu:=⟨20⟩) rfl (by show some (decide _)=some false;rw[decide_eq_false (by omega)]) rfl<|?_
   exact at_ (k+1,c) (by dsimp only;exact⟨⟨by rw[auk,←h1,←hv,←hw];unfold aw4;split<;>split<;>omega,by omega⟩,(by omega)⟩)
  ·
   refine knT (fu:=⟨3⟩) rfl (by show some (decide _)=some true;rw[decide_eq_true (by omega)]) rfl<|knT rfl (by show some (decide _)=some true;rw[decide_eq_true (by omega)]) rfl<|?_
   refine cl rfl (apd (a:=v.q) (b:=w.q) (c:=p) (i:=12) (j:=12) (k:=i) (by decide) (by decide) hi) rfl<|?_
   refine br (fu1:=⟨10⟩) (fu2:=⟨6⟩) J J J (fun hc51=>?_) (fun hc51=>?_)
   ·
    refine knF rfl (by show some (decide _)=some false;rw[decide_eq_false (by omega)]) rfl<|?_
    exact at_ (k+1,c+1) (by dsimp only;exact⟨⟨by rw[auk,←h1,←hv,←hw];unfold aw4;split<;>split<;>omega,by omega⟩,(by omega)⟩)
   ·
    refine knF (fu:=⟨20⟩) rfl (by show some (decide _)=some false;rw[decide_eq_false (by omega)]) rfl<|?_
    exact at_ (k+1,c) (by dsimp only;exact⟨⟨by rw[auk,←h1,←hv,←hw];unfold aw4;split<;>split<;>omega,by omega⟩,(by omega)⟩)
  ·
   refine knF (fu:=⟨19⟩) rfl (by show some (decide _)=some false;rw[decide_eq_false (by omega)]) rfl<|knT (fu:=⟨2⟩) rfl (by show some (decide _)=some true;rw[decide_eq_true (by omega)]) rfl<|?_
   refine knT rfl (by show some (decide _)=some true;rw[decide_eq_true (by omega)]) rfl<|cl rfl (apd (a:=v.q) (b:=w.q) (c:=p) (i:=12) (j:=12) (k:=i) (by decide) (by decide) hi) rfl<|?_
   refine br (fu2:=⟨8⟩) J J J (fun hc65=>?_) (fun hc65=>?_)
   ·
    exact at_ (k+1,c-1) (by dsimp only;exact⟨⟨by rw[auk,←h1,←hv,←hw];unfold aw4;split<;>split<;>omega,by omega⟩,(by omega)⟩)
   ·
    exact at_ (k+1,c) (by dsimp only;exact⟨⟨by rw[auk,←h1,←hv,←hw];unfold aw4;split<;>split<;>omega,by omega⟩,(by omega)⟩)
  ·
   refine knF (fu:=⟨19⟩) rfl (by show some (decide _)=some false;rw[decide_eq_false (by omega)]) rfl<|knT (fu:=⟨2⟩) rfl (by show some (decide _)=some true;rw[decide_eq_true (by omega)]) rfl<|?_
   refine knF rfl (by show some (decide _)=some false;rw[decide_eq_false (by omega)]) rfl<|?_
   exact at_ (k+1,c) (by dsimp only;exact⟨⟨by rw[auk,←h1,←hv,←hw];unfold aw4;split<;>split<;>omega,by omega⟩,(by omega)⟩)
 ·
  obtain rfl:k=r.length:=by omega
  have hfin:avQ r p=c:=h1.symm
  exact rz rfl (by rw[hfin];rfl)
theorem aud{fill n:Int}(hn:n.natAbs≤1000):PF GB prog 297 [vI fill,vI n] (vB (azF fill n)):=by
 refine fn func297 J J ntmps297 J J (fun C=>?_)
 refine cs 7 J J J (fun hg7=>?_) (fun hg7=>?_)
 ·
  refine cs 12 J J J (fun hg12=>?_) (fun hg12=>?_)
  ·
   exact rz rfl (by show vB _=vB _;unfold azF;congr 1;simp_all)
  ·
   refine cs 15 J J J (fun hg15=>?_) (fun hg15=>?_)
   ·
    exact rz rfl (by show vB _=vB _;unfold azF;congr 1;simp_all)
   ·
    exact rz rfl (by show vB _=vB _;unfold azF;congr 1;simp_all)
 ·
  refine cs 15 J J J (fun hg15=>?_) (fun hg15=>?_)
  ·
   exact rz rfl (by show vB _=vB _;unfold azF;congr 1;simp_all)
  ·
   exact rz rfl (by show vB _=vB _;unfold azF;congr 1;simp_all)
def aDX(rs:List (List ZP)):List LnQ:=(acF rs).map FrQ.l
def eRR(rs:List (List ZP))(fill:Int):DV:= .ag [.sl (rs.map eRg), .v (.int .i64 fill), .sl ((adR (aDX rs)).map eL)]
theorem aA3{rs:List (List ZP)}{p:PtQ}(h: ∀r∈rs,abx r)(k:Nat):((rs.take k).foldl (fun n r=>n+avQ r p) 0).natAbs≤6*k:=by
 induction k with
 |zero=>rw[rN];exact bK _
 |succ k ih=>
  rw[iW,oK]
  cases e:rs[k]? with
  |none=>exact cV ih (by omega)
  |some r=>
   have h1:(avQ r p).natAbs≤r.length:=alg r p r.length
   have h2:=(h r (bX e)).n6
   show(List.foldl _ 0 (rs.take k)+avQ r p).natAbs≤_
   omega
theorem aE6{rs:List (List ZP)}{fill:Int}{p:PtQ}{i:Nat}[hp:BPt p i](h: ∀r∈rs,abx r)(hn:rs.length≤100)(hi:i≤80000:=by decide):PF GB prog 263 [eRR rs fill,eP p] (vB (inR rs fill p)):=by
 have hm:=aaJ eRg rs
 refine fn (fu:=⟨18⟩) func263 J J ntmps263 J J (fun C=>?_)
 refine eqF 10 (.d (vI (rs.length:Nat))) rfl (by rw[hm]<;>rfl) ?_
 refine gx rfl<|?_
 refine lp (X:=Nat×Int) (fun⟨k,c⟩=>[(11, .d (vI (k:Nat))),(5, .d (vI c))]) (fun⟨k,c⟩=>[]) (fun⟨k,c⟩=>c=(rs.take k).foldl (fun n r=>n+avQ r p) 0∧k≤rs.length) (fun⟨k,c⟩=>rs.length-k) (0,0) rfl ⟨by rw[rN];rfl,bK _⟩ (fun _=>rfl) (fun⟨k,c⟩ hk=>?_)
 dsimp only at hk⊢
 obtain⟨h1,h2⟩:=hk
 have hcl:c.natAbs≤6*k:=by rw[h1];exact aA3 h k
 refine br J J J (fun hc12=>?_) (fun hc12=>?_)
 ·
  obtain⟨r,hz⟩: ∃s,rs[k]? =some s:=⟨_,aZ (by omega)⟩
  have hr:=h r (bX hz)
  have hnz:(avQ r p).natAbs≤6:=cV (alg r p r.length) hr.n6
  refine ix _ rfl (aaB hz) rfl<|cl rfl (avt (r:=r) (p:=p) hr hi) rfl<|?_
  exact at_ (k+1,c+avQ r p) (by dsimp only;exact⟨⟨by rw[iW,hz,oK,←h1];rfl,by omega⟩,(by omega)⟩)
 ·
  obtain rfl:k=rs.length:=by omega
  rw[fK] at h1
  refine cl rfl (aud (fill:=fill) (n:=c) (by omega)) rfl<|?_
  exact rz rfl (by unfold inR;rw[←h1];rfl)
def eAr(r:List ZP):DV:= .sl ((r.map ZP.q).map ePt)
theorem aCj(l:List (List ZP)):adx 1 (l.map eAr):=fun d hd=>by
 obtain⟨u,_,rfl⟩:=bL.1 hd;exact⟨rfl,rfl⟩
theorem asY{r:List ZP}(h: ∀p∈r,ZP.le 100 p): ∀p∈r.map ZP.q,BPt p 1200:=fun p hp=>by
 obtain⟨z,hz,rfl⟩:=bL.1 hp
 have:=bpZ (h z hz)
 exact⟨BQ.mono this.x (by decide),BQ.mono this.y (by decide)⟩
theorem axv(r:List ZP):DV.sl ((r.map ZP.q).map eP)=eRg r:=by unfold eRg;rw[List.map_map];rfl
theorem ai4{rs:List (List ZP)}{k:Nat}{r:List ZP}(h:rs[k]? =some r):acF (rs.take (k+1))=acF (rs.take k)++adi r:=by
 unfold acF;rw[iW,h,pY];simp
theorem ajL{rs:List (List ZP)}(h: ∀r∈rs,abx r)(k:Nat):(acF (rs.take k)).length≤6*k:=by
 have:=(aej (rs:=rs.take k) (fun r hr=>h r (cM hr))).1
 have h2:(rs.take k).length≤k:=by rw[cK];omega
 omega
theorem aAa{rs:List (List ZP)}{fill:Int}(h: ∀r∈rs,abx r)(hn:rs.length≤100):PF GB prog 172 [.sl (rs.map eAr), .v (.int .i64 fill)] (eRR rs fill):=by
 have hm:=aaJ eAr rs
 refine fn (fu:=⟨8⟩) func172 J J ntmps172 J J (fun C=>?_)
 refine bzp (fu:=⟨14⟩) 73 1 0 [] [.v (.int .i64 fill), .sl []] J J J J J<|?_
 refine eqF 15 (.d (vI (rs.length:Nat))) rfl (by rw[hm]<;>rfl) ?_
 refine gx rfl<|?_
 refine nr 6 6 88 6 J J J ?_
 refine lp (X:=Nat) (fun k=>[(16, .d (vI (k:Nat))),(6, .rw 6),(5, .ov 5 0)]) (fun k=>[(5,some (.o 252 [.rw 13, .d (.v (.int .i64 fill)), .d (.sl [])] true)),(13,some (.b 73 1 ((rs.take k).map eRg) true)),(6,some (.b 88 6 (((acF (rs.take k)).map FrQ.l).map eL) true))]) (fun k=>k≤rs.length) (fun k=>rs.length-k) 0 rfl (bK _) (fun _=>rfl) (fun k hk=>?_)
 refine br (fu2:=⟨0⟩) J J J (fun hc17=>?_) (fun hc17=>?_)
 ·
  obtain⟨r,hz⟩: ∃s,rs[k]? =some s:=⟨_,aZ (by omega)⟩
  have hr:=h r (bX hz)
  have hel:(adi r).length≤6:=by have:=(alW hr).1;have:=hr.n6;omega
  have het:=ajL h k
  have hrl:((rs.take k).map eRg).length=k:=by rw[aJ,cK];omega
  refine ix _ rfl (aaB hz) rfl<|cl (fu:=⟨0⟩) rfl (aEf (ps:=r.map ZP.q) (asY hr.le) (by rw[aJ];have:=hr.n6;omega)) rfl<|?_
  refine eqF 21 (.d (eRg r)) rfl (by rw[axv]) ?_
  refine gx rfl<|rf J J<|ap ((rs.take (k+1)).map eRg) rfl (abm hz) (ayd [r]) rfl<|cl (fu:=⟨1⟩) rfl (auy (r:=r) hr) rfl<|?_
  refine eqF 30 (.d (vI ((adi r).length:Nat))) rfl (by rw[aaJ eFF (adi r)]<;>rfl) ?_
  refine gx rfl<|?_
  rw[←gR (acF (rs.take k)),←rN (l:=adi r)]
  refine lp (X:=Nat) (fun j=>[(31, .d (vI (j:Nat))),(6, .rw 6)]) (fun j=>[(6,some (.b 88 6 (((acF (rs.take k)++(adi r).take j).map FrQ.l).map eL) true))]) (fun j=>j≤(adi r).length) (fun j=>(adi r).length-j) 0 rfl (bK _) (fun _=>rfl) (fun j hk=>?_)
  have hml:(((acF (rs.take k)++(adi r).take j).map FrQ.l).map eL).length≤6*k+6:=by rw[aJ,aJ,aV,cK];omega
  refine br J J J (fun hc32=>?_) (fun hc32=>?_)
  ·
   obtain⟨e,he⟩: ∃s,(adi r)[j]? =some s:=⟨_,aZ (by omega)⟩
   refine ix _ rfl (aaB he) rfl<|rf J J<|ap (((acF (rs.take k)++(adi r).take (j+1)).map FrQ.l).map eL) rfl (by rw[iW,he];simp only[bU,cR];rfl) (abI [e.l]) rfl<|?_
   refine rnE 39 6 rfl ?_
   exact at_ (j+1) ⟨(by omega),(by omega)⟩
  ·
   obtain rfl:j=(adi r).length:=by omega
   rw[fK,←ai4 hz]
   refine rnE 26 13 rfl ?_
   exact at_ (k+1) ⟨(by omega),(by omega)⟩
 ·
  obtain rfl:k=rs.length:=by omega
  rw[fK]
  refine fzC 6 rfl ?_
  refine fzC 13 rfl ?_
  refine gx rfl<|cl rfl (aqH (ls:=aDX rs) (fun l hl=>by obtain⟨f,hf,rfl⟩:=bL.1 hl;exact((aej h).2 f hf).lb) (by unfold aDX;rw[aJ];have:=(aej h).1;omega)) rfl<|?_
  exact rz J J
theorem aEa{rs:List (List ZP)}(h: ∀r∈rs,abx r)(hn:rs.length≤100):PF GB prog 173 [.sl (rs.map eRg)] (.sl (rs.map eAr)):=by
 have hm:=aaJ eRg rs
 refine fn (fu:=⟨15⟩) func173 J J ntmps173 J J (fun C=>?_)
 refine eqF 7 (.d (vI (rs.length:Nat))) rfl (by rw[hm]<;>rfl) ?_
 refine gx rfl<|?_
 refine nr 3 3 300 1 J J J ?_
 refine lp (X:=Nat) (fun k=>[(8, .d (vI (k:Nat))),(3, .rw 3)]) (fun k=>[(3,some (.b 300 1 ((rs.take k).map eAr) true))]) (fun k=>k≤rs.length) (fun k=>rs.length-k) 0 rfl (bK _) (fun _=>rfl) (fun k hk=>?_)
 have hml:((rs.take k).map eAr).length≤k:=by rw[aJ,cK];omega
 refine br J J J (fun hc9=>?_) (fun hc9=>?_)
 ·
  obtain⟨r,hz⟩: ∃s,rs[k]? =some s:=⟨_,aZ (by omega)⟩
  have hr:=h r (bX hz)
  refine ix (fu:=⟨1⟩) _ rfl (aaB hz) rfl<|?_
  refine eqF 11 (.d (.sl ((r.map ZP.q).map eP))) rfl (by rw[axv]) ?_
  refine gx rfl<|cl rfl (aDn (ps:=r.map ZP.q) (asY hr.le) (by rw[aJ];have:=hr.n6;omega)) rfl<|rf J J<|ap ((rs.take (k+1)).map eAr) rfl (abm hz) (aCj [r]) rfl<|?_
  refine rnE 16 3 rfl ?_
  exact at_ (k+1) ⟨(by omega),(by omega)⟩
 ·
  obtain rfl:k=rs.length:=by omega
  refine fzE 3 rfl ?_
  exact rz rfl (by rw[fK];rfl)
theorem amb(out:List LnQ)(l:LnQ):(ac5 out l).length≤out.length+1:=by
 unfold ac5
 split
 ·omega
 ·simp;omega
theorem akr(c:List LnQ): ∀(t out:List LnQ),(ae0 c t out).length≤out.length+t.length
 |[],out=>by simp[ae0]
 |l::t,out=>by
  rw[ae0]
  refine cV (akr c t _) ?_
  have:=amb out l
  split<;>simp<;>omega
theorem afx(c:List LnQ):(ab2 c).length≤c.length:=cV (akr c c []) (by simp)
theorem aqj{c:List LnQ}(h: ∀m∈c,LB m): ∀m∈ab2 c,LB m:=fun m hm=>h m (acB.1 hm).1
theorem aql{c:List LnQ}(h: ∀m∈c,m.ok): ∀m∈ab2 c,m.ok:=fun m hm=>h m (acB.1 hm).1
theorem aqq{c:List LnQ}{l:LnQ}(hc: ∀m∈c,LB m)(hok: ∀m∈c,m.ok)(hn:c.length≤900)(hl:LB l)(hlo:l.ok):PF GB prog 106 [.sl (c.map eL),eL l] (.sl ((ab2 (c++[l])).map eL)):=by
 have hcl:=aeG c
 refine fn func106 J J ntmps106 J J (fun C=>?_)
 refine ro0 J J<|ap (c.map eL) J J (abI _) rfl<|rf J J<|apf ((c++[l]).map eL) rfl (by rw[bU];rfl) (abI [l]) rfl<|?_
 refine cl rfl (aAn (c:=c++[l]) (agM hc hl) (acm hok hlo) (by simp;omega)) rfl<|?_
 exact rz J J
theorem awc{l l1:LnQ}{x y u:Tr}:PF GB prog 105 [eL l,eT (.node l1 x y),eT u] (eT (.node l (.node l1 x y) u)):=by
 refine fn (fu:=⟨12⟩) func105 J J ntmps105 J J (fun C=>?_)
 refine knF J J J<|?_
 refine fzE 33 rfl ?_
 exact rz J J
theorem auL{l l1:LnQ}{x y:Tr}{p:Bool}:PF GB prog 105 [eL l,eT (.leaf p),eT (.node l1 x y)] (eT (.node l (.leaf p) (.node l1 x y))):=by
 refine fn (fu:=⟨12⟩) func105 J J ntmps105 J J (fun C=>?_)
 refine knT (fu:=⟨4⟩) J J J<|knF J J J<|?_
 refine fzE 33 rfl ?_
 exact rz J J
theorem art{l:LnQ}{p q:Bool}:PF GB prog 105 [eL l,eT (.leaf p),eT (.leaf q)] (eT (Tr.joinQ l (.leaf p) (.leaf q))):=by
 refine fn (fu:=⟨12⟩) func105 J J ntmps105 J J (fun C=>?_)
 refine knT (fu:=⟨4⟩) J J J<|knT J J J<|?_
 refine bd J J J (fun hc27=>?_) (fun hc27=>?_)
 ·
  exact rz rfl (by rw[show Tr.joinQ l (.leaf p) (.leaf q)= .leaf p by simp[Tr.joinQ,Tr.isLeaf,Tr.code,hc27]];rfl)
 ·
  refine fzE 33 rfl ?_
  exact rz rfl (by rw[show Tr.joinQ l (.leaf p) (.leaf q)= .node l (.leaf p) (.leaf q) by simp[Tr.joinQ,Tr.isLeaf,Tr.code,hc27]];rfl)
theorem ayo{l:LnQ}: ∀{x y:Tr},PF GB prog 105 [eL l,eT x,eT y] (eT (Tr.joinQ l x y))
 | .leaf _, .leaf _=>art
 | .leaf _, .node .. =>auL
 | .node ..,_=>awc
theorem ahX{b:Bool}{c:List LnQ}:PF GB prog 103 [eT (.leaf b), .sl (c.map eL)] (eT (Tr.restrictL (.leaf b) c)):=by
 refine fn (fu:=⟨11⟩) func103 J J ntmps103 J J (fun C=>?_)
 refine knT J J J<|?_
 exact rz J J
theorem ahV{l:LnQ}{x y:Tr}{c:List LnQ}(hl:LB l)(hlo:l.ok)(hc: ∀m∈c,LB m)(hok: ∀m∈c,m.ok)(hn:c.length+(Tr.node l x y).depth≤900)(ihx: ∀{c:List LnQ},(∀m∈c,LB m)→(∀m∈c,m.ok)→c.length+x.depth≤900→PF GB prog 103 [eT x, .sl (c.map eL)] (eT (Tr.restrictL x c)))(ihy: ∀{c:List LnQ},(∀m∈c,LB m)→(∀m∈c,m.ok)→c.length+y.depth≤900→PF GB prog 103 [eT y, .sl (c.map eL)] (eT (Tr.restrictL y c))):PF GB prog 103 [eT (.node l x y), .sl (c.map eL)] (eT (Tr.restrictL (.node l x y) c)):=by
 have hdp:(Tr.node l x y).depth=1+Nat.max x.depth y.depth:=rfl
 have hdx:x.depth≤Nat.max x.depth y.depth:=mT _ _
 have hdy:y.depth≤Nat.max x.depth y.depth:=lM _ _
 have hca:=afx (c++[l])
 have hcb:=afx (c++[l.rev])
 rw[aV,dS] at hca hcb
 refine fn (fu:=⟨11⟩) func103 J J ntmps103 J J (fun C=>?_)
 refine knF J J J<|cl rfl (asg (c:=c) (l:=l) hc hok (by omega) hl hlo) rfl<|?_
 refine br J J J (fun hc16=>?_) (fun hc16=>?_)
 ·
  refine cl rfl (ihx hc hok (by omega)) rfl<|?_
  exact rz rfl (by rw[Tr.restrictL,if_pos hc16];rfl)
 ·
  refine br J J J (fun hc24=>?_) (fun hc24=>?_)
  ·
   refine cl rfl (ihy hc hok (by omega)) rfl<|?_
   exact rz rfl (by rw[Tr.restrictL,if_neg hc16,if_pos hc24];rfl)
  ·
   refine cl rfl (aqq (c:=c) (l:=l) hc hok (by omega) hl hlo) rfl<|cl rfl (ihx (c:=ab2 (c++[l])) (aqj (agM hc hl)) (aql (acm hok hlo)) (by omega)) rfl<|?_
   refine cl rfl (aj0 (l:=l)) rfl<|cl rfl (aqq (c:=c) (l:=l.rev) hc hok (by omega) hl.rev hlo.rev) rfl<|cl rfl (ihy (c:=ab2 (c++[l.rev])) (aqj (agM hc hl.rev)) (aql (acm hok hlo.rev)) (by omega)) rfl<|?_
   refine cl rfl ayo rfl<|?_
   exact rz rfl (by rw[Tr.restrictL,if_neg hc16,if_neg hc24];rfl)
theorem aeS: ∀{t:Tr} {c:List LnQ},t.all LB→t.all LnQ.ok→(∀m∈c,LB m)→(∀m∈c,m.ok)→c.length+t.depth≤900→PF GB prog 103 [eT t, .sl (c.map eL)] (eT (Tr.restrictL t c))
 | .leaf _,_,_,_,_,_,_=>ahX
 | .node l x y,c,hb,ho,hc,hok,hn=>ahV hb.1 ho.1 hc hok hn (fun h1 h2 h3=>aeS hb.2.1 ho.2.1 h1 h2 h3) (fun h1 h2 h3=>aeS hb.2.2 ho.2.2 h1 h2 h3)
def p7:PtQ:=⟨mkRat 1 7,mkRat 1 5⟩
structure LP (l:LnQ):Prop where
 s:LS l
 p:0<l.value p7
def lsR(es:List Int):Nat→Nat→List LnQ×Nat
 |0,a=>([],a)
 |i+1,a=>((lF es a).1::(lsR es i (lF es a).2).1,(lsR es i (lF es a).2).2)
def lsF(es:List Int)(most a:Nat):List LnQ×Nat:=lsR es (aae es ((most:Int)+1) a).1 (aae es ((most:Int)+1) a).2
def aCU(l:LnQ):LnQ:=if(l.value p7).num.sign<0 then l.rev else l
def aF5(xs:List LnQ)(i:Nat):List LnQ:=(xs.take i).map aCU++xs.drop i
def aGn(es:List Int)(a:Nat):List LnQ×Nat:=((lsF es 3 a).1.map aCU,(lsF es 3 a).2)
theorem ayc(xs ys:List NQ)(n:NQ):((xs++(n::ys)).map eN)[((xs.length:Nat):Int).toNat]? =some (eN n):=by simp
theorem ayh(xs ys:List NQ)(n m:NQ)(e:DV)(h:e=eN m):((xs++(n::ys)).map eN).set ((xs.length:Nat):Int).toNat e=(xs++(m::ys)).map eN:=by subst h;simp
theorem ans{ns:List NQ}:PB GB prog 49 (mkB [some (eT (.leaf true)),none]) 8 135 (ns.map eN) (fun w=> .tp ([]++ .v (.slice w.a w.n w.c)::[.v (.int .i64 (Tr.num (.leaf true) ns.length))])) ((ns++Tr.wr (.leaf true) ns.length).map eN):=by
 refine fnB (fu:=⟨12⟩) func49 J J ntmps49 J J (fun C=>?_)
 refine knT (fu:=⟨9⟩) J J J<|knT J J J<|?_
 exact rzB J J J J J (by simp[Tr.wr]) rfl
theorem alr{ns:List NQ}:PB GB prog 49 (mkB [some (eT (.leaf false)),none]) 8 135 (ns.map eN) (fun w=> .tp ([]++ .v (.slice w.a w.n w.c)::[.v (.int .i64 (Tr.num (.leaf false) ns.length))])) ((ns++Tr.wr (.leaf false) ns.length).map eN):=by
 refine fnB (fu:=⟨12⟩) func49 J J ntmps49 J J (fun C=>?_)
 refine knT (fu:=⟨9⟩) J J J<|knF J J J<|?_
 exact rzB J J J J J (by simp[Tr.wr]) rfl
theorem amq{l:LnQ}{s u:Tr}{ns:List NQ}(hl:BL l 96)(hs:ns.length+(1+s.size+u.size)≤1000000)(ihs: ∀{ns:List NQ},ns.length+s.size≤1000000→PB GB prog 49 (mkB [some (eT s),none]) 8 135 (ns.map eN) (fun w=> .tp ([]++ .v (.slice w.a w.n w.c)::[.v (.int .i64 (Tr.num s ns.length))])) ((ns++Tr.wr s ns.length).map eN))(ihu: ∀{ns:List NQ},ns.length+u.size≤1000000→PB GB prog 49 (mkB [some (eT u),none]) 8 135 (ns.map eN) (fun w=> .tp ([]++ .v (.slice w.a w.n w.c)::[.v (.int .i64 (Tr.num u ns.length))])) ((ns++Tr.wr u ns.length).map eN)):PB GB prog 49 (mkB [some (eT (.node l s u)),none]) 8 135 (ns.map eN) (fun w=> .tp ([]++ .v (.slice w.a w.n w.c)::[.v (.int .i64 (Tr.num (.node l s u) ns.length))])) ((ns++Tr.wr (.node l s u) ns.length).map eN):=by
 refine fnB (fu:=⟨12⟩) func49 J J ntmps49 J J (fun C=>?_)
 refine knF (fu:=⟨9⟩) J J J<|?_
 refine eqF 20 (.d (.v (.int .i64 (ns.length:Nat)))) rfl (by simp) ?_
 refine gx rfl<|cl rfl (aDV hl) rfl<|rf J J<|apB ((ns++[(⟨l,0,0⟩:NQ)]).map eN) rfl (by rw[bU]<;>rfl) (aEA [(⟨l,0,0⟩:NQ)]) rfl<|?_
 refine cb _ rfl (ihs (ns:=ns++[(⟨l,0,0⟩:NQ)]) (by simp;omega)) J J<|cb (hv:=by simp only[aai];exact(by simp;omega)) ((ns++((⟨l,0,0⟩:NQ)::(s.wr (ns.length+1)++u.wr (ns.length+1+s.size)))).map eN) rfl (ihu (ns:=ns++[(⟨l,0,0⟩:NQ)]++s.wr (ns++[(⟨l,0,0⟩:NQ)]).length) (by simp[Tr.wr_len];omega)) (by simp[Tr.wr_len,jV,jQ 1]) rfl<|?_
 refine sb (hv:=by simp only[aai];exact(by simp;omega)) (eN ⟨l,0,0⟩) ((ns++((⟨l,s.num (ns.length+1),0⟩:NQ)::(s.wr (ns.length+1)++u.wr (ns.length+1+s.size)))).map eN) rfl (ayc ns _ ⟨l,0,0⟩) rfl (by rw[ayh _ _ _ ⟨l,s.num (ns.length+1),0⟩ _ (by simp[eN,DV.cells])]) rfl<|?_
 refine sb (eN ⟨l,s.num (ns.length+1),0⟩) ((ns++Tr.wr (.node l s u) ns.length).map eN) rfl (ayc ns _ ⟨l,s.num (ns.length+1),0⟩) rfl (by rw[ayh _ _ _ ⟨l,s.num (ns.length+1),u.num (ns.length+1+s.size)⟩ _ (by simp[eN,DV.cells,Tr.wr_len,jV,jQ 1])];simp[Tr.wr]) rfl<|?_
 exact rzB J J J J J J J
theorem aol: ∀{t:Tr} {ns:List NQ},t.all (fun l=>BL l 96)→ns.length+t.size≤1000000→PB GB prog 49 (mkB [some (eT t),none]) 8 135 (ns.map eN) (fun w=> .tp ([]++ .v (.slice w.a w.n w.c)::[.v (.int .i64 (Tr.num t ns.length))])) ((ns++Tr.wr t ns.length).map eN)
 | .leaf true,ns,_,_=>ans
 | .leaf false,ns,_,_=>alr
 | .node l s u,ns,hb,hs=>amq hb.1 hs (fun h=>aol hb.2.1 h) (fun h=>aol hb.2.2 h)
theorem auA{t:Tr}(hb:t.all (fun l=>BL l 96))(hs:t.size≤1000000):PF GB prog 11 [eT t] (eA t):=by
 refine fn func11 J J ntmps11 J J (fun C=>?_)
 refine cbn _ rfl (aol (t:=t) (ns:=[]) hb (by simpa using hs)) J J<|?_
 refine fzE 6 rfl ?_
 exact rz J J
theorem aEu(ds:List Int):adx 1 (ds.map vI):=fun d hd=>by
 obtain⟨n,_,rfl⟩:=bL.1 hd;exact⟨rfl,rfl⟩
theorem awZ(es:List Int):(es.map vI).take (min es.length 400)=(es.take 400).map vI:=by
 rw[gV]
 rcases Nat.le_total es.length 400 with h|h
 ·rw[fU h,aT (by simp),aT (by simpa using h)]
 ·rw[Nat.min_eq_right h]
theorem aDP{es:List Int}(hb:es.length≤1125899906842624):PN GB prog 9 [.sl (es.map vI)] 94 Unit (fun _=>[.sl ((es.take 400).map vI), .v (.int .i64 (0:Nat))]):=by
 have hel:(es.map vI).length=es.length:=by simp
 refine fnN func9 J J ntmps9 J J (fun C hmb=>?_)
 refine sc' 0 (min es.length 400) ((es.take 400).map vI) J J (by rw[hel];show(if _ then _ else _:Int)=_;split<;>omega) (awZ es) (aEu _) (by omega) (by omega) rfl<|?_
 exact rzN () J J J J J
theorem afu{t:Tr}(hb:t.all LB)(hok:t.all LnQ.ok)(hd:t.depth≤900):PF GB prog 96 [eT t] (eT (t.restrict [])):=by
 refine fn func96 J J ntmps96 J J (fun C=>?_)
 refine cl rfl (aeS (t:=t) (c:=[]) hb hok (by simp) (by simp) (by simpa using hd)) rfl<|?_
 exact rz rfl (by rw[←Tr.restrictL_eq t [] [] hok (by simp) ab5.nil (fun p=>by unfold InD InL;simp)];rfl)
theorem ank{cuts:List Rat}{marks:List Bool}: ∀k,2*(adc cuts marks k).length≤k+(if 0<k∧marks.getD (k-1) false=true then 1 else 0)
 |0=>by rw[adc];simp
 |k+1=>by
  have ih:=ank (cuts:=cuts) (marks:=marks) k
  rw[adc]
  simp only[kZ]
  by_cases hm:marks.getD k false=true
  ·rw[if_pos hm,if_pos (show 0<k+1∧marks.getD k false=true from⟨by omega,hm⟩)]
   by_cases hp:0<k∧marks.getD (k-1) false=true
   ·rw[if_pos hp] at ih⊢
    cases hv:(adc cuts marks k).getLast? with
    |some v=>
     have:0<(adc cuts marks k).length:=by
      cases e:adc cuts marks k with
      |nil=>rw[e] at hv;simp at hv
      |cons a t=>simp
     show 2*((adc cuts marks k).dropLast++[_]).length≤_
     rw[aV,gU,dS];omega
    |none=>
     have:adc cuts marks k=[]:=List.getLast?_eq_none_iff.1 hv
     simp only[this];simp
   ·rw[if_neg hp] at ih⊢
    rw[aV,dS];omega
  ·rw[if_neg hm]
   split at ih<;>split<;>omega
theorem awh(op:Int)(a b:List IvQ):(aiV op a b).length≤a.length+b.length+1:=by
 unfold aiV aox
 have h:=ank (cuts:=aeI (a++b)) (marks:=(acP (aeI (a++b))).map fun t=>ahl op (acS a t) (acS b t)) ((acP (aeI (a++b))).map fun t=>ahl op (acS a t) (acS b t)).length
 have h2:=ajl (a++b)
 rw[aV] at h2
 have h3:((acP (aeI (a++b))).map fun t=>ahl op (acS a t) (acS b t)).length=(aeI (a++b)).length+1:=by rw[aJ,agD]
 split at h<;>omega
theorem aiP(f:FrQ)(m:LnQ)(side:Int):(aa4 f m side).length≤3:=by
 unfold aa4
 split
 ·simp
 ·rw[aJ]
  have:=awh 2 [f.v] (ad9 f.l m side)
  have h2:=agG (l:=f.l) (m:=m) (side:=side)
  rw[dS] at this
  omega
theorem aoJ{p v:PtQ}{m:LnQ}{s:Rat}[hp:BPt p 4500][hv:BPt v 97][hm:LB m](hs:BQ s 60000):BQ (adt p v m s) 60000:=by
 unfold adt amA
 split
 ·exact hs
 ·split
  ·exact hs
  ·split
   ·split
    ·haveI:BQ (-(m.value p/(m.value (adH p v ((1:Int):Rat))-m.value p))) 45000:=BQ.mono inferInstance (by decide)
     exact BQ.mono (inferInstance:BQ (-(m.value p/(m.value (adH p v ((1:Int):Rat))-m.value p))/2) _) (by decide)
    ·exact hs
   ·exact hs
theorem aqb{p v:PtQ}[hp:BPt p 4500][hv:BPt v 97]: ∀{c:List LnQ} {s:Rat},(∀m∈c,LB m)→BQ s 60000→BQ (ajU p v c s) 60000
 |[],_,_,hs=>hs
 |m::t,s,hc,hs=>by
  haveI:=hc m aQ
  exact aqb (c:=t) (fun q hq=>hc q (aX _ hq)) (aoJ hs)
theorem anl{c:List LnQ}(hc: ∀m∈c,LB m)(hok: ∀m∈c,m.ok): ∀{t:List LnQ},(∀m∈t,m∈c)→BPt (acJ c t) 70000
 |[],_=>by
  have h0:BQ (0:Rat) 70000:=BQ.mono (k:=1) ⟨by decide,by decide⟩ (by decide)
  exact⟨h0,h0⟩
 |m::t,h=>by
  have hm:=h m aQ
  haveI:=hc m hm
  rw[acJ]
  split
  ·have hbd:=ah8 (v:=IvQ.all) (hok m hm).ne hc IvZ.all (BQ.mono (k:=1) ⟨by decide,by decide⟩ (by decide)) (BQ.mono (k:=1) ⟨by decide,by decide⟩ (by decide))
   haveI:=hbd.1
   haveI:=hbd.2
   haveI hsb:=amo (v:=(acH m c IvQ.all).1) (i:=1200)
   haveI hpt:BPt (m.at (abV (acH m c IvQ.all).1)) 4500:=by have:=BPt.at m (abV (acH m c IvQ.all).1) (1200+1200+5);exact⟨this.x.mono (by decide),this.y.mono (by decide)⟩
   haveI hvt:BPt (ae8 m.dir) 97:=inferInstance
   haveI hns:BQ (ajU (m.at (abV (acH m c IvQ.all).1)) (ae8 m.dir) c ((1:Int):Rat)) 60000:=aqb hc (BQ.mono (k:=2) ⟨by decide,by decide⟩ (by decide))
   have:=BPt.mov (m.at (abV (acH m c IvQ.all).1)) (ae8 m.dir) (ajU (m.at (abV (acH m c IvQ.all).1)) (ae8 m.dir) c ((1:Int):Rat)) 4500 97 60000
   exact⟨this.x.mono (by decide),this.y.mono (by decide)⟩
  ·exact anl hc hok (fun q hq=>h q (aX _ hq))
theorem anJ{l:List FrQ}{k:Nat}{g:FrQ}{m:LnQ}{side:Int}(h:l[k]? =some g):(l.take (k+1)).flatMap (fun g=>aa4 g m side)=(l.take k).flatMap (fun g=>aa4 g m side)++aa4 g m side:=by
 rw[iW,h,pY];simp
theorem ail(l:List FrQ)(m:LnQ)(side:Int):(l.flatMap fun g=>aa4 g m side).length≤3*l.length:=by
 induction l with
 |nil=>simp
 |cons a t ih=>rw[List.flatMap_cons,aV,bZ];have:=aiP a m side;omega
theorem awz{acc:PtQ→Bool}{n:Nat}{c:List LnQ}:alZ acc n [] c= .leaf (acc (acJ c c)):=by cases n<;>rfl
theorem aqV{rs:List (List ZP)}{fill:Int}(hrs: ∀r∈rs,abx r)(hrn:rs.length≤100){n:Nat}{c:List LnQ}(hc: ∀m∈c,LB m)(hok: ∀m∈c,m.ok)(hn:c.length≤900):PF GB prog 221 [eRR rs fill, .sl [], .sl (c.map eL)] (eT (alZ (inR rs fill) n [] c)):=by
 haveI hpb:=anl hc hok (t:=c) (fun _ h=>h)
 refine fn (fu:=⟨11⟩) func221 J J ntmps221 J J (fun C=>?_)
 refine knT J J J<|cl rfl (anP (c:=c) hc hok (by omega)) rfl<|cl rfl (aE6 (p:=acJ c c) (i:=70000) hrs hrn (by decide)) rfl<|cl rfl (acy (p:=inR rs fill (acJ c c))) rfl<|?_
 exact rz rfl (by rw[awz];rfl)
theorem arg{rs:List (List ZP)}{fill:Int}(hrs: ∀r∈rs,abx r)(hrn:rs.length≤100){n:Nat}{f:FrQ}{t:List FrQ}{c:List LnQ}(hfew:Few (n+1) (f::t))(hfo: ∀g∈f::t,FOk g)(hlen:(f::t).length*3^(n+1)≤6973568802)(hc: ∀m∈c,LB m)(hok: ∀m∈c,m.ok)(hn:c.length+(n+1)≤900)(ih: ∀{l:List FrQ} {c:List LnQ},Few n l→(∀f∈l,FOk f)→l.length*3^n≤6973568802→(∀m∈c,LB m)→(∀m∈c,m.ok)→c.length+n≤900→PF GB prog 221 [eRR rs fill, .sl (l.map eFF), .sl (c.map eL)] (eT (alZ (inR rs fill) n l c))):PF GB prog 221 [eRR rs fill, .sl ((f::t).map eFF), .sl (c.map eL)] (eT (alZ (inR rs fill) (n+1) (f::t) c)):=by
 obtain⟨l,hl⟩: ∃l,l=f::t:=⟨_,rfl⟩
 have hl0:l[0]? =some f:=by rw[hl];rfl
 rw[←hl] at hfew hfo hlen⊢
 have hm:=aaJ eFF l
 have hfl:=hfo f (bX hl0)
 haveI:=hfl.lb
 have hlp:0<l.length:=by rw[hl];simp
 have hlb:l.length≤6973568802:=cV (nV _ (dY (by decide))) hlen
 refine fn (fu:=⟨11⟩) func221 J J ntmps221 J J (fun C=>?_)
 refine eqF 17 (.d (vI (l.length:Nat))) rfl (by rw[hm]<;>rfl) ?_
 refine gx (fu:=⟨0⟩) rfl<|knF rfl (by show some (decide _)=some false;rw[decide_eq_false (by omega)]) rfl<|ix (fu:=⟨17⟩) _ rfl (aaB (i:=0) hl0) rfl<|?_
 refine eqF 33 (.d (vI (l.length:Nat))) rfl (by rw[hm]<;>rfl) ?_
 refine gx rfl<|?_
 refine nr 10 10 303 14 J J J ?_
 refine nr 11 11 303 14 J J J ?_
 refine lp (X:=Nat) (fun k=>[(34, .d (vI (k:Nat))),(10, .rw 10),(11, .rw 11)]) (fun k=>[(10,some (.b 303 14 (((l.take k).flatMap fun g=>aa4 g f.l 1).map eFF) true)),(11,some (.b 303 14 (((l.take k).flatMap fun g=>aa4 g f.l (-1)).map eFF) true))]) (fun k=>k≤l.length) (fun k=>l.length-k) 0 rfl (bK _) (fun _=>rfl) (fun k hk=>?_)
 have htk:(l.take k).length≤6973568802:=by rw[cK];omega
 have hb1:(((l.take k).flatMap fun g=>aa4 g f.l 1).map eFF).length≤20920706406:=by rw[aJ];have:=ail (l.take k) f.l 1;omega
 have hb2:(((l.take k).flatMap fun g=>aa4 g f.l (-1)).map eFF).length≤20920706406:=by rw[aJ];have:=ail (l.take k) f.l (-1);omega
 refine br (fu2:=⟨0⟩) J J J (fun hc35=>?_) (fun hc35=>?_)
 ·
  obtain⟨g,hz⟩: ∃s,l[k]? =some s:=⟨_,aZ (by omega)⟩
  have hg:=hfo g (bX hz)
  have hs1:((aa4 g f.l 1).map eFF).length≤3:=by rw[aJ];exact aiP _ _ _
  have hs2:((aa4 g f.l (-1)).map eFF).length≤3:=by rw[aJ];exact aiP _ _ _
  refine ix _ rfl (aaB hz) rfl<|cl rfl (ayH (f:=g) (m:=f.l) hg hfl.ok) rfl<|ap (hbd:=by omega) (((l.take (k+1)).flatMap fun g=>aa4 g f.l 1).map eFF) rfl (by rw[anJ hz,bU]) (akx _) rfl<|?_
  refine ap (hbd:=by omega) (((l.take (k+1)).flatMap fun g=>aa4 g f.l (-1)).map eFF) rfl (by rw[anJ hz,bU]) (akx _) rfl<|?_
  refine rnE 46 10 rfl ?_
  refine rnE 49 11 rfl ?_
  exact at_ (k+1) ⟨(by omega),(by omega)⟩
 ·
  obtain rfl:k=l.length:=by omega
  rw[fK]
  refine fzC 10 rfl ?_
  refine fzC 11 rfl ?_
  refine gx rfl<|ro0 J J<|ap (c.map eL) J J (abI c) rfl<|rf J J<|apf ((c++[f.l]).map eL) rfl (by rw[bU];rfl) (abI [f.l]) rfl<|?_
  refine cl rfl (ih (c:=c++[f.l]) (by subst hl;exact Few.split hfew hfo) (fun g hg=>by obtain⟨q,hq,hg⟩:=pX.1 hg;exact(akU (hfo q hq) hfl.lb g hg).1) (by have:=ail l f.l 1;rw[eX] at hlen;exact cV (bY _ this) (by rw[bM 3,cZ];rw[bM (3^n)] at hlen;exact hlen)) (agM hc hfl.lb) (acm hok hfl.ok) (by rw[aV,dS];omega)) rfl<|?_
  refine ro0 J J<|ap (c.map eL) J J (abI c) rfl<|cl rfl (aj0 (l:=f.l)) rfl<|rf J J<|apf ((c++[f.l.rev]).map eL) rfl (by rw[bU];rfl) (abI [f.l.rev]) rfl<|?_
  refine cl (fu:=⟨1⟩) rfl (ih (c:=c++[f.l.rev]) (by subst hl;exact Few.split hfew hfo) (fun g hg=>by obtain⟨q,hq,hg⟩:=pX.1 hg;exact(akU (hfo q hq) hfl.lb g hg).1) (by have:=ail l f.l (-1);rw[eX] at hlen;exact cV (bY _ this) (by rw[bM 3,cZ];rw[bM (3^n)] at hlen;exact hlen)) (agM hc hfl.lb.rev) (acm hok hfl.ok.rev) (by rw[aV,dS];omega)) rfl<|?_
  refine bxf J J<|?_
  exact rz rfl (by subst hl;rfl)
theorem aCT{rs:List (List ZP)}{fill:Int}(hrs: ∀r∈rs,abx r)(hrn:rs.length≤100): ∀{n:Nat} {l:List FrQ} {c:List LnQ},Few n l→(∀f∈l,FOk f)→l.length*3^n≤6973568802→(∀m∈c,LB m)→(∀m∈c,m.ok)→c.length+n≤900→PF GB prog 221 [eRR rs fill, .sl (l.map eFF), .sl (c.map eL)] (eT (alZ (inR rs fill) n l c))
 |n,[],c,_,_,_,hc,hok,hn=>aqV hrs hrn hc hok (by omega)
 |0,f::t,c,hf,_,_,_,_,_=>by
  obtain⟨K,h1,h2⟩:=hf
  obtain⟨m,hm,_⟩:=h2 f aQ
  rw[bT (l:=K) (by omega)] at hm
  cases hm
 |n+1,f::t,c,hf,ho,hl,hc,hok,hn=>arg hrs hrn hf ho hl hc hok hn (fun a1 a2 a3 a4 a5 a6=>aCT hrs hrn a1 a2 a3 a4 a5 a6)
theorem awA(l:List FrQ):Few l.length l:=⟨l.map FrQ.l,by rw[aJ];exact aM _,fun f hf=>⟨f.l,rM hf, .inl rfl⟩⟩
theorem azR{n:Nat}(h:n≤18):n*3^n≤6973568802:=cV (iK h (bJ (by decide) h)) (by decide)
theorem az4{rs:List (List ZP)}{fill:Int}(hrs: ∀r∈rs,abx r)(hrn:rs.length≤3):PF GB prog 171 [eRR rs fill] (eT (aiW rs fill)):=by
 have hm:=aaJ eRg rs
 have hE:=aej hrs
 have hraw:=axl (acc:=inR rs fill) hE.2 rfl
 refine fn (fu:=⟨17⟩) func171 J J ntmps171 J J (fun C=>?_)
 refine eqF 8 (.d (vI (rs.length:Nat))) rfl (by rw[hm]<;>rfl) ?_
 refine gx rfl<|?_
 refine nr 3 3 303 14 J J J ?_
 refine lp (X:=Nat) (fun k=>[(9, .d (vI (k:Nat))),(3, .rw 3)]) (fun k=>[(3,some (.b 303 14 ((acF (rs.take k)).map eFF) true))]) (fun k=>k≤rs.length) (fun k=>rs.length-k) 0 rfl (bK _) (fun _=>rfl) (fun k hk=>?_)
 have het:((acF (rs.take k)).map eFF).length≤6*k:=by rw[aJ];exact ajL hrs k
 refine br J J J (fun hc10=>?_) (fun hc10=>?_)
 ·
  obtain⟨r,hz⟩: ∃s,rs[k]? =some s:=⟨_,aZ (by omega)⟩
  have hr:=hrs r (bX hz)
  have hel:((adi r).map eFF).length≤6:=by rw[aJ];have:=(alW hr).1;have:=hr.n6;omega
  refine ix _ rfl (aaB hz) rfl<|cl rfl (auy (r:=r) hr) rfl<|ap (hbd:=by omega) ((acF (rs.take (k+1))).map eFF) rfl (by rw[ai4 hz,bU]) (akx _) rfl<|?_
  refine rnE 16 3 rfl ?_
  exact at_ (k+1) ⟨(by omega),(by omega)⟩
 ·
  obtain rfl:k=rs.length:=by omega
  rw[fK]
  refine fz 3 J J<|cl rfl (aCT (n:=(acF rs).length) (l:=acF rs) (c:=[]) hrs (by omega) (awA _) hE.2 (azR (by have:=hE.1;omega)) (fun m h=>by cases h) (fun m h=>by cases h) (by have:=hE.1;rw[dK];omega)) rfl<|?_
  refine cl rfl (afu (t:=aFv rs fill) hraw.gd.lb hraw.gd.ok (by have:=hraw.dp;have:=hE.1;show(alZ _ _ _ _).depth≤900;omega)) rfl<|?_
  exact rz J J
theorem aqC{b:Bool}:PF GB prog 97 [eT (.leaf b)] (eT (Tr.compl (.leaf b))):=by
 refine fn (fu:=⟨11⟩) func97 J J ntmps97 J J (fun C=>?_)
 refine knT J J J<|cl rfl (acy (p:=!b)) rfl<|?_
 exact rz J J
theorem aqF{l:LnQ}{x y:Tr}(ihx:PF GB prog 97 [eT x] (eT x.compl))(ihy:PF GB prog 97 [eT y] (eT y.compl)):PF GB prog 97 [eT (.node l x y)] (eT (Tr.compl (.node l x y))):=by
 refine fn (fu:=⟨11⟩) func97 J J ntmps97 J J (fun C=>?_)
 refine knF J J J<|cl rfl ihx rfl<|cl (fu:=⟨1⟩) rfl ihy rfl<|bxf J J<|?_
 exact rz J J
theorem afW: ∀{t:Tr},PF GB prog 97 [eT t] (eT t.compl)
 | .leaf _=>aqC
 | .node _ _ _=>aqF afW afW
theorem alS{op:Int}{b:Bool}{u:Tr}{c:List LnQ}(hu:u.all LB)(huo:u.all LnQ.ok)(hc: ∀m∈c,LB m)(hok: ∀m∈c,m.ok)(hn:c.length+u.depth≤900):PF GB prog 44 [vI op,eT (.leaf b),eT u, .sl (c.map eL)] (eT (Tr.mergeL op (.leaf b) u c)):=by
 refine fn (fu:=⟨11⟩) func44 J J ntmps44 J J (fun C=>?_)
 refine knT J J J<|cl rfl (aeS (t:=u) (c:=c) hu huo hc hok hn) rfl<|?_
 refine cs 20 J J J (fun hg20=>?_) (fun hg20=>?_)
 ·
  refine bb J J J (fun hc17=>?_) (fun hc17=>?_)
  ·
   refine cl rfl (acy (p:=true)) rfl<|?_
   exact rz rfl (by show eT _=eT _;congr 1;rw[Tr.mergeL];unfold Tr.chooseL;(repeat' split)<;>first|rfl|(exfalso;simp_all;done)|(exfalso;omega))
  ·
   refine cs 30 J J J (fun hg30=>?_) (fun hg30=>?_)
   ·
    refine bb J J J (fun hc27=>?_) (fun hc27=>?_)
    ·
     refine cl rfl (acy (p:=false)) rfl<|?_
     exact rz rfl (by show eT _=eT _;congr 1;rw[Tr.mergeL];unfold Tr.chooseL;(repeat' split)<;>first|rfl|(exfalso;simp_all;done)|(exfalso;omega))
    ·
     refine cs 45 J J J (fun hg45=>?_) (fun hg45=>?_)
     ·
      refine bb J J J (fun hc42=>?_) (fun hc42=>?_)
      ·
       refine cl rfl afW rfl<|?_
       exact rz rfl (by show eT _=eT _;congr 1;rw[Tr.mergeL];unfold Tr.chooseL;(repeat' split)<;>first|rfl|(exfalso;simp_all;done)|(exfalso;omega))
      ·
       exact rz rfl (by show eT _=eT _;congr 1;rw[Tr.mergeL];unfold Tr.chooseL;(repeat' split)<;>first|rfl|(exfalso;simp_all;done)|(exfalso;omega))
     ·
      refine cs 49 J J J (fun hg49=>?_) (fun hg49=>?_)
      ·
       refine bb J J J (fun hc42=>?_) (fun hc42=>?_)
       ·
        refine cl rfl afW rfl<|?_
        exact rz rfl (by show eT _=eT _;congr 1;rw[Tr.mergeL];unfold Tr.chooseL;(repeat' split)<;>first|rfl|(exfalso;simp_all;done)|(exfalso;omega))
       ·
        exact rz rfl (by show eT _=eT _;congr 1;rw[Tr.mergeL];unfold Tr.chooseL;(repeat' split)<;>first|rfl|(exfalso;simp_all;done)|(exfalso;omega))
      ·
       exact rz rfl (by show eT _=eT _;congr 1;rw[Tr.mergeL];unfold Tr.chooseL;(repeat' split)<;>first|rfl|(exfalso;simp_all;done)|(exfalso;omega))
   ·
    refine cs 34 J J J (fun hg34=>?_) (fun hg34=>?_)
    ·
     refine bb J J J (fun hc27=>?_) (fun hc27=>?_)
     ·
      refine cl rfl (acy (p:=false)) rfl<|?_
      exact rz rfl (by show eT _=eT _;congr 1;rw[Tr.mergeL];unfold Tr.chooseL;(repeat' split)<;>first|rfl|(exfalso;simp_all;done)|(exfalso;omega))
     ·
      refine cs 45 J J J (fun hg45=>?_) (fun hg45=>?_)
      ·
       refine bb J J J (fun hc42=>?_) (fun hc42=>?_)
       ·
        refine cl rfl afW rfl<|?_
        exact rz rfl (by show eT _=eT _;congr 1;rw[Tr.mergeL];unfold Tr.chooseL;(repeat' split)<;>first|rfl|(exfalso;simp_all;done)|(exfalso;omega))
       ·
        exact rz rfl (by show eT _=eT _;congr 1;rw[Tr.mergeL];unfold Tr.chooseL;(repeat' split)<;>first|rfl|(exfalso;simp_all;done)|(exfalso;omega))
      ·
       refine cs 49 J J J (fun hg49=>?_) (fun hg49=>?_)
       ·
        refine bb J J J (fun hc42=>?_) (fun hc42=>?_)
        ·
         refine cl rfl afW rfl<|?_
         exact rz rfl (by show eT _=eT _;congr 1;rw[Tr.mergeL];unfold Tr.chooseL;(repeat' split)<;>first|rfl|(exfalso;simp_all;done)|(exfalso;omega))
        ·
         exact rz rfl (by show eT _=eT _;congr 1;rw[Tr.mergeL];unfold Tr.chooseL;(repeat' split)<;>first|rfl|(exfalso;simp_all;done)|(exfalso;omega))
       ·
        exact rz rfl (by show eT _=eT _;congr 1;rw[Tr.mergeL];unfold Tr.chooseL;(repeat' split)<;>first|rfl|(exfalso;simp_all;done)|(exfalso;omega))
    ·
     refine cs 45 J J J (fun hg45=>?_) (fun hg45=>?_)
     ·
      refine bb J J J (fun hc42=>?_) (fun hc42=>?_)
      ·
       refine cl rfl afW rfl<|?_
       exact rz rfl (by show eT _=eT _;congr 1;rw[Tr.mergeL];unfold Tr.chooseL;(repeat' split)<;>first|rfl|(exfalso;simp_all;done)|(exfalso;omega))
      ·
       exact rz rfl (by show eT _=eT _;congr 1;rw[Tr.mergeL];unfold Tr.chooseL;(repeat' split)<;>first|rfl|(exfalso;simp_all;done)|(exfalso;omega))
     ·
      refine cs 49 J J J (fun hg49=>?_) (fun hg49=>?_)
      ·
       refine bb J J J (fun hc42=>?_) (fun hc42=>?_)
       ·
        refine cl rfl afW rfl<|?_
        exact rz rfl (by show eT _=eT _;congr 1;rw[Tr.mergeL];unfold Tr.chooseL;(repeat' split)<;>first|rfl|(exfalso;simp_all;done)|(exfalso;omega))
       ·
        exact rz rfl (by show eT _=eT _;congr 1;rw[Tr.mergeL];unfold Tr.chooseL;(repeat' split)<;>first|rfl|(exfalso;simp_all;done)|(exfalso;omega))
      ·
       exact rz rfl (by show eT _=eT _;congr 1;rw[Tr.mergeL];unfold Tr.chooseL;(repeat' split)<;>first|rfl|(exfalso;simp_all;done)|(exfalso;omega))
 ·
  refine cs 30 J J J (fun hg30=>?_) (fun hg30=>?_)
  ·
   refine bb J J J (fun hc27=>?_) (fun hc27=>?_)
   ·
    refine cl rfl (acy (p:=false)) rfl<|?_
    exact rz rfl (by show eT _=eT _;congr 1;rw[Tr.mergeL];unfold Tr.chooseL;(repeat' split)<;>first|rfl|(exfalso;simp_all;done)|(exfalso;omega))
   ·
    refine cs 45 J J J (fun hg45=>?_) (fun hg45=>?_)
    ·
     refine bb J J J (fun hc42=>?_) (fun hc42=>?_)
     ·
      refine cl rfl afW rfl<|?_
      exact rz rfl (by show eT _=eT _;congr 1;rw[Tr.mergeL];unfold Tr.chooseL;(repeat' split)<;>first|rfl|(exfalso;simp_all;done)|(exfalso;omega))
     ·
      exact rz rfl (by show eT _=eT _;congr 1;rw[Tr.mergeL];unfold Tr.chooseL;(repeat' split)<;>first|rfl|(exfalso;simp_all;done)|(exfalso;omega))
    ·
     refine cs 49 J J J (fun hg49=>?_) (fun hg49=>?_)
     ·
      refine bb J J J (fun hc42=>?_) (fun hc42=>?_)
      ·
       refine cl rfl afW rfl<|?_
       exact rz rfl (by show eT _=eT _;congr 1;rw[Tr.mergeL];unfold Tr.chooseL;(repeat' split)<;>first|rfl|(exfalso;simp_all;done)|(exfalso;omega))
      ·
       exact rz rfl (by show eT _=eT _;congr 1;rw[Tr.mergeL];unfold Tr.chooseL;(repeat' split)<;>first|rfl|(exfalso;simp_all;done)|(exfalso;omega))
     ·
      exact rz rfl (by show eT _=eT _;congr 1;rw[Tr.mergeL];unfold Tr.chooseL;(repeat' split)<;>first|rfl|(exfalso;simp_all;done)|(exfalso;omega))
  ·
   refine cs 34 J J J (fun hg34=>?_) (fun hg34=>?_)
   ·
    refine bb J J J (fun hc27=>?_) (fun hc27=>?_)
    ·
     refine cl rfl (acy (p:=false)) rfl<|?_
     exact rz rfl (by show eT _=eT _;congr 1;rw[Tr.mergeL];unfold Tr.chooseL;(repeat' split)<;>first|rfl|(exfalso;simp_all;done)|(exfalso;omega))
    ·
     refine cs 45 J J J (fun hg45=>?_) (fun hg45=>?_)
     ·
      refine bb J J J (fun hc42=>?_) (fun hc42=>?_)
      ·
       refine cl rfl afW rfl<|?_
       exact rz rfl (by show eT _=eT _;congr 1;rw[Tr.mergeL];unfold Tr.chooseL;(repeat' split)<;>first|rfl|(exfalso;simp_all;done)|(exfalso;omega))
      ·
       exact rz rfl (by show eT _=eT _;congr 1;rw[Tr.mergeL];unfold Tr.chooseL;(repeat' split)<;>first|rfl|(exfalso;simp_all;done)|(exfalso;omega))
     ·
      refine cs 49 J J J (fun hg49=>?_) (fun hg49=>?_)
      ·
       refine bb J J J (fun hc42=>?_) (fun hc42=>?_)
       ·
        refine cl rfl afW rfl<|?_
        exact rz rfl (by show eT _=eT _;congr 1;rw[Tr.mergeL];unfold Tr.chooseL;(repeat' split)<;>first|rfl|(exfalso;simp_all;done)|(exfalso;omega))
       ·
        exact rz rfl (by show eT _=eT _;congr 1;rw[Tr.mergeL];unfold Tr.chooseL;(repeat' split)<;>first|rfl|(exfalso;simp_all;done)|(exfalso;omega))
      ·
       exact rz rfl (by show eT _=eT _;congr 1;rw[Tr.mergeL];unfold Tr.chooseL;(repeat' split)<;>first|rfl|(exfalso;simp_all;done)|(exfalso;omega))
   ·
    refine cs 45 J J J (fun hg45=>?_) (fun hg45=>?_)
    ·
     refine bb J J J (fun hc42=>?_) (fun hc42=>?_)
     ·
      refine cl rfl afW rfl<|?_
      exact rz rfl (by show eT _=eT _;congr 1;rw[Tr.mergeL];unfold Tr.chooseL;(repeat' split)<;>first|rfl|(exfalso;simp_all;done)|(exfalso;omega))
     ·
      exact rz rfl (by show eT _=eT _;congr 1;rw[Tr.mergeL];unfold Tr.chooseL;(repeat' split)<;>first|rfl|(exfalso;simp_all;done)|(exfalso;omega))
    ·
     refine cs 49 J J J (fun hg49=>?_) (fun hg49=>?_)
     ·
      refine bb J J J (fun hc42=>?_) (fun hc42=>?_)
      ·
       refine cl rfl afW rfl<|?_
       exact rz rfl (by show eT _=eT _;congr 1;rw[Tr.mergeL];unfold Tr.chooseL;(repeat' split)<;>first|rfl|(exfalso;simp_all;done)|(exfalso;omega))
      ·
       exact rz rfl (by show eT _=eT _;congr 1;rw[Tr.mergeL];unfold Tr.chooseL;(repeat' split)<;>first|rfl|(exfalso;simp_all;done)|(exfalso;omega))
     ·
      exact rz rfl (by show eT _=eT _;congr 1;rw[Tr.mergeL];unfold Tr.chooseL;(repeat' split)<;>first|rfl|(exfalso;simp_all;done)|(exfalso;omega))
theorem als{op:Int}{l:LnQ}{x y u:Tr}{c:List LnQ}(hl:LB l)(hlo:l.ok)(hc: ∀m∈c,LB m)(hok: ∀m∈c,m.ok)(hn:c.length+(Tr.node l x y).depth+u.depth≤900)(ihx: ∀{c:List LnQ},(∀m∈c,LB m)→(∀m∈c,m.ok)→c.length+x.depth+u.depth≤900→PF GB prog 44 [vI op,eT x,eT u, .sl (c.map eL)] (eT (Tr.mergeL op x u c)))(ihy: ∀{c:List LnQ},(∀m∈c,LB m)→(∀m∈c,m.ok)→c.length+y.depth+u.depth≤900→PF GB prog 44 [vI op,eT y,eT u, .sl (c.map eL)] (eT (Tr.mergeL op y u c))):PF GB prog 44 [vI op,eT (.node l x y),eT u, .sl (c.map eL)] (eT (Tr.mergeL op (.node l x y) u c)):=by
 have hdp:(Tr.node l x y).depth=1+Nat.max x.depth y.depth:=rfl
 have hdx:x.depth≤Nat.max x.depth y.depth:=mT _ _
 have hdy:y.depth≤Nat.max x.depth y.depth:=lM _ _
 have hca:=afx (c++[l])
 have hcb:=afx (c++[l.rev])
 rw[aV,dS] at hca hcb
 refine fn (fu:=⟨11⟩) func44 J J ntmps44 J J (fun C=>?_)
 refine knF J J J<|cl rfl (asg (c:=c) (l:=l) hc hok (by omega) hl hlo) rfl<|?_
 refine br J J J (fun hc64=>?_) (fun hc64=>?_)
 ·
  refine cl rfl (ihx hc hok (by omega)) rfl<|?_
  exact rz rfl (by rw[Tr.mergeL,if_pos hc64];rfl)
 ·
  refine br J J J (fun hc74=>?_) (fun hc74=>?_)
  ·
   refine cl rfl (ihy hc hok (by omega)) rfl<|?_
   exact rz rfl (by rw[Tr.mergeL,if_neg hc64,if_pos hc74];rfl)
  ·
   refine cl rfl (aqq (c:=c) (l:=l) hc hok (by omega) hl hlo) rfl<|cl rfl (ihx (c:=ab2 (c++[l])) (aqj (agM hc hl)) (aql (acm hok hlo)) (by omega)) rfl<|?_
   refine cl rfl (aj0 (l:=l)) rfl<|cl rfl (aqq (c:=c) (l:=l.rev) hc hok (by omega) hl.rev hlo.rev) rfl<|cl rfl (ihy (c:=ab2 (c++[l.rev])) (aqj (agM hc hl.rev)) (aql (acm hok hlo.rev)) (by omega)) rfl<|?_
   refine cl rfl ayo rfl<|?_
   exact rz rfl (by rw[Tr.mergeL,if_neg hc64,if_neg hc74];rfl)
theorem akY{op:Int}{u:Tr}(hu:u.all LB)(huo:u.all LnQ.ok): ∀{t:Tr} {c:List LnQ},t.all LB→t.all LnQ.ok→(∀m∈c,LB m)→(∀m∈c,m.ok)→c.length+t.depth+u.depth≤900→PF GB prog 44 [vI op,eT t,eT u, .sl (c.map eL)] (eT (Tr.mergeL op t u c))
 | .leaf _,_,_,_,hc,hok,hn=>alS hu huo hc hok (cV (Nat.add_le_add_right (nY _ _) _) hn)
 | .node l x y,c,hb,ho,hc,hok,hn=>als hb.1 ho.1 hc hok hn (fun h1 h2 h3=>akY hu huo hb.2.1 ho.2.1 h1 h2 h3) (fun h1 h2 h3=>akY hu huo hb.2.2 ho.2.2 h1 h2 h3)
theorem aB1(p r:ZP):(agT p.q r.q<0↔aAf p r<0)∧(agT p.q r.q=0↔aAf p r=0):=by
 have e1: ∀a b:Int,abh (a:Rat) (b:Rat)<0↔a<b:=fun a b=>by rw[ajk,Rat.intCast_lt_intCast]
 have e2: ∀a b:Int,abh (a:Rat) (b:Rat)=0↔a=b:=fun a b=>by rw[aeF,mS]
 have f1:=e1 p.1 r.1
 have f2:=e2 p.1 r.1
 have f3:=e1 p.2 r.2
 have f4:=e2 p.2 r.2
 show(agT ⟨(p.1:Rat),(p.2:Rat)⟩ ⟨(r.1:Rat),(r.2:Rat)⟩<0↔_)∧(agT ⟨(p.1:Rat),(p.2:Rat)⟩ ⟨(r.1:Rat),(r.2:Rat)⟩=0↔_)
 unfold agT aAf
 dsimp only
 generalize abh (p.1:Rat) (r.1:Rat)=u at*
 generalize abh (p.2:Rat) (r.2:Rat)=v at*
 by_cases h:p.1<r.1
 ·rw[if_pos (by omega),if_pos h];omega
 ·by_cases h2:r.1<p.1
  ·rw[if_pos (by omega),if_neg h,if_pos h2];omega
  ·rw[if_neg (by omega),if_neg h,if_neg h2]
   by_cases h3:p.2<r.2
   ·rw[if_pos h3];omega
   ·rw[if_neg h3]
    split<;>omega
theorem axT(x:ZP): ∀l:List ZP,adE agT x.q (l.map ZP.q)=(av4 x l).map ZP.q
 |[]=>rfl
 |u::t=>by
  obtain⟨h1,h2⟩:=aB1 u x
  rw[bW,adE,av4,axT x t]
  by_cases k1:aAf u x<0
  ·rw[if_pos (h1.2 k1),if_pos k1];rfl
  ·rw[if_neg (fun e=>k1 (h1.1 e)),if_neg k1]
   by_cases k2:aAf u x=0
   ·rw[if_pos (h2.2 k2),if_pos k2];rfl
   ·rw[if_neg (fun e=>k2 (h2.1 e)),if_neg k2];rfl
theorem ayQ(l:List ZP):ajP agT (l.map ZP.q)=(anj l).map ZP.q:=by
 have key: ∀(l o:List ZP),(l.map ZP.q).foldl (fun out x=>adE agT x out) (o.map ZP.q)=(l.foldl (fun out x=>av4 x out) o).map ZP.q:=by
  intro l
  induction l with
  |nil=>intro o;rfl
  |cons x t ih=>intro o;rw[bW,lJ,lJ,axT,ih]
 exact key l []
theorem aFf(l:List ZP):(l.map ZP.q).map eP=l.map eZp:=by rw[List.map_map];rfl
theorem ame{l:List ZP}(h: ∀p∈l,ZP.le 100 p)(hn:l.length≤100000):PF GB prog 219 [.sl (l.map eZp)] (.sl ((anj l).map eZp)):=by
 have:=au8 (GB:=GB) (ps:=l.map ZP.q) (asY h) (by rw[aJ];exact hn)
 rw[ayQ,aFf,aFf] at this
 exact this
theorem azJ(u v:ZP):(PtQ.cross (iP u.1 u.2) (iP v.1 v.2))=((ajD u v:Int):Rat):=by
 unfold PtQ.cross iP ajD
 push_cast
 rfl
theorem aip(u v:ZP):(PtQ.cross (iP u.1 u.2) (iP v.1 v.2)).num.sign≠0↔ajD u v≠0:=by
 rw[azJ,pS]
 exact not_congr iT
theorem aqP{α β:Type}(f:α→β)(l:List α):((l.map f).take (l.length-1)).drop 0=l.dropLast.map f:=by
 rw[hJ,←gV,List.dropLast_eq_take]
theorem ao0{l:List ZP}(h:0<l.length): ∃u,l.getLast? =some u∧l[l.length-1]? =some u∧l.getD (l.length-1) (0,0)=u:=by
 refine⟨l[l.length-1],?_,aZ (by omega),?_⟩
 ·rw[kR];exact aZ (by omega)
 ·rw[aK,aZ (by omega)];rfl
theorem atB{l:List ZP}(h:0<l.length): ∃u,l[0]? =some u∧l.getD 0 (0,0)=u:=by
 refine⟨l[0],aZ (by omega),?_⟩
 rw[aK,aZ (by omega)];rfl
theorem awS{u p:ZP}:(u.1=p.1∧u.2=p.2)↔u=p:=⟨fun h=>Prod.ext h.1 h.2,fun h=>by rw[h];exact⟨rfl,rfl⟩⟩
theorem arF{b:Nat}{es:List Int}(hes:es.length≤400){a:Nat}(ha:a≤es.length):PM GB prog 170 (mkP [none] b) b 94 [.sl (es.map vI), .v (.int .i64 (a:Nat))] (eRg (acT es a).1) [.sl (es.map vI), .v (.int .i64 ((acT es a).2:Nat))]:=by
 have hk0:=aat (n:=4) ha
 refine fnM (fu:=⟨6⟩) func170 J J ntmps170 J J (fun C b m lo hmb=>?_)
 refine mg (X:=Nat) (fun a2=>[]) (fun a2=>[(1000000,some (.o 94 [.d (.sl (es.map vI)), .d (.v (.int .i64 (a2:Nat)))] false))]) (fun a2=>acT es a=auS es a2∧a2≤es.length) [] [1000000] rfl ?_ (fun _=>rfl) (fun a2 ⟨hR,ha2⟩=>?_)
 ·
  refine gx rfl<|cm rfl (fun b=>(abD (n:=4) hes ha (by decide) (by decide))) rfl<|?_
  refine br J J J (fun hc15=>?_) (fun hc15=>?_)
  ·
   have hx1:=aat (n:=5) hk0
   have hy1:=aat (n:=5) hx1
   have hz1:=aat (n:=4) hy1
   have hw1:=aat (n:=4) hz1
   have hl0:=aa0 (es:=es) (n:=5) (a:=(aae es 4 a).2) (by decide)
   have hl1:=aa0 (es:=es) (n:=5) (a:=(aae es 5 (aae es 4 a).2).2) (by decide)
   have hl2:=aa0 (es:=es) (n:=4) (a:=(aae es 5 (aae es 5 (aae es 4 a).2).2).2) (by decide)
   have hl3:=aa0 (es:=es) (n:=4) (a:=(aae es 4 (aae es 5 (aae es 5 (aae es 4 a).2).2).2).2) (by decide)
   refine cm rfl (fun b=>(abD (n:=5) hes hk0 (by decide) (by decide))) rfl<|cm rfl (fun b=>(abD (n:=5) hes hx1 (by decide) (by decide))) rfl<|?_
   refine cm rfl (fun b=>(abD (n:=4) hes hy1 (by decide) (by decide))) rfl<|cm rfl (fun b=>(abD (n:=4) hes hz1 (by decide) (by decide))) rfl<|?_
   refine cl rfl (apP (m:=(((aae es 5 (aae es 4 a).2).1:Int)-4)) (n:=(((aae es 5 (aae es 5 (aae es 4 a).2).2).1:Int)-4)) (by omega) (by omega)) rfl<|?_
   refine cl rfl (apP (m:=(((aae es 5 (aae es 4 a).2).1:Int)-4+1+((aae es 4 (aae es 5 (aae es 5 (aae es 4 a).2).2).2).1:Int))) (n:=(((aae es 5 (aae es 5 (aae es 4 a).2).2).1:Int)-4)) (by omega) (by omega)) rfl<|?_
   refine cl rfl (apP (m:=(((aae es 5 (aae es 4 a).2).1:Int)-4+1+((aae es 4 (aae es 5 (aae es 5 (aae es 4 a).2).2).2).1:Int))) (n:=(((aae es 5 (aae es 5 (aae es 4 a).2).2).1:Int)-4+1+((aae es 4 (aae es 4 (aae es 5 (aae es 5 (aae es 4 a).2).2).2).2).1:Int))) (by omega) (by omega)) rfl<|?_
   refine cl rfl (apP (m:=(((aae es 5 (aae es 4 a).2).1:Int)-4)) (n:=(((aae es 5 (aae es 5 (aae es 4 a).2).2).1:Int)-4+1+((aae es 4 (aae es 4 (aae es 5 (aae es 5 (aae es 4 a).2).2).2).2).1:Int))) (by omega) (by omega)) rfl<|?_
   refine rf J J<|?_
   exact rzM hmb J J (by rw[show acT es a=_ from if_pos hc15];rfl) (by rw[show acT es a=_ from if_pos hc15];rfl)
  ·
   refine br J J J (fun hc46=>?_) (fun hc46=>?_)
   ·
    obtain⟨hp1,hp2,hp3⟩:=anD hk0
    obtain⟨hu1,hu2,hu3,hu4⟩:=aqE hp3
    obtain⟨hv1,hv2,hv3,hv4⟩:=aqE hu4
    haveI:=biC (k:=10) (m:=(vF es (pF es (aae es 4 a).2).2).1.1) (by omega) (by decide)
    haveI:=biC (k:=10) (m:=(vF es (pF es (aae es 4 a).2).2).1.2) (by omega) (by decide)
    haveI:=biC (k:=10) (m:=(vF es (vF es (pF es (aae es 4 a).2).2).2).1.1) (by omega) (by decide)
    haveI:=biC (k:=10) (m:=(vF es (vF es (pF es (aae es 4 a).2).2).2).1.2) (by omega) (by decide)
    refine cm rfl (fun b=>(aDF hes hk0)) rfl<|cm rfl (fun b=>(aDR hes hp3)) rfl<|cm rfl (fun b=>(aDR hes hu4)) rfl<|cl rfl (ak0 (p:=iP (vF es (pF es (aae es 4 a).2).2).1.1 (vF es (pF es (aae es 4 a).2).2).1.2) (q:=iP (vF es (vF es (pF es (aae es 4 a).2).2).2).1.1 (vF es (vF es (pF es (aae es 4 a).2).2).2).1.2)) rfl<|?_
    refine cl rfl (q_S (q:=PtQ.cross (iP (vF es (pF es (aae es 4 a).2).2).1.1 (vF es (pF es (aae es 4 a).2).2).1.2) (iP (vF es (vF es (pF es (aae es 4 a).2).2).2).1.1 (vF es (vF es (pF es (aae es 4 a).2).2).2).1.2))) rfl<|?_
    refine br J J J (fun hc58=>?_) (fun hc58=>?_)
    ·
     refine cl rfl (al0 (n:=1) (by decide) (by decide)) rfl<|cl rfl (ao3 (m:=(pF es (aae es 4 a).2).1.1) (n:=(pF es (aae es 4 a).2).1.2) (m':=(vF es (pF es (aae es 4 a).2).2).1.1) (n':=(vF es (pF es (aae es 4 a).2).2).1.2) (k:=1) (by omega) (by omega) (by omega) (by omega) (by decide)) rfl<|?_
     refine cl rfl (al0 (n:=1) (by decide) (by decide)) rfl<|cl rfl (ao3 (m:=(pF es (aae es 4 a).2).1.1) (n:=(pF es (aae es 4 a).2).1.2) (m':=(vF es (vF es (pF es (aae es 4 a).2).2).2).1.1) (n':=(vF es (vF es (pF es (aae es 4 a).2).2).2).1.2) (k:=1) (by omega) (by omega) (by omega) (by omega) (by decide)) rfl<|?_
     refine rf J J<|?_
     exact rzM hmb J J (by rw[show acT es a=_ from(if_neg hc15).trans ((if_pos hc46).trans (if_pos ((aip _ _).1 hc58)))];rfl) (by rw[show acT es a=_ from(if_neg hc15).trans ((if_pos hc46).trans (if_pos ((aip _ _).1 hc58)))])
    ·
     exact at_ (vF es (vF es (pF es (aae es 4 a).2).2).2).2 ⟨(if_neg hc15).trans ((if_pos hc46).trans (if_neg (fun e=>hc58 ((aip _ _).2 e)))),hv4⟩
   ·
    exact at_ (aae es 4 a).2 ⟨(if_neg hc15).trans (if_neg hc46),hk0⟩
 ·
  have hj1:=aa0 (es:=es) (n:=4) (a:=a2) (by decide)
  have hj2:=aat (n:=4) ha2
  refine cm rfl (fun b=>(abD (n:=4) hes ha2 (by decide) (by decide))) rfl<|?_
  refine nr 10 10 58 6 J J J ?_
  refine lp (X:=List ZP×Nat×Nat) (fun⟨r,i,a3⟩=>[(11, .d (vI (i:Nat))),(10, .rw 10)]) (fun⟨r,i,a3⟩=>[(1000000,some (.o 94 [.d (.sl (es.map vI)), .d (.v (.int .i64 (a3:Nat)))] false)),(10,some (.b 58 6 (r.map eZp) true))]) (fun⟨r,i,a3⟩=>apZ es i a3 r=apZ es (3+(aae es 4 a2).1) (aae es 4 a2).2 []∧a3≤es.length∧Adj r∧r.length+i≤6) (fun⟨r,i,a3⟩=>i) ⟨[],3+(aae es 4 a2).1,(aae es 4 a2).2⟩ rfl ⟨rfl,hj2,Adj.nil,by simp;omega⟩ (fun _=>rfl) (fun⟨r,i,a3⟩ hk=>?_)
  try dsimp only at hk⊢
  obtain⟨h1,h2,h3,h4⟩:=hk
  have hrl:(r.map eZp).length=r.length:=by simp
  refine br (fu2:=⟨0⟩) J J J (fun hc73=>?_) (fun hc73=>?_)
  ·
   obtain⟨j,rfl⟩: ∃j,i=j+1:=⟨i-1,by omega⟩
   obtain⟨hq1,hq2,hq3⟩:=anD h2
   refine cm (fu:=⟨8⟩) rfl (fun b=>(aDF hes h2)) rfl<|?_
   refine csS (v1:=fun hg80=>by simp only[aai];kernel_rfl) J J J J (fun hg80=>?_) (fun hg80=>?_)
   ·
    have hlast: ¬r.getLast? =some (pF es a3).1:=by rw[bT (l:=r) (by omega)];simp
    refine rf J J<|ap ((r++[(pF es a3).1]).map eZp) rfl (by rw[bU];rfl) (azf [_]) rfl<|?_
    refine rnE 95 10 rfl ?_
    exact at_ ⟨r++[(pF es a3).1],j,(pF es a3).2⟩ (by dsimp only;exact⟨⟨by rw[←h1,apZ,if_neg hlast],hq3,h3.snoc ⟨by omega,by omega⟩ hlast,by simp;omega⟩,(by omega)⟩)
   ·
    obtain⟨q,hq,hqi,hqd⟩:=ao0 (l:=r) (by omega)
    have hqm:=h3.le q (rW hq)
    unfold ZP.le at hqm
    refine lb (eZp q) rfl (by rw[show(((r.map eZp).length:Nat):Int)-1=((r.length-1:Nat):Int) by omega];exact aaB hqi) rfl<|cl rfl (alI (m:=q.1) (n:=q.2) (m':=(pF es a3).1.1) (n':=(pF es a3).1.2) (by omega) (by omega) (by omega) (by omega)) rfl<|?_
    refine bb J J J (fun hc91=>?_) (fun hc91=>?_)
    ·
     have hlast: ¬r.getLast? =some (pF es a3).1:=by rw[hq];intro e;have:=awS.2 (Option.some.inj e);simp[this] at hc91
     refine rf J J<|ap ((r++[(pF es a3).1]).map eZp) rfl (by rw[bU];rfl) (azf [_]) rfl<|?_
     refine rnE 95 10 rfl ?_
     exact at_ ⟨r++[(pF es a3).1],j,(pF es a3).2⟩ (by dsimp only;exact⟨⟨by rw[←h1,apZ,if_neg hlast],hq3,h3.snoc ⟨by omega,by omega⟩ hlast,by simp;omega⟩,(by omega)⟩)
    ·
     have hlast:r.getLast? =some (pF es a3).1:=by rw[hq];congr 1;exact awS.1 (by simpa using hc91)
     exact at_ ⟨r,j,(pF es a3).2⟩ (by dsimp only;exact⟨⟨by rw[←h1,apZ,if_pos hlast],hq3,h3,by omega⟩,(by omega)⟩)
  ·
   obtain rfl:i=0:=by omega
   have hg:=h1
   rw[apZ] at hg
   refine fzC 10 rfl ?_
   refine gx rfl<|?_
   refine lp (fu:=⟨5⟩) (X:=List ZP×Nat) (fun⟨l,m⟩=>[(10, .d (.sl (l.map eZp)))]) (fun⟨l,m⟩=>[]) (fun⟨l,m⟩=>ae6 m l=ae6 6 r∧l.length≤m+1∧Adj l∧l.length≤6) (fun⟨l,m⟩=>m) ⟨r,6⟩ rfl ⟨rfl,by omega,h3,by omega⟩ (fun _=>rfl) (fun⟨l,m⟩ hk=>?_)
   try dsimp only at hk⊢
   obtain⟨t1,t2,t3,t4⟩:=hk
   have hll:(l.map eZp).length=l.length:=by simp
   refine csS (v2:=fun hg98=>by simp only[aai];kernel_rfl) J J J J (fun hg98=>?_) (fun hg98=>?_)
   ·
    obtain⟨q,hqi,hqd⟩:=atB (l:=l) (by omega)
    obtain⟨q2,hq0,hqi2,hqd2⟩:=ao0 (l:=l) (by omega)
    have hqm:=t3.le q (bX hqi)
    have hqm2:=t3.le q2 (bX hqi2)
    unfold ZP.le at hqm hqm2
    refine ix _ rfl (aaB (i:=0) hqi) rfl<|ix (eZp q2) rfl (by rw[show(((l.map eZp).length:Nat):Int)-1=((l.length-1:Nat):Int) by omega];exact aaB hqi2) rfl<|?_
    refine cl rfl (alI (m:=q.1) (n:=q.2) (m':=q2.1) (n':=q2.2) (by omega) (by omega) (by omega) (by omega)) rfl<|?_
    refine bd J J J (fun hc110=>?_) (fun hc110=>?_)
    ·
     have hcond:1<l.length∧l.getD 0 (0,0)=l.getD (l.length-1) (0,0):=⟨by omega,by rw[hqd,hqd2];exact awS.1 hc110⟩
     refine sc' 0 (l.length-1) (l.dropLast.map eZp) J J (by omega) (aqP eZp l) (azf l) (bK _) (by omega) rfl<|?_
     exact at_ ⟨l.dropLast,m-1⟩ (by dsimp only;exact⟨⟨by rw[←t1];obtain⟨m,rfl⟩: ∃q,m=q+1:=⟨m-1,by omega⟩;rw[ae6,if_pos hcond];rfl,by rw[gU];omega,t3.drop,by rw[gU];omega⟩,(by omega)⟩)
    ·
     have hcond: ¬(1<l.length∧l.getD 0 (0,0)=l.getD (l.length-1) (0,0)):=fun e=>hc110 (awS.2 (by rw[←hqd,←hqd2];exact e.2))
     refine cl (fu:=⟨1⟩) rfl (ame (l:=l) t3.le (by omega)) rfl<|?_
     have hgen:ae6 6 r=l:=by rw[←t1];cases m with|zero=>rfl|succ m=>rw[ae6,if_neg hcond]
     refine eqF 118 (.d (vI ((anj l).length:Nat))) rfl (by rw[aJ];rfl) ?_
     refine gx rfl<|?_
     refine br J J J (fun hc119=>?_) (fun hc119=>?_)
     ·
      have hfin:acT es a=(aAL,a3):=by rw[hR,auS,←hg,hgen,if_pos (by omega)]
      refine cl rfl (apP (m:=0) (n:=0) (by decide) (by decide)) rfl<|cl rfl (apP (m:=2) (n:=0) (by decide) (by decide)) rfl<|cl rfl (apP (m:=0) (n:=2) (by decide) (by decide)) rfl<|?_
      refine rf J J<|?_
      exact rzM hmb J J (by rw[hfin];rfl) (by rw[hfin])
     ·
      have hfin:acT es a=(l,a3):=by rw[hR,auS,←hg,hgen,if_neg (by omega)]
      exact rzM hmb J J (by rw[hfin];rfl) (by rw[hfin])
   ·
    have hcond: ¬(1<l.length∧l.getD 0 (0,0)=l.getD (l.length-1) (0,0)):=fun e=>by omega
    refine cl (fu:=⟨1⟩) rfl (ame (l:=l) t3.le (by omega)) rfl<|?_
    have hgen:ae6 6 r=l:=by rw[←t1];cases m with|zero=>rfl|succ m=>rw[ae6,if_neg hcond]
    refine eqF 118 (.d (vI ((anj l).length:Nat))) rfl (by rw[aJ];rfl) ?_
    refine gx rfl<|?_
    refine br J J J (fun hc119=>?_) (fun hc119=>?_)
    ·
     have hfin:acT es a=(aAL,a3):=by rw[hR,auS,←hg,hgen,if_pos (by omega)]
     refine cl rfl (apP (m:=0) (n:=0) (by decide) (by decide)) rfl<|cl rfl (apP (m:=2) (n:=0) (by decide) (by decide)) rfl<|cl rfl (apP (m:=0) (n:=2) (by decide) (by decide)) rfl<|?_
     refine rf J J<|?_
     exact rzM hmb J J (by rw[hfin];rfl) (by rw[hfin])
    ·
     have hfin:acT es a=(l,a3):=by rw[hR,auS,←hg,hgen,if_neg (by omega)]
     exact rzM hmb J J (by rw[hfin];rfl) (by rw[hfin])
def aEM:DV:= .v (.pointer none)
def cTd(l:LnQ)(p q:DV):List DV:=[.v (.bool false), .v (.bool false), .v (.bool (decide (l.a<0))),dN l.a.natAbs, .v (.bool (decide (l.b<0))),dN l.b.natAbs, .v (.bool (decide (l.c<0))),dN l.c.natAbs,p,q]
inductive RF (ns:List RN):Int→(Nat→Bool)→DV→Bool→(Nat→Bool)→Prop where
 |leaf (b:Bool) (f:Nat→Bool):RF ns (ac6 b) f (eT (.leaf b)) true f
 |bad (rt:Int) (f:Nat→Bool) (h1:rt≠ -1) (h2:rt≠ -2) (h:rt<0∨(ns.length:Int)≤rt∨(∃k:Nat,rt=k∧k<ns.length∧f k=true)):RF ns rt f aEM false f
 |line (k:Nat) (n:RN) (f:Nat→Bool) (h:ns[k]? =some n) (hf:f k=false) (hl:n.g.ln=none):RF ns (k:Int) f aEM false (amu f k)
 |left (k:Nat) (n:RN) (l:LnQ) (f f2:Nat→Bool) (p:DV) (h:ns[k]? =some n) (hf:f k=false) (hl:n.g.ln=some l) (h1:RF ns n.l (amu f k) p false f2):RF ns (k:Int) f aEM false f2
 |node (k:Nat) (n:RN) (l:LnQ) (f f2 f3:Nat→Bool) (p q:DV) (ok:Bool) (h:ns[k]? =some n) (hf:f k=false) (hl:n.g.ln=some l) (h1:RF ns n.l (amu f k) p true f2) (h2:RF ns n.r f2 q ok f3):RF ns (k:Int) f (.pt (cTd l p q)) ok f3
def aGG(n:Nat)(f:Nat→Bool):Bool:=(List.range n).all f
theorem Tr.all_imp{p q:LnQ→Prop}(h: ∀l,p l→q l): ∀{t:Tr},t.all p→t.all q
 | .leaf _,_=>trivial
 | .node _ _ _,⟨h0,h1,h2⟩=>⟨h _ h0,Tr.all_imp h h1,Tr.all_imp h h2⟩
theorem Tr.gd.bl{t:Tr}(h:t.gd):t.all (fun l=>BL l 96):=Tr.all_imp (fun _ h=>h.bl) h.lb
theorem aDE{t:Tr}(hs:t.size≤65536):((t.wr 0).map RN.of).length≤65536:=by rw[aJ,t.wr_len];exact hs
theorem aub{ai al ae:Addr}(hE:EG GB ai al ae){t:Tr}(h:t.gd)(hs:t.size≤65536):PF GB prog 92 [eA t] (.tp [eA t.compl, .v .nilIface]):=by
 have:=av0 hE (r1:=t.num 0) (axg h.lb) (aDE hs)
 rw[ap2 h.ok,←avb] at this
 exact this
theorem arH{ai al ae:Addr}(hE:EG GB ai al ae){op:Int}{a b:Tr}(ho:1≤op∧op≤4)(ha:a.gd)(hb:b.gd)(hsa:a.size≤65536)(hsb:b.size≤65536):PF GB prog 30 [vI op,eA a,eA b] (aEP (aEL al (ajV op a b))):=by
 have:=avp hE (op:=op) (r1:=a.num 0) (axg ha.lb) (aDE hsa) (r2:=b.num 0) (axg hb.lb) (aDE hsb)
 rw[ap2 ha.ok,ap2 hb.ok,←avb,←avb,amE,if_pos ho] at this
 exact this
theorem aiS{ai al ae:Addr}(hE:EG GB ai al ae){op:Int}{a b t:Tr}(ho:1≤op∧op≤4)(ha:a.gd)(hb:b.gd)(hsa:a.size≤65536)(hsb:b.size≤65536)(h:ajV op a b=some t):PF GB prog 30 [vI op,eA a,eA b] (.tp [eA t, .v .nilIface]):=by
 have:=arH hE ho ha hb hsa hsb;rw[h] at this;exact this
def l00:LnQ:=⟨0,1,0⟩
def t00:Tr:= .node l00 (.leaf true) (.leaf false)
theorem aCf:ao6 0 0 1 0=l00:=by kernel_rfl
theorem aBC:LB l00:=⟨⟨by decide,by decide,by decide⟩⟩
theorem aA1:l00.ok:=by decide
theorem akM:t00.gd:=⟨⟨aBC,trivial,trivial⟩,⟨aA1,trivial,trivial⟩⟩
theorem aEs:ajV 1 t00 t00.compl=some (.leaf true):=by kernel_rfl
theorem aD8:ajV 4 t00 t00=some (.leaf false):=by kernel_rfl
theorem aEg{ai al ae:Addr}(hE:EG GB ai al ae):PF GB prog 30 [vI 1,eA t00,eA t00.compl] (.tp [.ag [vI (-2), .sl []], .v .nilIface]):=aiS hE (by decide) akM (alv akM) (by decide) (by decide) aEs
theorem aEQ{ai al ae:Addr}(hE:EG GB ai al ae):PF GB prog 30 [vI 4,eA t00,eA t00] (.tp [.ag [vI (-1), .sl []], .v .nilIface]):=aiS hE (by decide) akM akM (by decide) (by decide) aD8
theorem ain{ai al ae:Addr}(hE:EG GB ai al ae):PF GB prog 36 [] (.v (.bool true)):=by
 refine fn func36 J J ntmps36 J J (fun C=>?_)
 refine cl rfl (apP (m:=0) (n:=0) (by decide) (by decide)) rfl<|cl rfl (apP (m:=1) (n:=0) (by decide) (by decide)) rfl<|cl (fu:=⟨2⟩) rfl (ai9 (m:=0) (n:=0) (m':=1) (n':=0) (by decide) (by decide) (by decide) (by decide) (by decide)) rfl<|?_
 refine eqF 14 (.d (eL l00)) rfl (by rw[aCf]) ?_
 refine gx rfl<|cl rfl acy rfl<|cl (fu:=⟨1⟩) rfl acy rfl<|bxf J J<|cl rfl (auA (t:=t00) akM.bl (by decide)) rfl<|cl rfl (aub hE (t:=t00) akM (by decide)) rfl<|?_
 refine cl rfl (aEg hE) rfl<|cl (fu:=⟨23⟩) rfl (aEQ hE) rfl<|knT (fu:=⟨4⟩) J J J<|knT (fu:=⟨9⟩) (hv:=by simp only[aai];exact(by decide)) J J J<|knT J J J<|?_
 exact rz J J
theorem afY.red_size{k:Nat}{t:Tr}(h:afY k t)(hr:t.Red []):t.size≤k*(1+k):=by
 obtain⟨K,h1,h2,h3⟩:=h.am
 exact cV (Tr.size_le h2 hr h.gd.ok ab5.nil h3) (iK h1 (by omega))
structure TrX (k:Nat) (t:Tr):Prop where
 o:afY k t
 s:t.size≤3000
theorem TrX.gd{k:Nat}{t:Tr}(h:TrX k t):t.gd:=h.o.gd
theorem TrX.lb{k:Nat}{t:Tr}(h:TrX k t):t.all LB:=h.o.gd.lb
theorem TrX.ok{k:Nat}{t:Tr}(h:TrX k t):t.all LnQ.ok:=h.o.gd.ok
theorem TrX.bl{k:Nat}{t:Tr}(h:TrX k t):t.all (fun l=>BL l 96):=Tr.all_imp (fun _ h=>h.bl) h.o.gd.lb
theorem TrX.dp{k:Nat}{t:Tr}(h:TrX k t):t.depth≤k:=h.o.dp
theorem afY.x{k:Nat}{t:Tr}(h:afY k t)(hr:t.Red [])(hk:k≤54):TrX k t:=
 ⟨h,cV (h.red_size hr) (cV (iK hk (show 1+k≤55 by omega)) (by decide))⟩
theorem TrX.merge{j k:Nat}{op:Int}{t u:Tr}(h:TrX j t)(hu:TrX k u)(hk:j+k≤54):TrX (j+k) (t.mergeQ op u []):=(h.o.merge hu.o).x (Tr.merge_red op u t []) hk
theorem TrX.lim{j k:Nat}{op:Int}{t u:Tr}(h:TrX j t)(hu:TrX k u)(hk:j+k≤200):ajV op t u=some (t.mergeQ op u []):=h.o.lim hu.o hk
theorem auK(rs:List (List ZP))(fill:Int):(aiW rs fill).Red []:=Tr.restrict_red _ _
theorem aki(es:List Int)(a:Nat):(adU es a).1.Red []:=by
 unfold adU
 dsimp only
 split<;>exact auK _ _
theorem aok(es:List Int)(a:Nat):(aah es 0 a).1.Red []:=by
 rw[aah]
 try dsimp only
 split
 ·exact Tr.restrict_red _ _
 ·split
  ·exact Tr.restrict_red _ _
  ·split
   ·exact Tr.compl_red (aki _ _)
   ·exact aki _ _
theorem afJ{es:List Int}{a:Nat}(ha:a≤es.length):TrX 18 (aah es 0 a).1∧(aah es 0 a).2≤es.length:=by
 obtain⟨h1,h2⟩:=aey (d:=0) ha
 exact⟨(afY.mono h1 (by decide)).x (aok es a) (by decide),h2⟩
theorem agJ{es:List Int}{a:Nat}(ha:a≤es.length):TrX 18 (aa8 es 3 a).1∧(aa8 es 3 a).2≤es.length:=by
 obtain⟨h1,h2⟩:=anV (d:=3) ha (by decide)
 have h5:=Tr.size_lt (aa8 es 3 a).1
 have h6:(2:Nat)^(aa8 es 3 a).1.depth≤2^4:=bJ (by decide) (by have:=(ag9 (d:=3) ha).1;omega)
 exact⟨⟨h1,by omega⟩,h2⟩
def afn(es:List Int)(a:Nat):(Tr×Tr)×Nat:=
 let x:=aah es 0 a
 let y:=aah es 0 x.2
 let k:=aae es 3 y.2
 let u:=if(k.1:Int)=0 then aa8 es 3 k.2 else(x.1,k.2)
 let j:=aae es 3 u.2
 let v:=if(j.1:Int)=0 then aa8 es 3 j.2 else(y.1,j.2)
 ((u.1,v.1),v.2)
theorem avq{es:List Int}{a:Nat}(ha:a≤es.length):TrX 18 (afn es a).1.1∧TrX 18 (afn es a).1.2∧(afn es a).2≤es.length:=by
 obtain⟨x1,x2⟩:=afJ ha
 obtain⟨y1,y2⟩:=afJ x2
 have hk:=aat (n:=3) y2
 unfold afn
 dsimp only
 have hu:TrX 18 (if((aae es 3 (aah es 0 (aah es 0 a).2).2).1:Int)=0 then aa8 es 3 (aae es 3 (aah es 0 (aah es 0 a).2).2).2 else((aah es 0 a).1,(aae es 3 (aah es 0 (aah es 0 a).2).2).2)).1∧(if((aae es 3 (aah es 0 (aah es 0 a).2).2).1:Int)=0 then aa8 es 3 (aae es 3 (aah es 0 (aah es 0 a).2).2).2 else((aah es 0 a).1,(aae es 3 (aah es 0 (aah es 0 a).2).2).2)).2≤es.length:=by
  split
  ·exact agJ hk
  ·exact⟨x1,hk⟩
 generalize (if((aae es 3 (aah es 0 (aah es 0 a).2).2).1:Int)=0 then aa8 es 3 (aae es 3 (aah es 0 (aah es 0 a).2).2).2 else((aah es 0 a).1,(aae es 3 (aah es 0 (aah es 0 a).2).2).2))=u at*
 obtain⟨u1,u2⟩:=hu
 have hj:=aat (n:=3) u2
 refine⟨u1,?_⟩
 split
 ·exact agJ hj
 ·exact⟨y1,hj⟩
def aFS(es:List Int)(a:Nat):(Tr×Tr)×Nat:=
 let x:=aah es 0 a
 let y:=aah es 0 x.2
 let k:=aae es 6 y.2
 if(k.1:Int)=0 then((x.1, .node (lF es k.2).1 x.1 x.1),(lF es k.2).2)
 else if(k.1:Int)=1 then((x.1,y.1.mergeQ 1 x.1 []),k.2)
 else if(k.1:Int)=2 then((x.1,y.1.mergeQ 3 x.1 []),k.2)
 else if(k.1:Int)=3 then((x.1,(aa8 es 3 k.2).1),(aa8 es 3 k.2).2)
 else((x.1,y.1),k.2)
def aBa(es:List Int):Nat→Nat→List Tr×Nat
 |0,a=>([],a)
 |n+1,a=>((aah es 0 a).1::(aBa es n (aah es 0 a).2).1,(aBa es n (aah es 0 a).2).2)
def aFU(r:List ZP)(i k:Nat):Bool:=decide (k=i)||decide (k=(i+1)%r.length)||decide (0<ak6 (r.getD i (0,0)).q (afT r i).q (r.getD k (0,0)).q)
def aEy(r:List ZP):Bool:=(List.range r.length).all fun i=>(List.range r.length).all fun k=>aFU r i k
theorem aCC{r:List ZP}(h:abx r): ∀x∈[r],abx x:=fun x hx=>by rw[aS] at hx;subst hx;exact h
theorem aA9{r s:List ZP}(h:abx r)(k:abx s): ∀x∈[r,s],abx x:=fun x hx=>by
 simp only[aU,mZ,or_false] at hx
 rcases hx with rfl|rfl
 ·exact h
 ·exact k
theorem ag0{b:Nat}{es:List Int}(hes:es.length≤400){a:Nat}(ha:a≤es.length):PM GB prog 98 (mkP [none] b) b 94 [.sl (es.map vI), .v (.int .i64 (a:Nat))] (eT (adU es a).1) [.sl (es.map vI), .v (.int .i64 ((adU es a).2:Nat))]:=by
 obtain⟨r1,r2⟩:=aif ha
 have hk3:=aat (n:=3) r2
 refine fnM func98 J J ntmps98 J J (fun C b m lo hmb=>?_)
 refine cm rfl (fun b=>(arF hes ha)) rfl<|ro (fu:=⟨4⟩) J J<|?_
 refine mg (X:=List (List ZP)×Nat) (fun⟨rs,a2⟩=>[(3, .rw 6)]) (fun⟨rs,a2⟩=>[(1000000,some (.o 94 [.d (.sl (es.map vI)), .d (.v (.int .i64 (a2:Nat)))] false)),(6,some (.b 73 1 (rs.map eRg) true))]) (fun⟨rs,a2⟩=>adU es a=(aiW rs (1+((aae es 2 a2).1:Int)),(aae es 2 a2).2)∧a2≤es.length∧(∀r∈rs,abx r)∧rs.length≤2) [3] [1000000,6] rfl ?_ (fun _=>rfl) (fun⟨rs,a2⟩ ⟨hB,ha2,hrs,hrl⟩=>?_)
 ·
  refine gx rfl<|cm rfl (fun b=>(abD (n:=3) hes r2 (by decide) (by decide))) rfl<|?_
  refine br J J J (fun hc9=>?_) (fun hc9=>?_)
  ·
   obtain⟨s1,s2⟩:=aif hk3
   refine cm rfl (fun b=>(arF hes hk3)) rfl<|rf J J<|ap (hbd:=by simp) ([(acT es a).1,(acT es (aae es 3 (acT es a).2).2).1].map eRg) J J (ayd [(acT es (aae es 3 (acT es a).2).2).1]) rfl<|?_
   refine rnE 14 6 rfl ?_
   exact at_ ⟨[(acT es a).1,(acT es (aae es 3 (acT es a).2).2).1],(acT es (aae es 3 (acT es a).2).2).2⟩ ⟨if_pos hc9,s2,aA9 r1 s1,by simp⟩
  ·
   exact at_ ⟨[(acT es a).1],(aae es 3 (acT es a).2).2⟩ ⟨if_neg hc9,hk3,aCC r1,by simp⟩
 ·
  try dsimp only at hB ha2 hrs hrl⊢
  have hf2:=aa0 (es:=es) (n:=2) (a:=a2) (by decide)
  refine fz 6 J J<|cl rfl (aEa (rs:=rs) hrs (by omega)) rfl<|cm rfl (fun b=>(abD (n:=2) hes ha2 (by decide) (by decide))) rfl<|cl rfl (aAa (rs:=rs) (fill:=1+((aae es 2 a2).1:Int)) hrs (by omega)) rfl<|?_
  refine cl rfl (az4 (rs:=rs) (fill:=1+((aae es 2 a2).1:Int)) hrs (by omega)) rfl<|?_
  exact rzM hmb J J (by rw[hB];rfl) (by rw[hB])
theorem alf{b:Nat}{es:List Int}(hes:es.length≤400){a:Nat}(ha:a≤es.length){n:Int}(hn:n=0):PM GB prog 41 (mkP [none,some (.v (.int .i64 n))] b) b 94 [.sl (es.map vI), .v (.int .i64 (a:Nat))] (eT (aah es 0 a).1) [.sl (es.map vI), .v (.int .i64 ((aah es 0 a).2:Nat))]:=by
 have hk0:=aat (n:=6) ha
 obtain⟨hl,hl2⟩:=aqy hk0
 obtain⟨ht,ht2⟩:=agJ hk0
 obtain⟨hb,hb2⟩:=aek hk0
 refine fnM func41 J J ntmps41 J J (fun C b m lo hmb=>?_)
 refine cm (fu:=⟨5⟩) rfl (fun b=>(abD (n:=6) hes ha (by decide) (by decide))) rfl<|?_
 refine mg (X:=Unit) (fun _=>[(9, .ff)]) (fun _=>[]) (fun _=>True) [9] [] rfl ?_ (fun _=>rfl) (fun _ _=>?_)
 ·
  refine gx rfl<|?_
  refine cs (fu1:=⟨1⟩) 12 J J J (fun hg12=>?_) (fun hg12=>?_)
  ·
   refine knF rfl (by show some (decide _)=some false;rw[decide_eq_false (by omega)]) rfl<|?_
   exact at_ () trivial
  ·
   exact at_ () trivial
 ·
  refine br J J J (fun hc29=>?_) (fun hc29=>?_)
  ·
   refine cm rfl (fun b=>(aD0 hes hk0)) rfl<|cl rfl (acy (p:=true)) rfl<|cl (fu:=⟨1⟩) rfl (acy (p:=false)) rfl<|bxf J J<|cl rfl (afu (t:= .node (lF es (aae es 6 a).2).1 (.leaf true) (.leaf false)) ⟨⟨hl.bl⟩,trivial,trivial⟩ ⟨hl.ok,trivial,trivial⟩ (by simp[Tr.depth])) rfl<|?_
   exact rzM hmb J J (by rw[show aah es 0 a=_ from if_pos hc29];rfl) (by rw[show aah es 0 a=_ from if_pos hc29])
  ·
   refine br J J J (fun hc39=>?_) (fun hc39=>?_)
   ·
    refine cm rfl (fun b=>(akS (d:=3) hes hk0 (by decide))) rfl<|cl rfl (afu (t:=(aa8 es 3 (aae es 6 a).2).1) ht.lb ht.ok (by have:=ht.dp;omega)) rfl<|?_
    exact rzM hmb J J (by rw[show aah es 0 a=_ from(if_neg hc29).trans (if_pos hc39)];rfl) (by rw[show aah es 0 a=_ from(if_neg hc29).trans (if_pos hc39)])
   ·
    refine br J J J (fun hc45=>?_) (fun hc45=>?_)
    ·
     refine cm rfl (fun b=>(ag0 hes hk0)) rfl<|cl rfl afW rfl<|?_
     exact rzM hmb J J (by rw[show aah es 0 a=_ from(if_neg hc29).trans ((if_neg hc39).trans (if_pos hc45))];rfl) (by rw[show aah es 0 a=_ from(if_neg hc29).trans ((if_neg hc39).trans (if_pos hc45))])
    ·
     refine cm rfl (fun b=>(ag0 hes hk0)) rfl<|?_
     exact rzM hmb J J (by rw[show aah es 0 a=_ from(if_neg hc29).trans ((if_neg hc39).trans (if_neg hc45))];rfl) (by rw[show aah es 0 a=_ from(if_neg hc29).trans ((if_neg hc39).trans (if_neg hc45))])
theorem alz{b:Nat}{es:List Int}(hes:es.length≤400){a:Nat}(ha:a≤es.length){d:Nat}{n:Int}(hn:n=((d+1:Nat):Int))(hd:d≤3)(ih: ∀{GB:Gh} {b a:Nat} {n:Int},a≤es.length→n=(d:Int)→PM GB prog 41 (mkP [none,some (.v (.int .i64 n))] b) b 94 [.sl (es.map vI), .v (.int .i64 (a:Nat))] (eT (aah es d a).1) [.sl (es.map vI), .v (.int .i64 ((aah es d a).2:Nat))]):PM GB prog 41 (mkP [none,some (.v (.int .i64 n))] b) b 94 [.sl (es.map vI), .v (.int .i64 (a:Nat))] (eT (aah es (d+1) a).1) [.sl (es.map vI), .v (.int .i64 ((aah es (d+1) a).2:Nat))]:=by
 have hk0:=aat (n:=6) ha
 obtain⟨hl,hl2⟩:=aqy hk0
 obtain⟨ht,ht2⟩:=agJ hk0
 obtain⟨hb,hb2⟩:=aek hk0
 obtain⟨g1,g2⟩:=aey (d:=d) hk0
 have hj:=aat (n:=4) g2
 have hjl:=aa0 (es:=es) (n:=4) (a:=(aah es d (aae es 6 a).2).2) (by decide)
 obtain⟨g3,g4⟩:=aey (d:=d) hj
 have hpw:18*2^d≤18*2^3:=eM _ (bJ (by decide) hd)
 refine fnM func41 J J ntmps41 J J (fun C b m lo hmb=>?_)
 refine cm rfl (fun b=>(abD (n:=6) hes ha (by decide) (by decide))) rfl<|?_
 refine cs (fu1:=⟨1⟩) 12 J J J (fun hg12=>?_) (fun hg12=>?_)
 ·
  refine knT rfl (by show some (decide _)=some true;rw[decide_eq_true (by omega)]) rfl<|cm rfl (fun b=>(ih hk0 (by omega))) rfl<|cm rfl (fun b=>(abD (n:=4) hes g2 (by decide) (by decide))) rfl<|?_
  refine cm rfl (fun b=>(ih hj (by omega))) rfl<|cl rfl (akY (op:=1+((aae es 4 (aah es d (aae es 6 a).2).2).1:Int)) (t:=(aah es d (aae es 6 a).2).1) (u:=(aah es d (aae es 4 (aah es d (aae es 6 a).2).2).2).1) (c:=[]) g3.gd.lb g3.gd.ok g1.gd.lb g1.gd.ok (fun m h=>by cases h) (fun m h=>by cases h) (by have:=g1.dp;have:=g3.dp;rw[dK];omega)) rfl<|?_
  exact rzM hmb J J (by rw[show aah es (d+1) a=_ from if_pos hg12];show eT (Tr.mergeL _ _ _ _)=eT (Tr.mergeQ _ _ _ _);rw[Tr.mergeL_nil (by omega) g1.gd.ok g3.gd.ok]) (by rw[show aah es (d+1) a=_ from if_pos hg12])
 ·
  refine br J J J (fun hc29=>?_) (fun hc29=>?_)
  ·
   refine cm rfl (fun b=>(aD0 hes hk0)) rfl<|cl rfl (acy (p:=true)) rfl<|cl (fu:=⟨1⟩) rfl (acy (p:=false)) rfl<|bxf J J<|cl rfl (afu (t:= .node (lF es (aae es 6 a).2).1 (.leaf true) (.leaf false)) ⟨⟨hl.bl⟩,trivial,trivial⟩ ⟨hl.ok,trivial,trivial⟩ (by simp[Tr.depth])) rfl<|?_
   exact rzM hmb J J (by rw[show aah es (d+1) a=_ from(if_neg hg12).trans (if_pos hc29)];rfl) (by rw[show aah es (d+1) a=_ from(if_neg hg12).trans (if_pos hc29)])
  ·
   refine br J J J (fun hc39=>?_) (fun hc39=>?_)
   ·
    refine cm rfl (fun b=>(akS (d:=3) hes hk0 (by decide))) rfl<|cl rfl (afu (t:=(aa8 es 3 (aae es 6 a).2).1) ht.lb ht.ok (by have:=ht.dp;omega)) rfl<|?_
    exact rzM hmb J J (by rw[show aah es (d+1) a=_ from(if_neg hg12).trans ((if_neg hc29).trans (if_pos hc39))];rfl) (by rw[show aah es (d+1) a=_ from(if_neg hg12).trans ((if_neg hc29).trans (if_pos hc39))])
   ·
    refine br J J J (fun hc45=>?_) (fun hc45=>?_)
    ·
     refine cm rfl (fun b=>(ag0 hes hk0)) rfl<|cl rfl afW rfl<|?_
     exact rzM hmb J J (by rw[show aah es (d+1) a=_ from(if_neg hg12).trans ((if_neg hc29).trans ((if_neg hc39).trans (if_pos hc45)))];rfl) (by rw[show aah es (d+1) a=_ from(if_neg hg12).trans ((if_neg hc29).trans ((if_neg hc39).trans (if_pos hc45)))])
    ·
     refine cm rfl (fun b=>(ag0 hes hk0)) rfl<|?_
     exact rzM hmb J J (by rw[show aah es (d+1) a=_ from(if_neg hg12).trans ((if_neg hc29).trans ((if_neg hc39).trans (if_neg hc45)))];rfl) (by rw[show aah es (d+1) a=_ from(if_neg hg12).trans ((if_neg hc29).trans ((if_neg hc39).trans (if_neg hc45)))])
theorem anb{es:List Int}(hes:es.length≤400): ∀{d:Nat} {GB:Gh} {b a:Nat} {n:Int},d≤4→a≤es.length→n=(d:Int)→PM GB prog 41 (mkP [none,some (.v (.int .i64 n))] b) b 94 [.sl (es.map vI), .v (.int .i64 (a:Nat))] (eT (aah es d a).1) [.sl (es.map vI), .v (.int .i64 ((aah es d a).2:Nat))]
 |0,_,_,_,_,_,ha,hn=>alf hes ha hn
 |d+1,_,_,_,_,hd,ha,hn=>alz hes ha hn (by omega) (fun h1 h2=>anb hes (by omega) h1 h2)
theorem amy{es:List Int}(hes:es.length≤400){a d b:Nat}(ha:a≤es.length)(hd:d≤4):PM GB prog 41 (mkP [none,some (.v (.int .i64 (d:Nat)))] b) b 94 [.sl (es.map vI), .v (.int .i64 (a:Nat))] (eT (aah es d a).1) [.sl (es.map vI), .v (.int .i64 ((aah es d a).2:Nat))]:=anb (GB:=GB) hes hd ha rfl
section
variable {GB:Gh} {C:Ctx} {n:Nat} {Q0:Exit→Act→World→Prop} {fr fr' fr1 fr2:FrX} {own own' own1 own2:OwX} {cf cf' cf1 cf2:Cf} {vc vc1 vc2:List Prop}
def aGQ(fr:FrX)(cf:Cf):Option Int:=match opC fr cf with
 |some ⟨_, .binOp .and _ x (.const (.int .i64 3)) _,_,_,_,_⟩=>match evX (lkC fr cf) x with
  |some (.d (.v (.int .i64 p)))=>some p
  |_=>none
 |_=>none
end
end Go.Sx
end
