/- Part 18 of a proof. -/
import Derived.Test.YtfccecinjmbfhaaGreatDoorMb17
set_option linter.unusedSimpArgs false
set_option maxHeartbeats 2000000
set_option maxRecDepth 100000
set_option linter.unusedVariables false
section
namespace Go.Sx
open Go Go.Proofs Tryz
variable {GB:Gh}
theorem aqQ(l m:LnQ):l.dir.cross m.dir=(crossI l m:Rat):=by
 unfold PtQ.cross LnQ.dir crossI
 rw[jR,cV,cV]
 grind
theorem aDM{l m:LnQ}(h:0<Int.sign (l.dir.cross m.dir).num):crossI l m≠0:=fun e=>by
 rw[ac7,aqQ,e] at h;exact absurd h (by decide)
theorem asX{l m:LnQ}(h:crossI l m≠0):l.nor.cross m.nor≠0:=fun e=>by
 have:l.nor.cross m.nor=(crossI l m:Rat):=by
  unfold PtQ.cross LnQ.nor crossI
  rw[jR,cV,cV]
  grind
 rw[this] at e
 exact h (cR.1 e)
theorem aBt{l m:LnQ}(h:crossI l m≠0):abH l m=⟨((l.b:Rat)*(m.c:Rat)-(l.c:Rat)*(m.b:Rat))/l.nor.cross m.nor,((l.c:Rat)*(m.a:Rat)-(l.a:Rat)*(m.c:Rat))/l.nor.cross m.nor⟩:=by
 have e1:(meetX l m:Rat)=(l.b:Rat)*(m.c:Rat)-(l.c:Rat)*(m.b:Rat):=by unfold meetX;rw[jR,cV,cV];grind
 have e2:(meetY l m:Rat)=(l.c:Rat)*(m.a:Rat)-(l.a:Rat)*(m.c:Rat):=by unfold meetY;rw[jR,cV,cV];grind
 have e3:(crossI l m:Rat)=l.nor.cross m.nor:=by unfold PtQ.cross LnQ.nor crossI;rw[jR,cV,cV];grind
 unfold abH
 rw[if_neg h,e1,e2,e3]
theorem agw: ∀{t:Tr} {c:aag} {x:Bool×aag},t.all LB→t.all LnQ.ok→abI c→x∈t.parts c→abI x.2∧x.2.length≤c.length+t.depth
 | .leaf b,c,x,_,_,hc,h=>by
  rw[Tr.parts,aY] at h
  subst h
  exact⟨hc,lW _ _⟩
 | .node l u v,c,x,hb,ho,hc,h=>by
  have hl:=hb.1
  have hd:(Tr.node l u v).depth=1+max u.depth v.depth:=rfl
  rw[Tr.parts] at h
  rcases bS.1 h with h|h
  ·split at h
   ·obtain⟨k1,k2⟩:=agw hb.2.1 ho.2.1 (afV ho.1 hc) h
    have:=ad3 c l
    exact⟨k1,by omega⟩
   ·cases h
  ·split at h
   ·obtain⟨k1,k2⟩:=agw hb.2.2 ho.2.2 (afV ho.1.rev hc) h
    have:=ad3 c l.rev
    exact⟨k1,by omega⟩
   ·cases h
theorem aeZ(t:Tr):(aaC t).length≤t.size+1:=by
 unfold aaC
 rw[aJ]
 exact cJ (lM ..) (aff t [])
theorem adr{t:Tr}(hb:t.all LB)(ho:t.all LnQ.ok): ∀c∈aaC t,c.length≤t.depth:=fun c hc=>by
 have:=(agw hb ho abI.nil (afo.1 hc)).2
 simpa using this
theorem ahT{t:Tr}(hb:t.all LB)(ho:t.all LnQ.ok): ∀c∈aaC t,∀s∈c,LB s.l:=fun c hc s hs=>((agw hb ho abI.nil (afo.1 hc)).1 s hs).lb
theorem aCv(l:List PtQ):acI 6 (l.map eZ):=fun d hd=>by
 obtain⟨x,_,rfl⟩:=bW.1 hd
 exact⟨rfl,rfl⟩
def eRz(v:List PtQ):DV:= .sl (v.map eZ)
def eRa(v:List PtQ):DV:= .sl (v.map ePt)
theorem aCZ(l:List (List PtQ)):acI 1 (l.map eRz):=fun d hd=>by
 obtain⟨x,_,rfl⟩:=bW.1 hd
 exact⟨rfl,rfl⟩
theorem aB0(l:List (List PtQ)):acI 1 (l.map eRa):=fun d hd=>by
 obtain⟨x,_,rfl⟩:=bW.1 hd
 exact⟨rfl,rfl⟩
theorem acd{α:Type}{vs:List α}{f:α→Bool}{k:Nat}{v:α}(h:vs[k]? =some v):(vs.drop k).all f=(f v&&(vs.drop (k+1)).all f):=by
 obtain⟨h1,h2⟩:=bJ.1 h
 rw[bQ h1,h2,qM]
theorem azI{l m:LnQ}[hl:LB l][hm:LB m](hz:crossI l m≠0):PF GB prog 163 [eLn l,eLn m] (.tp [eZ (abH l m),vB true]):=by
 haveI:=BPt.nor l
 haveI:=BPt.nor m
 refine fn func163 J J ntmps163 J J (fun C=>?_)
 refine cl rfl (am6 (l:=l)) rfl<|cl rfl (am6 (l:=m)) rfl<|cl rfl (alF (p:=l.nor) (q:=m.nor) (i:=97) (j:=97)) rfl<|cl (fu:=⟨0⟩) rfl (ai9 (q:=l.nor.cross m.nor)) rfl<|?_
 refine eqF 15 (.d (vB false)) rfl (by rw[decide_eq_false (asX hz)]) ?_
 refine kbF 15 rfl ?_
 refine gx rfl<|cl rfl (aeO (p:=(l.b:Rat)) (q:=(m.c:Rat)) (i:=97) (j:=97)) rfl<|cl rfl (aeO (p:=(l.c:Rat)) (q:=(m.b:Rat)) (i:=97) (j:=97)) rfl<|?_
 refine cl rfl (ahL (p:=(l.b:Rat)*(m.c:Rat)) (q:=(l.c:Rat)*(m.b:Rat))) rfl<|cl rfl (aky (p:=(l.b:Rat)*(m.c:Rat)-(l.c:Rat)*(m.b:Rat)) (q:=l.nor.cross m.nor)) rfl<|?_
 refine cl rfl (aeO (p:=(l.c:Rat)) (q:=(m.a:Rat)) (i:=97) (j:=97)) rfl<|cl rfl (aeO (p:=(l.a:Rat)) (q:=(m.c:Rat)) (i:=97) (j:=97)) rfl<|?_
 refine cl rfl (ahL (p:=(l.c:Rat)*(m.a:Rat)) (q:=(l.a:Rat)*(m.c:Rat))) rfl<|cl rfl (aky (p:=(l.c:Rat)*(m.a:Rat)-(l.a:Rat)*(m.c:Rat)) (q:=l.nor.cross m.nor)) rfl<|?_
 exact rz rfl (by rw[aBt hz];rfl)
theorem ayJ{c:aag}(hb: ∀s∈c,LB s.l)(hn:c.length≤100000):PF GB prog 97 [eC c] (.sl ((afE (c.map (·.l))).map eZ)):=by
 have hml:(c.map eFr).length=c.length:=aJ ..
 obtain⟨L,hL⟩: ∃L,L=c.map (·.l):=⟨_,rfl⟩
 have hLl:L.length=c.length:=by rw[hL,aJ]
 refine fn (fu:=⟨15⟩) func97 J J ntmps97 J J (fun C=>?_)
 refine eqF 10 (.d (vI (c.length:Nat))) rfl (by rw[hml]<;>rfl) ?_
 refine gx rfl<|?_
 refine nr 3 3 145 6 J J J ?_
 refine lp (X:=List PtQ×Nat) (fun⟨acc,k⟩=>[(11, .d (vI (k:Nat))),(3, .rw 3)]) (fun⟨acc,k⟩=>[(3,some (.b 145 6 (acc.map eZ) true))]) (fun⟨acc,k⟩=>acc=(List.range k).flatMap (arh L)∧k≤c.length) (fun⟨acc,k⟩=>c.length-k) ⟨[],0⟩ rfl ⟨rfl,aR _⟩ (fun _=>rfl) (fun⟨acc,k⟩ hk=>?_)
 try dsimp only at hk⊢
 obtain⟨h1,h2⟩:=hk
 have hal:=ahV L k
 rw[←h1] at hal
 have ham:(acc.map eZ).length=acc.length:=aJ ..
 refine br J J J (fun hc12=>?_) (fun hc12=>?_)
 ·
  obtain⟨s,hx⟩: ∃u,c[k]? =some u:=⟨_,aQ (by omega)⟩
  obtain⟨u,hw⟩: ∃w,c[(k+1)%c.length]? =some w:=⟨_,aQ (cS _ (by omega))⟩
  haveI:=hb s (aM hx)
  haveI:=hb u (aM hw)
  have hxl:L[k]? =some s.l:=by rw[hL,cN,hx];rfl
  have hwl:L[(k+1)%L.length]? =some u.l:=by rw[hLl,hL,cN,hw];rfl
  refine ix (fu:=⟨13⟩) _ rfl (aak hx) rfl<|?_
  refine eqF 20 (.d (vI (c.length:Nat))) rfl (by rw[hml]<;>rfl) ?_
  refine gx (fu:=⟨1⟩) rfl<|?_
  refine eqF 21 (.d (vI (((k+1)%c.length:Nat):Int))) J J ?_
  refine gx rfl<|ix _ rfl (aak hw) rfl<|cl rfl (ajV (l:=s.l)) rfl<|cl rfl (ajV (l:=u.l)) rfl<|cl rfl (alF (p:=s.l.dir) (q:=u.l.dir) (i:=97) (j:=97)) rfl<|?_
  refine cl rfl (ac5 (q:=s.l.dir.cross u.l.dir)) rfl<|?_
  refine br J J J (fun hc32=>?_) (fun hc32=>?_)
  ·
   refine cl rfl (azI (l:=s.l) (m:=u.l) (aDM hc32)) rfl<|rf J J<|ap ((acc++[abH s.l u.l]).map eZ) rfl (by rw[aN]<;>rfl) (aCv [abH s.l u.l]) rfl<|?_
   refine rnE 44 3 rfl ?_
   exact at_ ⟨acc++[abH s.l u.l],k+1⟩ (by dsimp only;exact⟨⟨by rw[afk,aik hxl hwl,if_pos hc32,←h1],by omega⟩,(by omega)⟩)
  ·
   exact at_ ⟨acc,k+1⟩ (by dsimp only;exact⟨⟨by rw[afk,aik hxl hwl,if_neg hc32,←h1,nM],by omega⟩,(by omega)⟩)
 ·
  have hS:afE L=acc:=by unfold afE;rw[hLl,h1,show k=c.length by omega]
  refine fzE 3 rfl ?_
  exact rz rfl (by rw[←hL,hS];rfl)
theorem aA6{c:aag}(hn:c.length≤100000):PF GB prog 103 [eC c] (vB (aeT c)):=by
 have hml:(c.map eFr).length=c.length:=aJ ..
 refine fn (fu:=⟨10⟩) func103 J J ntmps103 J J (fun C=>?_)
 refine eqF 6 (.d (vI (c.length:Nat))) rfl (by rw[hml]<;>rfl) ?_
 refine gx rfl<|?_
 refine lp (X:=Nat) (fun k=>[(7, .d (vI (k:Nat)))]) (fun k=>[]) (fun k=>(c.drop k).all (fun s:FrQ=>!s.v.nl&&!s.v.nh)=c.all (fun s:FrQ=>!s.v.nl&&!s.v.nh)∧k≤c.length) (fun k=>c.length-k) 0 rfl ⟨rfl,aR _⟩ (fun _=>rfl) (fun k hk=>?_)
 obtain⟨h1,h2⟩:=hk
 refine br (fu2:=⟨9⟩) J J J (fun hc8=>?_) (fun hc8=>?_)
 ·
  obtain⟨s,hx⟩: ∃u,c[k]? =some u:=⟨_,aQ (by omega)⟩
  refine ix _ rfl (aak hx) rfl<|?_
  refine csb 14 J J J (fun hg14=>?_) (fun hg14=>?_)
  ·
   have hF:aeT c=false:=by unfold aeT;rw[←h1,acd hx,hg14];simp
   exact rz rfl (by rw[hF];rfl)
  ·
   refine bb J J J (fun hc18=>?_) (fun hc18=>?_)
   ·
    have hF:aeT c=false:=by unfold aeT;rw[←h1,acd hx,hc18];simp
    exact rz rfl (by rw[hF];rfl)
   ·
    exact at_ (k+1) ⟨⟨by rw[←h1,acd hx,hg14,hc18];rfl,by omega⟩,(by omega)⟩
 ·
  have hT:aeT c=decide ((0:Int)<(c.length:Nat)):=by unfold aeT;rw[←h1,dW (by omega)];cases c with|nil=>rfl|cons a b=>simp
  refine eqF 21 (.d (vI (c.length:Nat))) rfl (by rw[hml]<;>rfl) ?_
  refine gx rfl<|?_
  exact rz rfl (by rw[hT];rfl)
theorem axN{t:Tr}{cs:List aag}(hc:cs=aaC t)(hb:t.all LB)(ho:t.all LnQ.ok)(hd:t.depth≤1000)(hs:t.size≤900000):PF GB prog 127 [eU t] (vB (cs.all aeT)):=by
 have hml:(cs.map eC).length=cs.length:=aJ ..
 have hcl:=aeZ t
 rw[←hc] at hcl
 have hcn:=adr hb ho
 rw[←hc] at hcn
 refine fn func127 J J ntmps127 J J (fun C=>?_)
 refine cl (fu:=⟨0⟩) rfl (asM hb ho (by omega) hs) rfl<|?_
 refine eqF 6 (.d (.sl (cs.map eC))) rfl (by rw[hc]) ?_
 refine gx (fu:=⟨1⟩) rfl<|?_
 refine eqF 7 (.d (vI (cs.length:Nat))) rfl (by rw[hml]<;>rfl) ?_
 refine gx rfl<|?_
 refine lp (X:=Nat) (fun k=>[(8, .d (vI (k:Nat)))]) (fun k=>[]) (fun k=>(cs.drop k).all aeT=cs.all aeT∧k≤cs.length) (fun k=>cs.length-k) 0 rfl ⟨rfl,aR _⟩ (fun _=>rfl) (fun k hk=>?_)
 obtain⟨h1,h2⟩:=hk
 refine br J J J (fun hc9=>?_) (fun hc9=>?_)
 ·
  obtain⟨c,hx⟩: ∃u,cs[k]? =some u:=⟨_,aQ (by omega)⟩
  refine ix _ rfl (aak hx) rfl<|cl rfl (aA6 (c:=c) (by have:=hcn c (aM hx);omega)) rfl<|?_
  refine bb J J J (fun hc14=>?_) (fun hc14=>?_)
  ·
   have hF:cs.all aeT=false:=by rw[←h1,acd hx,show aeT c=false by simpa using hc14];rfl
   exact rz rfl (by rw[hF];rfl)
  ·
   exact at_ (k+1) ⟨⟨by rw[←h1,acd hx,show aeT c=true by simpa using hc14];rfl,by omega⟩,(by omega)⟩
 ·
  have hT:cs.all aeT=true:=by rw[←h1,dW (by omega)];rfl
  exact rz rfl (by rw[hT];rfl)
theorem axP(l:List PtQ):acI 6 (l.map eP):=fun d hd=>by
 obtain⟨x,_,rfl⟩:=bW.1 hd
 exact⟨rfl,rfl⟩
def eRp(v:List PtQ):DV:= .sl (v.map eP)
theorem aA4(l:List (List PtQ)):acI 1 (l.map eRp):=fun d hd=>by
 obtain⟨x,_,rfl⟩:=bW.1 hd
 exact⟨rfl,rfl⟩
theorem akR: ∀L:List LnQ,(L.flatMap fun l=>[l.dir,ajG l.dir]).length=2*L.length
 |[]=>rfl
 |l::L=>by
  have:=akR L
  rw[qZ,aW,this]
  simp only[bU,fY];omega
theorem azy{L:List LnQ}(hb: ∀l∈L,LB l): ∀d∈L.flatMap (fun l=>[l.dir,ajG l.dir]),BPt d 97:=fun d hd=>by
 obtain⟨l,h1,h2⟩:=fN.1 hd
 haveI:=hb l h1
 simp only[aS,iY,or_false] at h2
 rcases h2 with rfl|rfl
 ·infer_instance
 ·have:BPt l.dir 97:=inferInstance
  exact⟨inferInstanceAs (BQ (-l.dir.x) 97),inferInstanceAs (BQ (-l.dir.y) 97)⟩
theorem azj{L:List LnQ}(hb: ∀l∈L,LB l)(hn:L.length≤100000):PF GB prog 70 [.sl (L.map eL)] (.sl ((afE L).map eP)):=by
 have hml:(L.map eL).length=L.length:=aJ ..
 refine fn (fu:=⟨15⟩) func70 J J ntmps70 J J (fun C=>?_)
 refine eqF 10 (.d (vI (L.length:Nat))) rfl (by rw[hml]<;>rfl) ?_
 refine gx rfl<|?_
 refine nr 3 3 54 6 J J J ?_
 refine lp (X:=List PtQ×Nat) (fun⟨acc,k⟩=>[(11, .d (vI (k:Nat))),(3, .rw 3)]) (fun⟨acc,k⟩=>[(3,some (.b 54 6 (acc.map eP) true))]) (fun⟨acc,k⟩=>acc=(List.range k).flatMap (arh L)∧k≤L.length) (fun⟨acc,k⟩=>L.length-k) ⟨[],0⟩ rfl ⟨rfl,aR _⟩ (fun _=>rfl) (fun⟨acc,k⟩ hk=>?_)
 try dsimp only at hk⊢
 obtain⟨h1,h2⟩:=hk
 have hal:=ahV L k
 rw[←h1] at hal
 have ham:(acc.map eP).length=acc.length:=aJ ..
 refine br J J J (fun hc12=>?_) (fun hc12=>?_)
 ·
  obtain⟨l,hx⟩: ∃u,L[k]? =some u:=⟨_,aQ (by omega)⟩
  obtain⟨m,hw⟩: ∃w,L[(k+1)%L.length]? =some w:=⟨_,aQ (cS _ (by omega))⟩
  haveI:=hb l (aM hx)
  haveI:=hb m (aM hw)
  refine ix (fu:=⟨13⟩) _ rfl (aak hx) rfl<|?_
  refine eqF 20 (.d (vI (L.length:Nat))) rfl (by rw[hml]<;>rfl) ?_
  refine gx (fu:=⟨1⟩) rfl<|?_
  refine eqF 21 (.d (vI (((k+1)%L.length:Nat):Int))) J J ?_
  refine gx rfl<|ix _ rfl (aak hw) rfl<|cl rfl (ahd (l:=l)) rfl<|cl rfl (ahd (l:=m)) rfl<|cl rfl (aha (p:=l.dir) (q:=m.dir) (i:=97) (j:=97)) rfl<|?_
  refine cl rfl (q_S (q:=l.dir.cross m.dir)) rfl<|?_
  refine br J J J (fun hc30=>?_) (fun hc30=>?_)
  ·
   refine cl rfl (as0 (l:=l) (m:=m)) rfl<|rf J J<|ap ((acc++[abH l m]).map eP) rfl (by rw[aN]<;>rfl) (axP [abH l m]) rfl<|?_
   refine rnE 40 3 rfl ?_
   exact at_ ⟨acc++[abH l m],k+1⟩ (by dsimp only;exact⟨⟨by rw[afk,aik hx hw,if_pos hc30,←h1],by omega⟩,(by omega)⟩)
  ·
   exact at_ ⟨acc,k+1⟩ (by dsimp only;exact⟨⟨by rw[afk,aik hx hw,if_neg hc30,←h1,nM],by omega⟩,(by omega)⟩)
 ·
  have hS:afE L=acc:=by unfold afE;rw[h1,show k=L.length by omega]
  refine fzE 3 rfl ?_
  exact rz rfl (by rw[hS];rfl)
theorem aDb{p:PtQ}:PF GB prog 132 [eP p] (eP (ajG p)):=by
 refine fn func132 J J ntmps132 J J (fun C=>?_)
 refine cl rfl alI rfl<|cl rfl alI rfl<|?_
 exact rz J J
theorem aCh{L:List LnQ}(hb: ∀l∈L,LB l)(hn:L.length≤100000):PF GB prog 62 [.sl (L.map eL)] (vB (anD L)):=by
 have hml:(L.map eL).length=L.length:=aJ ..
 obtain⟨ds,hds⟩: ∃ds,ds=L.flatMap fun l=>[l.dir,ajG l.dir]:=⟨_,rfl⟩
 have hdl:ds.length=2*L.length:=by rw[hds];exact akR L
 have hdb: ∀d∈ds,BPt d 97:=fun d hd=>by rw[hds] at hd;exact azy hb d hd
 have hbl:anD L=(!L.isEmpty&&ds.all fun v=>!ai0 L v):=by unfold anD;rw[←hds]
 have hdm:(ds.map eP).length=ds.length:=aJ ..
 refine fn (fu:=⟨15⟩) func62 J J ntmps62 J J (fun C=>?_)
 refine eqF 12 (.d (vI (L.length:Nat))) rfl (by rw[hml]<;>rfl) ?_
 refine gx rfl<|?_
 refine nr 3 3 54 6 J J J ?_
 refine lp (X:=List PtQ×Nat) (fun⟨acc,k⟩=>[(13, .d (vI (k:Nat))),(3, .rw 3)]) (fun⟨acc,k⟩=>[(3,some (.b 54 6 (acc.map eP) true))]) (fun⟨acc,k⟩=>acc=(L.take k).flatMap (fun l=>[l.dir,ajG l.dir])∧k≤L.length) (fun⟨acc,k⟩=>L.length-k) ⟨[],0⟩ rfl ⟨rfl,aR _⟩ (fun _=>rfl) (fun⟨acc,k⟩ hk=>?_)
 try dsimp only at hk⊢
 obtain⟨h1,h2⟩:=hk
 have hal:acc.length=2*k:=by rw[h1,akR,cK];omega
 have ham:(acc.map eP).length=acc.length:=aJ ..
 refine br (fu2:=⟨10⟩) J J J (fun hc14=>?_) (fun hc14=>?_)
 ·
  obtain⟨l,hx⟩: ∃u,L[k]? =some u:=⟨_,aQ (by omega)⟩
  haveI:=hb l (aM hx)
  refine ix _ rfl (aak hx) rfl<|cl rfl (ahd (l:=l)) rfl<|cl rfl (ahd (l:=l)) rfl<|cl rfl (aDb (p:=l.dir)) rfl<|rf J J<|?_
  refine ap (hv:=by simp only[aah];exact⟨by kernel_rfl,by omega⟩) ((acc++[l.dir,ajG l.dir]).map eP) rfl (by rw[aN]<;>rfl) (axP [l.dir,ajG l.dir]) rfl<|?_
  refine rnE 24 3 rfl ?_
  exact at_ ⟨acc++[l.dir,ajG l.dir],k+1⟩ (by dsimp only;exact⟨⟨by rw[gQ,hx,lX,←h1];rfl,by omega⟩,(by omega)⟩)
 ·
  obtain rfl:ds=acc:=by rw[h1,hds,aV (by omega)]
  refine eqF 27 (.d (vI (ds.length:Nat))) rfl (by rw[hdm]<;>rfl) ?_
  refine gx rfl<|?_
  refine br (fu2:=⟨7⟩) J J J (fun hc28=>?_) (fun hc28=>?_)
  ·
   have hF:anD L=false:=by rw[hbl];cases L with|nil=>rfl|cons a b=>exfalso;rw[bU] at hdl;omega
   exact rz rfl (by rw[hF];rfl)
  ·
   have hT:anD L=ds.all fun v=>!ai0 L v:=by rw[hbl];cases L with|nil=>exfalso;rw[fY] at hdl;omega|cons a b=>rfl
   refine eqF 30 (.d (vI (ds.length:Nat))) rfl (by rw[hdm]<;>rfl) ?_
   refine gx rfl<|?_
   refine lp (X:=Nat) (fun k=>[(31, .d (vI (k:Nat)))]) (fun k=>[]) (fun k=>(ds.drop k).all (fun v=>!ai0 L v)=ds.all (fun v=>!ai0 L v)∧k≤ds.length) (fun k=>ds.length-k) 0 rfl ⟨rfl,aR _⟩ (fun _=>rfl) (fun k hk=>?_)
   obtain⟨h3,h4⟩:=hk
   refine br J J J (fun hc32=>?_) (fun hc32=>?_)
   ·
    obtain⟨v,hv⟩: ∃u,ds[k]? =some u:=⟨_,aQ (by omega)⟩
    haveI:=hdb v (aM hv)
    refine lb (fu:=⟨14⟩) _ rfl (aak hv) rfl<|?_
    refine eqF 36 (.d (vI (L.length:Nat))) rfl (by rw[hml]<;>rfl) ?_
    refine gx rfl<|?_
    refine dvC 8 _ J J ?_
    refine lp (X:=Bool×Nat) (fun⟨b,j⟩=>[(37, .d (vI (j:Nat))),(8, .d (vB b))]) (fun⟨b,j⟩=>[]) (fun⟨b,j⟩=>(b&&(L.drop j).all fun l=>decide (0≤Int.sign (l.dir.cross v).num))=ai0 L v∧j≤L.length) (fun⟨b,j⟩=>L.length-j) ⟨true,0⟩ rfl ⟨by simp[ai0],aR _⟩ (fun _=>rfl) (fun⟨b,j⟩ hk=>?_)
    try dsimp only at hk⊢
    obtain⟨g1,g2⟩:=hk
    refine br (fu1:=⟨6⟩) J J J (fun hc38=>?_) (fun hc38=>?_)
    ·
     obtain⟨l,hy⟩: ∃u,L[j]? =some u:=⟨_,aQ (by omega)⟩
     haveI:=hb l (aM hy)
     cases b
     ·
      refine gx rfl<|ix (fu:=⟨7⟩) _ rfl (aak hy) rfl<|knF (hv:=by simp only[aah];exact⟨by kernel_rfl,by omega⟩) J J J<|?_
      refine dvE 8 _ J J ?_
      exact at_ ⟨false,j+1⟩ (by dsimp only;exact⟨⟨by rw[←g1];simp,by omega⟩,(by omega)⟩)
     ·
      refine gx rfl<|ix (fu:=⟨7⟩) _ rfl (aak hy) rfl<|knT J J J<|cl rfl (ahd (l:=l)) rfl<|cl rfl (aha (p:=l.dir) (q:=v) (i:=97) (j:=97)) rfl<|?_
      refine cl (hv:=by simp only[aah];exact⟨by kernel_rfl,by omega⟩) rfl (q_S (q:=l.dir.cross v)) rfl<|?_
      refine dvE 8 _ J J ?_
      exact at_ ⟨decide (0≤Int.sign (l.dir.cross v).num),j+1⟩ (by dsimp only;exact⟨⟨by rw[←g1,acd hy];simp,by omega⟩,(by omega)⟩)
    ·
     obtain rfl:j=L.length:=by omega
     rw[dS] at g1
     have hst:ai0 L v=b:=by rw[←g1];simp
     refine bb J J J (fun hc51=>?_) (fun hc51=>?_)
     ·
      have hF:anD L=false:=by rw[hT,←h3,acd hv,hst,hc51];rfl
      exact rz rfl (by rw[hF];rfl)
     ·
      exact at_ (k+1) ⟨⟨by rw[←h3,acd hv,hst,hc51];rfl,by omega⟩,(by omega)⟩
   ·
    have hT2:anD L=true:=by rw[hT,←h3,dW (by omega)];rfl
    exact rz rfl (by rw[hT2];rfl)
structure EGU (GB:Gh) (ai al ae au:Addr):Prop extends EG GB ai al ae where
 ErrUnbounded:GB 0=some [.iface 427 (.pointer (some au))]
theorem aEB{α:Type}{f:α→DV}{l:List α}{s:α}(h:l[0]? =some s):(l.map f)[(0:Int).toNat]? =some (f s):=by simp[h]
def akU(c:aag):List (List PtQ):=aiR (afE (c.map (·.l)))
theorem ajk(c:List LnQ):(afE c).length≤c.length:=ahV c _
theorem aol{v:List PtQ}{i:Nat}{a b d:PtQ}(h0:v[0]? =some a)(h1:v[i+1]? =some b)(h2:v[i+2]? =some d):avb v i=[a,b,d]:=by
 unfold avb
 rw[aX,aX,aX,h0,h1,h2];rfl
theorem avk{c:List LnQ}(hb: ∀l∈c,LB l): ∀p∈afE c,BPt p 1200:=fun p hp=>by
 obtain⟨l,hl,m,hm,rfl⟩:=avr hp
 have:= @BPt.imeet l m (hb l hl) (hb m hm)
 exact⟨this.x.mono (by decide),this.y.mono (by decide)⟩
theorem azW{v r:List PtQ}(h:r∈aiR v): ∀p∈r,p∈v:=fun p hp=>by
 obtain⟨i,hi,rfl⟩:=bW.1 h
 have hi':=qQ.1 hi
 have e:avb v i=_:=aol (aQ (show 0<v.length by omega)) (aQ (show i+1<v.length by omega)) (aQ (show i+2<v.length by omega))
 rw[e] at hp
 simp only[aS,iY,or_false] at hp
 rcases hp with rfl|rfl|rfl<;>exact bM _
theorem aBB{ai al ae au:Addr}(hE:EGU GB ai al ae au){k0:Nat}{t:Tr}(h:TrX k0 t)(hk0:k0≤900)(hr:t.restrict []=t)(hbd:(aaC t).all aeT=false):PF GB prog 58 [eA t] (.tp [.sl [],ara au]):=by
 have hts:=h.s
 have htd:=h.dp
 obtain⟨cs,hcs⟩: ∃cs,cs=aaC t:=⟨_,rfl⟩
 have hcl:=aeZ t
 have hcn:=adr h.lb h.ok
 have hlb:=ahT h.lb h.ok
 rw[←hcs] at hcl hcn hlb hbd
 have hml:(cs.map eC).length=cs.length:=aJ ..
 refine fn func58 J J ntmps58 J J (fun C=>?_)
 refine cl (fu:=⟨12⟩) rfl (aCw h) rfl<|?_
 refine kbT 17 rfl ?_
 refine gx rfl<|cl (fu:=⟨0⟩) rfl (alk (t:=t) (by omega)) rfl<|knF rfl (by show some (decide _)=some false;rw[decide_eq_false (by omega)]) rfl<|cl (fu:=⟨0⟩) rfl (aqg (t:=t) h.lb h.ok (by omega)) rfl<|?_
 refine eqF 26 (.d (eU t)) rfl (by rw[hr]) ?_
 refine gx rfl<|cl (fu:=⟨0⟩) rfl (axN (t:=t) hcs h.lb h.ok (by omega) (by omega)) rfl<|knT rfl (by show some _=some true;rw[hbd];rfl) rfl<|gl rfl hE.ErrUnbounded rfl<|?_
 exact rz J J
theorem anb{ai al ae au:Addr}(hE:EGU GB ai al ae au){k0:Nat}{t:Tr}(h:TrX k0 t)(hk0:k0≤900)(hr:t.restrict []=t)(hbd:(aaC t).all aeT=true):PF GB prog 58 [eA t] (.tp [.sl (((aaC t).flatMap akU).map eRz), .v .nilIface]):=by
 have hts:=h.s
 have htd:=h.dp
 obtain⟨cs,hcs⟩: ∃cs,cs=aaC t:=⟨_,rfl⟩
 have hcl:=aeZ t
 have hcn:=adr h.lb h.ok
 have hlb:=ahT h.lb h.ok
 rw[←hcs] at hcl hcn hlb hbd
 have hml:(cs.map eC).length=cs.length:=aJ ..
 refine fn func58 J J ntmps58 J J (fun C=>?_)
 refine cl (fu:=⟨12⟩) rfl (aCw h) rfl<|?_
 refine kbT 17 rfl ?_
 refine gx rfl<|cl (fu:=⟨0⟩) rfl (alk (t:=t) (by omega)) rfl<|knF rfl (by show some (decide _)=some false;rw[decide_eq_false (by omega)]) rfl<|cl (fu:=⟨0⟩) rfl (aqg (t:=t) h.lb h.ok (by omega)) rfl<|?_
 refine eqF 26 (.d (eU t)) rfl (by rw[hr]) ?_
 refine gx rfl<|cl (fu:=⟨0⟩) rfl (axN (t:=t) hcs h.lb h.ok (by omega) (by omega)) rfl<|knF rfl (by show some _=some false;rw[hbd];rfl) rfl<|cl (fu:=⟨0⟩) rfl (asM h.lb h.ok (by omega) (by omega)) rfl<|?_
 refine eqF 32 (.d (.sl (cs.map eC))) rfl (by rw[hcs]) ?_
 refine gx (fu:=⟨1⟩) rfl<|?_
 refine eqF 33 (.d (vI (cs.length:Nat))) rfl (by rw[hml]<;>rfl) ?_
 refine gx rfl<|?_
 refine nr 6 6 119 1 J J J ?_
 refine lp (X:=List (List PtQ)×Nat) (fun⟨acc,k⟩=>[(34, .d (vI (k:Nat))),(6, .rw 6)]) (fun⟨acc,k⟩=>[(6,some (.b 119 1 (acc.map eRz) true))]) (fun⟨acc,k⟩=>acc=(cs.take k).flatMap akU∧k≤cs.length∧acc.length≤1000*k) (fun⟨acc,k⟩=>cs.length-k) ⟨[],0⟩ rfl ⟨rfl,aR _,aR _⟩ (fun _=>rfl) (fun⟨acc,k⟩ hk=>?_)
 try dsimp only at hk⊢
 obtain⟨h1,h2,h3⟩:=hk
 refine br J J J (fun hc35=>?_) (fun hc35=>?_)
 ·
  obtain⟨c,hx⟩: ∃u,cs[k]? =some u:=⟨_,aQ (by omega)⟩
  have hcm:=aM hx
  have hcn1:=hcn c hcm
  obtain⟨v,hv⟩: ∃v,v=afE (c.map (·.l)):=⟨_,rfl⟩
  have hvl:=ajk (c.map (·.l))
  rw[←hv,aJ] at hvl
  have hvm:(v.map eZ).length=v.length:=aJ ..
  refine ix _ rfl (aak hx) rfl<|cl (fu:=⟨0⟩) rfl (ayJ (c:=c) (hlb c hcm) (by omega)) rfl<|?_
  refine eqF 39 (.d (.sl (v.map eZ))) rfl (by rw[hv]) ?_
  refine gx (fu:=⟨7⟩) rfl<|?_
  refine eqF 41 (.d (vI (v.length:Nat))) rfl (by rw[hvm]<;>rfl) ?_
  refine gx rfl<|?_
  refine lp (X:=List (List PtQ)×Nat) (fun⟨acc2,i⟩=>[(43, .d (vI (i:Nat))),(6, .rw 6)]) (fun⟨acc2,i⟩=>[(6,some (.b 119 1 (acc2.map eRz) true))]) (fun⟨acc2,i⟩=>acc2=acc++(List.range i).map (avb v)∧i≤v.length-2∧acc2.length≤1000*k+i) (fun⟨acc2,i⟩=>v.length-i) ⟨acc,0⟩ rfl ⟨by simp,aR _,h3⟩ (fun _=>rfl) (fun⟨acc2,i⟩ hk=>?_)
  try dsimp only at hk⊢
  obtain⟨g1,g2,g3⟩:=hk
  have ham:(acc2.map eRz).length=acc2.length:=aJ ..
  refine br J J J (fun hc44=>?_) (fun hc44=>?_)
  ·
   obtain⟨p0,h0⟩: ∃u,v[0]? =some u:=⟨_,aQ (by omega)⟩
   obtain⟨p1,e1⟩: ∃u,v[i+1]? =some u:=⟨_,aQ (by omega)⟩
   obtain⟨p2,e2⟩: ∃u,v[i+2]? =some u:=⟨_,aQ (by omega)⟩
   refine ix (fu:=⟨4⟩) _ rfl (aEB h0) rfl<|?_
   refine eqF 52 (.d (vI ((i+1:Nat):Int))) J J ?_
   refine gx rfl<|ix (fu:=⟨4⟩) _ rfl (aak e1) rfl<|?_
   refine eqF 57 (.d (vI ((i+2:Nat):Int))) J J ?_
   refine gx rfl<|ix _ rfl (aak e2) rfl<|rf J J<|rf J J<|ap (hv:=by simp only[aah];exact⟨by kernel_rfl,by omega⟩) ((acc2++[[p0,p1,p2]]).map eRz) rfl (by rw[aN]<;>rfl) (aCZ [[p0,p1,p2]]) rfl<|?_
   refine rnE 62 6 rfl ?_
   exact at_ ⟨acc2++[[p0,p1,p2]],i+1⟩ (by dsimp only;exact⟨⟨by rw[am2,←fL,←g1,aol h0 e1 e2],by omega,by rw[aW,dK];omega⟩,(by omega)⟩)
  ·
   have hA:acc2=acc++aiR v:=by rw[g1];unfold aiR;rw[show i=v.length-2 by omega]
   exact at_ ⟨acc2,k+1⟩ (by dsimp only;exact⟨⟨by rw[hA,gQ,hx,lX,←h1];simp[akU,←hv],by omega,by omega⟩,(by omega)⟩)
 ·
  have hS:(aaC t).flatMap akU=acc:=by rw[h1,aV (by omega),hcs]
  refine fzE 6 rfl ?_
  exact rz rfl (by rw[hS];rfl)
theorem ayk{v:List PtQ}(hb: ∀p∈v,BPt p 1200)(hn:v.length≤1000000):PF GB prog 59 [eRz v] (eRa v):=by
 have hml:(v.map eZ).length=v.length:=aJ ..
 refine fn (fu:=⟨15⟩) func59 J J ntmps59 J J (fun C=>?_)
 refine eqF 7 (.d (vI (v.length:Nat))) rfl (by rw[hml]<;>rfl) ?_
 refine gx rfl<|?_
 refine nr 3 3 65 6 J J J ?_
 refine lp (X:=Nat) (fun k=>[(8, .d (vI (k:Nat))),(3, .rw 3)]) (fun k=>[(3,some (.b 65 6 ((v.take k).map ePt) true))]) (fun k=>k≤v.length) (fun k=>v.length-k) 0 rfl (aR _) (fun _=>rfl) (fun k hk=>?_)
 have ham:((v.take k).map ePt).length=k:=by rw[aJ,cK];omega
 refine br J J J (fun hc9=>?_) (fun hc9=>?_)
 ·
  obtain⟨p,hx⟩: ∃u,v[k]? =some u:=⟨_,aQ (by omega)⟩
  haveI:=hb p (aM hx)
  refine ix _ rfl (aak hx) rfl<|cl rfl (arD (p:=p) (i:=1200)) rfl<|rf J J<|ap ((v.take (k+1)).map ePt) rfl (by rw[gQ,hx,aN]<;>rfl) (arJ [p]) rfl<|?_
  refine rnE 16 3 rfl ?_
  exact at_ (k+1) ⟨(by omega),(by omega)⟩
 ·
  have hS:v.take k=v:=aV (by omega)
  refine fzE 3 rfl ?_
  exact rz rfl (by rw[hS];rfl)
theorem ayO{ai al ae au:Addr}(hE:EGU GB ai al ae au){k0:Nat}{t:Tr}(h:TrX k0 t)(hk0:k0≤900)(hr:t.restrict []=t)(hbd:(aaC t).all aeT=true){ts:List (List PtQ)}(hts:ts=(aaC t).flatMap akU)(hb: ∀r∈ts,(∀p∈r,BPt p 1200)∧r.length≤1000)(hn:ts.length≤100000000):PF GB prog 13 [eA t] (.tp [.sl (ts.map eRa), .v .nilIface]):=by
 have hml:(ts.map eRz).length=ts.length:=aJ ..
 refine fn func13 J J ntmps13 J J (fun C=>?_)
 refine cl (fu:=⟨0⟩) rfl (anb hE h hk0 hr hbd) rfl<|?_
 refine eqF 11 (.d (.tp [.sl (ts.map eRz), .v .nilIface])) rfl (by rw[hts]) ?_
 refine gx (fu:=⟨27⟩) rfl<|?_
 refine eqF 18 (.d (vI (ts.length:Nat))) rfl (by rw[hml]<;>rfl) ?_
 refine gx rfl<|?_
 refine nr 6 6 120 1 J J J ?_
 refine lp (X:=Nat) (fun k=>[(19, .d (vI (k:Nat))),(6, .rw 6)]) (fun k=>[(6,some (.b 120 1 ((ts.take k).map eRa) true))]) (fun k=>k≤ts.length) (fun k=>ts.length-k) 0 rfl (aR _) (fun _=>rfl) (fun k hk=>?_)
 have ham:((ts.take k).map eRa).length=k:=by rw[aJ,cK];omega
 refine br J J J (fun hc20=>?_) (fun hc20=>?_)
 ·
  obtain⟨r,hx⟩: ∃u,ts[k]? =some u:=⟨_,aQ (by omega)⟩
  have hrb:=hb r (aM hx)
  refine ix _ rfl (aak hx) rfl<|cl rfl (ayk (v:=r) hrb.1 (by omega)) rfl<|rf J J<|ap ((ts.take (k+1)).map eRa) rfl (by rw[gQ,hx,aN]<;>rfl) (aB0 [r]) rfl<|?_
  refine rnE 27 6 rfl ?_
  exact at_ (k+1) ⟨(by omega),(by omega)⟩
 ·
  have hS:ts.take k=ts:=aV (by omega)
  refine fzE 6 rfl ?_
  exact rz rfl (by rw[hS];rfl)
theorem as8{p q:Rat}{i j:Nat}[hp:BQ p i][hq:BQ q j](hi:i≤100000000:=by decide):PF GB prog 78 [eR p,eR q] (vB (decide (p=q))):=by
 refine fn func78 J J ntmps78 J J (fun C=>?_)
 refine cl rfl (ayP (a:=p.num) (b:=q.num) (i:=i) (j:=j) (by omega)) rfl<|?_
 refine csd 10 J J J (fun hg10=>?_) (fun hg10=>?_)
 ·
  refine cl rfl (aub (a:=p.den) (b:=q.den) (i:=i) (j:=j) (by omega)) rfl<|?_
  exact rz rfl (by rw[show decide (p=q)=decide (p.den=q.den) from decide_eq_decide.2 ⟨fun e=>by rw[e],fun e=>Rat.ext hg10 e⟩]<;>rfl)
 ·
  exact rz rfl (by rw[decide_eq_false (fun e:p=q=>hg10 (by rw[e]))]<;>rfl)
theorem awB{p q:PtQ}{i j:Nat}[hp:BPt p i][hq:BPt q j](hi:i≤100000000:=by decide)(he:p=q):PF GB prog 24 [ePt p,ePt q] (.v (.bool true)):=by
 refine fn func24 J J ntmps24 J J (fun C=>?_)
 refine cl (fu:=⟨0⟩) rfl (as8 (p:=p.x) (q:=q.x) (i:=i) (j:=j) hi) rfl<|?_
 refine eqF 9 (.d (vB true)) rfl (by rw[he];simp) ?_
 refine kbT 9 rfl ?_
 refine gx rfl<|cl (fu:=⟨0⟩) rfl (as8 (p:=p.y) (q:=q.y) (i:=i) (j:=j) hi) rfl<|?_
 refine eqF 15 (.d (vB true)) rfl (by rw[he];simp) ?_
 refine gx rfl<|?_
 exact rz J J
theorem agk{t:Tr}(h:t.all LnQ.ok):alg (aaY t [])=(aaC t).map fun c=>c.map (·.l):=aCO h
theorem ast{t:Tr}(h:t.all LnQ.ok):(alg (aaY t [])).all anD=(aaC t).all aeT:=by
 rw[agk h,List.all_map]
 have hg:=anT h
 generalize aaC t=cs at*
 induction cs with
 |nil=>rfl
 |cons c cs ih=>rw[qM,qM,ih fun d hd=>hg d (aK _ hd)];simp only[Function.comp];rw[aB8 (hg c aZ)]
theorem aku{t:Tr}(h:t.all LnQ.ok):avQ (alg (aaY t []))=(aaC t).flatMap akU:=by
 rw[agk h]
 unfold avQ
 rw[List.flatMap_map]
 rfl
theorem axH{t:Tr}(hb:t.all LB)(ho:t.all LnQ.ok): ∀L∈alg (aaY t []),(∀l∈L,LB l)∧L.length≤t.depth:=fun L hL=>by
 rw[agk ho] at hL
 obtain⟨c,hc,rfl⟩:=bW.1 hL
 exact⟨fun l hl=>by obtain⟨s,hs,rfl⟩:=bW.1 hl;exact ahT hb ho c hc s hs,by rw[aJ];exact adr hb ho c hc⟩
theorem as9{t:Tr}(ho:t.all LnQ.ok):(alg (aaY t [])).length≤t.size+1:=by
 rw[agk ho,aJ];exact aeZ t
theorem auC(c:aag):(akU c).length≤c.length:=by
 unfold akU aiR
 rw[aJ,List.length_range]
 have:=ajk (c.map (·.l))
 rw[aJ] at this;omega
theorem apn{α β:Type}{f:α→List β}{k:Nat}: ∀{l:List α},(∀x∈l,(f x).length≤k)→(l.flatMap f).length≤l.length*k
 |[],_=>by simp
 |a::t,h=>by
  have h1:=h a aZ
  have h2:=apn (f:=f) fun x hx=>h x (aK a hx)
  rw[qZ,aW,bU,iJ];omega
theorem auh{k0:Nat}{t:Tr}(h:TrX k0 t)(hk0:k0≤900):((aaC t).flatMap akU).length≤2700900∧ ∀r∈(aaC t).flatMap akU,(∀p∈r,BPt p 1200)∧r.length=3:=by
 refine⟨?_,fun r hr=>?_⟩
 ·have h1:=apn (f:=akU) (k:=900) (l:=aaC t) fun c hc=>cJ (auC c) (cJ (adr h.lb h.ok c hc) (cJ h.dp hk0))
  have h2:=aeZ t
  have h3:=h.s
  have h4:(aaC t).length*900≤3001*900:=bV 900 (by omega)
  omega
 ·obtain⟨c,hc,hr⟩:=fN.1 hr
  unfold akU at hr
  have hlb: ∀l∈c.map (·.l),LB l:=fun l hl=>by
   obtain⟨s,hs,rfl⟩:=bW.1 hl;exact ahT h.lb h.ok c hc s hs
  have hv:=avk hlb
  generalize afE (c.map (·.l))=v at*
  refine⟨fun p hp=>hv p (azW hr p hp),?_⟩
  unfold aiR at hr
  obtain⟨i,_,rfl⟩:=bW.1 hr;rfl
theorem akz{k0:Nat}{t:Tr}(h:TrX k0 t)(hk0:k0≤900):PF GB prog 15 [eT t] (vB ((aaC t).all aeT)):=by
 rw[←ast h.ok]
 obtain⟨cs,hcs⟩: ∃cs,cs=alg (aaY t []):=⟨_,rfl⟩
 have hcl:=as9 h.ok
 have hlb:=axH h.lb h.ok
 rw[←hcs] at hcl hlb⊢
 have hts:=h.s
 have htd:=h.dp
 have hml:(cs.map eSd).length=cs.length:=aJ ..
 refine fn func15 J J ntmps15 J J (fun C=>?_)
 refine cl (fu:=⟨0⟩) rfl (aBg (t:=t) h.lb h.ok (by omega) (by omega)) rfl<|?_
 refine eqF 6 (.d (.sl (cs.map eSd))) rfl (by rw[hcs]) ?_
 refine gx (fu:=⟨1⟩) rfl<|?_
 refine eqF 7 (.d (vI (cs.length:Nat))) rfl (by rw[hml]<;>rfl) ?_
 refine gx rfl<|?_
 refine lp (X:=Nat) (fun k=>[(8, .d (vI (k:Nat)))]) (fun k=>[]) (fun k=>(cs.drop k).all anD=cs.all anD∧k≤cs.length) (fun k=>cs.length-k) 0 rfl ⟨rfl,aR _⟩ (fun _=>rfl) (fun k hk=>?_)
 obtain⟨h1,h2⟩:=hk
 refine br J J J (fun hc9=>?_) (fun hc9=>?_)
 ·
  obtain⟨c,hx⟩: ∃u,cs[k]? =some u:=⟨_,aQ (by omega)⟩
  have hcb:=hlb c (aM hx)
  refine ix _ rfl (aak hx) rfl<|cl rfl (aCh (L:=c) hcb.1 (by omega)) rfl<|?_
  refine bb J J J (fun hc14=>?_) (fun hc14=>?_)
  ·
   have hF:cs.all anD=false:=by rw[←h1,acd hx,show anD c=false by simpa using hc14];rfl
   exact rz rfl (by rw[hF];rfl)
  ·
   exact at_ (k+1) ⟨⟨by rw[←h1,acd hx,show anD c=true by simpa using hc14];rfl,by omega⟩,(by omega)⟩
 ·
  have hT:cs.all anD=true:=by rw[←h1,dW (by omega)];rfl
  exact rz rfl (by rw[hT];rfl)
theorem akw{k0:Nat}{t:Tr}(h:TrX k0 t)(hk0:k0≤900)(hr:t.restrict []=t){ts:List (List PtQ)}(hts:ts=(aaC t).flatMap akU):PF GB prog 19 [eT t] (.sl (ts.map eRp)):=by
 obtain⟨cs,hcs⟩: ∃cs,cs=alg (aaY t []):=⟨_,rfl⟩
 have hcl:=as9 h.ok
 have hlb:=axH h.lb h.ok
 have hte:ts=cs.flatMap (fun L=>aiR (afE L)):=by rw[hts,←aku h.ok,←hcs];rfl
 rw[←hcs] at hcl hlb
 have hsz:=h.s
 have htd:=h.dp
 have hml:(cs.map eSd).length=cs.length:=aJ ..
 refine fn func19 J J ntmps19 J J (fun C=>?_)
 refine cl (fu:=⟨0⟩) rfl (aem (t:=t) h.lb h.ok (by omega)) rfl<|?_
 refine eqF 9 (.d (eT t)) rfl (by rw[hr]) ?_
 refine gx rfl<|cl (fu:=⟨0⟩) rfl (aBg (t:=t) h.lb h.ok (by omega) (by omega)) rfl<|?_
 refine eqF 10 (.d (.sl (cs.map eSd))) rfl (by rw[hcs]) ?_
 refine gx (fu:=⟨1⟩) rfl<|?_
 refine eqF 11 (.d (vI (cs.length:Nat))) rfl (by rw[hml]<;>rfl) ?_
 refine gx rfl<|?_
 refine nr 3 3 46 1 J J J ?_
 refine lp (X:=List (List PtQ)×Nat) (fun⟨acc,k⟩=>[(12, .d (vI (k:Nat))),(3, .rw 3)]) (fun⟨acc,k⟩=>[(3,some (.b 46 1 (acc.map eRp) true))]) (fun⟨acc,k⟩=>acc=(cs.take k).flatMap (fun L=>aiR (afE L))∧k≤cs.length∧acc.length≤1000*k) (fun⟨acc,k⟩=>cs.length-k) ⟨[],0⟩ rfl ⟨rfl,aR _,aR _⟩ (fun _=>rfl) (fun⟨acc,k⟩ hk=>?_)
 try dsimp only at hk⊢
 obtain⟨h1,h2,h3⟩:=hk
 refine br J J J (fun hc13=>?_) (fun hc13=>?_)
 ·
  obtain⟨c,hx⟩: ∃u,cs[k]? =some u:=⟨_,aQ (by omega)⟩
  have hcb:=hlb c (aM hx)
  obtain⟨v,hv⟩: ∃v,v=afE c:=⟨_,rfl⟩
  have hvl:=ajk c
  rw[←hv] at hvl
  have hvm:(v.map eP).length=v.length:=aJ ..
  refine ix _ rfl (aak hx) rfl<|cl (fu:=⟨0⟩) rfl (azj (L:=c) hcb.1 (by omega)) rfl<|?_
  refine eqF 17 (.d (.sl (v.map eP))) rfl (by rw[hv]) ?_
  refine gx rfl<|?_
  refine lp (fu:=⟨7⟩) (X:=List (List PtQ)×Nat) (fun⟨acc2,i⟩=>[(7, .d (vI ((i+1:Nat):Int))),(3, .rw 3)]) (fun⟨acc2,i⟩=>[(3,some (.b 46 1 (acc2.map eRp) true))]) (fun⟨acc2,i⟩=>acc2=acc++(List.range i).map (avb v)∧i≤v.length-2∧acc2.length≤1000*k+i) (fun⟨acc2,i⟩=>v.length-i) ⟨acc,0⟩ rfl ⟨by simp,aR _,h3⟩ (fun _=>rfl) (fun⟨acc2,i⟩ hk=>?_)
  try dsimp only at hk⊢
  obtain⟨g1,g2,g3⟩:=hk
  have ham:(acc2.map eRp).length=acc2.length:=aJ ..
  refine eqF 21 (.d (vI (v.length:Nat))) rfl (by rw[hvm]<;>rfl) ?_
  refine gx rfl<|?_
  refine br J J J (fun hc22=>?_) (fun hc22=>?_)
  ·
   obtain⟨p0,h0⟩: ∃u,v[0]? =some u:=⟨_,aQ (by omega)⟩
   obtain⟨p1,e1⟩: ∃u,v[i+1]? =some u:=⟨_,aQ (by omega)⟩
   obtain⟨p2,e2⟩: ∃u,v[i+2]? =some u:=⟨_,aQ (by omega)⟩
   refine ix _ rfl (aEB h0) rfl<|ix (fu:=⟨4⟩) _ rfl (aak e1) rfl<|?_
   refine eqF 35 (.d (vI ((i+2:Nat):Int))) J J ?_
   refine gx rfl<|ix _ rfl (aak e2) rfl<|rf J J<|rf J J<|ap (hv:=by simp only[aah];exact⟨by kernel_rfl,by omega⟩) ((acc2++[[p0,p1,p2]]).map eRp) rfl (by rw[aN]<;>rfl) (aA4 [[p0,p1,p2]]) rfl<|?_
   refine rnE 40 3 rfl ?_
   exact at_ ⟨acc2++[[p0,p1,p2]],i+1⟩ (by dsimp only;exact⟨⟨by rw[am2,←fL,←g1,aol h0 e1 e2],by omega,by rw[aW,dK];omega⟩,(by omega)⟩)
  ·
   have hA:acc2=acc++aiR v:=by rw[g1];unfold aiR;rw[show i=v.length-2 by omega]
   exact at_ ⟨acc2,k+1⟩ (by dsimp only;exact⟨⟨by rw[hA,gQ,hx,lX,←h1,hv];simp,by omega,by omega⟩,(by omega)⟩)
 ·
  have hS:ts=acc:=by rw[h1,hte,aV (by omega)]
  refine fzE 3 rfl ?_
  exact rz rfl (by rw[hS];rfl)
def otQ(a b p:PtQ):Rat:=(b.x-a.x)*(p.y-a.y)-(b.y-a.y)*(p.x-a.x)
def wnQ(v w p:PtQ):Int:=(if v.y≤p.y∧ ¬w.y≤p.y∧0<otQ v w p then 1 else 0)-(if¬v.y≤p.y∧w.y≤p.y∧otQ v w p<0 then 1 else 0)
def ahN(v w q p:PtQ):Prop:= ∀s t:Rat,0≤s→s≤1→0≤t→t≤1→abg v w s≠abg q p t
theorem agv{a b:Rat}(h0:0≤a)(h1:a≤b)(hb:0<b):0≤a/b∧a/b≤1∧a/b*b=a:=by
 have e:a/b*b=a:=by grind
 generalize a/b=q at*
 refine⟨?_,?_,e⟩
 ·exact(aan hb).1 (by rw[e];exact h0)
 ·have:=(aan (s:=1-q) hb).1 (by grind)
  grind
theorem aB6{q p x:PtQ}(hy:q.y<p.y)(h:otQ q p x=0)(h1:q.y≤x.y)(h2:x.y≤p.y): ∃t,0≤t∧t≤1∧x=abg q p t:=by
 obtain⟨a1,a2,a3⟩:=agv (a:=x.y-q.y) (b:=p.y-q.y) (by grind) (by grind) (by grind)
 refine⟨_,a1,a2,?_⟩
 generalize (x.y-q.y)/(p.y-q.y)=t at*
 obtain⟨X,Y⟩:=x
 unfold otQ at h
 unfold abg
 simp only at*
 have e:X=q.x+t*(p.x-q.x):=by
  have h3:(p.y-q.y)*(X-q.x)=(p.y-q.y)*(t*(p.x-q.x)):=by grind
  have h4:p.y-q.y≠0:=by grind
  have:=nN.1 (show(p.y-q.y)*(X-q.x-t*(p.x-q.x))=0 by grind)
  rcases this with h5|h5
  ·exact absurd h5 h4
  ·grind
 rw[e]
 congr 1
 grind
theorem aDh(q p v w:PtQ)(e:Rat):otQ q p (abg v w e)=otQ q p v+e*(otQ q p w-otQ q p v):=by
 unfold otQ abg;grind
theorem arN(v w:PtQ)(a b e:Rat):abg (abg v w a) (abg v w b) e=abg v w (a+e*(b-a)):=by
 unfold abg;simp only[PtQ.mk.injEq];constructor<;>grind
theorem avc(v w:PtQ)(e:Rat):(abg v w e).y=v.y+e*(w.y-v.y):=rfl
theorem aD8{a b e lo hi:Rat}(h0:0≤e)(h1:e≤1)(ha:lo≤a)(hb:lo≤b)(ha2:a≤hi)(hb2:b≤hi):lo≤a+e*(b-a)∧a+e*(b-a)≤hi:=by
 have k1:=aad h0 (show 0≤b-lo by grind)
 have k2:=aad (show 0≤1-e by grind) (show 0≤a-lo by grind)
 have k3:=aad h0 (show 0≤hi-b by grind)
 have k4:=aad (show 0≤1-e by grind) (show 0≤hi-a by grind)
 constructor<;>grind
theorem aui{v w q p:PtQ}(hn:ahN v w q p)(hy:q.y<p.y){a b:Rat}(a0:0≤a)(a1:a≤1)(b0:0≤b)(b1:b≤1)(ha:q.y≤(abg v w a).y∧(abg v w a).y≤p.y)(hb:q.y≤(abg v w b).y∧(abg v w b).y≤p.y)(h:otQ q p (abg v w a)<0):otQ q p (abg v w b)<0:=by
 by_cases k:otQ q p (abg v w b)<0
 ·exact k
 ·exfalso
  obtain⟨e0,e1,e2⟩:=agv (a:= -(otQ q p (abg v w a))) (b:=otQ q p (abg v w b)-otQ q p (abg v w a)) (by grind) (by grind) (by grind)
  generalize-(otQ q p (abg v w a))/(otQ q p (abg v w b)-otQ q p (abg v w a))=e at*
  have hz:otQ q p (abg v w (a+e*(b-a)))=0:=by rw[←arN,aDh];grind
  have hh:=aD8 e0 e1 ha.1 hb.1 ha.2 hb.2
  rw[←avc,arN] at hh
  obtain⟨t,t0,t1,ht⟩:=aB6 hy hz hh.1 hh.2
  have h01:=aD8 e0 e1 a0 b0 a1 b1
  exact hn _ t h01.1 h01.2 t0 t1 ht
theorem aAy{v w q p:PtQ}(hn:ahN v w q p)(hy:q.y<p.y): ∃r:Bool,∀s,0≤s→s≤1→q.y≤(abg v w s).y→(abg v w s).y≤p.y→(otQ q p (abg v w s)<0↔r=true):=by
 by_cases h: ∃s,0≤s∧s≤1∧(q.y≤(abg v w s).y∧(abg v w s).y≤p.y)∧otQ q p (abg v w s)<0
 ·obtain⟨s,s0,s1,s2,s3⟩:=h
  exact⟨true,fun t t0 t1 h1 h2=>⟨fun _=>rfl,fun _=>aui hn hy s0 s1 t0 t1 s2 ⟨h1,h2⟩ s3⟩⟩
 ·exact⟨false,fun t t0 t1 h1 h2=>⟨fun k=>absurd ⟨t,t0,t1,⟨h1,h2⟩,k⟩ h,fun k=>by cases k⟩⟩
theorem aqf(v w:PtQ):abg v w 0=v:=by unfold abg;cases v;simp only[PtQ.mk.injEq];constructor<;>grind
theorem asq(v w:PtQ):abg v w 1=w:=by unfold abg;cases w;simp only[PtQ.mk.injEq];constructor<;>grind
theorem aiA{v w:PtQ}{y:Rat}(h:(v.y≤y∧ ¬w.y≤y)∨(¬v.y≤y∧w.y≤y)): ∃s,0≤s∧s≤1∧(abg v w s).y=y:=by
 rcases h with⟨h1,h2⟩|⟨h1,h2⟩
 ·obtain⟨a1,a2,a3⟩:=agv (a:=y-v.y) (b:=w.y-v.y) (by grind) (by grind) (by grind)
  refine⟨_,a1,a2,?_⟩
  rw[avc];grind
 ·obtain⟨a1,a2,a3⟩:=agv (a:=v.y-y) (b:=v.y-w.y) (by grind) (by grind) (by grind)
  refine⟨_,a1,a2,?_⟩
  rw[avc];grind
theorem anu{v w p:PtQ}{s:Rat}(h:(abg v w s).y=p.y):otQ v w p=(w.y-v.y)*((abg v w s).x-p.x):=by
 unfold otQ
 unfold abg at*
 simp only at*
 rw[←h];grind
theorem ag0{a b:Rat}(ha:0<a):0<a*b↔0<b:=by rw[Rat.mul_comm];exact aau ha
theorem alb{a b:Rat}(ha:a<0):a*b<0↔0<b:=by
 have:=ag0 (a:= -a) (b:=b) (by grind)
 constructor
 ·intro h;exact this.1 (by grind)
 ·intro h;have:=this.2 h;grind
def bI(b:Prop)[Decidable b]:Int:=if b then 1 else 0
theorem arH{v w p:PtQ}{r:Prop}[Decidable r](h: ∀s,0≤s→s≤1→(abg v w s).y=p.y→(p.x<(abg v w s).x↔r)):wnQ v w p=if r then bI (v.y≤p.y)-bI (w.y≤p.y) else 0:=by
 unfold wnQ bI
 by_cases h1:v.y≤p.y<;>by_cases h2:w.y≤p.y
 ·simp[h1,h2]
 ·obtain⟨s,s0,s1,s2⟩:=aiA (.inl ⟨h1,h2⟩)
  have e:=anu s2
  have k:=h s s0 s1 s2
  have m:=ag0 (a:=w.y-v.y) (b:=(abg v w s).x-p.x) (by grind)
  rw[←e] at m
  have m2:0<otQ v w p↔r:=by rw[m,←k];grind
  simp only[h1,h2,m2]
  by_cases q:r<;>simp[q]
 ·obtain⟨s,s0,s1,s2⟩:=aiA (.inr ⟨h1,h2⟩)
  have e:=anu s2
  have k:=h s s0 s1 s2
  have m:=alb (a:=w.y-v.y) (b:=(abg v w s).x-p.x) (by grind)
  rw[←e] at m
  have m2:otQ v w p<0↔r:=by rw[m,←k];grind
  simp only[h1,h2,m2]
  by_cases q:r<;>simp[q]
 ·simp[h1,h2]
def axs(q p u:PtQ):Int:=if q.y<u.y∧u.y≤p.y∧otQ q p u<0 then 1 else 0
theorem amQ{v w q p:PtQ}(hn:ahN v w q p)(hy:q.y<p.y):wnQ v w p-wnQ v w q=axs q p v-axs q p w:=by
 obtain⟨r,hr⟩:=aAy hn hy
 have ep:=arH (v:=v) (w:=w) (p:=p) (r:=r=true) fun s s0 s1 s2=>by
  rw[←hr s s0 s1 (by grind) (by grind)]
  have m:=ag0 (a:=p.y-q.y) (b:=(abg v w s).x-p.x) (by grind)
  have:otQ q p (abg v w s)= -((p.y-q.y)*((abg v w s).x-p.x)):=by unfold otQ;rw[s2];grind
  rw[this]
  generalize (p.y-q.y)*((abg v w s).x-p.x)=z at*
  constructor
  ·intro k;have:=m.2 (by grind);grind
  ·intro k;have:=m.1 (by grind);grind
 have eq:=arH (v:=v) (w:=w) (p:=q) (r:=r=true) fun s s0 s1 s2=>by
  rw[←hr s s0 s1 (by grind) (by grind)]
  have m:=ag0 (a:=p.y-q.y) (b:=(abg v w s).x-q.x) (by grind)
  have:otQ q p (abg v w s)= -((p.y-q.y)*((abg v w s).x-q.x)):=by unfold otQ;rw[s2];grind
  rw[this]
  generalize (p.y-q.y)*((abg v w s).x-q.x)=z at*
  constructor
  ·intro k;have:=m.2 (by grind);grind
  ·intro k;have:=m.1 (by grind);grind
 have fv:axs q p v=if r=true then bI (v.y≤p.y)-bI (v.y≤q.y) else 0:=by
  have h:=hr 0 (by decide) (by decide)
  rw[aqf] at h
  unfold axs bI
  by_cases h1:v.y≤p.y<;>by_cases h2:v.y≤q.y
  ·have: ¬q.y<v.y:=by grind
   simp[h1,h2,this]
  ·have h3:q.y<v.y:=by grind
   have:=h (by grind) h1
   simp only[h1,h2,h3,this]
   by_cases q:r=true<;>simp[q]
  ·exfalso;grind
  ·simp[h1,h2]
 have fw:axs q p w=if r=true then bI (w.y≤p.y)-bI (w.y≤q.y) else 0:=by
  have h:=hr 1 (by decide) (by decide)
  rw[asq] at h
  unfold axs bI
  by_cases h1:w.y≤p.y<;>by_cases h2:w.y≤q.y
  ·have: ¬q.y<w.y:=by grind
   simp[h1,h2,this]
  ·have h3:q.y<w.y:=by grind
   have:=h (by grind) h1
   simp only[h1,h2,h3,this]
   by_cases q:r=true<;>simp[q]
  ·exfalso;grind
  ·simp[h1,h2]
 rw[ep,eq,fv,fw]
 by_cases q:r=true
 ·simp only[if_pos q];omega
 ·simp only[if_neg q]
theorem aqT{v w q p:PtQ}(hn:ahN v w q p)(hy:q.y=p.y):wnQ v w p=wnQ v w q:=by
 have key: ∀s,0≤s→s≤1→(abg v w s).y=p.y→(p.x<(abg v w s).x↔q.x<(abg v w s).x):=fun s s0 s1 s2=>by
  have no: ∀a b:Rat,a≤(abg v w s).x→(abg v w s).x<b→((a=q.x∧b=p.x)∨(a=p.x∧b=q.x))→False:=fun a b h1 h2 h3=>by
   obtain⟨a1,a2,a3⟩:=agv (a:=(abg v w s).x-a) (b:=b-a) (by grind) (by grind) (by grind)
   generalize ((abg v w s).x-a)/(b-a)=t at*
   rcases h3 with⟨e1,e2⟩|⟨e1,e2⟩
   ·refine hn s t s0 s1 a1 a2 ?_
    generalize hx:abg v w s=x at*
    obtain⟨X,Y⟩:=x
    unfold abg
    simp only[PtQ.mk.injEq] at*
    subst e1 e2
    constructor<;>grind
   ·refine hn s (1-t) s0 s1 (by grind) (by grind) ?_
    generalize hx:abg v w s=x at*
    obtain⟨X,Y⟩:=x
    unfold abg
    simp only[PtQ.mk.injEq] at*
    subst e1 e2
    constructor<;>grind
  constructor
  ·intro h
   by_cases k:q.x<(abg v w s).x
   ·exact k
   ·by_cases k2:(abg v w s).x=q.x
    ·exfalso
     refine hn s 0 s0 s1 (by decide) (by decide) ?_
     rw[aqf]
     generalize abg v w s=x at*
     obtain⟨X,Y⟩:=x;obtain⟨A,B⟩:=q
     simp only[PtQ.mk.injEq] at*
     exact⟨k2,by grind⟩
    ·exact(no p.x q.x (by grind) (by grind) (.inr ⟨rfl,rfl⟩)).elim
  ·intro h
   by_cases k:p.x<(abg v w s).x
   ·exact k
   ·by_cases k2:(abg v w s).x=p.x
    ·exfalso
     refine hn s 1 s0 s1 (by decide) (by decide) ?_
     rw[asq]
     generalize abg v w s=x at*
     obtain⟨X,Y⟩:=x;obtain⟨A,B⟩:=p
     simp only[PtQ.mk.injEq] at*
     exact⟨k2,s2⟩
    ·exact(no q.x p.x (by grind) (by grind) (.inl ⟨rfl,rfl⟩)).elim
 by_cases hc:(v.y≤p.y∧ ¬w.y≤p.y)∨(¬v.y≤p.y∧w.y≤p.y)
 ·obtain⟨s,s0,s1,s2⟩:=aiA hc
  have uq: ∀t,(abg v w t).y=p.y→t=s:=fun t ht=>by
   rw[avc] at ht s2
   have h4:w.y-v.y≠0:=by grind
   have:=nN.1 (show(w.y-v.y)*(t-s)=0 by grind)
   rcases this with h5|h5
   ·exact absurd h5 h4
   ·grind
  rw[arH (p:=p) (r:=p.x<(abg v w s).x) fun t _ _ ht=>by rw[uq t ht],arH (p:=q) (r:=p.x<(abg v w s).x) fun t _ _ ht=>by rw[uq t (by rw[ht,hy])];exact(key s s0 s1 s2).symm,hy]
 ·unfold wnQ
  rw[hy]
  by_cases h1:v.y≤p.y<;>by_cases h2:w.y≤p.y<;>simp[h1,h2] at hc⊢
theorem ayr(q p:PtQ)(t:Rat):abg p q t=abg q p (1-t):=by unfold abg;simp only[PtQ.mk.injEq];constructor<;>grind
theorem ahN.symm{v w q p:PtQ}(h:ahN v w q p):ahN v w p q:=fun s t s0 s1 t0 t1 e=>h s (1-t) s0 s1 (by grind) (by grind) (by rw[e,ayr])
def wnN(r:List ZP)(p:PtQ):Nat→Int
 |0=>0
 |k+1=>wnN r p k+wnQ (r.getD k (0,0)).q (acE r k).q p
def akl(r:List ZP)(q p:PtQ):Prop:= ∀k,k<r.length→ahN (r.getD k (0,0)).q (acE r k).q q p
theorem aoT{r:List ZP}{q p:PtQ}(h:akl r q p)(hy:q.y<p.y): ∀k,k<r.length→wnN r p k-wnN r q k=axs q p (r.getD 0 (0,0)).q-axs q p (r.getD k (0,0)).q
 |0,_=>by simp[wnN]
 |k+1,hk=>by
  have ih:=aoT h hy k (by omega)
  have e:=amQ (h k (by omega)) hy
  rw[agB (by omega)] at e
  rw[wnN,wnN,agB (by omega)]
  omega
theorem ax1{r:List ZP}{q p:PtQ}(h:akl r q p)(hy:q.y<p.y):wnN r p r.length=wnN r q r.length:=by
 cases hr:r.length with
 |zero=>rfl
 |succ n=>
  have ih:=aoT h hy n (by omega)
  have e:=amQ (h n (by omega)) hy
  rw[aep (by omega)] at e
  rw[wnN,wnN,aep (by omega)]
  omega
theorem al4{r:List ZP}{q p:PtQ}(h:akl r q p)(hy:q.y=p.y): ∀k,k≤r.length→wnN r p k=wnN r q k
 |0,_=>rfl
 |k+1,hk=>by rw[wnN,wnN,al4 h hy k (by omega),aqT (h k (by omega)) hy]
theorem auR{r:List ZP}{q p:PtQ}(h:akl r q p):wnN r p r.length=wnN r q r.length:=by
 by_cases h1:q.y<p.y
 ·exact ax1 h h1
 ·by_cases h2:p.y<q.y
  ·exact(ax1 (fun k hk=>(h k hk).symm) h2).symm
  ·exact al4 h (by grind) _ (aL _)
theorem asw(a b c:PtQ):ag6 a b c=(otQ a b c).num.sign:=by
 unfold ag6 otQ PtQ.cross acu
 congr 2
 grind
theorem aAp(a b:Rat):abc a b≤0↔a≤b:=by
 have:=aiX a b
 constructor
 ·intro h
  by_cases q:b<a
  ·have:=this.2 q;omega
  ·grind
 ·intro h
  by_cases q:0<abc a b
  ·have:=this.1 q;grind
  ·omega
theorem aBX(v w p:PtQ):atY v w p=wnQ v w p:=by
 unfold atY wnQ
 simp only[asw,ac7,agU,aAp]
theorem akX(r:List ZP)(p:PtQ): ∀k,aq0 r p k=wnN r p k
 |0=>rfl
 |k+1=>by rw[aq0,wnN,akX r p k,aBX]
theorem asW{r:List ZP}{q p:PtQ}(h:akl r q p):anx r p=anx r q:=by
 unfold anx;rw[akX,akX,auR h]
theorem aym{v w p:PtQ}(h:v.y≤p.y)(k:w.y≤p.y):wnQ v w p=0:=by unfold wnQ;simp[h,k]
theorem aCM{v w p:PtQ}(h:p.y<v.y)(k:p.y<w.y):wnQ v w p=0:=by
 have h': ¬v.y≤p.y:=by grind
 have k': ¬w.y≤p.y:=by grind
 unfold wnQ;simp[h',k']
theorem aoA{v w p:PtQ}(r:Bool)(h1:p.x<v.x↔r=true)(h2:p.x<w.x↔r=true)(h3:v.x<p.x↔r=false)(h4:w.x<p.x↔r=false):wnQ v w p=if r=true then bI (v.y≤p.y)-bI (w.y≤p.y) else 0:=by
 refine arH (r:=r=true) fun s s0 s1 _=>?_
 have e:(abg v w s).x-p.x=(1-s)*(v.x-p.x)+s*(w.x-p.x):=by unfold abg;grind
 cases r with
 |true=>
  have a:=h1.2 rfl
  have b:=h2.2 rfl
  refine⟨fun _=>rfl,fun _=>?_⟩
  by_cases q:s=0
  ·subst q;grind
  ·have k1:=aao (show 0<s by grind) (show 0<w.x-p.x by grind)
   have k2:=aad (show 0≤1-s by grind) (show 0≤v.x-p.x by grind)
   grind
 |false=>
  have a:=h3.2 rfl
  have b:=h4.2 rfl
  refine⟨fun k=>?_,fun k=>(by cases k)⟩
  exfalso
  have k1:=aad (show 0≤s by grind) (show 0≤p.x-w.x by grind)
  have k2:=aad (show 0≤1-s by grind) (show 0≤p.x-v.x by grind)
  grind
def aDv(R:Rat)(p:PtQ):Prop:=p.x< -R∨R<p.x∨p.y< -R∨R<p.y
theorem auN{r:List ZP}{P:ZP→Prop}(h: ∀v∈r,P v){k:Nat}(hk:k<r.length):P (r.getD k (0,0)):=h _ (af8 hk)
theorem ayA{r:List ZP}{R:Rat}{p:PtQ}(hr: ∀v∈r, -R≤v.q.x∧v.q.x≤R∧ -R≤v.q.y∧v.q.y≤R)(hp:aDv R p):wnN r p r.length=0:=by
 have hv: ∀k,k<r.length→_:=fun k hk=>auN hr hk
 have hw: ∀k,k<r.length→_:=fun k hk=>hr _ (agz hk)
 have zero:(∀k,k<r.length→wnQ (r.getD k (0,0)).q (acE r k).q p=0)→ ∀k,k≤r.length→wnN r p k=0:=fun h=>by
  intro k
  induction k with
  |zero=>intro _;rfl
  |succ k ih=>intro hk;rw[wnN,ih (by omega),h k (by omega)];rfl
 rcases hp with h|h|h|h
 ·have tele: ∀k,k<r.length→wnN r p k=bI ((r.getD 0 (0,0)).q.y≤p.y)-bI ((r.getD k (0,0)).q.y≤p.y):=by
   intro k
   induction k with
   |zero=>intro _;rw[wnN];omega
   |succ k ih=>
    intro hk
    have e:=aoA (v:=(r.getD k (0,0)).q) (w:=(acE r k).q) (p:=p) true (by have:=hv k (by omega);constructor<;>grind) (by have:=hw k (by omega);constructor<;>grind) (by have:=hv k (by omega);constructor<;>grind) (by have:=hw k (by omega);constructor<;>grind)
    rw[if_pos rfl,agB (by omega)] at e
    rw[wnN,ih (by omega),agB (by omega),e]
    omega
  cases hr':r.length with
  |zero=>rfl
  |succ n=>
   have e:=aoA (v:=(r.getD n (0,0)).q) (w:=(acE r n).q) (p:=p) true (by have:=hv n (by omega);constructor<;>grind) (by have:=hw n (by omega);constructor<;>grind) (by have:=hv n (by omega);constructor<;>grind) (by have:=hw n (by omega);constructor<;>grind)
   rw[if_pos rfl,aep (by omega)] at e
   rw[wnN,tele n (by omega),aep (by omega),e]
   omega
 ·refine zero (fun k hk=>?_) _ (aL _)
  have e:=aoA (v:=(r.getD k (0,0)).q) (w:=(acE r k).q) (p:=p) false (by have:=hv k (by omega);constructor<;>grind) (by have:=hw k (by omega);constructor<;>grind) (by have:=hv k (by omega);constructor<;>grind) (by have:=hw k (by omega);constructor<;>grind)
  rw[e,if_neg (by decide)]
 ·exact zero (fun k hk=>aCM (by have:=hv k hk;grind) (by have:=hw k hk;grind)) _ (aL _)
 ·exact zero (fun k hk=>aym (by have:=hv k hk;grind) (by have:=hw k hk;grind)) _ (aL _)
/-! the reference's inner point -/
theorem ahx{l:LnQ}: ∀{c:List LnQ} {v:IvQ},(aca l c v).2=true→ab3 l c v=some (aca l c v).1
 |[],v,_=>rfl
 |m::t,v,h=>by
  rw[aca] at h⊢
  rw[ab3]
  split
  ·rename_i e;rw[if_pos e] at h;exact ahx h
  ·rename_i e
   rw[if_neg e] at h
   split
   ·rename_i k;rw[if_pos k] at h;exact ahx h
   ·rename_i k;rw[if_neg k] at h;cases h
theorem an1{v:IvQ}(h:v.Pos):v.ins (abA v):=by
 obtain⟨lo,hi,nl,nh⟩:=v
 unfold IvQ.Pos at h
 unfold abA IvQ.ins
 cases nl<;>cases nh<;>simp at* <;>grind
theorem aj0{p v:PtQ}: ∀{c:List LnQ} {s:Rat},0<s→0<afZ p v c s∧afZ p v c s≤s∧ ∀m∈c,0<m.value p→m.nor.dot v<0→afZ p v c s≤ -(m.value p/m.nor.dot v)/2
 |[],s,h=>⟨h,fR,fun m hm=>by cases hm⟩
 |m::t,s,h=>by
  have hk:m.value (acu p v ((1:Int):Rat))-m.value p=m.nor.dot v:=by rw[abL];grind
  have key:0<ab6 p v m s∧ab6 p v m s≤s∧(0<m.value p→m.nor.dot v<0→ab6 p v m s≤ -(m.value p/m.nor.dot v)/2):=by
   unfold ab6 akT
   simp only[hk,abN,ac7,aeX]
   split
   ·rename_i e;exact⟨h,fR,fun _ k=>by rw[e] at k;exact absurd k (by decide)⟩
   ·split
    ·rename_i e;exact⟨h,fR,fun k=>by rw[e] at k;exact absurd k (by decide)⟩
    ·split
     ·rename_i e
      split
      ·exact⟨by grind,by grind,fun _ _=>fR⟩
      ·exact⟨h,fR,fun _ _=>by grind⟩
     ·rename_i e
      exact⟨h,fR,fun k1 k2=>absurd (ap0 k2 k1) e⟩
  obtain⟨a1,a2,a3⟩:=key
  obtain⟨b1,b2,b3⟩:=aj0 (p:=p) (v:=v) (c:=t) a1
  rw[afZ]
  refine⟨b1,by grind,fun u hu k1 k2=>?_⟩
  rcases aS.1 hu with rfl|hu
  ·have:=a3 k1 k2;grind
  ·exact b3 u hu k1 k2
theorem ayB{c:List LnQ}{p v:PtQ}(h: ∀m∈c,0<m.value p∨(m.value p=0∧0<m.nor.dot v)):InL c (aqW c p v):=fun m hm=>by
 obtain⟨s0,_,s2⟩:=aj0 (p:=p) (v:=v) (c:=c) (s:=((1:Int):Rat)) (by decide)
 unfold aqW
 generalize afZ p v c ((1:Int):Rat)=s at*
 rw[abL]
 rcases h m hm with k|⟨k,k2⟩
 ·by_cases q:m.nor.dot v<0
  ·have h3:=s2 m hm k q
   have h4:=ap0 q k
   have e:m.value p/m.nor.dot v*m.nor.dot v=m.value p:=by grind
   generalize m.value p/m.nor.dot v=z at*
   have h5:=aad (a:= -z/2-s) (b:= -m.nor.dot v) (by grind) (by grind)
   grind
  ·have:=aad (dR s0) (show 0≤m.nor.dot v by grind)
   grind
 ·have:=aao s0 k2
  grind
theorem auY{m:LnQ}(h:m.Ne):0<m.nor.dot (ag3 m.dir):=by
 have:=afJ h
 have e:m.nor.dot (ag3 m.dir)=m.nor.dot m.nor:=by unfold ag3 LnQ.dir LnQ.nor PtQ.dot;grind
 rw[e];exact this
theorem asG{c:List LnQ}(hok: ∀m∈c,m.ok)(hb:abZ c=true):InL c (ab0 c c):=by
 have key: ∀t:List LnQ,(∀m∈t,m∈c)→(∃m∈t,(ab3 m c IvQ.all).isSome=true)→InL c (ab0 c t):=by
  intro t
  induction t with
  |nil=>rintro _ ⟨m,hm,_⟩;cases hm
  |cons m t ih=>
   intro hs hx
   rw[ab0]
   split
   ·rename_i e
    obtain⟨h1,h2⟩:=aed m c _ _ afT (ahx e)
    have h3:=((h2 _).1 (an1 h1)).2
    have hmo:=(hok m (hs m aZ)).ne
    refine ayB fun u hu=>?_
    by_cases q:u=m
    ·subst q;exact .inr ⟨adY hmo _,auY hmo⟩
    ·exact .inl (h3 u hu q)
   ·rename_i e
    refine ih (fun u hu=>hs u (aK _ hu)) ?_
    obtain⟨u,hu,h⟩:=hx
    rcases aS.1 hu with rfl|hu
    ·rw[adw] at e;exact absurd h e
    ·exact⟨u,hu,h⟩
 unfold abZ at hb
 rw[gU,List.isEmpty_iff,jL] at hb
 rcases hb with rfl|⟨m,hm,h⟩
 ·exact fun m hm=>by cases hm
 ·exact key c (fun _ h=>h) ⟨m,hm,h⟩
/-! open convex sets of lines -/
theorem InL.seg{c:List LnQ}{q p:PtQ}{e:Rat}(hq:InL c q)(hp:InL c p)(h0:0≤e)(h1:e≤1):InL c (abg q p e):=fun m hm=>by
 rw[acB]
 have a:=hq m hm
 have b:=hp m hm
 by_cases z:e=0
 ·subst z;grind
 ·have k1:=aao (show 0<e by grind) b
  have k2:=aad (show 0≤1-e by grind) (dR a)
  grind
theorem InL.open{c:List LnQ}{q:PtQ}(u:PtQ)(h:InL c q): ∃e:Rat,0<e∧ ∀d,0≤d→d≤e→InL c (acu q u d):=by
 have hd:InD (c.map fun m=>(⟨m,IvQ.all⟩:FrQ)) q:=fun s hs=>by
  obtain⟨m,hm,rfl⟩:=bW.1 hs
  exact h m hm
 obtain⟨e,he,ho⟩:=hd.open u
 exact⟨e,he,fun d d0 d1 m hm=>ho d d0 d1 ⟨m,IvQ.all⟩ (gS hm)⟩
/-! edges as fragments -/
theorem anJ(l:LnQ)(t u:Rat):l.at (t+u)=acu (l.at t) l.dir u:=by
 rw[←af6,←af6];unfold acu;simp only[PtQ.mk.injEq];constructor<;>grind
theorem aBR(l:LnQ)(a b s:Rat):abg (l.at a) (l.at b) s=l.at (a+s*(b-a)):=by
 rw[←af6,←af6,←af6];unfold abg acu;simp only[PtQ.mk.injEq];constructor<;>grind
theorem apF{l:LnQ}(h:l.Ne)(t:Rat):abp l (l.at t)=t:=by
 obtain⟨q,_,hq⟩:=al0 h
 have h2:=afJ h
 have e0:l.dir.dot l.dir=l.nor.dot l.nor:=by unfold LnQ.dir LnQ.nor PtQ.dot;grind
 have e1:(l.at t).dot l.dir=t*l.dir.dot l.dir:=by
  rw[←af6,hq];unfold acu LnQ.dir PtQ.dot;grind
 unfold abp
 rw[e1]
 rw[←e0] at h2
 generalize l.dir.dot l.dir=d at*
 have:d≠0:=by grind
 grind
theorem apN{l:LnQ}(h:l.Ne){p:PtQ}(hp:l.value p=0):l.at (abp l p)=p:=by
 obtain⟨t,rfl⟩:=awU h hp
 rw[apF h]
theorem aAd(a:Int){g:Nat}(h:g∣a.natAbs):(g:Int)*zv (decide (a<0)) (a.natAbs/g)=a:=by
 obtain⟨k,hk⟩:=h
 by_cases g0:g=0
 ·subst g0;simp at hk⊢;omega
 have e:a.natAbs/g=k:=by rw[hk];exact Nat.mul_div_cancel_left k (iQ g0)
 rw[e]
 unfold zv
 have hc:((g*k:Nat):Int)=(g:Int)*(k:Int):=by push_cast;rfl
 by_cases n:a<0
 ·simp only[n,decide_true,if_true];rw[Int.mul_neg];omega
 ·simp only[n,decide_false];show(g:Int)*(k:Int)=a;omega
theorem ayU{a b c:Int}(h: ¬(a=0∧b=0)): ∃g:Int,0<g∧g*(mkL a b c).a=a∧g*(mkL a b c).b=b∧g*(mkL a b c).c=c:=by
 have hg:0<Nat.gcd (Nat.gcd a.natAbs b.natAbs) c.natAbs:=nJ _ (iQ fun e=>h ⟨lL.1 (mU e),lL.1 (mV e)⟩)
 refine⟨(Nat.gcd (Nat.gcd a.natAbs b.natAbs) c.natAbs:Nat),by omega,?_,?_,?_⟩
 ·exact aAd a (Nat.dvd_trans (lT _ _) (lT _ _))
 ·exact aAd b (Nat.dvd_trans (lT _ _) (mJ _ _))
 ·exact aAd c (mJ _ _)
theorem avB{v w:ZP}(h:v≠w): ∃g:Rat,0<g∧(alU v.1 v.2 w.1 w.2).value v.q=0∧(alU v.1 v.2 w.1 w.2).value w.q=0∧w.q=acu v.q (alU v.1 v.2 w.1 w.2).dir g:=by
 obtain⟨m,n⟩:=v
 obtain⟨p,q⟩:=w
 have hne: ¬(aoy n q=0∧an4 m p=0):=fun e=>h (by unfold aoy an4 at e;rw[Prod.mk.injEq];omega)
 obtain⟨g,g0,ga,gb,gc⟩:=ayU (c:=auw m n p q) hne
 dsimp only
 unfold alU
 generalize mkL (aoy n q) (an4 m p) (auw m n p q)=l at*
 have g0':(0:Rat)<(g:Rat):=by exact_mod_cast g0
 have ra:(g:Rat)*(l.a:Rat)= -((q:Rat)-(n:Rat)):=by rw[←cV,ga];unfold aoy;push_cast;grind
 have rb:(g:Rat)*(l.b:Rat)=(p:Rat)-(m:Rat):=by rw[←cV,gb];unfold an4;push_cast;grind
 have rc:(g:Rat)*(l.c:Rat)= -(-((q:Rat)-(n:Rat))*(m:Rat)+((p:Rat)-(m:Rat))*(n:Rat)):=by rw[←cV,gc];unfold auw aoy an4;push_cast;grind
 have z: ∀x:Rat,(g:Rat)*x=0→x=0:=fun x hx=>by
  rcases nN.1 hx with e|e
  ·rw[e] at g0';exact absurd g0' (by decide)
  ·exact e
 refine⟨g,g0',z _ ?_,z _ ?_,?_⟩
 ·rw[acK];unfold ZP.q iP;dsimp only;grind
 ·rw[acK];unfold ZP.q iP;dsimp only;grind
 ·unfold ZP.q iP acu LnQ.dir;simp only[PtQ.mk.injEq];constructor<;>grind
theorem aAr{v w:ZP}(h:v≠w)(ho:(aeS v w).l.ok):(aeS v w).l.at (aeS v w).v.lo=v.q∧(aeS v w).l.at (aeS v w).v.hi=w.q∧(aeS v w).v.lo<(aeS v w).v.hi:=by
 obtain⟨g,g0,h1,h2,h3⟩:=avB h
 unfold aeS at ho⊢
 dsimp only at ho⊢
 generalize alU v.1 v.2 w.1 w.2=l at*
 have e1:=apN ho.ne h1
 have e2:=apN ho.ne h2
 refine⟨e1,e2,?_⟩
 have:abp l w.q=abp l v.q+g:=by
  have e3:=anJ l (abp l v.q) g
  rw[e1,←h3] at e3
  rw[←e3,apF ho.ne]
 rw[this];grind
theorem akq{r:List ZP}{k:Nat}: ∀{n:Nat},k<n→aeS (r.getD k (0,0)) (acE r k)∈aeV r n
 |n+1,h=>by
  rw[aeV]
  by_cases e:k=n
  ·subst e;exact cW _ (aY.2 rfl)
  ·exact cX _ (akq (by omega))
theorem auT{r:List ZP}(hr:aaU r){c:List LnQ}(hc: ∀e∈acC r,∀t,e.v.ins t→ ¬InL c (e.l.at t)){q p:PtQ}(hq:InL c q)(hp:InL c p):akl r q p:=fun k hk s t s0 s1 t0 t1 he=>by
 have hm:aeS (r.getD k (0,0)) (acE r k)∈acC r:=akq hk
 have ho:=((ahW hr).2 _ hm).ok
 obtain⟨e1,e2,e3⟩:=aAr (hr.ne k hk) ho
 have hno:=hc _ hm
 have hx:=hq.seg hp t0 t1
 rw[←he,←e1,←e2,aBR] at hx
 have hv: ∀u,(aeS (r.getD k (0,0)) (acE r k)).v.lo<u→u<(aeS (r.getD k (0,0)) (acE r k)).v.hi→ ¬InL c ((aeS (r.getD k (0,0)) (acE r k)).l.at u):=fun u h1 h2=>hno u ⟨.inr h1, .inr h2⟩
 generalize aeS (r.getD k (0,0)) (acE r k)=e at*
 have hb:=aD8 s0 s1 (fR) (dR e3) (dR e3) (fR)
 generalize e.v.lo+s*(e.v.hi-e.v.lo)=u at*
 obtain⟨d,d0,hd⟩:=hx.open e.l.dir
 obtain⟨d',d0',hd'⟩:=hx.open (ajG e.l.dir)
 by_cases h1:e.v.lo<u
 ·by_cases h2:u<e.v.hi
  ·exact hv u h1 h2 hx
  ·have eu:u=e.v.hi:=by grind
   obtain⟨z,z0,z1,z2⟩: ∃z:Rat,0<z∧z≤d'∧z<e.v.hi-e.v.lo:=by
    by_cases k:d'<(e.v.hi-e.v.lo)/2
    ·exact⟨d',d0',fR,by grind⟩
    ·exact⟨(e.v.hi-e.v.lo)/2,by grind,by grind,by grind⟩
   refine hv (u+ -z) (by grind) (by grind) ?_
   rw[anJ]
   have:=hd' z (dR z0) z1
   have e5:acu (e.l.at u) (ajG e.l.dir) z=acu (e.l.at u) e.l.dir (-z):=by unfold acu ajG;simp only[PtQ.mk.injEq];constructor<;>grind
   rw[e5] at this;exact this
 ·have eu:u=e.v.lo:=by grind
  obtain⟨z,z0,z1,z2⟩: ∃z:Rat,0<z∧z≤d∧z<e.v.hi-e.v.lo:=by
   by_cases k:d<(e.v.hi-e.v.lo)/2
   ·exact⟨d,d0,fR,by grind⟩
   ·exact⟨(e.v.hi-e.v.lo)/2,by grind,by grind,by grind⟩
  refine hv (u+z) (by grind) (by grind) ?_
  rw[anJ]
  exact hd z (dR z0) z1
theorem avU{rs:List (List ZP)}{fill:Int}(hr: ∀r∈rs,aaU r){c:List LnQ}(hc: ∀e∈abT rs,∀t,e.v.ins t→ ¬InL c (e.l.at t)){q p:PtQ}(hq:InL c q)(hp:InL c p):inR rs fill q=inR rs fill p:=by
 have key: ∀(rs:List (List ZP)),(∀r∈rs,aaU r)→(∀e∈abT rs,∀t,e.v.ins t→ ¬InL c (e.l.at t))→ ∀n:Int,rs.foldl (fun n r=>n+anx r q) n=rs.foldl (fun n r=>n+anx r p) n:=by
  intro rs
  induction rs with
  |nil=>intro _ _ n;rfl
  |cons r t ih=>
   intro hr hc n
   rw[kK,kK,←asW (auT (hr r aZ) (fun e he=>hc e (fN.2 ⟨r,aZ,he⟩)) hq hp)]
   exact ih (fun r h=>hr r (aK _ h)) (fun e he=>hc e (by obtain⟨r,h1,h2⟩:=fN.1 he;exact fN.2 ⟨r,aK _ h1,h2⟩)) _
 unfold inR
 rw[key rs hr hc]
/-! the spans that the reference combines -/
theorem amJ{cuts:List Rat}(h:cuts.Pairwise (· < ·)){i j:Nat}(hij:i<j)(hj:j<cuts.length):cuts.getD i 0<cuts.getD j 0:=by
 rw[aX,aX,aQ hj,aQ (by omega)]
 exact oM.1 h i j (by omega) hj hij
theorem aly{cuts:List Rat}{marks:List Bool}(h:cuts.Pairwise (· < ·)): ∀{k:Nat},∀v∈acg cuts marks (k+1),k<cuts.length→(v.nh=false∧v.hi≤cuts.getD k 0)∧(v.nl=true∨v.lo<cuts.getD k 0)
 |k,v,hv,hk=>by
  have hg:((adG cuts k).nh=false∧(adG cuts k).hi≤cuts.getD k 0)∧((adG cuts k).nl=true∨(adG cuts k).lo<cuts.getD k 0):=by
   unfold adG
   dsimp only
   refine⟨⟨by simp;omega,by rw[if_pos hk];exact fR⟩,?_⟩
   by_cases z:k=0
   ·left;simp[z]
   ·right;rw[if_neg z];exact amJ h (by omega) hk
  have hold: ∀v∈acg cuts marks k,(v.nh=false∧v.hi≤cuts.getD k 0)∧(v.nl=true∨v.lo<cuts.getD k 0):=fun v hv=>by
   cases k with
   |zero=>cases hv
   |succ k=>
    have ih:=aly h v hv (by omega)
    have:=amJ h (Nat.lt_succ_self k) hk
    exact⟨⟨ih.1.1,by have:=ih.1.2;grind⟩,ih.2.imp id fun z=>by grind⟩
  rw[acg] at hv
  split at hv
  ·split at hv
   ·split at hv
    ·rename_i w hw
     rcases bS.1 hv with q|q
     ·exact hold v ((qT _).subset q)
     ·rw[aY] at q;subst q
      exact⟨hg.1,(hold w (mK hw)).2⟩
    ·rcases bS.1 hv with q|q
     ·exact hold v q
     ·rw[aY] at q;subst q;exact hg
   ·rcases bS.1 hv with q|q
    ·exact hold v q
    ·rw[aY] at q;subst q;exact hg
  ·exact hold v hv
theorem amm{cuts:List Rat}{marks:List Bool}(h:cuts.Pairwise (· < ·)){x:Rat}{i:Nat}(hm:marks.getD i false=true)(hx:(adG cuts i).ins x): ∀{k:Nat},k≤cuts.length+1→i<k→ ∃v∈acg cuts marks k,v.ins x
 |k+1,hk,hi=>by
  by_cases e:i=k
  ·subst e
   rw[acg,if_pos hm]
   split
   ·rename_i h0
    split
    ·rename_i w hw
     refine⟨_,cW _ (aY.2 rfl),?_,hx.2⟩
     obtain⟨j,rfl⟩: ∃j,i=j+1:=⟨i-1,by omega⟩
     have:=(aly h w (mK hw) (by omega)).2
     have hl:=hx.1
     unfold adG at hl
     dsimp only at hl
     rw[if_neg (by omega),show j+1-1=j by omega] at hl
     have hl':cuts.getD j 0<x:=hl.resolve_left (by simp)
     exact this.imp id fun z=>by show w.lo<x;grind
    ·exact⟨_,cW _ (aY.2 rfl),hx⟩
   ·exact⟨_,cW _ (aY.2 rfl),hx⟩
  ·obtain⟨v,hv,hvx⟩:=amm h hm hx (k:=k) (by omega) (by omega)
   rw[acg]
   split
   ·split
    ·split
     ·rename_i w hw
      by_cases q:v=w
      ·subst q
       refine⟨_,cW _ (aY.2 rfl),hvx.1,?_⟩
       show(adG cuts k).nh=true∨x<(adG cuts k).hi
       obtain⟨j,rfl⟩: ∃j,k=j+1:=⟨k-1,by omega⟩
       obtain⟨⟨b1,b2⟩,_⟩:=aly h v hv (by omega)
       have hh:=hvx.2.resolve_left (by rw[b1];decide)
       unfold adG
       dsimp only
       by_cases z:j+1<cuts.length
       ·right;rw[if_pos z];have:=amJ h (Nat.lt_succ_self j) z;grind
       ·left;simp;omega
      ·refine⟨v,cX _ ?_,hvx⟩
       obtain⟨l,hl⟩:=List.getLast?_eq_some_iff.1 hw
       rw[hl] at hv⊢
       rw[List.dropLast_concat]
       rcases bS.1 hv with z|z
       ·exact z
       ·rw[aY] at z;exact absurd z q
     ·exact⟨v,cX _ hv,hvx⟩
    ·exact⟨v,cX _ hv,hvx⟩
   ·exact⟨v,hv,hvx⟩
theorem aoK: ∀{l:List Rat} {i:Nat},i+1<l.length→(ady l).getD i 0=(l.getD i 0+l.getD (i+1) 0)/2
 |[],_,h=>by simp at h
 |[_],_,h=>by simp at h
 |a::b::t,0,_=>by simp[ady]
 |a::b::t,i+1,h=>by
  have:=aoK (l:=b::t) (i:=i) (by simp at h⊢;omega)
  rw[ady,kX,this]
  simp only[kX]
theorem ah4: ∀(l:List Rat) (a:Rat),(ady (a::l)).length=l.length
 |[],_=>rfl
 |b::t,a=>by rw[ady,bU,ah4 t b,bU]
theorem auA{cuts:List Rat}(h:cuts.Pairwise (· < ·)){i j:Nat}(hi:i≤cuts.length)(hj:j<cuts.length):(cuts.getD j 0<(abW cuts).getD i 0↔j<i)∧cuts.getD j 0≠(abW cuts).getD i 0:=by
 have mono: ∀{a b:Nat},a≤b→b<cuts.length→cuts.getD a 0≤cuts.getD b 0:=fun{a b} hab hb=>by
  by_cases e:a=b
  ·subst e;exact fR
  ·exact dR (amJ h (by omega) hb)
 cases cuts with
 |nil=>simp at hj
 |cons a t=>
  have hl:(a::t).length=t.length+1:=rfl
  rw[abW]
  cases i with
  |zero=>
   rw[rY]
   have:=mono (aR j) hj
   rw[rY] at this
   constructor
   ·constructor
    ·intro q;exfalso;grind
    ·intro q;omega
   ·intro q;grind
  |succ i=>
   rw[kX]
   by_cases e:i<t.length
   ·have e1:(ady (a::t)++[(a::t).getLast (by simp)+1]).getD i 0=((a::t).getD i 0+(a::t).getD (i+1) 0)/2:=by
     rw[←aoK (by omega),aX,aX,gL (by rw[ah4];exact e)]
    rw[e1]
    have h1:=amJ h (Nat.lt_succ_self i) (by omega)
    by_cases q:j≤i
    ·have:=mono q (by omega)
     constructor
     ·exact⟨fun _=>by omega,fun _=>by grind⟩
     ·grind
    ·have:=mono (show i+1≤j by omega) hj
     constructor
     ·exact⟨fun _=>by exfalso;grind,fun _=>by omega⟩
     ·grind
   ·have ei:i=t.length:=by omega
    have e1:(ady (a::t)++[(a::t).getLast (by simp)+1]).getD i 0=(a::t).getLast (by simp)+1:=by
     rw[aX,iS (by rw[ah4];omega),ah4,ei];simp
    rw[e1]
    have:=asa h (by simp) ((a::t).getD j 0) (by rw[aX,aQ hj];exact bM _)
    constructor
    ·exact⟨fun _=>by omega,fun _=>by grind⟩
    ·grind
theorem amb(x:Rat): ∀{cuts:List Rat},cuts.Pairwise (· < ·)→ ∃i,i≤cuts.length∧ ∀j,j<cuts.length→(cuts.getD j 0<x↔j<i)
 |[],_=>⟨0,aL _,fun j hj=>by simp at hj⟩
 |a::t,h=>by
  rw[bN] at h
  by_cases q:a<x
  ·obtain⟨i,h1,h2⟩:=amb x h.2
   refine⟨i+1,by simp;exact h1,fun j hj=>?_⟩
   cases j with
   |zero=>simp[q]
   |succ j=>rw[kX,h2 j (by simpa using hj)];omega
  ·refine⟨0,aR _,fun j hj=>⟨fun k=>?_,fun k=>by omega⟩⟩
   exfalso
   cases j with
   |zero=>simp at k;grind
   |succ j=>
    rw[kX] at k
    have hj':j<t.length:=by simpa using hj
    have:=h.1 (t.getD j 0) (by rw[aX,aQ hj'];exact bM _)
    grind
theorem apQ{out:List Rat}{s:IvQ}{y:Rat}:y∈anf out s↔y∈out∨(s.nl=false∧y=s.lo)∨(s.nh=false∧y=s.hi):=by
 unfold anf
 cases e1:s.nl<;>cases e2:s.nh<;>simp[acD]<;>grind
theorem arw{v:IvQ}{x:Rat}:ace [v] x=true↔v.ins x:=by
 unfold ace auv auv IvQ.ins
 have h1:=aiX x v.lo
 have h2:=aeX x v.hi
 rw[decide_eq_true_eq]
 cases e1:v.nl<;>cases e2:v.nh<;>simp only[if_true,iT,if_false,false_or,true_or,h1,h2,and_true,true_and,show(0:Int)<1 from by decide,show(-1:Int)<0 from by decide]<;>grind
theorem asR{cuts:List Rat}{v:IvQ}(hl:v.nl=true∨v.lo∈cuts)(hh:v.nh=true∨v.hi∈cuts){x g:Rat}(ho: ∀u∈cuts,(u<x↔u<g)∧u≠x∧u≠g)(h:v.ins x):v.ins g:=by
 refine⟨?_,?_⟩
 ·rcases hl with e|e
  ·exact .inl e
  ·rcases h.1 with k|k
   ·exact .inl k
   ·exact .inr ((ho _ e).1.1 k)
 ·rcases hh with e|e
  ·exact .inl e
  ·rcases h.2 with k|k
   ·exact .inl k
   ·obtain⟨a,b,c⟩:=ho _ e
    right
    by_cases q:v.hi<g
    ·have:=a.2 q;grind
    ·grind
theorem avK{v w:IvQ}{t:Rat}(hv:v.ins t)(hw:w.ins t): ∃z∈ahc 2 [v] [w],z.ins t:=by
 have hmem: ∀y,y∈acZ ([v]++[w])↔((v.nl=false∧y=v.lo)∨(v.nh=false∧y=v.hi))∨(w.nl=false∧y=w.lo)∨(w.nh=false∧y=w.hi):=fun y=>by
  show y∈anf (anf [] v) w↔_
  rw[apQ,apQ]
  simp
 have hasc:=(agW ([v]++[w])).1
 have h0: ∀u∈acZ ([v]++[w]),u≠t:=fun u hu e=>by
  subst e
  rcases(hmem u).1 hu with(⟨a,b⟩|⟨a,b⟩)|⟨a,b⟩|⟨a,b⟩
  ·have:=hv.1.resolve_left (by rw[a];decide);grind
  ·have:=hv.2.resolve_left (by rw[a];decide);grind
  ·have:=hw.1.resolve_left (by rw[a];decide);grind
  ·have:=hw.2.resolve_left (by rw[a];decide);grind
 have l1:v.nl=true∨v.lo∈acZ ([v]++[w]):=by
  cases e:v.nl with
  |true=>exact .inl rfl
  |false=>exact .inr ((hmem _).2 (.inl (.inl ⟨e,rfl⟩)))
 have l2:v.nh=true∨v.hi∈acZ ([v]++[w]):=by
  cases e:v.nh with
  |true=>exact .inl rfl
  |false=>exact .inr ((hmem _).2 (.inl (.inr ⟨e,rfl⟩)))
 have l3:w.nl=true∨w.lo∈acZ ([v]++[w]):=by
  cases e:w.nl with
  |true=>exact .inl rfl
  |false=>exact .inr ((hmem _).2 (.inr (.inl ⟨e,rfl⟩)))
 have l4:w.nh=true∨w.hi∈acZ ([v]++[w]):=by
  cases e:w.nh with
  |true=>exact .inl rfl
  |false=>exact .inr ((hmem _).2 (.inr (.inr ⟨e,rfl⟩)))
 unfold ahc amo
 generalize acZ ([v]++[w])=cuts at*
 obtain⟨i,hi,ho⟩:=amb t hasc
 have hord: ∀u∈cuts,(u<t↔u<(abW cuts).getD i 0)∧u≠t∧u≠(abW cuts).getD i 0:=fun u hu=>by
  obtain⟨j,hj,e⟩:=rZ.1 hu
  have e':cuts.getD j 0=u:=by rw[aX,aQ hj];exact e
  obtain⟨g1,g2⟩:=auA hasc hi hj
  have:=ho j hj
  rw[e'] at g1 g2 this
  exact⟨this.trans g1.symm,h0 u hu,g2⟩
 have hlen:(abW cuts).length=cuts.length+1:=ae3
 refine amm hasc (i:=i) ?_ ?_ (by rw[aJ,hlen];exact aL _) (by rw[aJ,hlen];omega)
 ·rw[aX,cN,aQ (by omega)]
  show agp 2 (ace [v] _) (ace [w] _)=true
  have e:(abW cuts)[i]'(by omega)=(abW cuts).getD i 0:=by rw[aX,aQ (by omega)];rfl
  rw[e,arw.2 (asR l1 l2 hord hv),arw.2 (asR l3 l4 hord hw)];rfl
 ·unfold adG IvQ.ins
  dsimp only
  refine⟨?_,?_⟩
  ·by_cases z:i=0
   ·left;simp[z]
   ·right;rw[if_neg z];exact(ho (i-1) (by omega)).2 (by omega)
  ·by_cases z:i=cuts.length
   ·left;simp[z]
   ·right
    rw[if_pos (by omega)]
    have a:=ho i (by omega)
    have b:=h0 (cuts.getD i 0) (by rw[aX,aQ (by omega)];exact bM _)
    have c: ¬cuts.getD i 0<t:=fun k=>by have:=a.1 k;omega
    grind
/-! splitting -/
theorem anw{l m:LnQ}(h:crossI l m=0):l.cutK m=0:=by
 have e:l.cutK m= -(crossI l m:Rat):=by unfold LnQ.cutK LnQ.nor LnQ.dir PtQ.dot crossI;push_cast;grind
 rw[e,h];rfl
theorem auP{k:Rat}{side:Int}(hs:side=1∨side= -1)(h:0<(side:Rat)*k):k.num.sign=side:=by
 rcases hs with rfl|rfl
 ·exact(ahs k).2 (by grind)
 ·have:k.num.sign<0:=(agU k).2 (by grind)
  have:=rU k.num
  omega
theorem at2{f:FrQ}{m:LnQ}{side:Int}(hs:side=1∨side= -1)(hl:f.l.Ne){t:Rat}(ht:f.v.ins t)(hm:0<(side:Rat)*m.value (f.l.at t)): ∃g∈aaV f m side,g.l=f.l∧g.v.ins t:=by
 have hv:=ab7 f.l m t
 have ho: ¬onB f.l m=true:=fun e=>by
  unfold onB at e
  rw[decide_eq_true_eq,abN] at e
  rw[anw e.1,show f.l.cutC m=m.value f.l.base from rfl,e.2] at hv
  rw[hv] at hm
  grind
 unfold aaV
 rw[if_neg ho]
 have hh: ∃w,adt f.l m side=[w]∧w.ins t:=by
  unfold adt
  by_cases hc:crossI f.l m=0
  ·rw[if_pos hc]
   rw[anw hc,show f.l.cutC m=m.value f.l.base from rfl] at hv
   rw[if_pos (auP hs (by rw[hv] at hm;grind))]
   exact⟨_,rfl,ayt t⟩
  ·rw[if_neg hc]
   have hp:=aeo hl hc
   have hK:f.l.cutK m≠0:=fun e=>by
    have e2:f.l.cutK m= -(crossI f.l m:Rat):=by unfold LnQ.cutK LnQ.nor LnQ.dir PtQ.dot crossI;push_cast;grind
    rw[e2] at e
    have:(crossI f.l m:Rat)=0:=by grind
    exact hc (cR.1 this)
   generalize hx:abp f.l (abH f.l m)=x at*
   have hv2: ∀u,m.value (f.l.at u)=f.l.cutK m*(u-x):=fun u=>by rw[ab7,hp];grind
   rw[hv2] at hm
   have e1:m.value (f.l.at (x+1))=f.l.cutK m:=by rw[hv2];grind
   rw[e1]
   generalize f.l.cutK m=K at*
   by_cases q:K.num.sign=side
   ·rw[if_pos q]
    refine⟨_,rfl, .inr ?_, .inl rfl⟩
    show x<t
    rcases hs with rfl|rfl
    ·have:=(ahs K).1 q
     have:=(ag0 this).1 (show 0<K*(t-x) by grind)
     grind
    ·have:=(agU K).1 (by omega)
     have:=(alb this).1 (show K*(t-x)<0 by grind)
     grind
   ·rw[if_neg q]
    refine⟨_,rfl, .inl rfl, .inr ?_⟩
    show t<x
    have h3:=acO K
    rcases hs with rfl|rfl
    ·have kn:K<0:=by
      rcases h3 with h|h|h
      ·exact absurd h hK
      ·exact absurd ((ahs K).2 h) q
      ·exact h
     have:=(alb kn (b:=x-t)).1 (by grind)
     grind
    ·have kp:0<K:=by
      rcases h3 with h|h|h
      ·exact absurd h hK
      ·exact h
      ·exact absurd (by have:=(agU K).2 h;have:=rU K.num;omega) q
     have:=(ag0 kp (b:=x-t)).1 (by grind)
     grind
 obtain⟨w,e,hw⟩:=hh
 rw[e]
 obtain⟨z,hz,hzt⟩:=avK ht hw
 exact⟨⟨f.l,z⟩,gS hz,rfl,hzt⟩
def Cov(E:List FrQ)(c:List LnQ)(l:List FrQ):Prop:= ∀e∈E,∀t,e.v.ins t→InL c (e.l.at t)→ ∃f∈l,f.l=e.l∧f.v.ins t
theorem Cov.split{E l:List FrQ}{c:List LnQ}(h:Cov E c l)(hE: ∀e∈E,e.l.Ne){m:LnQ}{side:Int}(hs:side=1∨side= -1){m':LnQ}(hm': ∀p,m'.value p=(side:Rat)*m.value p):Cov E (c++[m']) (l.flatMap fun g=>aaV g m side):=fun e he t ht hin=>by
 obtain⟨h1,h2⟩:=abz.1 hin
 obtain⟨f,hf,ef,hft⟩:=h e he t ht h1
 rw[hm'] at h2
 obtain⟨g,hg,eg,hgt⟩:=at2 (f:=f) hs (by rw[ef];exact hE e he) hft (by rw[ef];exact h2)
 exact⟨g,fN.2 ⟨f,hf,hg⟩,by rw[eg,ef],hgt⟩
theorem aoC{acc:PtQ→Bool}{E:List FrQ}(hE: ∀e∈E,e.l.Ne)(ha: ∀(c:List LnQ) (q p:PtQ),(∀e∈E,∀t,e.v.ins t→ ¬InL c (e.l.at t))→InL c q→InL c p→acc q=acc p): ∀{n:Nat} {l:List FrQ} {c:List LnQ} {p:PtQ},(∀f∈l,FOk f)→Few n l→(∀m∈c,m.ok)→Cov E c l→InL c p→Off (ajE acc n l c).lns p→(ajE acc n l c).val p=acc p
 |n,[],c,p,_,_,hc,hcov,hp,_=>by
  have e:ajE acc n [] c= .leaf (acc (ab0 c c)):=by cases n<;>rfl
  rw[e,Tr.val]
  exact ha c _ _ (fun e he t ht hin=>by obtain⟨f,hf,_⟩:=hcov e he t ht hin;cases hf) (asG hc ((aei hc).2 ⟨p,hp⟩)) hp
 |0,f::t,_,_,_,hf,_,_,_,_=>by
  obtain⟨K,hK,hs⟩:=hf
  obtain⟨m,hm,_⟩:=hs f aZ
  have:K=[]:=bY (by omega)
  rw[this] at hm;cases hm
 |n+1,f::t,c,p,hok,hf,hc,hcov,hp,hoff=>by
  have fo:=hok f aZ
  have hok': ∀side,∀g∈(f::t).flatMap fun g=>aaV g f.l side,FOk g:=fun side g hg=>by
   obtain⟨q,hq,hg⟩:=fN.1 hg
   exact(ahX (hok q hq) fo.lb g hg).1
  rw[ajE] at hoff⊢
  by_cases q:0<f.l.value p
  ·rw[Tr.val_pos q]
   exact aoC hE ha (hok' 1) (hf.split hok) (abO hc fo.ok) (hcov.split hE (.inl rfl) fun p=>by grind) (abz.2 ⟨hp,q⟩) hoff.x
  ·rw[Tr.val_neg q]
   have:=hoff.l
   exact aoC hE ha (hok' (-1)) (hf.split hok) (abO hc fo.ok.rev) (hcov.split hE (.inr rfl) fun p=>by rw[aaW];grind) (abz.2 ⟨hp,by rw[aaW];grind⟩) hoff.y
theorem arG{rs:List (List ZP)}{fill:Int}(hr: ∀r∈rs,aaU r){p:PtQ}(ho:Off (az0 rs fill).lns p):(adb rs fill).val p=inR rs fill p:=by
 obtain⟨h1,h2⟩:=acw hr
 have hok:(az0 rs fill).all LnQ.ok:=aez fun f hf=>(h2 f hf).ok
 unfold adb
 rw[Tr.val_restrict _ _ _ hok aba.nil (fun s hs=>by cases hs) ho]
 unfold az0 at ho⊢
 refine aoC (E:=abT rs) (fun e he=>(h2 e he).ok.ne) (fun c q p hno hq hp=>avU hr hno hq hp) h2 ?_ (fun m hm=>by cases hm) (fun e he t ht _=>⟨e,he,rfl,ht⟩) (fun m hm=>by cases hm) ho
 exact⟨(abT rs).map (·.l),by rw[aJ];exact aL _,fun f hf=>⟨f.l,gS hf, .inl rfl⟩⟩
/-! bounded regions -/
def aFh(t:Tr):Prop:= ∃(L:List LnQ) (R:Rat),(∀l∈L,l.ok)∧ ∀p,Off L p→aDv R p→t.val p=false
theorem auy(fill:Int):auZ fill 0=false:=by
 unfold auZ
 simp
theorem azE{rs:List (List ZP)}{fill:Int}(hr: ∀r∈rs,aaU r){p:PtQ}(hp:aDv 100 p):inR rs fill p=false:=by
 have key: ∀(rs:List (List ZP)),(∀r∈rs,aaU r)→rs.foldl (fun n r=>n+anx r p) (0:Int)=0:=by
  intro rs
  induction rs with
  |nil=>intro _;rfl
  |cons r t ih=>
   intro hr
   have e:anx r p=0:=by
    unfold anx
    rw[akX]
    refine ayA (R:=100) (fun v hv=>?_) hp
    obtain⟨h1,h2⟩:=(hr r aZ).le v hv
    have c: ∀z:Int,z.natAbs≤100→ -(100:Rat)≤(z:Rat)∧(z:Rat)≤100:=fun z hz=>by
     have a:((-100:Int):Rat)≤(z:Rat):=Rat.intCast_le_intCast.2 (by omega)
     have b:(z:Rat)≤((100:Int):Rat):=Rat.intCast_le_intCast.2 (by omega)
     exact⟨a,b⟩
    exact⟨(c _ h1).1,(c _ h1).2,(c _ h2).1,(c _ h2).2⟩
   rw[kK,e]
   exact ih fun r h=>hr r (aK _ h)
 unfold inR
 rw[key rs hr,auy]
theorem azm{rs:List (List ZP)}{fill:Int}(hr: ∀r∈rs,aaU r):(az0 rs fill).all LnQ.ok:=aez fun f hf=>((acw hr).2 f hf).ok
theorem atm{rs:List (List ZP)}{fill:Int}(hr: ∀r∈rs,aaU r):aFh (adb rs fill):=
 ⟨(az0 rs fill).lns,100,axw (azm hr),fun p ho hp=>by rw[arG hr ho,azE hr hp]⟩
theorem ayK{A:Rat}(hA:A≠0)(B:Rat): ∃N:Rat,0≤N∧ ∀n,N≤n→A+n*B≠0:=by
 by_cases hB:B=0
 ·exact⟨0,by decide,fun n _=>by rw[hB];grind⟩
 ·have e:A/B*B=A:=by grind
  generalize A/B=q at*
  refine⟨if 0≤ -q then-q+1 else 0,by split<;>grind,fun n hn h=>?_⟩
  have h2:B*(q+n)=0:=by grind
  rcases nN.1 h2 with k|k
  ·exact hB k
  ·split at hn<;>grind
theorem aAC{L:List LnQ}{p d:PtQ}(h:Off L p): ∃N:Rat,0≤N∧ ∀n,N≤n→Off L (acu p d n):=by
 induction L with
 |nil=>exact⟨0,by decide,fun n _ l hl=>by cases hl⟩
 |cons l L ih=>
  obtain⟨N,n0,hN⟩:=ih (h.sub fun m hm=>aK _ hm)
  obtain⟨M,m0,hM⟩:=ayK (h l aZ) (l.nor.dot d)
  refine⟨N+M,by grind,fun n hn m hm=>?_⟩
  rcases aS.1 hm with rfl|hm
  ·rw[abL];exact hM n (by grind)
  ·exact hN n (by grind) m hm
theorem alf{a:Rat}(ha:0<a)(x R:Rat): ∃N:Rat,0≤N∧ ∀n,N≤n→R<x+n*a:=by
 have e:(R-x)/a*a=R-x:=by grind
 generalize (R-x)/a=q at*
 refine⟨if 0≤q then q+1 else 0,by split<;>grind,fun n hn=>?_⟩
 have h2:=aao (show 0<n-q by split at hn<;>grind) ha
 grind
theorem ayW{p d:PtQ}(hd:d≠⟨0,0⟩)(R:Rat): ∃N:Rat,0≤N∧ ∀n,N≤n→aDv R (acu p d n):=by
 obtain⟨x,y⟩:=d
 rcases acO x with h|h|h
 ·rcases acO y with k|k|k
  ·exact absurd (by rw[h,k]) hd
  ·obtain⟨N,n0,hN⟩:=alf k p.y R
   exact⟨N,n0,fun n hn=> .inr (.inr (.inr (hN n hn)))⟩
  ·obtain⟨N,n0,hN⟩:=alf (a:= -y) (by grind) (-p.y) R
   exact⟨N,n0,fun n hn=> .inr (.inr (.inl (by have:=hN n hn;show p.y+n*y< -R;grind)))⟩
 ·obtain⟨N,n0,hN⟩:=alf h p.x R
  exact⟨N,n0,fun n hn=> .inr (.inl (hN n hn))⟩
 ·obtain⟨N,n0,hN⟩:=alf (a:= -x) (by grind) (-p.x) R
  exact⟨N,n0,fun n hn=> .inl (by have:=hN n hn;show p.x+n*x< -R;grind)⟩
theorem au9{c:aag}(hc:aba c)(h:aeT c=false): ∃d:PtQ,d≠⟨0,0⟩∧ ∀u∈c,0≤u.l.nor.dot d:=by
 unfold aeT at h
 cases c with
 |nil=>exact⟨⟨1,0⟩,by simp,fun u hu=>by cases hu⟩
 |cons s0 c0=>
  have h':((s0::c0).all fun s=>!s.v.nl&&!s.v.nh)=false:=by simpa using h
  rw[List.all_eq_false] at h'
  obtain⟨s,hs,hv⟩:=h'
  have hne:s.l.dir≠⟨0,0⟩:=fun e=>axp (hc.ok s hs) (by rw[e];decide)
  cases nh:s.v.nh with
  |true=>exact⟨s.l.dir,hne,atc hc hs nh⟩
  |false=>
   have nl:s.v.nl=true:=by simpa[nh] using hv
   refine⟨ajG s.l.dir,fun e=>hne ?_,fun u hu=>?_⟩
   ·unfold ajG at e
    generalize s.l.dir=d at*
    obtain⟨x,y⟩:=d
    simp only[PtQ.mk.injEq] at*
    constructor<;>grind
   ·have:=arq hc hs nl u hu
    unfold ajG PtQ.dot at*
    grind
theorem asx{t:Tr}(ht:t.all LnQ.ok)(hb:aFh t):(aaC t).all aeT=true:=by
 rw[eX]
 intro c hc
 obtain⟨hg,hv⟩:=afx ht aba.nil (afo.1 hc)
 cases hq:aeT c with
 |true=>rfl
 |false=>
  exfalso
  obtain⟨L,R,h1,h2⟩:=hb
  obtain⟨d,d0,hd⟩:=au9 hg hq
  obtain⟨p,hp,ho⟩:=aCI hg L h1
  obtain⟨N,n0,hN⟩:=aAC (d:=d) ho
  obtain⟨M,m0,hM⟩:=ayW (p:=p) d0 R
  have hin:InD c (acu p d (N+M)):=fun s hs=>by
   rw[abL]
   have a:=hp s hs
   have b:=aad (show 0≤N+M by grind) (hd s hs)
   grind
  have:=(hv _ hin).2
  rw[h2 _ (hN _ (by grind)) (hM _ (by grind))] at this
  cases this
theorem ank{rs:List (List ZP)}{fill:Int}(h: ∀r∈rs,aaU r)(hn:rs.length≤2):aht 12 (adb rs fill):=by
 obtain⟨h1,h2⟩:=acw h
 exact((att h2 rfl).restrict []).mono (by omega)
def aE7(es:List Int):Nat→Nat→Tr×Nat
 |0,a=>ade es a
 |d+1,a=>
  let k:=aae es 3 a
  if(k.1:Int)=0 then
   let x:=aE7 es d k.2
   let o:=aae es 4 x.2
   let y:=aE7 es d o.2
   (x.1.mergeQ (1+(o.1:Int)) y.1 [],y.2)
  else ade es k.2
def aux:List ZP:=[(0,0),(1,0),(0,1)]
theorem ayl:aaU aux:=⟨by decide,by decide,fun p hp=>by
 unfold aux at hp
 simp only[aS,iY,or_false] at hp
 rcases hp with rfl|rfl|rfl<;>exact⟨by decide,by decide⟩,by decide⟩
theorem agj: ∀r∈[aux],aaU r:=fun r hr=>by rw[aY] at hr;subst hr;exact ayl
theorem avO:(avQ (alg (aaY (adb [aux] 2) []))).map List.length=[3]:=by decide+kernel
theorem avD: ∃a b c:PtQ,[[a,b,c]]=(aaC (adb [aux] 2)).flatMap akU:=by
 have h:=ank (fill:=2) agj (by decide)
 rw[←aku h.gd.ok]
 have e:=avO
 generalize avQ (alg (aaY (adb [aux] 2) []))=l at*
 match l,e with
 |[[a,b,c]],_=>exact⟨a,b,c,rfl⟩
theorem awa:TrX 12 (adb [aux] 2):=(ank agj (by decide)).x (aiy _ _) (by decide)
theorem ayM:(aaC (adb [aux] 2)).all aeT=true:=asx awa.ok (atm agj)
theorem aef{ai al ae au:Addr}(hE:EGU GB ai al ae au):PF GB prog 16 [] (.v (.bool true)):=by
 obtain⟨a,b,c,hts⟩:=avD
 have htb:=auh awa (by decide)
 rw[←hts] at htb
 refine fn func16 J J ntmps16 J J (fun C=>?_)
 refine cl rfl (aoD (by omega) (by omega)) rfl<|cl rfl (aoD (by omega) (by omega)) rfl<|cl rfl (aoD (by omega) (by omega)) rfl<|rf J J<|?_
 refine cl rfl (axE (ps:=[iP 0 0,iP 1 0,iP 0 1]) (fun p hp=>by
  simp only[aS,iY,or_false] at hp
  rcases hp with rfl|rfl|rfl<;>exact⟨BQ.int1200 (by decide),BQ.int1200 (by decide)⟩) (by decide)) rfl<|?_
 refine rf J J<|cl rfl (asv (rs:=[aux]) (fill:=2) agj (by decide)) rfl<|cl rfl (aty (rs:=[aux]) (fill:=2) agj (by decide)) rfl<|?_
 refine cl rfl (aoQ awa) rfl<|cl (fu:=⟨14⟩) rfl (ayO hE awa (by decide) (Tr.red_restrict (aiy _ _)) ayM (ts:=[[a,b,c]]) hts (fun r hr=>⟨(htb.2 r hr).1,by rw[(htb.2 r hr).2];decide⟩) (by simp)) rfl<|?_
 refine eqF 22 (.d (vI 1)) J J ?_
 refine gx (fu:=⟨0⟩) rfl<|knT J J J<|ix (fu:=⟨2⟩) _ rfl (aEB (show [[a,b,c]][0]? =some [a,b,c] from rfl)) rfl<|?_
 refine eqF 29 (.d (vI 3)) J J ?_
 refine gx (fu:=⟨0⟩) rfl<|knT J J J<|?_
 exact rz J J
end Go.Sx
end
