/- Part 18 of a proof. -/
import Derived.Test.YtfccecinjmbfhaaGreatDoorMa17
set_option linter.unusedSimpArgs false
set_option maxHeartbeats 2000000
set_option maxRecDepth 100000
set_option linter.unusedVariables false
section
namespace Go.Sx
open Go Go.Proofs Tryz
variable {GB:Gh}
theorem aqE(l m:LnQ):l.dir.cross m.dir=(crossI l m:Rat):=by
 unfold PtQ.cross LnQ.dir crossI
 rw[jR,cV,cV]
 grind
theorem aDK{l m:LnQ}(h:0<Int.sign (l.dir.cross m.dir).num):crossI l m≠0:=fun e=>by
 rw[ac8,aqE,e] at h;exact absurd h (by decide)
theorem atC{l m:LnQ}(h:crossI l m≠0):l.nor.cross m.nor≠0:=fun e=>by
 have:l.nor.cross m.nor=(crossI l m:Rat):=by
  unfold PtQ.cross LnQ.nor crossI
  rw[jR,cV,cV]
  grind
 rw[this] at e
 exact h (cR.1 e)
theorem aCm{l m:LnQ}(h:crossI l m≠0):abH l m=⟨((l.b:Rat)*(m.c:Rat)-(l.c:Rat)*(m.b:Rat))/l.nor.cross m.nor,((l.c:Rat)*(m.a:Rat)-(l.a:Rat)*(m.c:Rat))/l.nor.cross m.nor⟩:=by
 have e1:(meetX l m:Rat)=(l.b:Rat)*(m.c:Rat)-(l.c:Rat)*(m.b:Rat):=by unfold meetX;rw[jR,cV,cV];grind
 have e2:(meetY l m:Rat)=(l.c:Rat)*(m.a:Rat)-(l.a:Rat)*(m.c:Rat):=by unfold meetY;rw[jR,cV,cV];grind
 have e3:(crossI l m:Rat)=l.nor.cross m.nor:=by unfold PtQ.cross LnQ.nor crossI;rw[jR,cV,cV];grind
 unfold abH
 rw[if_neg h,e1,e2,e3]
theorem agr: ∀{t:Tr} {c:aag} {x:Bool×aag},t.all LB→t.all LnQ.ok→abI c→x∈t.parts c→abI x.2∧x.2.length≤c.length+t.depth
 | .leaf b,c,x,_,_,hc,h=>by
  rw[Tr.parts,aY] at h
  subst h
  exact⟨hc,lW _ _⟩
 | .node l u v,c,x,hb,ho,hc,h=>by
  have hl:=hb.1
  have hd:(Tr.node l u v).depth=1+max u.depth v.depth:=rfl
  rw[Tr.parts] at h
  rcases bS.1 h with h|h
  ·split at h
   ·obtain⟨k1,k2⟩:=agr hb.2.1 ho.2.1 (afZ ho.1 hc) h
    have:=aea c l
    exact⟨k1,by omega⟩
   ·cases h
  ·split at h
   ·obtain⟨k1,k2⟩:=agr hb.2.2 ho.2.2 (afZ ho.1.rev hc) h
    have:=aea c l.rev
    exact⟨k1,by omega⟩
   ·cases h
theorem afe(t:Tr):(aaS t).length≤t.size+1:=by
 unfold aaS
 rw[aJ]
 exact cJ (lL ..) (afc t [])
theorem adz{t:Tr}(hb:t.all LB)(ho:t.all LnQ.ok): ∀c∈aaS t,c.length≤t.depth:=fun c hc=>by
 have:=(agr hb ho abI.nil (afx.1 hc)).2
 simpa using this
theorem ah0{t:Tr}(hb:t.all LB)(ho:t.all LnQ.ok): ∀c∈aaS t,∀s∈c,LB s.l:=fun c hc s hs=>((agr hb ho abI.nil (afx.1 hc)).1 s hs).lb
theorem aC9(l:List PtQ):acH 6 (l.map eZ):=fun d hd=>by
 obtain⟨x,_,rfl⟩:=bW.1 hd
 exact⟨rfl,rfl⟩
def eRz(v:List PtQ):DV:= .sl (v.map eZ)
def eRa(v:List PtQ):DV:= .sl (v.map ePt)
theorem aBZ(l:List (List PtQ)):acH 1 (l.map eRz):=fun d hd=>by
 obtain⟨x,_,rfl⟩:=bW.1 hd
 exact⟨rfl,rfl⟩
theorem aCZ(l:List (List PtQ)):acH 1 (l.map eRa):=fun d hd=>by
 obtain⟨x,_,rfl⟩:=bW.1 hd
 exact⟨rfl,rfl⟩
theorem acb{α:Type}{vs:List α}{f:α→Bool}{k:Nat}{v:α}(h:vs[k]? =some v):(vs.drop k).all f=(f v&&(vs.drop (k+1)).all f):=by
 obtain⟨h1,h2⟩:=bJ.1 h
 rw[aN h1,h2,qM]
theorem aye{l m:LnQ}[hl:LB l][hm:LB m](hz:crossI l m≠0):PF GB prog 163 [eLn l,eLn m] (.tp [eZ (abH l m),vB true]):=by
 haveI:=BPt.nor l
 haveI:=BPt.nor m
 refine fn func163 J J ntmps163 J J (fun C=>?_)
 refine cl rfl (amU (l:=l)) rfl<|cl rfl (amU (l:=m)) rfl<|cl rfl (alc (p:=l.nor) (q:=m.nor) (i:=97) (j:=97)) rfl<|cl (fu:=⟨0⟩) rfl (aiE (q:=l.nor.cross m.nor)) rfl<|?_
 refine eqF 15 (.d (vB false)) rfl (by rw[decide_eq_false (atC hz)]) ?_
 refine kbF 15 rfl ?_
 refine gx rfl<|cl rfl (aeL (p:=(l.b:Rat)) (q:=(m.c:Rat)) (i:=97) (j:=97)) rfl<|cl rfl (aeL (p:=(l.c:Rat)) (q:=(m.b:Rat)) (i:=97) (j:=97)) rfl<|?_
 refine cl rfl (ahI (p:=(l.b:Rat)*(m.c:Rat)) (q:=(l.c:Rat)*(m.b:Rat))) rfl<|cl rfl (amm (p:=(l.b:Rat)*(m.c:Rat)-(l.c:Rat)*(m.b:Rat)) (q:=l.nor.cross m.nor)) rfl<|?_
 refine cl rfl (aeL (p:=(l.c:Rat)) (q:=(m.a:Rat)) (i:=97) (j:=97)) rfl<|cl rfl (aeL (p:=(l.a:Rat)) (q:=(m.c:Rat)) (i:=97) (j:=97)) rfl<|?_
 refine cl rfl (ahI (p:=(l.c:Rat)*(m.a:Rat)) (q:=(l.a:Rat)*(m.c:Rat))) rfl<|cl rfl (amm (p:=(l.c:Rat)*(m.a:Rat)-(l.a:Rat)*(m.c:Rat)) (q:=l.nor.cross m.nor)) rfl<|?_
 exact rz rfl (by rw[aCm hz];rfl)
theorem azM{c:aag}(hb: ∀s∈c,LB s.l)(hn:c.length≤100000):PF GB prog 97 [eC c] (.sl ((afF (c.map (·.l))).map eZ)):=by
 have hml:(c.map eFr).length=c.length:=aJ ..
 obtain⟨L,hL⟩: ∃L,L=c.map (·.l):=⟨_,rfl⟩
 have hLl:L.length=c.length:=by rw[hL,aJ]
 refine fn (fu:=⟨15⟩) func97 J J ntmps97 J J (fun C=>?_)
 refine eqF 10 (.d (vI (c.length:Nat))) rfl (by rw[hml]<;>rfl) ?_
 refine gx rfl<|?_
 refine nr 3 3 145 6 J J J ?_
 refine lp (X:=List PtQ×Nat) (fun⟨acc,k⟩=>[(11, .d (vI (k:Nat))),(3, .rw 3)]) (fun⟨acc,k⟩=>[(3,some (.b 145 6 (acc.map eZ) true))]) (fun⟨acc,k⟩=>acc=(List.range k).flatMap (atA L)∧k≤c.length) (fun⟨acc,k⟩=>c.length-k) ⟨[],0⟩ rfl ⟨rfl,aR _⟩ (fun _=>rfl) (fun⟨acc,k⟩ hk=>?_)
 try dsimp only at hk⊢
 obtain⟨h1,h2⟩:=hk
 have hal:=ahX L k
 rw[←h1] at hal
 have ham:(acc.map eZ).length=acc.length:=aJ ..
 refine br J J J (fun hc12=>?_) (fun hc12=>?_)
 ·
  obtain⟨s,hx⟩: ∃u,c[k]? =some u:=⟨_,aQ (by omega)⟩
  obtain⟨u,hw⟩: ∃w,c[(k+1)%c.length]? =some w:=⟨_,aQ (dX _ (by omega))⟩
  haveI:=hb s (aL hx)
  haveI:=hb u (aL hw)
  have hxl:L[k]? =some s.l:=by rw[hL,dZ,hx];rfl
  have hwl:L[(k+1)%L.length]? =some u.l:=by rw[hLl,hL,dZ,hw];rfl
  refine ix (fu:=⟨13⟩) _ rfl (aal hx) rfl<|?_
  refine eqF 20 (.d (vI (c.length:Nat))) rfl (by rw[hml]<;>rfl) ?_
  refine gx (fu:=⟨1⟩) rfl<|?_
  refine eqF 21 (.d (vI (((k+1)%c.length:Nat):Int))) J J ?_
  refine gx rfl<|ix _ rfl (aal hw) rfl<|cl rfl (ajV (l:=s.l)) rfl<|cl rfl (ajV (l:=u.l)) rfl<|cl rfl (alc (p:=s.l.dir) (q:=u.l.dir) (i:=97) (j:=97)) rfl<|?_
  refine cl rfl (ac6 (q:=s.l.dir.cross u.l.dir)) rfl<|?_
  refine br J J J (fun hc32=>?_) (fun hc32=>?_)
  ·
   refine cl rfl (aye (l:=s.l) (m:=u.l) (aDK hc32)) rfl<|rf J J<|ap ((acc++[abH s.l u.l]).map eZ) rfl (by rw[bX]<;>rfl) (aC9 [abH s.l u.l]) rfl<|?_
   refine rnE 44 3 rfl ?_
   exact at_ ⟨acc++[abH s.l u.l],k+1⟩ (by dsimp only;exact⟨⟨by rw[ae4,ai6 hxl hwl,if_pos hc32,←h1],by omega⟩,(by omega)⟩)
  ·
   exact at_ ⟨acc,k+1⟩ (by dsimp only;exact⟨⟨by rw[ae4,ai6 hxl hwl,if_neg hc32,←h1,nL],by omega⟩,(by omega)⟩)
 ·
  have hS:afF L=acc:=by unfold afF;rw[hLl,h1,show k=c.length by omega]
  refine fzE 3 rfl ?_
  exact rz rfl (by rw[←hL,hS];rfl)
theorem aCj{c:aag}(hn:c.length≤100000):PF GB prog 103 [eC c] (vB (agQ c)):=by
 have hml:(c.map eFr).length=c.length:=aJ ..
 refine fn (fu:=⟨10⟩) func103 J J ntmps103 J J (fun C=>?_)
 refine eqF 6 (.d (vI (c.length:Nat))) rfl (by rw[hml]<;>rfl) ?_
 refine gx rfl<|?_
 refine lp (X:=Nat) (fun k=>[(7, .d (vI (k:Nat)))]) (fun k=>[]) (fun k=>(c.drop k).all (fun s:FrQ=>!s.v.nl&&!s.v.nh)=c.all (fun s:FrQ=>!s.v.nl&&!s.v.nh)∧k≤c.length) (fun k=>c.length-k) 0 rfl ⟨rfl,aR _⟩ (fun _=>rfl) (fun k hk=>?_)
 obtain⟨h1,h2⟩:=hk
 refine br (fu2:=⟨9⟩) J J J (fun hc8=>?_) (fun hc8=>?_)
 ·
  obtain⟨s,hx⟩: ∃u,c[k]? =some u:=⟨_,aQ (by omega)⟩
  refine ix _ rfl (aal hx) rfl<|?_
  refine csb 14 J J J (fun hg14=>?_) (fun hg14=>?_)
  ·
   have hF:agQ c=false:=by unfold agQ;rw[←h1,acb hx,hg14];simp
   exact rz rfl (by rw[hF];rfl)
  ·
   refine bb J J J (fun hc18=>?_) (fun hc18=>?_)
   ·
    have hF:agQ c=false:=by unfold agQ;rw[←h1,acb hx,hc18];simp
    exact rz rfl (by rw[hF];rfl)
   ·
    exact at_ (k+1) ⟨⟨by rw[←h1,acb hx,hg14,hc18];rfl,by omega⟩,(by omega)⟩
 ·
  have hT:agQ c=decide ((0:Int)<(c.length:Nat)):=by unfold agQ;rw[←h1,dW (by omega)];cases c with|nil=>rfl|cons a b=>simp
  refine eqF 21 (.d (vI (c.length:Nat))) rfl (by rw[hml]<;>rfl) ?_
  refine gx rfl<|?_
  exact rz rfl (by rw[hT];rfl)
theorem axl{t:Tr}{cs:List aag}(hc:cs=aaS t)(hb:t.all LB)(ho:t.all LnQ.ok)(hd:t.depth≤1000)(hs:t.size≤900000):PF GB prog 127 [eU t] (vB (cs.all agQ)):=by
 have hml:(cs.map eC).length=cs.length:=aJ ..
 have hcl:=afe t
 rw[←hc] at hcl
 have hcn:=adz hb ho
 rw[←hc] at hcn
 refine fn func127 J J ntmps127 J J (fun C=>?_)
 refine cl (fu:=⟨0⟩) rfl (arr hb ho (by omega) hs) rfl<|?_
 refine eqF 6 (.d (.sl (cs.map eC))) rfl (by rw[hc]) ?_
 refine gx (fu:=⟨1⟩) rfl<|?_
 refine eqF 7 (.d (vI (cs.length:Nat))) rfl (by rw[hml]<;>rfl) ?_
 refine gx rfl<|?_
 refine lp (X:=Nat) (fun k=>[(8, .d (vI (k:Nat)))]) (fun k=>[]) (fun k=>(cs.drop k).all agQ=cs.all agQ∧k≤cs.length) (fun k=>cs.length-k) 0 rfl ⟨rfl,aR _⟩ (fun _=>rfl) (fun k hk=>?_)
 obtain⟨h1,h2⟩:=hk
 refine br J J J (fun hc9=>?_) (fun hc9=>?_)
 ·
  obtain⟨c,hx⟩: ∃u,cs[k]? =some u:=⟨_,aQ (by omega)⟩
  refine ix _ rfl (aal hx) rfl<|cl rfl (aCj (c:=c) (by have:=hcn c (aL hx);omega)) rfl<|?_
  refine bb J J J (fun hc14=>?_) (fun hc14=>?_)
  ·
   have hF:cs.all agQ=false:=by rw[←h1,acb hx,show agQ c=false by simpa using hc14];rfl
   exact rz rfl (by rw[hF];rfl)
  ·
   exact at_ (k+1) ⟨⟨by rw[←h1,acb hx,show agQ c=true by simpa using hc14];rfl,by omega⟩,(by omega)⟩
 ·
  have hT:cs.all agQ=true:=by rw[←h1,dW (by omega)];rfl
  exact rz rfl (by rw[hT];rfl)
theorem aw6(l:List PtQ):acH 6 (l.map eP):=fun d hd=>by
 obtain⟨x,_,rfl⟩:=bW.1 hd
 exact⟨rfl,rfl⟩
def eRp(v:List PtQ):DV:= .sl (v.map eP)
theorem aA7(l:List (List PtQ)):acH 1 (l.map eRp):=fun d hd=>by
 obtain⟨x,_,rfl⟩:=bW.1 hd
 exact⟨rfl,rfl⟩
theorem alg: ∀L:List LnQ,(L.flatMap fun l=>[l.dir,ajC l.dir]).length=2*L.length
 |[]=>rfl
 |l::L=>by
  have:=alg L
  rw[qZ,aW,this]
  simp only[bU,fY];omega
theorem aAv{L:List LnQ}(hb: ∀l∈L,LB l): ∀d∈L.flatMap (fun l=>[l.dir,ajC l.dir]),BPt d 97:=fun d hd=>by
 obtain⟨l,h1,h2⟩:=fN.1 hd
 haveI:=hb l h1
 simp only[aS,iU,or_false] at h2
 rcases h2 with rfl|rfl
 ·infer_instance
 ·have:BPt l.dir 97:=inferInstance
  exact⟨inferInstanceAs (BQ (-l.dir.x) 97),inferInstanceAs (BQ (-l.dir.y) 97)⟩
theorem ayL{L:List LnQ}(hb: ∀l∈L,LB l)(hn:L.length≤100000):PF GB prog 70 [.sl (L.map eL)] (.sl ((afF L).map eP)):=by
 have hml:(L.map eL).length=L.length:=aJ ..
 refine fn (fu:=⟨15⟩) func70 J J ntmps70 J J (fun C=>?_)
 refine eqF 10 (.d (vI (L.length:Nat))) rfl (by rw[hml]<;>rfl) ?_
 refine gx rfl<|?_
 refine nr 3 3 54 6 J J J ?_
 refine lp (X:=List PtQ×Nat) (fun⟨acc,k⟩=>[(11, .d (vI (k:Nat))),(3, .rw 3)]) (fun⟨acc,k⟩=>[(3,some (.b 54 6 (acc.map eP) true))]) (fun⟨acc,k⟩=>acc=(List.range k).flatMap (atA L)∧k≤L.length) (fun⟨acc,k⟩=>L.length-k) ⟨[],0⟩ rfl ⟨rfl,aR _⟩ (fun _=>rfl) (fun⟨acc,k⟩ hk=>?_)
 try dsimp only at hk⊢
 obtain⟨h1,h2⟩:=hk
 have hal:=ahX L k
 rw[←h1] at hal
 have ham:(acc.map eP).length=acc.length:=aJ ..
 refine br J J J (fun hc12=>?_) (fun hc12=>?_)
 ·
  obtain⟨l,hx⟩: ∃u,L[k]? =some u:=⟨_,aQ (by omega)⟩
  obtain⟨m,hw⟩: ∃w,L[(k+1)%L.length]? =some w:=⟨_,aQ (dX _ (by omega))⟩
  haveI:=hb l (aL hx)
  haveI:=hb m (aL hw)
  refine ix (fu:=⟨13⟩) _ rfl (aal hx) rfl<|?_
  refine eqF 20 (.d (vI (L.length:Nat))) rfl (by rw[hml]<;>rfl) ?_
  refine gx (fu:=⟨1⟩) rfl<|?_
  refine eqF 21 (.d (vI (((k+1)%L.length:Nat):Int))) J J ?_
  refine gx rfl<|ix _ rfl (aal hw) rfl<|cl rfl (ahl (l:=l)) rfl<|cl rfl (ahl (l:=m)) rfl<|cl rfl (ahu (p:=l.dir) (q:=m.dir) (i:=97) (j:=97)) rfl<|?_
  refine cl rfl (q_S (q:=l.dir.cross m.dir)) rfl<|?_
  refine br J J J (fun hc30=>?_) (fun hc30=>?_)
  ·
   refine cl rfl (atd (l:=l) (m:=m)) rfl<|rf J J<|ap ((acc++[abH l m]).map eP) rfl (by rw[bX]<;>rfl) (aw6 [abH l m]) rfl<|?_
   refine rnE 40 3 rfl ?_
   exact at_ ⟨acc++[abH l m],k+1⟩ (by dsimp only;exact⟨⟨by rw[ae4,ai6 hx hw,if_pos hc30,←h1],by omega⟩,(by omega)⟩)
  ·
   exact at_ ⟨acc,k+1⟩ (by dsimp only;exact⟨⟨by rw[ae4,ai6 hx hw,if_neg hc30,←h1,nL],by omega⟩,(by omega)⟩)
 ·
  have hS:afF L=acc:=by unfold afF;rw[h1,show k=L.length by omega]
  refine fzE 3 rfl ?_
  exact rz rfl (by rw[hS];rfl)
theorem aCx{p:PtQ}:PF GB prog 132 [eP p] (eP (ajC p)):=by
 refine fn func132 J J ntmps132 J J (fun C=>?_)
 refine cl rfl akS rfl<|cl rfl akS rfl<|?_
 exact rz J J
theorem aCV{L:List LnQ}(hb: ∀l∈L,LB l)(hn:L.length≤100000):PF GB prog 62 [.sl (L.map eL)] (vB (anu L)):=by
 have hml:(L.map eL).length=L.length:=aJ ..
 obtain⟨ds,hds⟩: ∃ds,ds=L.flatMap fun l=>[l.dir,ajC l.dir]:=⟨_,rfl⟩
 have hdl:ds.length=2*L.length:=by rw[hds];exact alg L
 have hdb: ∀d∈ds,BPt d 97:=fun d hd=>by rw[hds] at hd;exact aAv hb d hd
 have hbl:anu L=(!L.isEmpty&&ds.all fun v=>!aiQ L v):=by unfold anu;rw[←hds]
 have hdm:(ds.map eP).length=ds.length:=aJ ..
 refine fn (fu:=⟨15⟩) func62 J J ntmps62 J J (fun C=>?_)
 refine eqF 12 (.d (vI (L.length:Nat))) rfl (by rw[hml]<;>rfl) ?_
 refine gx rfl<|?_
 refine nr 3 3 54 6 J J J ?_
 refine lp (X:=List PtQ×Nat) (fun⟨acc,k⟩=>[(13, .d (vI (k:Nat))),(3, .rw 3)]) (fun⟨acc,k⟩=>[(3,some (.b 54 6 (acc.map eP) true))]) (fun⟨acc,k⟩=>acc=(L.take k).flatMap (fun l=>[l.dir,ajC l.dir])∧k≤L.length) (fun⟨acc,k⟩=>L.length-k) ⟨[],0⟩ rfl ⟨rfl,aR _⟩ (fun _=>rfl) (fun⟨acc,k⟩ hk=>?_)
 try dsimp only at hk⊢
 obtain⟨h1,h2⟩:=hk
 have hal:acc.length=2*k:=by rw[h1,alg,cK];omega
 have ham:(acc.map eP).length=acc.length:=aJ ..
 refine br (fu2:=⟨10⟩) J J J (fun hc14=>?_) (fun hc14=>?_)
 ·
  obtain⟨l,hx⟩: ∃u,L[k]? =some u:=⟨_,aQ (by omega)⟩
  haveI:=hb l (aL hx)
  refine ix _ rfl (aal hx) rfl<|cl rfl (ahl (l:=l)) rfl<|cl rfl (ahl (l:=l)) rfl<|cl rfl (aCx (p:=l.dir)) rfl<|rf J J<|?_
  refine ap (hv:=by simp only[aah];exact⟨by kernel_rfl,by omega⟩) ((acc++[l.dir,ajC l.dir]).map eP) rfl (by rw[bX]<;>rfl) (aw6 [l.dir,ajC l.dir]) rfl<|?_
  refine rnE 24 3 rfl ?_
  exact at_ ⟨acc++[l.dir,ajC l.dir],k+1⟩ (by dsimp only;exact⟨⟨by rw[gQ,hx,lX,←h1];rfl,by omega⟩,(by omega)⟩)
 ·
  obtain rfl:ds=acc:=by rw[h1,hds,aV (by omega)]
  refine eqF 27 (.d (vI (ds.length:Nat))) rfl (by rw[hdm]<;>rfl) ?_
  refine gx rfl<|?_
  refine br (fu2:=⟨7⟩) J J J (fun hc28=>?_) (fun hc28=>?_)
  ·
   have hF:anu L=false:=by rw[hbl];cases L with|nil=>rfl|cons a b=>exfalso;rw[bU] at hdl;omega
   exact rz rfl (by rw[hF];rfl)
  ·
   have hT:anu L=ds.all fun v=>!aiQ L v:=by rw[hbl];cases L with|nil=>exfalso;rw[fY] at hdl;omega|cons a b=>rfl
   refine eqF 30 (.d (vI (ds.length:Nat))) rfl (by rw[hdm]<;>rfl) ?_
   refine gx rfl<|?_
   refine lp (X:=Nat) (fun k=>[(31, .d (vI (k:Nat)))]) (fun k=>[]) (fun k=>(ds.drop k).all (fun v=>!aiQ L v)=ds.all (fun v=>!aiQ L v)∧k≤ds.length) (fun k=>ds.length-k) 0 rfl ⟨rfl,aR _⟩ (fun _=>rfl) (fun k hk=>?_)
   obtain⟨h3,h4⟩:=hk
   refine br J J J (fun hc32=>?_) (fun hc32=>?_)
   ·
    obtain⟨v,hv⟩: ∃u,ds[k]? =some u:=⟨_,aQ (by omega)⟩
    haveI:=hdb v (aL hv)
    refine lb (fu:=⟨14⟩) _ rfl (aal hv) rfl<|?_
    refine eqF 36 (.d (vI (L.length:Nat))) rfl (by rw[hml]<;>rfl) ?_
    refine gx rfl<|?_
    refine dvC 8 _ J J ?_
    refine lp (X:=Bool×Nat) (fun⟨b,j⟩=>[(37, .d (vI (j:Nat))),(8, .d (vB b))]) (fun⟨b,j⟩=>[]) (fun⟨b,j⟩=>(b&&(L.drop j).all fun l=>decide (0≤Int.sign (l.dir.cross v).num))=aiQ L v∧j≤L.length) (fun⟨b,j⟩=>L.length-j) ⟨true,0⟩ rfl ⟨by simp[aiQ],aR _⟩ (fun _=>rfl) (fun⟨b,j⟩ hk=>?_)
    try dsimp only at hk⊢
    obtain⟨g1,g2⟩:=hk
    refine br (fu1:=⟨6⟩) J J J (fun hc38=>?_) (fun hc38=>?_)
    ·
     obtain⟨l,hy⟩: ∃u,L[j]? =some u:=⟨_,aQ (by omega)⟩
     haveI:=hb l (aL hy)
     cases b
     ·
      refine gx rfl<|ix (fu:=⟨7⟩) _ rfl (aal hy) rfl<|knF (hv:=by simp only[aah];exact⟨by kernel_rfl,by omega⟩) J J J<|?_
      refine dvE 8 _ J J ?_
      exact at_ ⟨false,j+1⟩ (by dsimp only;exact⟨⟨by rw[←g1];simp,by omega⟩,(by omega)⟩)
     ·
      refine gx rfl<|ix (fu:=⟨7⟩) _ rfl (aal hy) rfl<|knT J J J<|cl rfl (ahl (l:=l)) rfl<|cl rfl (ahu (p:=l.dir) (q:=v) (i:=97) (j:=97)) rfl<|?_
      refine cl (hv:=by simp only[aah];exact⟨by kernel_rfl,by omega⟩) rfl (q_S (q:=l.dir.cross v)) rfl<|?_
      refine dvE 8 _ J J ?_
      exact at_ ⟨decide (0≤Int.sign (l.dir.cross v).num),j+1⟩ (by dsimp only;exact⟨⟨by rw[←g1,acb hy];simp,by omega⟩,(by omega)⟩)
    ·
     obtain rfl:j=L.length:=by omega
     rw[dS] at g1
     have hst:aiQ L v=b:=by rw[←g1];simp
     refine bb J J J (fun hc51=>?_) (fun hc51=>?_)
     ·
      have hF:anu L=false:=by rw[hT,←h3,acb hv,hst,hc51];rfl
      exact rz rfl (by rw[hF];rfl)
     ·
      exact at_ (k+1) ⟨⟨by rw[←h3,acb hv,hst,hc51];rfl,by omega⟩,(by omega)⟩
   ·
    have hT2:anu L=true:=by rw[hT,←h3,dW (by omega)];rfl
    exact rz rfl (by rw[hT2];rfl)
structure EGU (GB:Gh) (ai al ae au:Addr):Prop extends EG GB ai al ae where
 ErrUnbounded:GB 0=some [.iface 427 (.pointer (some au))]
theorem aEw{α:Type}{f:α→DV}{l:List α}{s:α}(h:l[0]? =some s):(l.map f)[(0:Int).toNat]? =some (f s):=by simp[h]
def ams(c:aag):List (List PtQ):=aiA (afF (c.map (·.l)))
theorem ai9(c:List LnQ):(afF c).length≤c.length:=ahX c _
theorem anP{v:List PtQ}{i:Nat}{a b d:PtQ}(h0:v[0]? =some a)(h1:v[i+1]? =some b)(h2:v[i+2]? =some d):awv v i=[a,b,d]:=by
 unfold awv
 rw[aX,aX,aX,h0,h1,h2];rfl
theorem auJ{c:List LnQ}(hb: ∀l∈c,LB l): ∀p∈afF c,BPt p 1200:=fun p hp=>by
 obtain⟨l,hl,m,hm,rfl⟩:=avV hp
 have:= @BPt.imeet l m (hb l hl) (hb m hm)
 exact⟨this.x.mono (by decide),this.y.mono (by decide)⟩
theorem azR{v r:List PtQ}(h:r∈aiA v): ∀p∈r,p∈v:=fun p hp=>by
 obtain⟨i,hi,rfl⟩:=bW.1 h
 have hi':=qQ.1 hi
 have e:awv v i=_:=anP (aQ (show 0<v.length by omega)) (aQ (show i+1<v.length by omega)) (aQ (show i+2<v.length by omega))
 rw[e] at hp
 simp only[aS,iU,or_false] at hp
 rcases hp with rfl|rfl|rfl<;>exact cZ _
theorem aCF{ai al ae au:Addr}(hE:EGU GB ai al ae au){k0:Nat}{t:Tr}(h:TrX k0 t)(hk0:k0≤900)(hr:t.restrict []=t)(hbd:(aaS t).all agQ=false):PF GB prog 58 [eA t] (.tp [.sl [],avn au]):=by
 have hts:=h.s
 have htd:=h.dp
 obtain⟨cs,hcs⟩: ∃cs,cs=aaS t:=⟨_,rfl⟩
 have hcl:=afe t
 have hcn:=adz h.lb h.ok
 have hlb:=ah0 h.lb h.ok
 rw[←hcs] at hcl hcn hlb hbd
 have hml:(cs.map eC).length=cs.length:=aJ ..
 refine fn func58 J J ntmps58 J J (fun C=>?_)
 refine cl (fu:=⟨12⟩) rfl (aBn h) rfl<|?_
 refine kbT 17 rfl ?_
 refine gx rfl<|cl (fu:=⟨0⟩) rfl (ak5 (t:=t) (by omega)) rfl<|knF rfl (by show some (decide _)=some false;rw[decide_eq_false (by omega)]) rfl<|cl (fu:=⟨0⟩) rfl (ao5 (t:=t) h.lb h.ok (by omega)) rfl<|?_
 refine eqF 26 (.d (eU t)) rfl (by rw[hr]) ?_
 refine gx rfl<|cl (fu:=⟨0⟩) rfl (axl (t:=t) hcs h.lb h.ok (by omega) (by omega)) rfl<|knT rfl (by show some _=some true;rw[hbd];rfl) rfl<|gl rfl hE.ErrUnbounded rfl<|?_
 exact rz J J
theorem aBW{ai al ae au:Addr}(hE:EGU GB ai al ae au){k0:Nat}{t:Tr}(h:TrX k0 t)(hk0:k0≤900)(hr:t.restrict []=t)(hbd:(aaS t).all agQ=true):PF GB prog 58 [eA t] (.tp [.sl (((aaS t).flatMap ams).map eRz), .v .nilIface]):=by
 have hts:=h.s
 have htd:=h.dp
 obtain⟨cs,hcs⟩: ∃cs,cs=aaS t:=⟨_,rfl⟩
 have hcl:=afe t
 have hcn:=adz h.lb h.ok
 have hlb:=ah0 h.lb h.ok
 rw[←hcs] at hcl hcn hlb hbd
 have hml:(cs.map eC).length=cs.length:=aJ ..
 refine fn func58 J J ntmps58 J J (fun C=>?_)
 refine cl (fu:=⟨12⟩) rfl (aBn h) rfl<|?_
 refine kbT 17 rfl ?_
 refine gx rfl<|cl (fu:=⟨0⟩) rfl (ak5 (t:=t) (by omega)) rfl<|knF rfl (by show some (decide _)=some false;rw[decide_eq_false (by omega)]) rfl<|cl (fu:=⟨0⟩) rfl (ao5 (t:=t) h.lb h.ok (by omega)) rfl<|?_
 refine eqF 26 (.d (eU t)) rfl (by rw[hr]) ?_
 refine gx rfl<|cl (fu:=⟨0⟩) rfl (axl (t:=t) hcs h.lb h.ok (by omega) (by omega)) rfl<|knF rfl (by show some _=some false;rw[hbd];rfl) rfl<|cl (fu:=⟨0⟩) rfl (arr h.lb h.ok (by omega) (by omega)) rfl<|?_
 refine eqF 32 (.d (.sl (cs.map eC))) rfl (by rw[hcs]) ?_
 refine gx (fu:=⟨1⟩) rfl<|?_
 refine eqF 33 (.d (vI (cs.length:Nat))) rfl (by rw[hml]<;>rfl) ?_
 refine gx rfl<|?_
 refine nr 6 6 119 1 J J J ?_
 refine lp (X:=List (List PtQ)×Nat) (fun⟨acc,k⟩=>[(34, .d (vI (k:Nat))),(6, .rw 6)]) (fun⟨acc,k⟩=>[(6,some (.b 119 1 (acc.map eRz) true))]) (fun⟨acc,k⟩=>acc=(cs.take k).flatMap ams∧k≤cs.length∧acc.length≤1000*k) (fun⟨acc,k⟩=>cs.length-k) ⟨[],0⟩ rfl ⟨rfl,aR _,aR _⟩ (fun _=>rfl) (fun⟨acc,k⟩ hk=>?_)
 try dsimp only at hk⊢
 obtain⟨h1,h2,h3⟩:=hk
 refine br J J J (fun hc35=>?_) (fun hc35=>?_)
 ·
  obtain⟨c,hx⟩: ∃u,cs[k]? =some u:=⟨_,aQ (by omega)⟩
  have hcm:=aL hx
  have hcn1:=hcn c hcm
  obtain⟨v,hv⟩: ∃v,v=afF (c.map (·.l)):=⟨_,rfl⟩
  have hvl:=ai9 (c.map (·.l))
  rw[←hv,aJ] at hvl
  have hvm:(v.map eZ).length=v.length:=aJ ..
  refine ix _ rfl (aal hx) rfl<|cl (fu:=⟨0⟩) rfl (azM (c:=c) (hlb c hcm) (by omega)) rfl<|?_
  refine eqF 39 (.d (.sl (v.map eZ))) rfl (by rw[hv]) ?_
  refine gx (fu:=⟨7⟩) rfl<|?_
  refine eqF 41 (.d (vI (v.length:Nat))) rfl (by rw[hvm]<;>rfl) ?_
  refine gx rfl<|?_
  refine lp (X:=List (List PtQ)×Nat) (fun⟨acc2,i⟩=>[(43, .d (vI (i:Nat))),(6, .rw 6)]) (fun⟨acc2,i⟩=>[(6,some (.b 119 1 (acc2.map eRz) true))]) (fun⟨acc2,i⟩=>acc2=acc++(List.range i).map (awv v)∧i≤v.length-2∧acc2.length≤1000*k+i) (fun⟨acc2,i⟩=>v.length-i) ⟨acc,0⟩ rfl ⟨by simp,aR _,h3⟩ (fun _=>rfl) (fun⟨acc2,i⟩ hk=>?_)
  try dsimp only at hk⊢
  obtain⟨g1,g2,g3⟩:=hk
  have ham:(acc2.map eRz).length=acc2.length:=aJ ..
  refine br J J J (fun hc44=>?_) (fun hc44=>?_)
  ·
   obtain⟨p0,h0⟩: ∃u,v[0]? =some u:=⟨_,aQ (by omega)⟩
   obtain⟨p1,e1⟩: ∃u,v[i+1]? =some u:=⟨_,aQ (by omega)⟩
   obtain⟨p2,e2⟩: ∃u,v[i+2]? =some u:=⟨_,aQ (by omega)⟩
   refine ix (fu:=⟨4⟩) _ rfl (aEw h0) rfl<|?_
   refine eqF 52 (.d (vI ((i+1:Nat):Int))) J J ?_
   refine gx rfl<|ix (fu:=⟨4⟩) _ rfl (aal e1) rfl<|?_
   refine eqF 57 (.d (vI ((i+2:Nat):Int))) J J ?_
   refine gx rfl<|ix _ rfl (aal e2) rfl<|rf J J<|rf J J<|ap (hv:=by simp only[aah];exact⟨by kernel_rfl,by omega⟩) ((acc2++[[p0,p1,p2]]).map eRz) rfl (by rw[bX]<;>rfl) (aBZ [[p0,p1,p2]]) rfl<|?_
   refine rnE 62 6 rfl ?_
   exact at_ ⟨acc2++[[p0,p1,p2]],i+1⟩ (by dsimp only;exact⟨⟨by rw[am2,←fL,←g1,anP h0 e1 e2],by omega,by rw[aW,dK];omega⟩,(by omega)⟩)
  ·
   have hA:acc2=acc++aiA v:=by rw[g1];unfold aiA;rw[show i=v.length-2 by omega]
   exact at_ ⟨acc2,k+1⟩ (by dsimp only;exact⟨⟨by rw[hA,gQ,hx,lX,←h1];simp[ams,←hv],by omega,by omega⟩,(by omega)⟩)
 ·
  have hS:(aaS t).flatMap ams=acc:=by rw[h1,aV (by omega),hcs]
  refine fzE 6 rfl ?_
  exact rz rfl (by rw[hS];rfl)
theorem azk{v:List PtQ}(hb: ∀p∈v,BPt p 1200)(hn:v.length≤1000000):PF GB prog 59 [eRz v] (eRa v):=by
 have hml:(v.map eZ).length=v.length:=aJ ..
 refine fn (fu:=⟨15⟩) func59 J J ntmps59 J J (fun C=>?_)
 refine eqF 7 (.d (vI (v.length:Nat))) rfl (by rw[hml]<;>rfl) ?_
 refine gx rfl<|?_
 refine nr 3 3 65 6 J J J ?_
 refine lp (X:=Nat) (fun k=>[(8, .d (vI (k:Nat))),(3, .rw 3)]) (fun k=>[(3,some (.b 65 6 ((v.take k).map ePt) true))]) (fun k=>k≤v.length) (fun k=>v.length-k) 0 rfl (aR _) (fun _=>rfl) (fun k hk=>?_)
 have ham:((v.take k).map ePt).length=k:=by rw[aJ,cK];omega
 refine br J J J (fun hc9=>?_) (fun hc9=>?_)
 ·
  obtain⟨p,hx⟩: ∃u,v[k]? =some u:=⟨_,aQ (by omega)⟩
  haveI:=hb p (aL hx)
  refine ix _ rfl (aal hx) rfl<|cl rfl (az5 (p:=p) (i:=1200)) rfl<|rf J J<|ap ((v.take (k+1)).map ePt) rfl (by rw[gQ,hx,bX]<;>rfl) (awR [p]) rfl<|?_
  refine rnE 16 3 rfl ?_
  exact at_ (k+1) ⟨(by omega),(by omega)⟩
 ·
  have hS:v.take k=v:=aV (by omega)
  refine fzE 3 rfl ?_
  exact rz rfl (by rw[hS];rfl)
theorem ayJ{ai al ae au:Addr}(hE:EGU GB ai al ae au){k0:Nat}{t:Tr}(h:TrX k0 t)(hk0:k0≤900)(hr:t.restrict []=t)(hbd:(aaS t).all agQ=false):PF GB prog 13 [eA t] (.tp [.sl [],avn au]):=by
 refine fn func13 J J ntmps13 J J (fun C=>?_)
 refine cl rfl (aCF hE h hk0 hr hbd) rfl<|?_
 exact rz J J
theorem auj{ai al ae au:Addr}(hE:EGU GB ai al ae au){k0:Nat}{t:Tr}(h:TrX k0 t)(hk0:k0≤900)(hr:t.restrict []=t)(hbd:(aaS t).all agQ=true){ts:List (List PtQ)}(hts:ts=(aaS t).flatMap ams)(hb: ∀r∈ts,(∀p∈r,BPt p 1200)∧r.length≤1000)(hn:ts.length≤100000000):PF GB prog 13 [eA t] (.tp [.sl (ts.map eRa), .v .nilIface]):=by
 have hml:(ts.map eRz).length=ts.length:=aJ ..
 refine fn func13 J J ntmps13 J J (fun C=>?_)
 refine cl (fu:=⟨0⟩) rfl (aBW hE h hk0 hr hbd) rfl<|?_
 refine eqF 11 (.d (.tp [.sl (ts.map eRz), .v .nilIface])) rfl (by rw[hts]) ?_
 refine gx (fu:=⟨27⟩) rfl<|?_
 refine eqF 18 (.d (vI (ts.length:Nat))) rfl (by rw[hml]<;>rfl) ?_
 refine gx rfl<|?_
 refine nr 6 6 120 1 J J J ?_
 refine lp (X:=Nat) (fun k=>[(19, .d (vI (k:Nat))),(6, .rw 6)]) (fun k=>[(6,some (.b 120 1 ((ts.take k).map eRa) true))]) (fun k=>k≤ts.length) (fun k=>ts.length-k) 0 rfl (aR _) (fun _=>rfl) (fun k hk=>?_)
 have ham:((ts.take k).map eRa).length=k:=by rw[aJ,cK];omega
 refine br J J J (fun hc20=>?_) (fun hc20=>?_)
 ·
  obtain⟨r,hx⟩: ∃u,ts[k]? =some u:=⟨_,aQ (by omega)⟩
  have hrb:=hb r (aL hx)
  refine ix _ rfl (aal hx) rfl<|cl rfl (azk (v:=r) hrb.1 (by omega)) rfl<|rf J J<|ap ((ts.take (k+1)).map eRa) rfl (by rw[gQ,hx,bX]<;>rfl) (aCZ [r]) rfl<|?_
  refine rnE 27 6 rfl ?_
  exact at_ (k+1) ⟨(by omega),(by omega)⟩
 ·
  have hS:ts.take k=ts:=aV (by omega)
  refine fzE 6 rfl ?_
  exact rz rfl (by rw[hS];rfl)
theorem as1{p q:Rat}{i j:Nat}[hp:BQ p i][hq:BQ q j](hi:i≤100000000:=by decide):PF GB prog 78 [eR p,eR q] (vB (decide (p=q))):=by
 refine fn func78 J J ntmps78 J J (fun C=>?_)
 refine cl rfl (ay4 (a:=p.num) (b:=q.num) (i:=i) (j:=j) (by omega)) rfl<|?_
 refine csd 10 J J J (fun hg10=>?_) (fun hg10=>?_)
 ·
  refine cl rfl (at0 (a:=p.den) (b:=q.den) (i:=i) (j:=j) (by omega)) rfl<|?_
  exact rz rfl (by rw[show decide (p=q)=decide (p.den=q.den) from decide_eq_decide.2 ⟨fun e=>by rw[e],fun e=>Rat.ext hg10 e⟩]<;>rfl)
 ·
  exact rz rfl (by rw[decide_eq_false (fun e:p=q=>hg10 (by rw[e]))]<;>rfl)
theorem avp{p q:PtQ}{i j:Nat}[hp:BPt p i][hq:BPt q j](hi:i≤100000000:=by decide)(he:p=q):PF GB prog 24 [ePt p,ePt q] (.v (.bool true)):=by
 refine fn func24 J J ntmps24 J J (fun C=>?_)
 refine cl (fu:=⟨0⟩) rfl (as1 (p:=p.x) (q:=q.x) (i:=i) (j:=j) hi) rfl<|?_
 refine eqF 9 (.d (vB true)) rfl (by rw[he];simp) ?_
 refine kbT 9 rfl ?_
 refine gx rfl<|cl (fu:=⟨0⟩) rfl (as1 (p:=p.y) (q:=q.y) (i:=i) (j:=j) hi) rfl<|?_
 refine eqF 15 (.d (vB true)) rfl (by rw[he];simp) ?_
 refine gx rfl<|?_
 exact rz J J
theorem af6{t:Tr}(h:t.all LnQ.ok):akw (aaY t [])=(aaS t).map fun c=>c.map (·.l):=aCw h
theorem asR{t:Tr}(h:t.all LnQ.ok):(akw (aaY t [])).all anu=(aaS t).all agQ:=by
 rw[af6 h,List.all_map]
 have hg:=aoa h
 generalize aaS t=cs at*
 induction cs with
 |nil=>rfl
 |cons c cs ih=>rw[qM,qM,ih fun d hd=>hg d (aK _ hd)];simp only[Function.comp];rw[aBx (hg c aZ)]
theorem aj5{t:Tr}(h:t.all LnQ.ok):awp (akw (aaY t []))=(aaS t).flatMap ams:=by
 rw[af6 h]
 unfold awp
 rw[List.flatMap_map]
 rfl
theorem ax0{t:Tr}(hb:t.all LB)(ho:t.all LnQ.ok): ∀L∈akw (aaY t []),(∀l∈L,LB l)∧L.length≤t.depth:=fun L hL=>by
 rw[af6 ho] at hL
 obtain⟨c,hc,rfl⟩:=bW.1 hL
 exact⟨fun l hl=>by obtain⟨s,hs,rfl⟩:=bW.1 hl;exact ah0 hb ho c hc s hs,by rw[aJ];exact adz hb ho c hc⟩
theorem asz{t:Tr}(ho:t.all LnQ.ok):(akw (aaY t [])).length≤t.size+1:=by
 rw[af6 ho,aJ];exact afe t
theorem au3(c:aag):(ams c).length≤c.length:=by
 unfold ams aiA
 rw[aJ,List.length_range]
 have:=ai9 (c.map (·.l))
 rw[aJ] at this;omega
theorem aoL{α β:Type}{f:α→List β}{k:Nat}: ∀{l:List α},(∀x∈l,(f x).length≤k)→(l.flatMap f).length≤l.length*k
 |[],_=>by simp
 |a::t,h=>by
  have h1:=h a aZ
  have h2:=aoL (f:=f) fun x hx=>h x (aK a hx)
  rw[qZ,aW,bU,iJ];omega
theorem aq7{k0:Nat}{t:Tr}(h:TrX k0 t)(hk0:k0≤900):((aaS t).flatMap ams).length≤2700900∧ ∀r∈(aaS t).flatMap ams,(∀p∈r,BPt p 1200)∧r.length=3:=by
 refine⟨?_,fun r hr=>?_⟩
 ·have h1:=aoL (f:=ams) (k:=900) (l:=aaS t) fun c hc=>cJ (au3 c) (cJ (adz h.lb h.ok c hc) (cJ h.dp hk0))
  have h2:=afe t
  have h3:=h.s
  have h4:(aaS t).length*900≤3001*900:=bV 900 (by omega)
  omega
 ·obtain⟨c,hc,hr⟩:=fN.1 hr
  unfold ams at hr
  have hlb: ∀l∈c.map (·.l),LB l:=fun l hl=>by
   obtain⟨s,hs,rfl⟩:=bW.1 hl;exact ah0 h.lb h.ok c hc s hs
  have hv:=auJ hlb
  generalize afF (c.map (·.l))=v at*
  refine⟨fun p hp=>hv p (azR hr p hp),?_⟩
  unfold aiA at hr
  obtain⟨i,_,rfl⟩:=bW.1 hr;rfl
theorem axs{k0:Nat}{t:Tr}(h:TrX k0 t)(hk0:k0≤900):PF GB prog 15 [eT t] (vB ((aaS t).all agQ)):=by
 rw[←asR h.ok]
 obtain⟨cs,hcs⟩: ∃cs,cs=akw (aaY t []):=⟨_,rfl⟩
 have hcl:=asz h.ok
 have hlb:=ax0 h.lb h.ok
 rw[←hcs] at hcl hlb⊢
 have hts:=h.s
 have htd:=h.dp
 have hml:(cs.map eSd).length=cs.length:=aJ ..
 refine fn func15 J J ntmps15 J J (fun C=>?_)
 refine cl (fu:=⟨0⟩) rfl (aBj (t:=t) h.lb h.ok (by omega) (by omega)) rfl<|?_
 refine eqF 6 (.d (.sl (cs.map eSd))) rfl (by rw[hcs]) ?_
 refine gx (fu:=⟨1⟩) rfl<|?_
 refine eqF 7 (.d (vI (cs.length:Nat))) rfl (by rw[hml]<;>rfl) ?_
 refine gx rfl<|?_
 refine lp (X:=Nat) (fun k=>[(8, .d (vI (k:Nat)))]) (fun k=>[]) (fun k=>(cs.drop k).all anu=cs.all anu∧k≤cs.length) (fun k=>cs.length-k) 0 rfl ⟨rfl,aR _⟩ (fun _=>rfl) (fun k hk=>?_)
 obtain⟨h1,h2⟩:=hk
 refine br J J J (fun hc9=>?_) (fun hc9=>?_)
 ·
  obtain⟨c,hx⟩: ∃u,cs[k]? =some u:=⟨_,aQ (by omega)⟩
  have hcb:=hlb c (aL hx)
  refine ix _ rfl (aal hx) rfl<|cl rfl (aCV (L:=c) hcb.1 (by omega)) rfl<|?_
  refine bb J J J (fun hc14=>?_) (fun hc14=>?_)
  ·
   have hF:cs.all anu=false:=by rw[←h1,acb hx,show anu c=false by simpa using hc14];rfl
   exact rz rfl (by rw[hF];rfl)
  ·
   exact at_ (k+1) ⟨⟨by rw[←h1,acb hx,show anu c=true by simpa using hc14];rfl,by omega⟩,(by omega)⟩
 ·
  have hT:cs.all anu=true:=by rw[←h1,dW (by omega)];rfl
  exact rz rfl (by rw[hT];rfl)
theorem aAO{k0:Nat}{t:Tr}(h:TrX k0 t)(hk0:k0≤900)(hr:t.restrict []=t){ts:List (List PtQ)}(hts:ts=(aaS t).flatMap ams):PF GB prog 19 [eT t] (.sl (ts.map eRp)):=by
 obtain⟨cs,hcs⟩: ∃cs,cs=akw (aaY t []):=⟨_,rfl⟩
 have hcl:=asz h.ok
 have hlb:=ax0 h.lb h.ok
 have hte:ts=cs.flatMap (fun L=>aiA (afF L)):=by rw[hts,←aj5 h.ok,←hcs];rfl
 rw[←hcs] at hcl hlb
 have hsz:=h.s
 have htd:=h.dp
 have hml:(cs.map eSd).length=cs.length:=aJ ..
 refine fn func19 J J ntmps19 J J (fun C=>?_)
 refine cl (fu:=⟨0⟩) rfl (aei (t:=t) h.lb h.ok (by omega)) rfl<|?_
 refine eqF 9 (.d (eT t)) rfl (by rw[hr]) ?_
 refine gx rfl<|cl (fu:=⟨0⟩) rfl (aBj (t:=t) h.lb h.ok (by omega) (by omega)) rfl<|?_
 refine eqF 10 (.d (.sl (cs.map eSd))) rfl (by rw[hcs]) ?_
 refine gx (fu:=⟨1⟩) rfl<|?_
 refine eqF 11 (.d (vI (cs.length:Nat))) rfl (by rw[hml]<;>rfl) ?_
 refine gx rfl<|?_
 refine nr 3 3 46 1 J J J ?_
 refine lp (X:=List (List PtQ)×Nat) (fun⟨acc,k⟩=>[(12, .d (vI (k:Nat))),(3, .rw 3)]) (fun⟨acc,k⟩=>[(3,some (.b 46 1 (acc.map eRp) true))]) (fun⟨acc,k⟩=>acc=(cs.take k).flatMap (fun L=>aiA (afF L))∧k≤cs.length∧acc.length≤1000*k) (fun⟨acc,k⟩=>cs.length-k) ⟨[],0⟩ rfl ⟨rfl,aR _,aR _⟩ (fun _=>rfl) (fun⟨acc,k⟩ hk=>?_)
 try dsimp only at hk⊢
 obtain⟨h1,h2,h3⟩:=hk
 refine br J J J (fun hc13=>?_) (fun hc13=>?_)
 ·
  obtain⟨c,hx⟩: ∃u,cs[k]? =some u:=⟨_,aQ (by omega)⟩
  have hcb:=hlb c (aL hx)
  obtain⟨v,hv⟩: ∃v,v=afF c:=⟨_,rfl⟩
  have hvl:=ai9 c
  rw[←hv] at hvl
  have hvm:(v.map eP).length=v.length:=aJ ..
  refine ix _ rfl (aal hx) rfl<|cl (fu:=⟨0⟩) rfl (ayL (L:=c) hcb.1 (by omega)) rfl<|?_
  refine eqF 17 (.d (.sl (v.map eP))) rfl (by rw[hv]) ?_
  refine gx rfl<|?_
  refine lp (fu:=⟨7⟩) (X:=List (List PtQ)×Nat) (fun⟨acc2,i⟩=>[(7, .d (vI ((i+1:Nat):Int))),(3, .rw 3)]) (fun⟨acc2,i⟩=>[(3,some (.b 46 1 (acc2.map eRp) true))]) (fun⟨acc2,i⟩=>acc2=acc++(List.range i).map (awv v)∧i≤v.length-2∧acc2.length≤1000*k+i) (fun⟨acc2,i⟩=>v.length-i) ⟨acc,0⟩ rfl ⟨by simp,aR _,h3⟩ (fun _=>rfl) (fun⟨acc2,i⟩ hk=>?_)
  try dsimp only at hk⊢
  obtain⟨g1,g2,g3⟩:=hk
  have ham:(acc2.map eRp).length=acc2.length:=aJ ..
  refine eqF 21 (.d (vI (v.length:Nat))) rfl (by rw[hvm]<;>rfl) ?_
  refine gx rfl<|?_
  refine br J J J (fun hc22=>?_) (fun hc22=>?_)
  ·
   obtain⟨p0,h0⟩: ∃u,v[0]? =some u:=⟨_,aQ (by omega)⟩
   obtain⟨p1,e1⟩: ∃u,v[i+1]? =some u:=⟨_,aQ (by omega)⟩
   obtain⟨p2,e2⟩: ∃u,v[i+2]? =some u:=⟨_,aQ (by omega)⟩
   refine ix _ rfl (aEw h0) rfl<|ix (fu:=⟨4⟩) _ rfl (aal e1) rfl<|?_
   refine eqF 35 (.d (vI ((i+2:Nat):Int))) J J ?_
   refine gx rfl<|ix _ rfl (aal e2) rfl<|rf J J<|rf J J<|ap (hv:=by simp only[aah];exact⟨by kernel_rfl,by omega⟩) ((acc2++[[p0,p1,p2]]).map eRp) rfl (by rw[bX]<;>rfl) (aA7 [[p0,p1,p2]]) rfl<|?_
   refine rnE 40 3 rfl ?_
   exact at_ ⟨acc2++[[p0,p1,p2]],i+1⟩ (by dsimp only;exact⟨⟨by rw[am2,←fL,←g1,anP h0 e1 e2],by omega,by rw[aW,dK];omega⟩,(by omega)⟩)
  ·
   have hA:acc2=acc++aiA v:=by rw[g1];unfold aiA;rw[show i=v.length-2 by omega]
   exact at_ ⟨acc2,k+1⟩ (by dsimp only;exact⟨⟨by rw[hA,gQ,hx,lX,←h1,hv];simp,by omega,by omega⟩,(by omega)⟩)
 ·
  have hS:ts=acc:=by rw[h1,hte,aV (by omega)]
  refine fzE 3 rfl ?_
  exact rz rfl (by rw[hS];rfl)
theorem avq{v:List PtQ}(hb: ∀p∈v,BPt p 1200)(hn:v.length≤1000000):PF GB prog 69 [.sl (v.map ePt), .sl (v.map ePt)] (.v (.bool true)):=by
 have hml:(v.map ePt).length=v.length:=aJ ..
 refine fn (fu:=⟨10⟩) func69 J J ntmps69 J J (fun C=>?_)
 refine eqF 7 (.d (vI (v.length:Nat))) rfl (by rw[hml]<;>rfl) ?_
 refine gx (fu:=⟨2⟩) rfl<|?_
 refine eqF 9 (.d (vI (v.length:Nat))) rfl (by rw[hml]<;>rfl) ?_
 refine gx (fu:=⟨0⟩) rfl<|knF (fu:=⟨10⟩) rfl (by show some (decide _)=some false;rw[decide_eq_false (by omega)]) rfl<|?_
 refine eqF 12 (.d (vI (v.length:Nat))) rfl (by rw[hml]<;>rfl) ?_
 refine gx rfl<|?_
 refine lp (X:=Nat) (fun k=>[(13, .d (vI (k:Nat)))]) (fun k=>[]) (fun k=>k≤v.length) (fun k=>v.length-k) 0 rfl (aR _) (fun _=>rfl) (fun k hk=>?_)
 refine br J J J (fun hc14=>?_) (fun hc14=>?_)
 ·
  obtain⟨p,hx⟩: ∃u,v[k]? =some u:=⟨_,aQ (by omega)⟩
  haveI:=hb p (aL hx)
  refine ix _ rfl (aal hx) rfl<|ix _ rfl (aal hx) rfl<|cl (fu:=⟨0⟩) rfl (avp (p:=p) (q:=p) (i:=1200) (j:=1200) (by decide) rfl) rfl<|knF (hv:=by simp only[aah];exact⟨by kernel_rfl,by omega⟩) J J J<|?_
  exact at_ (k+1) ⟨(by omega),(by omega)⟩
 ·
  exact rz J J
theorem av3{ts:List (List PtQ)}(hb: ∀r∈ts,(∀p∈r,BPt p 1200)∧r.length=3)(hn:ts.length≤100000000):PF GB prog 18 [.sl (ts.map eRa), .sl (ts.map eRp)] (.v (.bool true)):=by
 have hml:(ts.map eRa).length=ts.length:=aJ ..
 have hml2:(ts.map eRp).length=ts.length:=aJ ..
 refine fn (fu:=⟨10⟩) func18 J J ntmps18 J J (fun C=>?_)
 refine eqF 7 (.d (vI (ts.length:Nat))) rfl (by rw[hml]<;>rfl) ?_
 refine gx (fu:=⟨2⟩) rfl<|?_
 refine eqF 9 (.d (vI (ts.length:Nat))) rfl (by rw[hml2]<;>rfl) ?_
 refine gx (fu:=⟨0⟩) rfl<|knF (fu:=⟨10⟩) rfl (by show some (decide _)=some false;rw[decide_eq_false (by omega)]) rfl<|?_
 refine eqF 12 (.d (vI (ts.length:Nat))) rfl (by rw[hml]<;>rfl) ?_
 refine gx rfl<|?_
 refine lp (X:=Nat) (fun k=>[(13, .d (vI (k:Nat)))]) (fun k=>[]) (fun k=>k≤ts.length) (fun k=>ts.length-k) 0 rfl (aR _) (fun _=>rfl) (fun k hk=>?_)
 refine br J J J (fun hc14=>?_) (fun hc14=>?_)
 ·
  obtain⟨r,hx⟩: ∃u,ts[k]? =some u:=⟨_,aQ (by omega)⟩
  have hrb:=hb r (aL hx)
  refine ix _ rfl (aal hx) rfl<|ix _ rfl (aal hx) rfl<|cl rfl (atM (ps:=r) hrb.1 (by omega)) rfl<|cl (fu:=⟨0⟩) rfl (avq (v:=r) hrb.1 (by omega)) rfl<|?_
  refine knF (hv:=by simp only[aah];exact⟨by kernel_rfl,by omega⟩) J J J<|?_
  exact at_ (k+1) ⟨(by omega),(by omega)⟩
 ·
  exact rz J J
def otQ(a b p:PtQ):Rat:=(b.x-a.x)*(p.y-a.y)-(b.y-a.y)*(p.x-a.x)
def wnQ(v w p:PtQ):Int:=(if v.y≤p.y∧ ¬w.y≤p.y∧0<otQ v w p then 1 else 0)-(if¬v.y≤p.y∧w.y≤p.y∧otQ v w p<0 then 1 else 0)
def ahE(v w q p:PtQ):Prop:= ∀s t:Rat,0≤s→s≤1→0≤t→t≤1→abg v w s≠abg q p t
theorem agl{a b:Rat}(h0:0≤a)(h1:a≤b)(hb:0<b):0≤a/b∧a/b≤1∧a/b*b=a:=by
 have e:a/b*b=a:=by grind
 generalize a/b=q at*
 refine⟨?_,?_,e⟩
 ·exact(aan hb).1 (by rw[e];exact h0)
 ·have:=(aan (s:=1-q) hb).1 (by grind)
  grind
theorem aBf{q p x:PtQ}(hy:q.y<p.y)(h:otQ q p x=0)(h1:q.y≤x.y)(h2:x.y≤p.y): ∃t,0≤t∧t≤1∧x=abg q p t:=by
 obtain⟨a1,a2,a3⟩:=agl (a:=x.y-q.y) (b:=p.y-q.y) (by grind) (by grind) (by grind)
 refine⟨_,a1,a2,?_⟩
 generalize (x.y-q.y)/(p.y-q.y)=t at*
 obtain⟨X,Y⟩:=x
 unfold otQ at h
 unfold abg
 simp only at*
 have e:X=q.x+t*(p.x-q.x):=by
  have h3:(p.y-q.y)*(X-q.x)=(p.y-q.y)*(t*(p.x-q.x)):=by grind
  have h4:p.y-q.y≠0:=by grind
  have:=nM.1 (show(p.y-q.y)*(X-q.x-t*(p.x-q.x))=0 by grind)
  rcases this with h5|h5
  ·exact absurd h5 h4
  ·grind
 rw[e]
 congr 1
 grind
theorem aA3(q p v w:PtQ)(e:Rat):otQ q p (abg v w e)=otQ q p v+e*(otQ q p w-otQ q p v):=by
 unfold otQ abg;grind
theorem as0(v w:PtQ)(a b e:Rat):abg (abg v w a) (abg v w b) e=abg v w (a+e*(b-a)):=by
 unfold abg;simp only[PtQ.mk.injEq];constructor<;>grind
theorem avN(v w:PtQ)(e:Rat):(abg v w e).y=v.y+e*(w.y-v.y):=rfl
theorem aD5{a b e lo hi:Rat}(h0:0≤e)(h1:e≤1)(ha:lo≤a)(hb:lo≤b)(ha2:a≤hi)(hb2:b≤hi):lo≤a+e*(b-a)∧a+e*(b-a)≤hi:=by
 have k1:=aad h0 (show 0≤b-lo by grind)
 have k2:=aad (show 0≤1-e by grind) (show 0≤a-lo by grind)
 have k3:=aad h0 (show 0≤hi-b by grind)
 have k4:=aad (show 0≤1-e by grind) (show 0≤hi-a by grind)
 constructor<;>grind
theorem arj{v w q p:PtQ}(hn:ahE v w q p)(hy:q.y<p.y){a b:Rat}(a0:0≤a)(a1:a≤1)(b0:0≤b)(b1:b≤1)(ha:q.y≤(abg v w a).y∧(abg v w a).y≤p.y)(hb:q.y≤(abg v w b).y∧(abg v w b).y≤p.y)(h:otQ q p (abg v w a)<0):otQ q p (abg v w b)<0:=by
 by_cases k:otQ q p (abg v w b)<0
 ·exact k
 ·exfalso
  obtain⟨e0,e1,e2⟩:=agl (a:= -(otQ q p (abg v w a))) (b:=otQ q p (abg v w b)-otQ q p (abg v w a)) (by grind) (by grind) (by grind)
  generalize-(otQ q p (abg v w a))/(otQ q p (abg v w b)-otQ q p (abg v w a))=e at*
  have hz:otQ q p (abg v w (a+e*(b-a)))=0:=by rw[←as0,aA3];grind
  have hh:=aD5 e0 e1 ha.1 hb.1 ha.2 hb.2
  rw[←avN,as0] at hh
  obtain⟨t,t0,t1,ht⟩:=aBf hy hz hh.1 hh.2
  have h01:=aD5 e0 e1 a0 b0 a1 b1
  exact hn _ t h01.1 h01.2 t0 t1 ht
theorem azH{v w q p:PtQ}(hn:ahE v w q p)(hy:q.y<p.y): ∃r:Bool,∀s,0≤s→s≤1→q.y≤(abg v w s).y→(abg v w s).y≤p.y→(otQ q p (abg v w s)<0↔r=true):=by
 by_cases h: ∃s,0≤s∧s≤1∧(q.y≤(abg v w s).y∧(abg v w s).y≤p.y)∧otQ q p (abg v w s)<0
 ·obtain⟨s,s0,s1,s2,s3⟩:=h
  exact⟨true,fun t t0 t1 h1 h2=>⟨fun _=>rfl,fun _=>arj hn hy s0 s1 t0 t1 s2 ⟨h1,h2⟩ s3⟩⟩
 ·exact⟨false,fun t t0 t1 h1 h2=>⟨fun k=>absurd ⟨t,t0,t1,⟨h1,h2⟩,k⟩ h,fun k=>by cases k⟩⟩
theorem apZ(v w:PtQ):abg v w 0=v:=by unfold abg;cases v;simp only[PtQ.mk.injEq];constructor<;>grind
theorem atT(v w:PtQ):abg v w 1=w:=by unfold abg;cases w;simp only[PtQ.mk.injEq];constructor<;>grind
theorem ai7{v w:PtQ}{y:Rat}(h:(v.y≤y∧ ¬w.y≤y)∨(¬v.y≤y∧w.y≤y)): ∃s,0≤s∧s≤1∧(abg v w s).y=y:=by
 rcases h with⟨h1,h2⟩|⟨h1,h2⟩
 ·obtain⟨a1,a2,a3⟩:=agl (a:=y-v.y) (b:=w.y-v.y) (by grind) (by grind) (by grind)
  refine⟨_,a1,a2,?_⟩
  rw[avN];grind
 ·obtain⟨a1,a2,a3⟩:=agl (a:=v.y-y) (b:=v.y-w.y) (by grind) (by grind) (by grind)
  refine⟨_,a1,a2,?_⟩
  rw[avN];grind
theorem am3{v w p:PtQ}{s:Rat}(h:(abg v w s).y=p.y):otQ v w p=(w.y-v.y)*((abg v w s).x-p.x):=by
 unfold otQ
 unfold abg at*
 simp only at*
 rw[←h];grind
theorem agW{a b:Rat}(ha:0<a):0<a*b↔0<b:=by rw[Rat.mul_comm];exact aau ha
theorem akB{a b:Rat}(ha:a<0):a*b<0↔0<b:=by
 have:=agW (a:= -a) (b:=b) (by grind)
 constructor
 ·intro h;exact this.1 (by grind)
 ·intro h;have:=this.2 h;grind
def bI(b:Prop)[Decidable b]:Int:=if b then 1 else 0
theorem arZ{v w p:PtQ}{r:Prop}[Decidable r](h: ∀s,0≤s→s≤1→(abg v w s).y=p.y→(p.x<(abg v w s).x↔r)):wnQ v w p=if r then bI (v.y≤p.y)-bI (w.y≤p.y) else 0:=by
 unfold wnQ bI
 by_cases h1:v.y≤p.y<;>by_cases h2:w.y≤p.y
 ·simp[h1,h2]
 ·obtain⟨s,s0,s1,s2⟩:=ai7 (.inl ⟨h1,h2⟩)
  have e:=am3 s2
  have k:=h s s0 s1 s2
  have m:=agW (a:=w.y-v.y) (b:=(abg v w s).x-p.x) (by grind)
  rw[←e] at m
  have m2:0<otQ v w p↔r:=by rw[m,←k];grind
  simp only[h1,h2,m2]
  by_cases q:r<;>simp[q]
 ·obtain⟨s,s0,s1,s2⟩:=ai7 (.inr ⟨h1,h2⟩)
  have e:=am3 s2
  have k:=h s s0 s1 s2
  have m:=akB (a:=w.y-v.y) (b:=(abg v w s).x-p.x) (by grind)
  rw[←e] at m
  have m2:otQ v w p<0↔r:=by rw[m,←k];grind
  simp only[h1,h2,m2]
  by_cases q:r<;>simp[q]
 ·simp[h1,h2]
def axy(q p u:PtQ):Int:=if q.y<u.y∧u.y≤p.y∧otQ q p u<0 then 1 else 0
theorem alT{v w q p:PtQ}(hn:ahE v w q p)(hy:q.y<p.y):wnQ v w p-wnQ v w q=axy q p v-axy q p w:=by
 obtain⟨r,hr⟩:=azH hn hy
 have ep:=arZ (v:=v) (w:=w) (p:=p) (r:=r=true) fun s s0 s1 s2=>by
  rw[←hr s s0 s1 (by grind) (by grind)]
  have m:=agW (a:=p.y-q.y) (b:=(abg v w s).x-p.x) (by grind)
  have:otQ q p (abg v w s)= -((p.y-q.y)*((abg v w s).x-p.x)):=by unfold otQ;rw[s2];grind
  rw[this]
  generalize (p.y-q.y)*((abg v w s).x-p.x)=z at*
  constructor
  ·intro k;have:=m.2 (by grind);grind
  ·intro k;have:=m.1 (by grind);grind
 have eq:=arZ (v:=v) (w:=w) (p:=q) (r:=r=true) fun s s0 s1 s2=>by
  rw[←hr s s0 s1 (by grind) (by grind)]
  have m:=agW (a:=p.y-q.y) (b:=(abg v w s).x-q.x) (by grind)
  have:otQ q p (abg v w s)= -((p.y-q.y)*((abg v w s).x-q.x)):=by unfold otQ;rw[s2];grind
  rw[this]
  generalize (p.y-q.y)*((abg v w s).x-q.x)=z at*
  constructor
  ·intro k;have:=m.2 (by grind);grind
  ·intro k;have:=m.1 (by grind);grind
 have fv:axy q p v=if r=true then bI (v.y≤p.y)-bI (v.y≤q.y) else 0:=by
  have h:=hr 0 (by decide) (by decide)
  rw[apZ] at h
  unfold axy bI
  by_cases h1:v.y≤p.y<;>by_cases h2:v.y≤q.y
  ·have: ¬q.y<v.y:=by grind
   simp[h1,h2,this]
  ·have h3:q.y<v.y:=by grind
   have:=h (by grind) h1
   simp only[h1,h2,h3,this]
   by_cases q:r=true<;>simp[q]
  ·exfalso;grind
  ·simp[h1,h2]
 have fw:axy q p w=if r=true then bI (w.y≤p.y)-bI (w.y≤q.y) else 0:=by
  have h:=hr 1 (by decide) (by decide)
  rw[atT] at h
  unfold axy bI
  by_cases h1:w.y≤p.y<;>by_cases h2:w.y≤q.y
  ·have: ¬q.y<w.y:=by grind
   simp[h1,h2,this]
  ·have h3:q.y<w.y:=by grind
   have:=h (by grind) h1
   simp only[h1,h2,h3,this]
   by_cases q:r=true<;>simp[q]
  ·exfalso;grind
  ·simp[h1,h2]
 rw[ep,eq,fv,fw]
 by_cases q:r=true
 ·simp only[if_pos q];omega
 ·simp only[if_neg q]
theorem aql{v w q p:PtQ}(hn:ahE v w q p)(hy:q.y=p.y):wnQ v w p=wnQ v w q:=by
 have key: ∀s,0≤s→s≤1→(abg v w s).y=p.y→(p.x<(abg v w s).x↔q.x<(abg v w s).x):=fun s s0 s1 s2=>by
  have no: ∀a b:Rat,a≤(abg v w s).x→(abg v w s).x<b→((a=q.x∧b=p.x)∨(a=p.x∧b=q.x))→False:=fun a b h1 h2 h3=>by
   obtain⟨a1,a2,a3⟩:=agl (a:=(abg v w s).x-a) (b:=b-a) (by grind) (by grind) (by grind)
   generalize ((abg v w s).x-a)/(b-a)=t at*
   rcases h3 with⟨e1,e2⟩|⟨e1,e2⟩
   ·refine hn s t s0 s1 a1 a2 ?_
    generalize hx:abg v w s=x at*
    obtain⟨X,Y⟩:=x
    unfold abg
    simp only[PtQ.mk.injEq] at*
    subst e1 e2
    constructor<;>grind
   ·refine hn s (1-t) s0 s1 (by grind) (by grind) ?_
    generalize hx:abg v w s=x at*
    obtain⟨X,Y⟩:=x
    unfold abg
    simp only[PtQ.mk.injEq] at*
    subst e1 e2
    constructor<;>grind
  constructor
  ·intro h
   by_cases k:q.x<(abg v w s).x
   ·exact k
   ·by_cases k2:(abg v w s).x=q.x
    ·exfalso
     refine hn s 0 s0 s1 (by decide) (by decide) ?_
     rw[apZ]
     generalize abg v w s=x at*
     obtain⟨X,Y⟩:=x;obtain⟨A,B⟩:=q
     simp only[PtQ.mk.injEq] at*
     exact⟨k2,by grind⟩
    ·exact(no p.x q.x (by grind) (by grind) (.inr ⟨rfl,rfl⟩)).elim
  ·intro h
   by_cases k:p.x<(abg v w s).x
   ·exact k
   ·by_cases k2:(abg v w s).x=p.x
    ·exfalso
     refine hn s 1 s0 s1 (by decide) (by decide) ?_
     rw[atT]
     generalize abg v w s=x at*
     obtain⟨X,Y⟩:=x;obtain⟨A,B⟩:=p
     simp only[PtQ.mk.injEq] at*
     exact⟨k2,s2⟩
    ·exact(no q.x p.x (by grind) (by grind) (.inl ⟨rfl,rfl⟩)).elim
 by_cases hc:(v.y≤p.y∧ ¬w.y≤p.y)∨(¬v.y≤p.y∧w.y≤p.y)
 ·obtain⟨s,s0,s1,s2⟩:=ai7 hc
  have uq: ∀t,(abg v w t).y=p.y→t=s:=fun t ht=>by
   rw[avN] at ht s2
   have h4:w.y-v.y≠0:=by grind
   have:=nM.1 (show(w.y-v.y)*(t-s)=0 by grind)
   rcases this with h5|h5
   ·exact absurd h5 h4
   ·grind
  rw[arZ (p:=p) (r:=p.x<(abg v w s).x) fun t _ _ ht=>by rw[uq t ht],arZ (p:=q) (r:=p.x<(abg v w s).x) fun t _ _ ht=>by rw[uq t (by rw[ht,hy])];exact(key s s0 s1 s2).symm,hy]
 ·unfold wnQ
  rw[hy]
  by_cases h1:v.y≤p.y<;>by_cases h2:w.y≤p.y<;>simp[h1,h2] at hc⊢
theorem ayx(q p:PtQ)(t:Rat):abg p q t=abg q p (1-t):=by unfold abg;simp only[PtQ.mk.injEq];constructor<;>grind
theorem ahE.symm{v w q p:PtQ}(h:ahE v w q p):ahE v w p q:=fun s t s0 s1 t0 t1 e=>h s (1-t) s0 s1 (by grind) (by grind) (by rw[e,ayx])
def wnN(r:List ZP)(p:PtQ):Nat→Int
 |0=>0
 |k+1=>wnN r p k+wnQ (r.getD k (0,0)).q (acD r k).q p
def ajW(r:List ZP)(q p:PtQ):Prop:= ∀k,k<r.length→ahE (r.getD k (0,0)).q (acD r k).q q p
theorem apx{r:List ZP}{q p:PtQ}(h:ajW r q p)(hy:q.y<p.y): ∀k,k<r.length→wnN r p k-wnN r q k=axy q p (r.getD 0 (0,0)).q-axy q p (r.getD k (0,0)).q
 |0,_=>by simp[wnN]
 |k+1,hk=>by
  have ih:=apx h hy k (by omega)
  have e:=alT (h k (by omega)) hy
  rw[agK (by omega)] at e
  rw[wnN,wnN,agK (by omega)]
  omega
theorem aw2{r:List ZP}{q p:PtQ}(h:ajW r q p)(hy:q.y<p.y):wnN r p r.length=wnN r q r.length:=by
 cases hr:r.length with
 |zero=>rfl
 |succ n=>
  have ih:=apx h hy n (by omega)
  have e:=alT (h n (by omega)) hy
  rw[ad4 (by omega)] at e
  rw[wnN,wnN,ad4 (by omega)]
  omega
theorem am9{r:List ZP}{q p:PtQ}(h:ajW r q p)(hy:q.y=p.y): ∀k,k≤r.length→wnN r p k=wnN r q k
 |0,_=>rfl
 |k+1,hk=>by rw[wnN,wnN,am9 h hy k (by omega),aql (h k (by omega)) hy]
theorem auE{r:List ZP}{q p:PtQ}(h:ajW r q p):wnN r p r.length=wnN r q r.length:=by
 by_cases h1:q.y<p.y
 ·exact aw2 h h1
 ·by_cases h2:p.y<q.y
  ·exact(aw2 (fun k hk=>(h k hk).symm) h2).symm
  ·exact am9 h (by grind) _ (aM _)
theorem art(a b c:PtQ):ag6 a b c=(otQ a b c).num.sign:=by
 unfold ag6 otQ PtQ.cross adk
 congr 2
 grind
theorem ayv(a b:Rat):abc a b≤0↔a≤b:=by
 have:=aim a b
 constructor
 ·intro h
  by_cases q:b<a
  ·have:=this.2 q;omega
  ·grind
 ·intro h
  by_cases q:0<abc a b
  ·have:=this.1 q;grind
  ·omega
theorem aBs(v w p:PtQ):arJ v w p=wnQ v w p:=by
 unfold arJ wnQ
 simp only[art,ac8,ahi,ayv]
theorem akV(r:List ZP)(p:PtQ): ∀k,aqC r p k=wnN r p k
 |0=>rfl
 |k+1=>by rw[aqC,wnN,akV r p k,aBs]
theorem asn{r:List ZP}{q p:PtQ}(h:ajW r q p):ant r p=ant r q:=by
 unfold ant;rw[akV,akV,auE h]
theorem ax8{v w p:PtQ}(h:v.y≤p.y)(k:w.y≤p.y):wnQ v w p=0:=by unfold wnQ;simp[h,k]
theorem aAR{v w p:PtQ}(h:p.y<v.y)(k:p.y<w.y):wnQ v w p=0:=by
 have h': ¬v.y≤p.y:=by grind
 have k': ¬w.y≤p.y:=by grind
 unfold wnQ;simp[h',k']
theorem aok{v w p:PtQ}(r:Bool)(h1:p.x<v.x↔r=true)(h2:p.x<w.x↔r=true)(h3:v.x<p.x↔r=false)(h4:w.x<p.x↔r=false):wnQ v w p=if r=true then bI (v.y≤p.y)-bI (w.y≤p.y) else 0:=by
 refine arZ (r:=r=true) fun s s0 s1 _=>?_
 have e:(abg v w s).x-p.x=(1-s)*(v.x-p.x)+s*(w.x-p.x):=by unfold abg;grind
 cases r with
 |true=>
  have a:=h1.2 rfl
  have b:=h2.2 rfl
  refine⟨fun _=>rfl,fun _=>?_⟩
  by_cases q:s=0
  ·subst q;grind
  ·have k1:=aap (show 0<s by grind) (show 0<w.x-p.x by grind)
   have k2:=aad (show 0≤1-s by grind) (show 0≤v.x-p.x by grind)
   grind
 |false=>
  have a:=h3.2 rfl
  have b:=h4.2 rfl
  refine⟨fun k=>?_,fun k=>(by cases k)⟩
  exfalso
  have k1:=aad (show 0≤s by grind) (show 0≤p.x-w.x by grind)
  have k2:=aad (show 0≤1-s by grind) (show 0≤p.x-v.x by grind)
  grind
def aDf(R:Rat)(p:PtQ):Prop:=p.x< -R∨R<p.x∨p.y< -R∨R<p.y
theorem avY{r:List ZP}{P:ZP→Prop}(h: ∀v∈r,P v){k:Nat}(hk:k<r.length):P (r.getD k (0,0)):=h _ (ags hk)
theorem ays{r:List ZP}{R:Rat}{p:PtQ}(hr: ∀v∈r, -R≤v.q.x∧v.q.x≤R∧ -R≤v.q.y∧v.q.y≤R)(hp:aDf R p):wnN r p r.length=0:=by
 have hv: ∀k,k<r.length→_:=fun k hk=>avY hr hk
 have hw: ∀k,k<r.length→_:=fun k hk=>hr _ (agp hk)
 have zero:(∀k,k<r.length→wnQ (r.getD k (0,0)).q (acD r k).q p=0)→ ∀k,k≤r.length→wnN r p k=0:=fun h=>by
  intro k
  induction k with
  |zero=>intro _;rfl
  |succ k ih=>intro hk;rw[wnN,ih (by omega),h k (by omega)];rfl
 rcases hp with h|h|h|h
 ·have tele: ∀k,k<r.length→wnN r p k=bI ((r.getD 0 (0,0)).q.y≤p.y)-bI ((r.getD k (0,0)).q.y≤p.y):=by
   intro k
   induction k with
   |zero=>intro _;rw[wnN];omega
   |succ k ih=>
    intro hk
    have e:=aok (v:=(r.getD k (0,0)).q) (w:=(acD r k).q) (p:=p) true (by have:=hv k (by omega);constructor<;>grind) (by have:=hw k (by omega);constructor<;>grind) (by have:=hv k (by omega);constructor<;>grind) (by have:=hw k (by omega);constructor<;>grind)
    rw[if_pos rfl,agK (by omega)] at e
    rw[wnN,ih (by omega),agK (by omega),e]
    omega
  cases hr':r.length with
  |zero=>rfl
  |succ n=>
   have e:=aok (v:=(r.getD n (0,0)).q) (w:=(acD r n).q) (p:=p) true (by have:=hv n (by omega);constructor<;>grind) (by have:=hw n (by omega);constructor<;>grind) (by have:=hv n (by omega);constructor<;>grind) (by have:=hw n (by omega);constructor<;>grind)
   rw[if_pos rfl,ad4 (by omega)] at e
   rw[wnN,tele n (by omega),ad4 (by omega),e]
   omega
 ·refine zero (fun k hk=>?_) _ (aM _)
  have e:=aok (v:=(r.getD k (0,0)).q) (w:=(acD r k).q) (p:=p) false (by have:=hv k (by omega);constructor<;>grind) (by have:=hw k (by omega);constructor<;>grind) (by have:=hv k (by omega);constructor<;>grind) (by have:=hw k (by omega);constructor<;>grind)
  rw[e,if_neg (by decide)]
 ·exact zero (fun k hk=>aAR (by have:=hv k hk;grind) (by have:=hw k hk;grind)) _ (aM _)
 ·exact zero (fun k hk=>ax8 (by have:=hv k hk;grind) (by have:=hw k hk;grind)) _ (aM _)
/-! the reference's inner point -/
theorem ag4{l:LnQ}: ∀{c:List LnQ} {v:IvQ},(aca l c v).2=true→ab1 l c v=some (aca l c v).1
 |[],v,_=>rfl
 |m::t,v,h=>by
  rw[aca] at h⊢
  rw[ab1]
  split
  ·rename_i e;rw[if_pos e] at h;exact ag4 h
  ·rename_i e
   rw[if_neg e] at h
   split
   ·rename_i k;rw[if_pos k] at h;exact ag4 h
   ·rename_i k;rw[if_neg k] at h;cases h
theorem anJ{v:IvQ}(h:v.Pos):v.ins (abB v):=by
 obtain⟨lo,hi,nl,nh⟩:=v
 unfold IvQ.Pos at h
 unfold abB IvQ.ins
 cases nl<;>cases nh<;>simp at* <;>grind
theorem aj4{p v:PtQ}: ∀{c:List LnQ} {s:Rat},0<s→0<afX p v c s∧afX p v c s≤s∧ ∀m∈c,0<m.value p→m.nor.dot v<0→afX p v c s≤ -(m.value p/m.nor.dot v)/2
 |[],s,h=>⟨h,fR,fun m hm=>by cases hm⟩
 |m::t,s,h=>by
  have hk:m.value (adk p v ((1:Int):Rat))-m.value p=m.nor.dot v:=by rw[abL];grind
  have key:0<ab3 p v m s∧ab3 p v m s≤s∧(0<m.value p→m.nor.dot v<0→ab3 p v m s≤ -(m.value p/m.nor.dot v)/2):=by
   unfold ab3 alb
   simp only[hk,abN,ac8,afa]
   split
   ·rename_i e;exact⟨h,fR,fun _ k=>by rw[e] at k;exact absurd k (by decide)⟩
   ·split
    ·rename_i e;exact⟨h,fR,fun k=>by rw[e] at k;exact absurd k (by decide)⟩
    ·split
     ·rename_i e
      split
      ·exact⟨by grind,by grind,fun _ _=>fR⟩
      ·exact⟨h,fR,fun _ _=>by grind⟩
     ·rename_i e
      exact⟨h,fR,fun k1 k2=>absurd (ap8 k2 k1) e⟩
  obtain⟨a1,a2,a3⟩:=key
  obtain⟨b1,b2,b3⟩:=aj4 (p:=p) (v:=v) (c:=t) a1
  rw[afX]
  refine⟨b1,by grind,fun u hu k1 k2=>?_⟩
  rcases aS.1 hu with rfl|hu
  ·have:=a3 k1 k2;grind
  ·exact b3 u hu k1 k2
theorem ayF{c:List LnQ}{p v:PtQ}(h: ∀m∈c,0<m.value p∨(m.value p=0∧0<m.nor.dot v)):InL c (aqG c p v):=fun m hm=>by
 obtain⟨s0,_,s2⟩:=aj4 (p:=p) (v:=v) (c:=c) (s:=((1:Int):Rat)) (by decide)
 unfold aqG
 generalize afX p v c ((1:Int):Rat)=s at*
 rw[abL]
 rcases h m hm with k|⟨k,k2⟩
 ·by_cases q:m.nor.dot v<0
  ·have h3:=s2 m hm k q
   have h4:=ap8 q k
   have e:m.value p/m.nor.dot v*m.nor.dot v=m.value p:=by grind
   generalize m.value p/m.nor.dot v=z at*
   have h5:=aad (a:= -z/2-s) (b:= -m.nor.dot v) (by grind) (by grind)
   grind
  ·have:=aad (dR s0) (show 0≤m.nor.dot v by grind)
   grind
 ·have:=aap s0 k2
  grind
theorem av2{m:LnQ}(h:m.Ne):0<m.nor.dot (agS m.dir):=by
 have:=afM h
 have e:m.nor.dot (agS m.dir)=m.nor.dot m.nor:=by unfold agS LnQ.dir LnQ.nor PtQ.dot;grind
 rw[e];exact this
theorem asb{c:List LnQ}(hok: ∀m∈c,m.ok)(hb:abY c=true):InL c (abV c c):=by
 have key: ∀t:List LnQ,(∀m∈t,m∈c)→(∃m∈t,(ab1 m c IvQ.all).isSome=true)→InL c (abV c t):=by
  intro t
  induction t with
  |nil=>rintro _ ⟨m,hm,_⟩;cases hm
  |cons m t ih=>
   intro hs hx
   rw[abV]
   split
   ·rename_i e
    obtain⟨h1,h2⟩:=ad6 m c _ _ afT (ag4 e)
    have h3:=((h2 _).1 (anJ h1)).2
    have hmo:=(hok m (hs m aZ)).ne
    refine ayF fun u hu=>?_
    by_cases q:u=m
    ·subst q;exact .inr ⟨adY hmo _,av2 hmo⟩
    ·exact .inl (h3 u hu q)
   ·rename_i e
    refine ih (fun u hu=>hs u (aK _ hu)) ?_
    obtain⟨u,hu,h⟩:=hx
    rcases aS.1 hu with rfl|hu
    ·rw[ady] at e;exact absurd h e
    ·exact⟨u,hu,h⟩
 unfold abY at hb
 rw[gU,List.isEmpty_iff,jL] at hb
 rcases hb with rfl|⟨m,hm,h⟩
 ·exact fun m hm=>by cases hm
 ·exact key c (fun _ h=>h) ⟨m,hm,h⟩
/-! open convex sets of lines -/
theorem InL.seg{c:List LnQ}{q p:PtQ}{e:Rat}(hq:InL c q)(hp:InL c p)(h0:0≤e)(h1:e≤1):InL c (abg q p e):=fun m hm=>by
 rw[acw]
 have a:=hq m hm
 have b:=hp m hm
 by_cases z:e=0
 ·subst z;grind
 ·have k1:=aap (show 0<e by grind) b
  have k2:=aad (show 0≤1-e by grind) (dR a)
  grind
theorem InL.open{c:List LnQ}{q:PtQ}(u:PtQ)(h:InL c q): ∃e:Rat,0<e∧ ∀d,0≤d→d≤e→InL c (adk q u d):=by
 have hd:InD (c.map fun m=>(⟨m,IvQ.all⟩:FrQ)) q:=fun s hs=>by
  obtain⟨m,hm,rfl⟩:=bW.1 hs
  exact h m hm
 obtain⟨e,he,ho⟩:=hd.open u
 exact⟨e,he,fun d d0 d1 m hm=>ho d d0 d1 ⟨m,IvQ.all⟩ (gS hm)⟩
/-! edges as fragments -/
theorem aor(l:LnQ)(t u:Rat):l.at (t+u)=adk (l.at t) l.dir u:=by
 rw[←agx,←agx];unfold adk;simp only[PtQ.mk.injEq];constructor<;>grind
theorem aCu(l:LnQ)(a b s:Rat):abg (l.at a) (l.at b) s=l.at (a+s*(b-a)):=by
 rw[←agx,←agx,←agx];unfold abg adk;simp only[PtQ.mk.injEq];constructor<;>grind
theorem aoP{l:LnQ}(h:l.Ne)(t:Rat):abp l (l.at t)=t:=by
 obtain⟨q,_,hq⟩:=amf h
 have h2:=afM h
 have e0:l.dir.dot l.dir=l.nor.dot l.nor:=by unfold LnQ.dir LnQ.nor PtQ.dot;grind
 have e1:(l.at t).dot l.dir=t*l.dir.dot l.dir:=by
  rw[←agx,hq];unfold adk LnQ.dir PtQ.dot;grind
 unfold abp
 rw[e1]
 rw[←e0] at h2
 generalize l.dir.dot l.dir=d at*
 have:d≠0:=by grind
 grind
theorem apP{l:LnQ}(h:l.Ne){p:PtQ}(hp:l.value p=0):l.at (abp l p)=p:=by
 obtain⟨t,rfl⟩:=avf h hp
 rw[aoP h]
theorem ay0(a:Int){g:Nat}(h:g∣a.natAbs):(g:Int)*zv (decide (a<0)) (a.natAbs/g)=a:=by
 obtain⟨k,hk⟩:=h
 by_cases g0:g=0
 ·subst g0;simp at hk⊢;omega
 have e:a.natAbs/g=k:=by rw[hk];exact Nat.mul_div_cancel_left k (iQ g0)
 rw[e]
 unfold zv
 have hc:((g*k:Nat):Int)=(g:Int)*(k:Int):=by push_cast;rfl
 by_cases n:a<0
 ·simp only[n,decide_true,if_true];rw[Int.mul_neg];omega
 ·simp only[n,decide_false];show(g:Int)*(k:Int)=a;omega
theorem azm{a b c:Int}(h: ¬(a=0∧b=0)): ∃g:Int,0<g∧g*(mkL a b c).a=a∧g*(mkL a b c).b=b∧g*(mkL a b c).c=c:=by
 have hg:0<Nat.gcd (Nat.gcd a.natAbs b.natAbs) c.natAbs:=nX _ (iQ fun e=>h ⟨lS.1 (mY e),lS.1 (mK e)⟩)
 refine⟨(Nat.gcd (Nat.gcd a.natAbs b.natAbs) c.natAbs:Nat),by omega,?_,?_,?_⟩
 ·exact ay0 a (Nat.dvd_trans (lU _ _) (lU _ _))
 ·exact ay0 b (Nat.dvd_trans (lU _ _) (mX _ _))
 ·exact ay0 c (mX _ _)
theorem avu{v w:ZP}(h:v≠w): ∃g:Rat,0<g∧(alI v.1 v.2 w.1 w.2).value v.q=0∧(alI v.1 v.2 w.1 w.2).value w.q=0∧w.q=adk v.q (alI v.1 v.2 w.1 w.2).dir g:=by
 obtain⟨m,n⟩:=v
 obtain⟨p,q⟩:=w
 have hne: ¬(aof n q=0∧anW m p=0):=fun e=>h (by unfold aof anW at e;rw[Prod.mk.injEq];omega)
 obtain⟨g,g0,ga,gb,gc⟩:=azm (c:=aun m n p q) hne
 dsimp only
 unfold alI
 generalize mkL (aof n q) (anW m p) (aun m n p q)=l at*
 have g0':(0:Rat)<(g:Rat):=by exact_mod_cast g0
 have ra:(g:Rat)*(l.a:Rat)= -((q:Rat)-(n:Rat)):=by rw[←cV,ga];unfold aof;push_cast;grind
 have rb:(g:Rat)*(l.b:Rat)=(p:Rat)-(m:Rat):=by rw[←cV,gb];unfold anW;push_cast;grind
 have rc:(g:Rat)*(l.c:Rat)= -(-((q:Rat)-(n:Rat))*(m:Rat)+((p:Rat)-(m:Rat))*(n:Rat)):=by rw[←cV,gc];unfold aun aof anW;push_cast;grind
 have z: ∀x:Rat,(g:Rat)*x=0→x=0:=fun x hx=>by
  rcases nM.1 hx with e|e
  ·rw[e] at g0';exact absurd g0' (by decide)
  ·exact e
 refine⟨g,g0',z _ ?_,z _ ?_,?_⟩
 ·rw[acN];unfold ZP.q iP;dsimp only;grind
 ·rw[acN];unfold ZP.q iP;dsimp only;grind
 ·unfold ZP.q iP adk LnQ.dir;simp only[PtQ.mk.injEq];constructor<;>grind
theorem azg{v w:ZP}(h:v≠w)(ho:(aeS v w).l.ok):(aeS v w).l.at (aeS v w).v.lo=v.q∧(aeS v w).l.at (aeS v w).v.hi=w.q∧(aeS v w).v.lo<(aeS v w).v.hi:=by
 obtain⟨g,g0,h1,h2,h3⟩:=avu h
 unfold aeS at ho⊢
 dsimp only at ho⊢
 generalize alI v.1 v.2 w.1 w.2=l at*
 have e1:=apP ho.ne h1
 have e2:=apP ho.ne h2
 refine⟨e1,e2,?_⟩
 have:abp l w.q=abp l v.q+g:=by
  have e3:=aor l (abp l v.q) g
  rw[e1,←h3] at e3
  rw[←e3,aoP ho.ne]
 rw[this];grind
theorem ajQ{r:List ZP}{k:Nat}: ∀{n:Nat},k<n→aeS (r.getD k (0,0)) (acD r k)∈afh r n
 |n+1,h=>by
  rw[afh]
  by_cases e:k=n
  ·subst e;exact cW _ (aY.2 rfl)
  ·exact cX _ (ajQ (by omega))
theorem awb{r:List ZP}(hr:aaT r){c:List LnQ}(hc: ∀e∈acC r,∀t,e.v.ins t→ ¬InL c (e.l.at t)){q p:PtQ}(hq:InL c q)(hp:InL c p):ajW r q p:=fun k hk s t s0 s1 t0 t1 he=>by
 have hm:aeS (r.getD k (0,0)) (acD r k)∈acC r:=ajQ hk
 have ho:=((ah7 hr).2 _ hm).ok
 obtain⟨e1,e2,e3⟩:=azg (hr.ne k hk) ho
 have hno:=hc _ hm
 have hx:=hq.seg hp t0 t1
 rw[←he,←e1,←e2,aCu] at hx
 have hv: ∀u,(aeS (r.getD k (0,0)) (acD r k)).v.lo<u→u<(aeS (r.getD k (0,0)) (acD r k)).v.hi→ ¬InL c ((aeS (r.getD k (0,0)) (acD r k)).l.at u):=fun u h1 h2=>hno u ⟨.inr h1, .inr h2⟩
 generalize aeS (r.getD k (0,0)) (acD r k)=e at*
 have hb:=aD5 s0 s1 (fR) (dR e3) (dR e3) (fR)
 generalize e.v.lo+s*(e.v.hi-e.v.lo)=u at*
 obtain⟨d,d0,hd⟩:=hx.open e.l.dir
 obtain⟨d',d0',hd'⟩:=hx.open (ajC e.l.dir)
 by_cases h1:e.v.lo<u
 ·by_cases h2:u<e.v.hi
  ·exact hv u h1 h2 hx
  ·have eu:u=e.v.hi:=by grind
   obtain⟨z,z0,z1,z2⟩: ∃z:Rat,0<z∧z≤d'∧z<e.v.hi-e.v.lo:=by
    by_cases k:d'<(e.v.hi-e.v.lo)/2
    ·exact⟨d',d0',fR,by grind⟩
    ·exact⟨(e.v.hi-e.v.lo)/2,by grind,by grind,by grind⟩
   refine hv (u+ -z) (by grind) (by grind) ?_
   rw[aor]
   have:=hd' z (dR z0) z1
   have e5:adk (e.l.at u) (ajC e.l.dir) z=adk (e.l.at u) e.l.dir (-z):=by unfold adk ajC;simp only[PtQ.mk.injEq];constructor<;>grind
   rw[e5] at this;exact this
 ·have eu:u=e.v.lo:=by grind
  obtain⟨z,z0,z1,z2⟩: ∃z:Rat,0<z∧z≤d∧z<e.v.hi-e.v.lo:=by
   by_cases k:d<(e.v.hi-e.v.lo)/2
   ·exact⟨d,d0,fR,by grind⟩
   ·exact⟨(e.v.hi-e.v.lo)/2,by grind,by grind,by grind⟩
  refine hv (u+z) (by grind) (by grind) ?_
  rw[aor]
  exact hd z (dR z0) z1
theorem auQ{rs:List (List ZP)}{fill:Int}(hr: ∀r∈rs,aaT r){c:List LnQ}(hc: ∀e∈abQ rs,∀t,e.v.ins t→ ¬InL c (e.l.at t)){q p:PtQ}(hq:InL c q)(hp:InL c p):inR rs fill q=inR rs fill p:=by
 have key: ∀(rs:List (List ZP)),(∀r∈rs,aaT r)→(∀e∈abQ rs,∀t,e.v.ins t→ ¬InL c (e.l.at t))→ ∀n:Int,rs.foldl (fun n r=>n+ant r q) n=rs.foldl (fun n r=>n+ant r p) n:=by
  intro rs
  induction rs with
  |nil=>intro _ _ n;rfl
  |cons r t ih=>
   intro hr hc n
   rw[kK,kK,←asn (awb (hr r aZ) (fun e he=>hc e (fN.2 ⟨r,aZ,he⟩)) hq hp)]
   exact ih (fun r h=>hr r (aK _ h)) (fun e he=>hc e (by obtain⟨r,h1,h2⟩:=fN.1 he;exact fN.2 ⟨r,aK _ h1,h2⟩)) _
 unfold inR
 rw[key rs hr hc]
/-! the spans that the reference combines -/
theorem amG{cuts:List Rat}(h:cuts.Pairwise (· < ·)){i j:Nat}(hij:i<j)(hj:j<cuts.length):cuts.getD i 0<cuts.getD j 0:=by
 rw[aX,aX,aQ hj,aQ (by omega)]
 exact oM.1 h i j (by omega) hj hij
theorem akX{cuts:List Rat}{marks:List Bool}(h:cuts.Pairwise (· < ·)): ∀{k:Nat},∀v∈ach cuts marks (k+1),k<cuts.length→(v.nh=false∧v.hi≤cuts.getD k 0)∧(v.nl=true∨v.lo<cuts.getD k 0)
 |k,v,hv,hk=>by
  have hg:((adG cuts k).nh=false∧(adG cuts k).hi≤cuts.getD k 0)∧((adG cuts k).nl=true∨(adG cuts k).lo<cuts.getD k 0):=by
   unfold adG
   dsimp only
   refine⟨⟨by simp;omega,by rw[if_pos hk];exact fR⟩,?_⟩
   by_cases z:k=0
   ·left;simp[z]
   ·right;rw[if_neg z];exact amG h (by omega) hk
  have hold: ∀v∈ach cuts marks k,(v.nh=false∧v.hi≤cuts.getD k 0)∧(v.nl=true∨v.lo<cuts.getD k 0):=fun v hv=>by
   cases k with
   |zero=>cases hv
   |succ k=>
    have ih:=akX h v hv (by omega)
    have:=amG h (Nat.lt_succ_self k) hk
    exact⟨⟨ih.1.1,by have:=ih.1.2;grind⟩,ih.2.imp id fun z=>by grind⟩
  rw[ach] at hv
  split at hv
  ·split at hv
   ·split at hv
    ·rename_i w hw
     rcases bS.1 hv with q|q
     ·exact hold v ((qT _).subset q)
     ·rw[aY] at q;subst q
      exact⟨hg.1,(hold w (mJ hw)).2⟩
    ·rcases bS.1 hv with q|q
     ·exact hold v q
     ·rw[aY] at q;subst q;exact hg
   ·rcases bS.1 hv with q|q
    ·exact hold v q
    ·rw[aY] at q;subst q;exact hg
  ·exact hold v hv
theorem anr{cuts:List Rat}{marks:List Bool}(h:cuts.Pairwise (· < ·)){x:Rat}{i:Nat}(hm:marks.getD i false=true)(hx:(adG cuts i).ins x): ∀{k:Nat},k≤cuts.length+1→i<k→ ∃v∈ach cuts marks k,v.ins x
 |k+1,hk,hi=>by
  by_cases e:i=k
  ·subst e
   rw[ach,if_pos hm]
   split
   ·rename_i h0
    split
    ·rename_i w hw
     refine⟨_,cW _ (aY.2 rfl),?_,hx.2⟩
     obtain⟨j,rfl⟩: ∃j,i=j+1:=⟨i-1,by omega⟩
     have:=(akX h w (mJ hw) (by omega)).2
     have hl:=hx.1
     unfold adG at hl
     dsimp only at hl
     rw[if_neg (by omega),show j+1-1=j by omega] at hl
     have hl':cuts.getD j 0<x:=hl.resolve_left (by simp)
     exact this.imp id fun z=>by show w.lo<x;grind
    ·exact⟨_,cW _ (aY.2 rfl),hx⟩
   ·exact⟨_,cW _ (aY.2 rfl),hx⟩
  ·obtain⟨v,hv,hvx⟩:=anr h hm hx (k:=k) (by omega) (by omega)
   rw[ach]
   split
   ·split
    ·split
     ·rename_i w hw
      by_cases q:v=w
      ·subst q
       refine⟨_,cW _ (aY.2 rfl),hvx.1,?_⟩
       show(adG cuts k).nh=true∨x<(adG cuts k).hi
       obtain⟨j,rfl⟩: ∃j,k=j+1:=⟨k-1,by omega⟩
       obtain⟨⟨b1,b2⟩,_⟩:=akX h v hv (by omega)
       have hh:=hvx.2.resolve_left (by rw[b1];decide)
       unfold adG
       dsimp only
       by_cases z:j+1<cuts.length
       ·right;rw[if_pos z];have:=amG h (Nat.lt_succ_self j) z;grind
       ·left;simp;omega
      ·refine⟨v,cX _ ?_,hvx⟩
       obtain⟨l,hl⟩:=List.getLast?_eq_some_iff.1 hw
       rw[hl] at hv⊢
       rw[List.dropLast_concat]
       rcases bS.1 hv with z|z
       ·exact z
       ·rw[aY] at z;exact absurd z q
     ·exact⟨v,cX _ hv,hvx⟩
    ·exact⟨v,cX _ hv,hvx⟩
   ·exact⟨v,hv,hvx⟩
theorem aoR: ∀{l:List Rat} {i:Nat},i+1<l.length→(adB l).getD i 0=(l.getD i 0+l.getD (i+1) 0)/2
 |[],_,h=>by simp at h
 |[_],_,h=>by simp at h
 |a::b::t,0,_=>by simp[adB]
 |a::b::t,i+1,h=>by
  have:=aoR (l:=b::t) (i:=i) (by simp at h⊢;omega)
  rw[adB,kX,this]
  simp only[kX]
theorem ahV: ∀(l:List Rat) (a:Rat),(adB (a::l)).length=l.length
 |[],_=>rfl
 |b::t,a=>by rw[adB,bU,ahV t b,bU]
theorem avO{cuts:List Rat}(h:cuts.Pairwise (· < ·)){i j:Nat}(hi:i≤cuts.length)(hj:j<cuts.length):(cuts.getD j 0<(abU cuts).getD i 0↔j<i)∧cuts.getD j 0≠(abU cuts).getD i 0:=by
 have mono: ∀{a b:Nat},a≤b→b<cuts.length→cuts.getD a 0≤cuts.getD b 0:=fun{a b} hab hb=>by
  by_cases e:a=b
  ·subst e;exact fR
  ·exact dR (amG h (by omega) hb)
 cases cuts with
 |nil=>simp at hj
 |cons a t=>
  have hl:(a::t).length=t.length+1:=rfl
  rw[abU]
  cases i with
  |zero=>
   rw[rW]
   have:=mono (aR j) hj
   rw[rW] at this
   constructor
   ·constructor
    ·intro q;exfalso;grind
    ·intro q;omega
   ·intro q;grind
  |succ i=>
   rw[kX]
   by_cases e:i<t.length
   ·have e1:(adB (a::t)++[(a::t).getLast (by simp)+1]).getD i 0=((a::t).getD i 0+(a::t).getD (i+1) 0)/2:=by
     rw[←aoR (by omega),aX,aX,gL (by rw[ahV];exact e)]
    rw[e1]
    have h1:=amG h (Nat.lt_succ_self i) (by omega)
    by_cases q:j≤i
    ·have:=mono q (by omega)
     constructor
     ·exact⟨fun _=>by omega,fun _=>by grind⟩
     ·grind
    ·have:=mono (show i+1≤j by omega) hj
     constructor
     ·exact⟨fun _=>by exfalso;grind,fun _=>by omega⟩
     ·grind
   ·have ei:i=t.length:=by omega
    have e1:(adB (a::t)++[(a::t).getLast (by simp)+1]).getD i 0=(a::t).getLast (by simp)+1:=by
     rw[aX,iT (by rw[ahV];omega),ahV,ei];simp
    rw[e1]
    have:=aq2 h (by simp) ((a::t).getD j 0) (by rw[aX,aQ hj];exact cZ _)
    constructor
    ·exact⟨fun _=>by omega,fun _=>by grind⟩
    ·grind
theorem am7(x:Rat): ∀{cuts:List Rat},cuts.Pairwise (· < ·)→ ∃i,i≤cuts.length∧ ∀j,j<cuts.length→(cuts.getD j 0<x↔j<i)
 |[],_=>⟨0,aM _,fun j hj=>by simp at hj⟩
 |a::t,h=>by
  rw[bM] at h
  by_cases q:a<x
  ·obtain⟨i,h1,h2⟩:=am7 x h.2
   refine⟨i+1,by simp;exact h1,fun j hj=>?_⟩
   cases j with
   |zero=>simp[q]
   |succ j=>rw[kX,h2 j (by simpa using hj)];omega
  ·refine⟨0,aR _,fun j hj=>⟨fun k=>?_,fun k=>by omega⟩⟩
   exfalso
   cases j with
   |zero=>simp at k;grind
   |succ j=>
    rw[kX] at k
    have hj':j<t.length:=by simpa using hj
    have:=h.1 (t.getD j 0) (by rw[aX,aQ hj'];exact cZ _)
    grind
theorem apl{out:List Rat}{s:IvQ}{y:Rat}:y∈amH out s↔y∈out∨(s.nl=false∧y=s.lo)∨(s.nh=false∧y=s.hi):=by
 unfold amH
 cases e1:s.nl<;>cases e2:s.nh<;>simp[acy]<;>grind
theorem ar5{v:IvQ}{x:Rat}:ace [v] x=true↔v.ins x:=by
 unfold ace aum aum IvQ.ins
 have h1:=aim x v.lo
 have h2:=afa x v.hi
 rw[decide_eq_true_eq]
 cases e1:v.nl<;>cases e2:v.nh<;>simp only[if_true,iY,if_false,false_or,true_or,h1,h2,and_true,true_and,show(0:Int)<1 from by decide,show(-1:Int)<0 from by decide]<;>grind
theorem atw{cuts:List Rat}{v:IvQ}(hl:v.nl=true∨v.lo∈cuts)(hh:v.nh=true∨v.hi∈cuts){x g:Rat}(ho: ∀u∈cuts,(u<x↔u<g)∧u≠x∧u≠g)(h:v.ins x):v.ins g:=by
 refine⟨?_,?_⟩
 ·rcases hl with e|e
  ·exact .inl e
  ·rcases h.1 with k|k
   ·exact .inl k
   ·exact .inr ((ho _ e).1.1 k)
 ·rcases hh with e|e
  ·exact .inl e
  ·rcases h.2 with k|k
   ·exact .inl k
   ·obtain⟨a,b,c⟩:=ho _ e
    right
    by_cases q:v.hi<g
    ·have:=a.2 q;grind
    ·grind
theorem avL{v w:IvQ}{t:Rat}(hv:v.ins t)(hw:w.ins t): ∃z∈ag7 2 [v] [w],z.ins t:=by
 have hmem: ∀y,y∈acY ([v]++[w])↔((v.nl=false∧y=v.lo)∨(v.nh=false∧y=v.hi))∨(w.nl=false∧y=w.lo)∨(w.nh=false∧y=w.hi):=fun y=>by
  show y∈amH (amH [] v) w↔_
  rw[apl,apl]
  simp
 have hasc:=(ag9 ([v]++[w])).1
 have h0: ∀u∈acY ([v]++[w]),u≠t:=fun u hu e=>by
  subst e
  rcases(hmem u).1 hu with(⟨a,b⟩|⟨a,b⟩)|⟨a,b⟩|⟨a,b⟩
  ·have:=hv.1.resolve_left (by rw[a];decide);grind
  ·have:=hv.2.resolve_left (by rw[a];decide);grind
  ·have:=hw.1.resolve_left (by rw[a];decide);grind
  ·have:=hw.2.resolve_left (by rw[a];decide);grind
 have l1:v.nl=true∨v.lo∈acY ([v]++[w]):=by
  cases e:v.nl with
  |true=>exact .inl rfl
  |false=>exact .inr ((hmem _).2 (.inl (.inl ⟨e,rfl⟩)))
 have l2:v.nh=true∨v.hi∈acY ([v]++[w]):=by
  cases e:v.nh with
  |true=>exact .inl rfl
  |false=>exact .inr ((hmem _).2 (.inl (.inr ⟨e,rfl⟩)))
 have l3:w.nl=true∨w.lo∈acY ([v]++[w]):=by
  cases e:w.nl with
  |true=>exact .inl rfl
  |false=>exact .inr ((hmem _).2 (.inr (.inl ⟨e,rfl⟩)))
 have l4:w.nh=true∨w.hi∈acY ([v]++[w]):=by
  cases e:w.nh with
  |true=>exact .inl rfl
  |false=>exact .inr ((hmem _).2 (.inr (.inr ⟨e,rfl⟩)))
 unfold ag7 amC
 generalize acY ([v]++[w])=cuts at*
 obtain⟨i,hi,ho⟩:=am7 t hasc
 have hord: ∀u∈cuts,(u<t↔u<(abU cuts).getD i 0)∧u≠t∧u≠(abU cuts).getD i 0:=fun u hu=>by
  obtain⟨j,hj,e⟩:=rZ.1 hu
  have e':cuts.getD j 0=u:=by rw[aX,aQ hj];exact e
  obtain⟨g1,g2⟩:=avO hasc hi hj
  have:=ho j hj
  rw[e'] at g1 g2 this
  exact⟨this.trans g1.symm,h0 u hu,g2⟩
 have hlen:(abU cuts).length=cuts.length+1:=ae7
 refine anr hasc (i:=i) ?_ ?_ (by rw[aJ,hlen];exact aM _) (by rw[aJ,hlen];omega)
 ·rw[aX,dZ,aQ (by omega)]
  show af5 2 (ace [v] _) (ace [w] _)=true
  have e:(abU cuts)[i]'(by omega)=(abU cuts).getD i 0:=by rw[aX,aQ (by omega)];rfl
  rw[e,ar5.2 (atw l1 l2 hord hv),ar5.2 (atw l3 l4 hord hw)];rfl
 ·unfold adG IvQ.ins
  dsimp only
  refine⟨?_,?_⟩
  ·by_cases z:i=0
   ·left;simp[z]
   ·right;rw[if_neg z];exact(ho (i-1) (by omega)).2 (by omega)
  ·by_cases z:i=cuts.length
   ·left;simp[z]
   ·right
    rw[if_pos (by omega)]
    have a:=ho i (by omega)
    have b:=h0 (cuts.getD i 0) (by rw[aX,aQ (by omega)];exact cZ _)
    have c: ¬cuts.getD i 0<t:=fun k=>by have:=a.1 k;omega
    grind
/-! splitting -/
theorem al9{l m:LnQ}(h:crossI l m=0):l.cutK m=0:=by
 have e:l.cutK m= -(crossI l m:Rat):=by unfold LnQ.cutK LnQ.nor LnQ.dir PtQ.dot crossI;push_cast;grind
 rw[e,h];rfl
theorem awk{k:Rat}{side:Int}(hs:side=1∨side= -1)(h:0<(side:Rat)*k):k.num.sign=side:=by
 rcases hs with rfl|rfl
 ·exact(agZ k).2 (by grind)
 ·have:k.num.sign<0:=(ahi k).2 (by grind)
  have:=rY k.num
  omega
theorem atr{f:FrQ}{m:LnQ}{side:Int}(hs:side=1∨side= -1)(hl:f.l.Ne){t:Rat}(ht:f.v.ins t)(hm:0<(side:Rat)*m.value (f.l.at t)): ∃g∈aaV f m side,g.l=f.l∧g.v.ins t:=by
 have hv:=ab7 f.l m t
 have ho: ¬onB f.l m=true:=fun e=>by
  unfold onB at e
  rw[decide_eq_true_eq,abN] at e
  rw[al9 e.1,show f.l.cutC m=m.value f.l.base from rfl,e.2] at hv
  rw[hv] at hm
  grind
 unfold aaV
 rw[if_neg ho]
 have hh: ∃w,adw f.l m side=[w]∧w.ins t:=by
  unfold adw
  by_cases hc:crossI f.l m=0
  ·rw[if_pos hc]
   rw[al9 hc,show f.l.cutC m=m.value f.l.base from rfl] at hv
   rw[if_pos (awk hs (by rw[hv] at hm;grind))]
   exact⟨_,rfl,ayH t⟩
  ·rw[if_neg hc]
   have hp:=aec hl hc
   have hK:f.l.cutK m≠0:=fun e=>by
    have e2:f.l.cutK m= -(crossI f.l m:Rat):=by unfold LnQ.cutK LnQ.nor LnQ.dir PtQ.dot crossI;push_cast;grind
    rw[e2] at e
    have:(crossI f.l m:Rat)=0:=by grind
    exact hc (cR.1 this)
   generalize hx:abp f.l (abH f.l m)=x at*
   have hv2: ∀u,m.value (f.l.at u)=f.l.cutK m*(u-x):=fun u=>by rw[ab7,hp];grind
   rw[hv2] at hm
   have e1:m.value (f.l.at (x+1))=f.l.cutK m:=by rw[hv2];grind
   rw[e1]
   generalize f.l.cutK m=K at*
   by_cases q:K.num.sign=side
   ·rw[if_pos q]
    refine⟨_,rfl, .inr ?_, .inl rfl⟩
    show x<t
    rcases hs with rfl|rfl
    ·have:=(agZ K).1 q
     have:=(agW this).1 (show 0<K*(t-x) by grind)
     grind
    ·have:=(ahi K).1 (by omega)
     have:=(akB this).1 (show K*(t-x)<0 by grind)
     grind
   ·rw[if_neg q]
    refine⟨_,rfl, .inl rfl, .inr ?_⟩
    show t<x
    have h3:=acO K
    rcases hs with rfl|rfl
    ·have kn:K<0:=by
      rcases h3 with h|h|h
      ·exact absurd h hK
      ·exact absurd ((agZ K).2 h) q
      ·exact h
     have:=(akB kn (b:=x-t)).1 (by grind)
     grind
    ·have kp:0<K:=by
      rcases h3 with h|h|h
      ·exact absurd h hK
      ·exact h
      ·exact absurd (by have:=(ahi K).2 h;have:=rY K.num;omega) q
     have:=(agW kp (b:=x-t)).1 (by grind)
     grind
 obtain⟨w,e,hw⟩:=hh
 rw[e]
 obtain⟨z,hz,hzt⟩:=avL ht hw
 exact⟨⟨f.l,z⟩,gS hz,rfl,hzt⟩
def Cov(E:List FrQ)(c:List LnQ)(l:List FrQ):Prop:= ∀e∈E,∀t,e.v.ins t→InL c (e.l.at t)→ ∃f∈l,f.l=e.l∧f.v.ins t
theorem Cov.split{E l:List FrQ}{c:List LnQ}(h:Cov E c l)(hE: ∀e∈E,e.l.Ne){m:LnQ}{side:Int}(hs:side=1∨side= -1){m':LnQ}(hm': ∀p,m'.value p=(side:Rat)*m.value p):Cov E (c++[m']) (l.flatMap fun g=>aaV g m side):=fun e he t ht hin=>by
 obtain⟨h1,h2⟩:=abx.1 hin
 obtain⟨f,hf,ef,hft⟩:=h e he t ht h1
 rw[hm'] at h2
 obtain⟨g,hg,eg,hgt⟩:=atr (f:=f) hs (by rw[ef];exact hE e he) hft (by rw[ef];exact h2)
 exact⟨g,fN.2 ⟨f,hf,hg⟩,by rw[eg,ef],hgt⟩
theorem anB{acc:PtQ→Bool}{E:List FrQ}(hE: ∀e∈E,e.l.Ne)(ha: ∀(c:List LnQ) (q p:PtQ),(∀e∈E,∀t,e.v.ins t→ ¬InL c (e.l.at t))→InL c q→InL c p→acc q=acc p): ∀{n:Nat} {l:List FrQ} {c:List LnQ} {p:PtQ},(∀f∈l,FOk f)→Few n l→(∀m∈c,m.ok)→Cov E c l→InL c p→Off (ajy acc n l c).lns p→(ajy acc n l c).val p=acc p
 |n,[],c,p,_,_,hc,hcov,hp,_=>by
  have e:ajy acc n [] c= .leaf (acc (abV c c)):=by cases n<;>rfl
  rw[e,Tr.val]
  exact ha c _ _ (fun e he t ht hin=>by obtain⟨f,hf,_⟩:=hcov e he t ht hin;cases hf) (asb hc ((aej hc).2 ⟨p,hp⟩)) hp
 |0,f::t,_,_,_,hf,_,_,_,_=>by
  obtain⟨K,hK,hs⟩:=hf
  obtain⟨m,hm,_⟩:=hs f aZ
  have:K=[]:=bY (by omega)
  rw[this] at hm;cases hm
 |n+1,f::t,c,p,hok,hf,hc,hcov,hp,hoff=>by
  have fo:=hok f aZ
  have hok': ∀side,∀g∈(f::t).flatMap fun g=>aaV g f.l side,FOk g:=fun side g hg=>by
   obtain⟨q,hq,hg⟩:=fN.1 hg
   exact(ah4 (hok q hq) fo.lb g hg).1
  rw[ajy] at hoff⊢
  by_cases q:0<f.l.value p
  ·rw[Tr.val_pos q]
   exact anB hE ha (hok' 1) (hf.split hok) (abR hc fo.ok) (hcov.split hE (.inl rfl) fun p=>by grind) (abx.2 ⟨hp,q⟩) hoff.x
  ·rw[Tr.val_neg q]
   have:=hoff.l
   exact anB hE ha (hok' (-1)) (hf.split hok) (abR hc fo.ok.rev) (hcov.split hE (.inr rfl) fun p=>by rw[aaW];grind) (abx.2 ⟨hp,by rw[aaW];grind⟩) hoff.y
theorem asf{rs:List (List ZP)}{fill:Int}(hr: ∀r∈rs,aaT r){p:PtQ}(ho:Off (ay8 rs fill).lns p):(ada rs fill).val p=inR rs fill p:=by
 obtain⟨h1,h2⟩:=acx hr
 have hok:(ay8 rs fill).all LnQ.ok:=aet fun f hf=>(h2 f hf).ok
 unfold ada
 rw[Tr.val_restrict _ _ _ hok aa9.nil (fun s hs=>by cases hs) ho]
 unfold ay8 at ho⊢
 refine anB (E:=abQ rs) (fun e he=>(h2 e he).ok.ne) (fun c q p hno hq hp=>auQ hr hno hq hp) h2 ?_ (fun m hm=>by cases hm) (fun e he t ht _=>⟨e,he,rfl,ht⟩) (fun m hm=>by cases hm) ho
 exact⟨(abQ rs).map (·.l),by rw[aJ];exact aM _,fun f hf=>⟨f.l,gS hf, .inl rfl⟩⟩
/-! bounded regions -/
def aFB(t:Tr):Prop:= ∃(L:List LnQ) (R:Rat),(∀l∈L,l.ok)∧ ∀p,Off L p→aDf R p→t.val p=false
theorem awK(fill:Int):awF fill 0=false:=by
 unfold awF
 simp
theorem ayD{rs:List (List ZP)}{fill:Int}(hr: ∀r∈rs,aaT r){p:PtQ}(hp:aDf 100 p):inR rs fill p=false:=by
 have key: ∀(rs:List (List ZP)),(∀r∈rs,aaT r)→rs.foldl (fun n r=>n+ant r p) (0:Int)=0:=by
  intro rs
  induction rs with
  |nil=>intro _;rfl
  |cons r t ih=>
   intro hr
   have e:ant r p=0:=by
    unfold ant
    rw[akV]
    refine ays (R:=100) (fun v hv=>?_) hp
    obtain⟨h1,h2⟩:=(hr r aZ).le v hv
    have c: ∀z:Int,z.natAbs≤100→ -(100:Rat)≤(z:Rat)∧(z:Rat)≤100:=fun z hz=>by
     have a:((-100:Int):Rat)≤(z:Rat):=Rat.intCast_le_intCast.2 (by omega)
     have b:(z:Rat)≤((100:Int):Rat):=Rat.intCast_le_intCast.2 (by omega)
     exact⟨a,b⟩
    exact⟨(c _ h1).1,(c _ h1).2,(c _ h2).1,(c _ h2).2⟩
   rw[kK,e]
   exact ih fun r h=>hr r (aK _ h)
 unfold inR
 rw[key rs hr,awK]
theorem azo{rs:List (List ZP)}{fill:Int}(hr: ∀r∈rs,aaT r):(ay8 rs fill).all LnQ.ok:=aet fun f hf=>((acx hr).2 f hf).ok
theorem asE{rs:List (List ZP)}{fill:Int}(hr: ∀r∈rs,aaT r):aFB (ada rs fill):=
 ⟨(ay8 rs fill).lns,100,axk (azo hr),fun p ho hp=>by rw[asf hr ho,ayD hr hp]⟩
theorem aAa{A:Rat}(hA:A≠0)(B:Rat): ∃N:Rat,0≤N∧ ∀n,N≤n→A+n*B≠0:=by
 by_cases hB:B=0
 ·exact⟨0,by decide,fun n _=>by rw[hB];grind⟩
 ·have e:A/B*B=A:=by grind
  generalize A/B=q at*
  refine⟨if 0≤ -q then-q+1 else 0,by split<;>grind,fun n hn h=>?_⟩
  have h2:B*(q+n)=0:=by grind
  rcases nM.1 h2 with k|k
  ·exact hB k
  ·split at hn<;>grind
theorem ayX{L:List LnQ}{p d:PtQ}(h:Off L p): ∃N:Rat,0≤N∧ ∀n,N≤n→Off L (adk p d n):=by
 induction L with
 |nil=>exact⟨0,by decide,fun n _ l hl=>by cases hl⟩
 |cons l L ih=>
  obtain⟨N,n0,hN⟩:=ih (h.sub fun m hm=>aK _ hm)
  obtain⟨M,m0,hM⟩:=aAa (h l aZ) (l.nor.dot d)
  refine⟨N+M,by grind,fun n hn m hm=>?_⟩
  rcases aS.1 hm with rfl|hm
  ·rw[abL];exact hM n (by grind)
  ·exact hN n (by grind) m hm
theorem ak2{a:Rat}(ha:0<a)(x R:Rat): ∃N:Rat,0≤N∧ ∀n,N≤n→R<x+n*a:=by
 have e:(R-x)/a*a=R-x:=by grind
 generalize (R-x)/a=q at*
 refine⟨if 0≤q then q+1 else 0,by split<;>grind,fun n hn=>?_⟩
 have h2:=aap (show 0<n-q by split at hn<;>grind) ha
 grind
theorem azF{p d:PtQ}(hd:d≠⟨0,0⟩)(R:Rat): ∃N:Rat,0≤N∧ ∀n,N≤n→aDf R (adk p d n):=by
 obtain⟨x,y⟩:=d
 rcases acO x with h|h|h
 ·rcases acO y with k|k|k
  ·exact absurd (by rw[h,k]) hd
  ·obtain⟨N,n0,hN⟩:=ak2 k p.y R
   exact⟨N,n0,fun n hn=> .inr (.inr (.inr (hN n hn)))⟩
  ·obtain⟨N,n0,hN⟩:=ak2 (a:= -y) (by grind) (-p.y) R
   exact⟨N,n0,fun n hn=> .inr (.inr (.inl (by have:=hN n hn;show p.y+n*y< -R;grind)))⟩
 ·obtain⟨N,n0,hN⟩:=ak2 h p.x R
  exact⟨N,n0,fun n hn=> .inr (.inl (hN n hn))⟩
 ·obtain⟨N,n0,hN⟩:=ak2 (a:= -x) (by grind) (-p.x) R
  exact⟨N,n0,fun n hn=> .inl (by have:=hN n hn;show p.x+n*x< -R;grind)⟩
theorem avI{c:aag}(hc:aa9 c)(h:agQ c=false): ∃d:PtQ,d≠⟨0,0⟩∧ ∀u∈c,0≤u.l.nor.dot d:=by
 unfold agQ at h
 cases c with
 |nil=>exact⟨⟨1,0⟩,by simp,fun u hu=>by cases hu⟩
 |cons s0 c0=>
  have h':((s0::c0).all fun s=>!s.v.nl&&!s.v.nh)=false:=by simpa using h
  rw[List.all_eq_false] at h'
  obtain⟨s,hs,hv⟩:=h'
  have hne:s.l.dir≠⟨0,0⟩:=fun e=>awX (hc.ok s hs) (by rw[e];decide)
  cases nh:s.v.nh with
  |true=>exact⟨s.l.dir,hne,asZ hc hs nh⟩
  |false=>
   have nl:s.v.nl=true:=by simpa[nh] using hv
   refine⟨ajC s.l.dir,fun e=>hne ?_,fun u hu=>?_⟩
   ·unfold ajC at e
    generalize s.l.dir=d at*
    obtain⟨x,y⟩:=d
    simp only[PtQ.mk.injEq] at*
    constructor<;>grind
   ·have:=asc hc hs nl u hu
    unfold ajC PtQ.dot at*
    grind
theorem asr{t:Tr}(ht:t.all LnQ.ok)(hb:aFB t):(aaS t).all agQ=true:=by
 rw[eX]
 intro c hc
 obtain⟨hg,hv⟩:=afm ht aa9.nil (afx.1 hc)
 cases hq:agQ c with
 |true=>rfl
 |false=>
  exfalso
  obtain⟨L,R,h1,h2⟩:=hb
  obtain⟨d,d0,hd⟩:=avI hg hq
  obtain⟨p,hp,ho⟩:=aCT hg L h1
  obtain⟨N,n0,hN⟩:=ayX (d:=d) ho
  obtain⟨M,m0,hM⟩:=azF (p:=p) d0 R
  have hin:InD c (adk p d (N+M)):=fun s hs=>by
   rw[abL]
   have a:=hp s hs
   have b:=aad (show 0≤N+M by grind) (hd s hs)
   grind
  have:=(hv _ hin).2
  rw[h2 _ (hN _ (by grind)) (hM _ (by grind))] at this
  cases this
theorem al7{rs:List (List ZP)}{fill:Int}(h: ∀r∈rs,aaT r)(hn:rs.length≤2):ahs 12 (ada rs fill):=by
 obtain⟨h1,h2⟩:=acx h
 exact((at5 h2 rfl).restrict []).mono (by omega)
def aFq(es:List Int):Nat→Nat→Tr×Nat
 |0,a=>adb es a
 |d+1,a=>
  let k:=aaf es 3 a
  if(k.1:Int)=0 then
   let x:=aFq es d k.2
   let o:=aaf es 4 x.2
   let y:=aFq es d o.2
   (x.1.mergeQ (1+(o.1:Int)) y.1 [],y.2)
  else adb es k.2
end Go.Sx
end
