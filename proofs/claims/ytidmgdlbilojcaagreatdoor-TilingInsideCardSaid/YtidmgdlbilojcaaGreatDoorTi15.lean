import Derived.Test.YtidmgdlbilojcaaGreatDoorTi14
set_option linter.unusedSimpArgs false
set_option maxHeartbeats 4000000
set_option maxRecDepth 100000
set_option linter.unusedVariables false
section
namespace Go.Sx
open Go Go.Proofs Tryz
variable {GB:Gh}
theorem aeD: ∀{t:Tr} {c:aah} {b:Bool} {e:aah},t.all LnQ.ok→aaT c→(b,e)∈t.parts c→aaT e∧ ∀p,InD e p→InD c p∧t.val p=b
 | .leaf v,c,b,e,_,hc,h=>by
  rw[Tr.parts,aY] at h
  cases h
  exact⟨hc,fun p hp=>⟨hp,rfl⟩⟩
 | .node l x y,c,b,e,⟨hl,hx,hy⟩,hc,h=>by
  rw[Tr.parts] at h
  rcases bZ.1 h with h|h
  ·split at h
   ·rename_i hb
    obtain⟨k1,k2⟩:=aa0 hc hl hb
    obtain⟨m1,m2⟩:=aeD hx k1 h
    refine⟨m1,fun p hp=>?_⟩
    obtain⟨n1,n2⟩:=m2 p hp
    obtain⟨o1,o2⟩:=(k2 p).1 n1
    exact⟨o1,by rw[Tr.val_pos o2,n2]⟩
   ·cases h
  ·split at h
   ·rename_i hb
    obtain⟨k1,k2⟩:=aa0 hc hl.rev hb
    obtain⟨m1,m2⟩:=aeD hy k1 h
    refine⟨m1,fun p hp=>?_⟩
    obtain⟨n1,n2⟩:=m2 p hp
    obtain⟨o1,o2⟩:=(k2 p).1 n1
    rw[aaI] at o2
    exact⟨o1,by rw[Tr.val_neg (by grind),n2]⟩
   ·cases h
def aaL(t:Tr):List aah:=((t.parts []).filter (·.1)).map (·.2)
theorem adE{t:Tr}{e:aah}:e∈aaL t↔(true,e)∈t.parts []:=by
 unfold aaL
 simp
def aHr(l:LnQ)(p:PtQ):aah→Rat→Rat
 |[],f=>f
 |s::c,f=>aHr l p c (if Int.sign (s.l.nor.dot l.nor).num<0 then(if-(s.l.value p/s.l.nor.dot l.nor)<f then-(s.l.value p/s.l.nor.dot l.nor) else f) else f)
def aHF:aah→PtQ
 |[]=>⟨0,0⟩
 |s::c=>act (s.l.at s.v.sample) s.l.nor (aHr s.l (s.l.at s.v.sample) c 1*mkRat 1 2)
theorem aqc{v k:Rat}(hk:k<0)(hv:0<v):0< -(v/k):=by
 have e: -(v/k)* -k=v:=by grind
 exact(aai (k:= -k) (by grind)).1 (by rw[e];exact hv)
def af9:Tr→PtQ→PtQ→Bool×Bool
 | .leaf b,_,_=>(b,true)
 | .node l x y,p,v=>match (if(l.value p).num.sign=0 then(l.dir.cross v).num.sign else(l.value p).num.sign) with
  |1=>af9 x p v
  | -1=>af9 y p v
  |_=>(false,false)
theorem ab7(l:LnQ)(v:PtQ):l.dir.cross v=l.nor.dot v:=by
 unfold LnQ.dir LnQ.nor PtQ.cross PtQ.dot
 grind
def Gn(L:List LnQ)(p v:PtQ):Prop:= ∀l∈L,l.value p=0→l.nor.dot v≠0
theorem aD6{l:LnQ}{p v:PtQ}(h:l.value p=0→l.nor.dot v≠0): ∃e:Rat,0<e∧ ∀d,0<d→d≤e→(0<l.value (act p v d)↔0<l.value p∨(l.value p=0∧0<l.nor.dot v))∧(l.value (act p v d)<0↔l.value p<0∨(l.value p=0∧l.nor.dot v<0)):=by
 generalize hk:l.nor.dot v=k at*
 by_cases h0:l.value p=0
 ·have hk0:=h h0
  refine⟨1,by decide,fun d h1 _=>?_⟩
  rw[abc,hk,h0]
  rcases aaR k with e|e|e
  ·exact absurd e hk0
  ·have:=aab h1 e;grind
  ·have:=aab (a:=d) (b:= -k) h1 (by grind);grind
 ·have key: ∀w:Rat,0<w→ ∃e:Rat,0<e∧ ∀d,0<d→d≤e→ ∀j:Rat,(j=k∨j= -k)→0<w+d*j:=fun w hw=>by
   have hA: ∃A:Rat,0<A∧k≤A∧ -k≤A:=by
    rcases aaR k with e|e|e
    ·exact⟨1,by decide,by grind,by grind⟩
    ·exact⟨k,e,by grind,by grind⟩
    ·exact⟨-k,by grind,by grind,by grind⟩
   obtain⟨A,a1,a2,a3⟩:=hA
   refine⟨w/(2*A),?_,fun d d1 d2 j hj=>?_⟩
   ·have e1:w/(2*A)*(2*A)=w:=by grind
    exact(aai (k:=2*A) (by grind)).1 (by rw[e1];exact hw)
   ·have e1:w/(2*A)*(2*A)=w:=by grind
    generalize w/(2*A)=f at*
    have h1:=aac (a:=f-d) (b:=A) (by grind) (by grind)
    have h2:=aac (a:=d) (b:=A+j) (by grind) (by rcases hj with rfl|rfl<;>grind)
    grind
  rcases aaR (l.value p) with e|e|e
  ·exact absurd e h0
  ·obtain⟨f,f1,f2⟩:=key _ e
   refine⟨f,f1,fun d d1 d2=>?_⟩
   have:=f2 d d1 d2 k (.inl rfl)
   rw[abc,hk]
   grind
  ·obtain⟨f,f1,f2⟩:=key (-l.value p) (by grind)
   refine⟨f,f1,fun d d1 d2=>?_⟩
   have:=f2 d d1 d2 (-k) (.inr rfl)
   rw[abc,hk]
   grind
theorem al7: ∀{t:Tr} {p v:PtQ},Gn t.lns p v→ ∃e:Rat,0<e∧ ∀d,0<d→d≤e→Off t.lns (act p v d)∧af9 t p v=(t.val (act p v d),true)
 | .leaf b,p,v,_=>⟨1,by decide,fun d _ _=>⟨fun l hl=>(by cases hl),rfl⟩⟩
 | .node l x y,p,v,h=>by
  obtain⟨e1,a1,b1⟩:=aD6 (h l aZ)
  obtain⟨e2,a2,b2⟩:=al7 (t:=x) (p:=p) (v:=v) (fun m hm=>h m (aJ _ (bU _ hm)))
  obtain⟨e3,a3,b3⟩:=al7 (t:=y) (p:=p) (v:=v) (fun m hm=>h m (aJ _ (bM _ hm)))
  have hgn:=h l aZ
  have hm: ∃e:Rat,0<e∧e≤e1∧e≤e2∧e≤e3:=by
   by_cases h1:e1≤e2
   ·by_cases h2:e1≤e3
    ·exact⟨e1,a1,by grind,h1,h2⟩
    ·exact⟨e3,a3,by grind,by grind,by grind⟩
   ·by_cases h2:e2≤e3
    ·exact⟨e2,a2,by grind,by grind,h2⟩
    ·exact⟨e3,a3,by grind,by grind,by grind⟩
  obtain⟨e,h0,h1,h2,h3⟩:=hm
  refine⟨e,h0,fun d d1 d2=>?_⟩
  obtain⟨c1,c2⟩:=b1 d d1 (by grind)
  obtain⟨o2,w2⟩:=b2 d d1 (by grind)
  obtain⟨o3,w3⟩:=b3 d d1 (by grind)
  have hs:(if(l.value p).num.sign=0 then(l.dir.cross v).num.sign else(l.value p).num.sign)=if 0<l.value (act p v d) then 1 else-1:=by
   rw[ab7]
   by_cases hz:l.value p=0
   ·rw[if_pos ((abx _).2 hz)]
    split
    ·rename_i hp
     exact(acN _).2 (by rcases c1.1 hp with k|k;exact absurd k (by grind);exact k.2)
    ·rename_i hp
     have:l.nor.dot v<0:=by have:=hgn hz;have: ¬0<l.nor.dot v:=fun e=>hp (c1.2 (.inr ⟨hz,e⟩));grind
     exact Int.sign_eq_neg_one_iff_neg.2 (by have:=(ael _).2 this;rcases lQ (l.nor.dot v).num 0 with q|q|q;exact q;rw[q] at this;simp at this;rw[dS q] at this;simp at this)
   ·rw[if_neg (fun e=>hz ((abx _).1 e))]
    split
    ·rename_i hp
     exact(acN _).2 (by rcases c1.1 hp with k|k;exact k;exact absurd k.1 hz)
    ·rename_i hp
     have:l.value p<0:=by have: ¬0<l.value p:=fun e=>hp (c1.2 (.inl e));grind
     exact Int.sign_eq_neg_one_iff_neg.2 (by have:=(ael _).2 this;rcases lQ (l.value p).num 0 with q|q|q;exact q;rw[q] at this;simp at this;rw[dS q] at this;simp at this)
  have hz:l.value (act p v d)≠0:=fun e=>by
   rcases aaR (l.value p) with q|q|q
   ·rcases aaR (l.nor.dot v) with r|r|r
    ·exact hgn q r
    ·have:=c1.2 (.inr ⟨q,r⟩);grind
    ·have:=c2.2 (.inr ⟨q,r⟩);grind
   ·have:=c1.2 (.inl q);grind
   ·have:=c2.2 (.inl q);grind
  refine⟨fun m hm=>?_,?_⟩
  ·rcases aU.1 hm with rfl|hm
   ·exact hz
   ·exact(bZ.1 hm).elim (o2 m) (o3 m)
  ·rw[af9,hs]
   by_cases hp:0<l.value (act p v d)
   ·rw[if_pos hp,Tr.val_pos hp];exact w2
   ·rw[if_neg hp,Tr.val_neg hp];exact w3
def ePa(x:Bool×aah):DV:= .ag [.sl (x.2.map eFr),eU (.leaf x.1)]
theorem aCU(l:List (Bool×aah)):adn 2 (l.map ePa):=fun d hd=>by
 obtain⟨x,_,rfl⟩:=bJ.1 hd
 exact⟨rfl,rfl⟩
theorem afr: ∀(t:Tr) (c:aah),(t.parts c).length≤t.size+1
 | .leaf _,_=>aM _
 | .node l x y,c=>by
  have h1:=afr x (aaP c l)
  have h2:=afr y (aaP c l.rev)
  rw[Tr.parts,aV,Tr.size]
  split<;>split<;>(try simp only[fU])<;>omega
theorem ayv{q:Rat}{i:Nat}[h:BQ q i](hi:i≤900000000:=by decide):PF GB prog 40 [eF q] (eR q):=by
 refine fn func40 J J ntmps40 J J (fun C=>?_)
 refine cl rfl (aov (q:=q) (i:=i) hi) rfl<|cl rfl (aj0 (q:=q) (i:=i) hi) rfl<|?_
 exact rz J J
theorem at7{p:PtQ}{i:Nat}[h:BPt p i](hi:i≤900000000:=by decide):PF GB prog 69 [eZ p] (ePt p):=by
 refine fn func69 J J ntmps69 J J (fun C=>?_)
 refine cl rfl (ayv (q:=p.x) (i:=i) hi) rfl<|cl rfl (ayv (q:=p.y) (i:=i) hi) rfl<|?_
 exact rz J J
theorem amP{b:Bool}{c:aah}{o:List (Bool×aah)}(hs:o.length≤1000000):PB GB prog 166 (mkB [some (eU (.leaf b)),some (.sl (c.map eFr)),none]) 2 106 (o.map ePa) (fun w=> .v (.slice w.a w.n w.c)) ((o++Tr.parts (.leaf b) c).map ePa):=by
 refine fnQ func166 J J ntmps166 J J (fun C=>?_)
 refine cl (fu:=⟨0⟩) rfl adj rfl<|?_
 refine kbT 12 rfl ?_
 refine gx rfl<|rf J J<|apB ((o++[(b,c)]).map ePa) rfl (by rw[bV]<;>rfl) (aCU [(b,c)]) rfl<|?_
 exact rzQ J J J J
theorem amK{l:LnQ}{x y:Tr}{c:aah}{o:List (Bool×aah)}(hl:LB l)(hlo:l.ok)(hc:abQ c)(hn:c.length+(Tr.node l x y).depth≤100000)(hs:o.length+((Tr.node l x y).size+1)≤1000000)(ihx: ∀{c:aah} {o:List (Bool×aah)},abQ c→c.length+x.depth≤100000→o.length+(x.size+1)≤1000000→PB GB prog 166 (mkB [some (eU x),some (.sl (c.map eFr)),none]) 2 106 (o.map ePa) (fun w=> .v (.slice w.a w.n w.c)) ((o++Tr.parts x c).map ePa))(ihy: ∀{c:aah} {o:List (Bool×aah)},abQ c→c.length+y.depth≤100000→o.length+(y.size+1)≤1000000→PB GB prog 166 (mkB [some (eU y),some (.sl (c.map eFr)),none]) 2 106 (o.map ePa) (fun w=> .v (.slice w.a w.n w.c)) ((o++Tr.parts y c).map ePa)):PB GB prog 166 (mkB [some (eU (.node l x y)),some (.sl (c.map eFr)),none]) 2 106 (o.map ePa) (fun w=> .v (.slice w.a w.n w.c)) ((o++Tr.parts (.node l x y) c).map ePa):=by
 have hk1:=aez c l
 have hk2:=aez c l.rev
 have hd:(Tr.node l x y).depth=1+max x.depth y.depth:=rfl
 have hz:(Tr.node l x y).size=1+x.size+y.size:=rfl
 have hp:=afr x (aaP c l)
 refine fnQ func166 J J ntmps166 J J (fun C=>?_)
 refine cl (fu:=⟨0⟩) rfl acS rfl<|?_
 refine kbF 12 rfl ?_
 refine gx rfl<|cl rfl (arb hlo hc (by omega)) rfl<|?_
 refine bb J J J (fun hc30=>?_) (fun hc30=>?_)
 ·
  have hs2:(o++x.parts (aaP c l)).length+(y.size+1)≤1000000:=by rw[aV];omega
  refine cq ((o++x.parts (aaP c l)).map ePa) rfl (ihx (agp hlo hc) (by omega) (by omega)) J J<|?_
  refine bb J J J (fun hc38=>?_) (fun hc38=>?_)
  ·
   refine cq _ rfl (ihy (agp hlo.rev hc) (by omega) (by first|exact hs2|omega)) J J<|?_
   exact rzQ J J J (by simp[Tr.parts,hc30,hc38])
  ·
   exact rzQ J J J (by simp[Tr.parts,hc30,hc38])
 ·
  refine bb J J J (fun hc38=>?_) (fun hc38=>?_)
  ·
   refine cq _ rfl (ihy (agp hlo.rev hc) (by omega) (by first|exact hs2|omega)) J J<|?_
   exact rzQ J J J (by simp[Tr.parts,hc30,hc38])
  ·
   exact rzQ J J J (by simp[Tr.parts,hc30,hc38])
theorem aoF: ∀{t:Tr} {c:aah} {o:List (Bool×aah)},t.all LB→t.all LnQ.ok→abQ c→c.length+t.depth≤100000→o.length+(t.size+1)≤1000000→PB GB prog 166 (mkB [some (eU t),some (.sl (c.map eFr)),none]) 2 106 (o.map ePa) (fun w=> .v (.slice w.a w.n w.c)) ((o++Tr.parts t c).map ePa)
 | .leaf _,_,_,_,_,_,_,hs=>amP (by simp only[Tr.size] at hs;omega)
 | .node _ _ _,_,_,hb,ho,hc,hn,hs=>amK hb.1 ho.1 hc hn hs (fun k1 k2 k3=>aoF hb.2.1 ho.2.1 k1 k2 k3) (fun k1 k2 k3=>aoF hb.2.2 ho.2.2 k1 k2 k3)
theorem axT{t:Tr}(hb:t.all LB)(ho:t.all LnQ.ok)(hd:t.depth≤100000)(hs:t.size≤900000):PB GB prog 166 (mkB [some (eU t),some (.sl []),none]) 2 106 [] (fun w=> .v (.slice w.a w.n w.c)) ((t.parts []).map ePa):=
 aoF (c:=[]) (o:=[]) hb ho abQ.nil (by rw[fU];omega) (by rw[fU];omega)
def eC(c:aah):DV:= .sl (c.map eFr)
theorem aGV(l:List aah):adn 1 (l.map eC):=fun d hd=>by
 obtain⟨x,_,rfl⟩:=bJ.1 hd
 exact⟨rfl,rfl⟩
def anR(ps:List (Bool×aah)):List aah:=(ps.filter (·.1)).map (·.2)
theorem ajw{ps:List (Bool×aah)}{k:Nat}{b:Bool}{e:aah}(h:ps[k]? =some (b,e)):anR (ps.drop k)=(if b then [e] else [])++anR (ps.drop (k+1)):=by
 obtain⟨h1,h2⟩:=aL.1 h
 rw[bQ h1,h2]
 unfold anR
 cases b<;>simp
theorem azP{t:Tr}(hb:t.all LB)(ho:t.all LnQ.ok)(hd:t.depth≤100000)(hs:t.size≤900000):PF GB prog 103 [eU t] (.sl ((t.parts []).map ePa)):=by
 refine fn func103 J J ntmps103 J J (fun C=>?_)
 refine cqn _ rfl (axT hb ho hd hs) J J<|?_
 refine fzE 4 rfl ?_
 exact rz J J
theorem atM{t:Tr}(hb:t.all LB)(ho:t.all LnQ.ok)(hd:t.depth≤100000)(hs:t.size≤900000):PF GB prog 133 [eU t] (.sl ((aaL t).map eC)):=by
 obtain⟨ps,hps⟩: ∃ps,ps=t.parts []:=⟨_,rfl⟩
 have hpl:=afr t []
 rw[←hps] at hpl
 have hml:(ps.map ePa).length=ps.length:=aK ..
 refine fn func133 J J ntmps133 J J (fun C=>?_)
 refine cl (fu:=⟨0⟩) rfl (azP hb ho hd hs) rfl<|?_
 refine eqF 7 (.d (.sl (ps.map ePa))) rfl (by rw[hps]) ?_
 refine gx (fu:=⟨1⟩) rfl<|?_
 refine eqF 8 (.d (vI (ps.length:Nat))) rfl (by rw[hml]<;>rfl) ?_
 refine gx rfl<|?_
 refine nr 3 3 103 1 J J J ?_
 refine lp (X:=List aah×Nat) (fun⟨acc,k⟩=>[(9, .d (vI (k:Nat))),(3, .rw 3)]) (fun⟨acc,k⟩=>[(3,some (.b 103 1 (acc.map eC) true))]) (fun⟨acc,k⟩=>acc++anR (ps.drop k)=aaL t∧k≤ps.length) (fun⟨acc,k⟩=>ps.length-k) ⟨[],0⟩ rfl ⟨by rw[hps];rfl,bX _⟩ (fun _=>rfl) (fun⟨acc,k⟩ hk=>?_)
 try dsimp only at hk⊢
 obtain⟨h1,h2⟩:=hk
 have hal:acc.length≤ps.length:=by
  have q1:=congrArg List.length h1
  have q2:(aaL t).length≤ps.length:=by unfold aaL;rw[aK,hps];exact pQ ..
  rw[aV] at q1;omega
 have ham:(acc.map eC).length=acc.length:=aK ..
 refine br J J J (fun hc10=>?_) (fun hc10=>?_)
 ·
  obtain⟨⟨b,e⟩,hx⟩: ∃x,ps[k]? =some x:=⟨_,aQ (by omega)⟩
  refine ix _ rfl (aaq hx) rfl<|?_
  refine bb J J J (fun hc17=>?_) (fun hc17=>?_)
  ·
   refine rf J J<|ap ((acc++[e]).map eC) rfl (by rw[bV]<;>rfl) (aGV [e]) rfl<|?_
   refine rnE 22 3 rfl ?_
   exact at_ ⟨acc++[e],k+1⟩ (by dsimp only;exact⟨⟨by rw[←h1,ajw hx,if_pos hc17];simp,by omega⟩,(by omega)⟩)
  ·
   exact at_ ⟨acc,k+1⟩ (by dsimp only;exact⟨⟨by rw[←h1,ajw hx,if_neg (by simp at hc17;rw[hc17];decide)];rfl,by omega⟩,(by omega)⟩)
 ·
  obtain rfl:k=ps.length:=by omega
  obtain rfl:acc=aaL t:=by rw[dR] at h1;simpa[anR] using h1
  refine fzE 3 rfl ?_
  exact rz J J
theorem aaM(p:PtQ):(p.half=1∧(0<p.y∨(p.y=0∧0<p.x)))∨(p.half=2∧(p.y<0∨(p.y=0∧p.x<0)))∨(p.half=0∧p.y=0∧p.x=0):=by
 unfold PtQ.half
 simp only[abW,ael,abx]
 split
 ·rename_i h;exact .inl ⟨rfl,h⟩
 ·rename_i h
  split
  ·rename_i h2
   exact .inr (.inl ⟨rfl,by grind⟩)
  ·rename_i h2
   exact .inr (.inr ⟨rfl,by grind,by grind⟩)
theorem abv{p:PtQ}:p.half=1↔(0<p.y∨(p.y=0∧0<p.x)):=by
 rcases aaM p with⟨h,k⟩|⟨h,k⟩|⟨h,k⟩<;>rw[h]<;>grind
theorem acz{p:PtQ}:p.half=2↔(p.y<0∨(p.y=0∧p.x<0)):=by
 rcases aaM p with⟨h,k⟩|⟨h,k⟩|⟨h,k⟩<;>rw[h]<;>grind
def Bef(u v:PtQ):Prop:=u.half<v.half∨(u.half=v.half∧0<u.cross v)
theorem acB{u v:PtQ}:aay u v<0↔Bef u v:=by
 unfold aay Bef
 split
 ·rename_i h;exact⟨fun _=> .inl h,fun _=>by decide⟩
 ·rename_i h
  split
  ·rename_i h2;exact⟨fun e=>absurd e (by decide),fun e=>by omega⟩
  ·rename_i h2
   have e:u.half=v.half:=by omega
   rw[←abW]
   constructor
   ·intro k;exact .inr ⟨e,by omega⟩
   ·rintro (k|⟨_,k⟩)
    ·omega
    ·omega
def abR(d:PtQ):PtQ:=⟨-d.x, -d.y⟩
theorem adA{d:PtQ}(h:d.half≠0):(abR d).half=3-d.half:=by
 rcases aaM d with⟨e,k⟩|⟨e,k⟩|⟨e,k⟩
 ·rw[e];exact acz.2 (by unfold abR;grind)
 ·rw[e];exact abv.2 (by unfold abR;grind)
 ·exact absurd e h
theorem aaY{d:PtQ}(h:d.half≠0):d.half=1∨d.half=2:=by
 rcases aaM d with⟨e,_⟩|⟨e,_⟩|⟨e,_⟩
 ·exact .inl e
 ·exact .inr e
 ·exact absurd e h
def Nxt(ds:List PtQ)(u w:PtQ):Prop:=(Bef u w∧ ∀d∈ds,¬(Bef u d∧Bef d w))∨((∀d∈ds,¬Bef u d)∧ ∀d∈ds,¬Bef d w)
structure ayy (ds:List PtQ):Prop where
 nz: ∀d∈ds,d.half≠0
 neg: ∀d∈ds,abR d∈ds
theorem akL(u:PtQ):u.cross u=0:=by unfold PtQ.cross;grind
theorem aal(u v:PtQ):v.cross u= -u.cross v:=by unfold PtQ.cross;grind
theorem aa5(u v:PtQ):u.cross (abR v)= -u.cross v:=by unfold PtQ.cross abR;grind
theorem Nxt.spec{ds:List PtQ}{u w:PtQ}(h:ayy ds)(hu:u∈ds)(hw:w∈ds)(hn:Nxt ds u w):
  (u.half=w.half∧0<u.cross w∧ ∀d∈ds,¬(Bef u d∧Bef d w))∨(u.half≠w.half∧(∀d∈ds,d.half=u.half→0≤d.cross u)∧ ∀d∈ds,d.half=w.half→0≤w.cross d):=by
 have zu:=aaY (h.nz u hu)
 have zw:=aaY (h.nz w hw)
 rcases hn with⟨h1,h2⟩|⟨h1,h2⟩
 ·rcases h1 with k|⟨k,k2⟩
  ·refine .inr ⟨by omega,fun d hd e=>?_,fun d hd e=>?_⟩
   ·have:=h2 d hd
    rw[aal]
    by_cases hc:0<u.cross d
    ·exact absurd ⟨.inr ⟨e.symm,hc⟩, .inl (by omega)⟩ this
    ·grind
   ·have:=h2 d hd
    by_cases hc:0<d.cross w
    ·exact absurd ⟨.inl (by omega), .inr ⟨e,hc⟩⟩ this
    ·rw[aal] at hc;grind
  ·exact .inl ⟨k,k2,h2⟩
 ·have nu:=adA (h.nz u hu)
  have a1:=h1 _ (h.neg u hu)
  have a2:=h2 _ (h.neg u hu)
  unfold Bef at a1 a2
  rw[nu] at a1 a2
  refine .inr ⟨fun e=>?_,fun d hd e=>?_,fun d hd e=>?_⟩
  ·rcases zu with z|z
   ·exact a1 (.inl (by omega))
   ·exact a2 (.inl (by omega))
  ·have:=h1 d hd
   rw[aal]
   by_cases hc:0<u.cross d
   ·exact absurd (.inr ⟨e.symm,hc⟩) this
   ·grind
  ·have:=h2 d hd
   by_cases hc:0<d.cross w
   ·exact absurd (.inr ⟨e,hc⟩) this
   ·rw[aal] at hc;grind
theorem Nxt.pos{ds:List PtQ}{u w:PtQ}(h:ayy ds)(hu:u∈ds)(hw:w∈ds)(hn:Nxt ds u w):0≤u.cross w:=by
 rcases hn.spec h hu hw with⟨_,h2,_⟩|⟨h1,h2,h3⟩
 ·grind
 ·have:=h3 _ (h.neg u hu) (by rw[adA (h.nz u hu)];have:=aaY (h.nz u hu);have:=aaY (h.nz w hw);omega)
  rw[aa5] at this
  rw[aal];exact this
def btw(a b:Rat)(u w:PtQ):PtQ:=⟨a*u.x+b*w.x,a*u.y+b*w.y⟩
theorem amZ{a b:Rat}{u w:PtQ}:u.cross (btw a b u w)=b*u.cross w∧(btw a b u w).cross w=a*u.cross w:=by
 unfold PtQ.cross btw
 constructor<;>grind
theorem ame{a b:Rat}{u w:PtQ}(ha:0<a)(hb:0<b)(h:u.half=w.half)(hz:u.half≠0):(btw a b u w).half=u.half:=by
 rcases aaM u with⟨e,k⟩|⟨e,k⟩|⟨e,k⟩
 ·rw[e] at h⊢
  have k2:=abv.1 h.symm
  refine abv.2 ?_
  unfold btw
  simp only
  have p1: ∀z:Rat,0<z→0<a*z:=fun z hz=>aab ha hz
  have p2: ∀z:Rat,0<z→0<b*z:=fun z hz=>aab hb hz
  rcases k with k|⟨k,k'⟩<;>rcases k2 with l|⟨l,l'⟩
  ·have:=p1 _ k;have:=p2 _ l;grind
  ·have:=p1 _ k;rw[l];grind
  ·have:=p2 _ l;rw[k];grind
  ·have:=p1 _ k';have:=p2 _ l';rw[k,l];grind
 ·rw[e] at h⊢
  have k2:=acz.1 h.symm
  refine acz.2 ?_
  unfold btw
  simp only
  have p1: ∀z:Rat,z<0→a*z<0:=fun z hz=>by have:=aab (a:=a) (b:= -z) ha (by grind);grind
  have p2: ∀z:Rat,z<0→b*z<0:=fun z hz=>by have:=aab (a:=b) (b:= -z) hb (by grind);grind
  rcases k with k|⟨k,k'⟩<;>rcases k2 with l|⟨l,l'⟩
  ·have:=p1 _ k;have:=p2 _ l;grind
  ·have:=p1 _ k;rw[l];grind
  ·have:=p2 _ l;rw[k];grind
  ·have:=p1 _ k';have:=p2 _ l';rw[k,l];grind
 ·exact absurd e hz
theorem Nxt.none{ds:List PtQ}{u w:PtQ}(h:ayy ds)(hu:u∈ds)(hw:w∈ds)(hn:Nxt ds u w)(hc:u.cross w≠0){a b:Rat}(ha:0<a)(hb:0<b):btw a b u w∉ds:=fun hd=>by
 have hp:=hn.pos h hu hw
 have hp:0<u.cross w:=by grind
 obtain⟨c1,c2⟩:=amZ (a:=a) (b:=b) (u:=u) (w:=w)
 have d1:0<u.cross (btw a b u w):=by rw[c1];exact aab hb hp
 have d2:0<(btw a b u w).cross w:=by rw[c2];exact aab ha hp
 have zu:=aaY (h.nz u hu)
 have zw:=aaY (h.nz w hw)
 have zd:=aaY (h.nz _ hd)
 rcases hn.spec h hu hw with⟨h1,_,h3⟩|⟨h1,h2,h3⟩
 ·have e:=ame ha hb h1 (h.nz u hu)
  exact h3 _ hd ⟨.inr ⟨e.symm,d1⟩, .inr ⟨e.trans h1,d2⟩⟩
 ·rcases(show(btw a b u w).half=u.half∨(btw a b u w).half=w.half by omega) with e|e
  ·have:=h2 _ hd e
   rw[aal] at this;grind
  ·have:=h3 _ hd e
   rw[aal] at this;grind
theorem aid{d e:PtQ}(h:e.cross d=0)(hp:0<e.dot d): ∃g:Rat,0<g∧e=⟨g*d.x,g*d.y⟩:=by
 have hd:0<d.dot d:=by
  unfold PtQ.dot at*
  have h1:=abu d.x
  have h2:=abu d.y
  rcases aaR d.x with k|k|k
  ·rcases aaR d.y with l|l|l
   ·rw[k,l] at hp;grind
   ·have:=aab l l;grind
   ·have:=aab (a:= -d.y) (b:= -d.y) (by grind) (by grind);grind
  ·have:=aab k k;grind
  ·have:=aab (a:= -d.x) (b:= -d.x) (by grind) (by grind);grind
 have key:e.x*d.dot d=e.dot d*d.x∧e.y*d.dot d=e.dot d*d.y:=by
  unfold PtQ.dot PtQ.cross at*
  constructor<;>grind
 have hg:e.dot d/d.dot d*d.dot d=e.dot d:=by grind
 refine⟨e.dot d/d.dot d,(aai hd).1 (by rw[hg];exact hp),?_⟩
 generalize e.dot d/d.dot d=g at*
 have x1:e.x=g*d.x:=by
  have:(e.x-g*d.x)*d.dot d=0:=by rw[←hg] at key;grind
  have hz:d.dot d≠0:=by grind
  grind
 have x2:e.y=g*d.y:=by
  have:(e.y-g*d.y)*d.dot d=0:=by rw[←hg] at key;grind
  have hz:d.dot d≠0:=by grind
  grind
 rw[←x1,←x2]
theorem aqt{e u:PtQ}(he:e.half≠0)(hu:u.half≠0)(hp:e.cross u=0):e.dot u≠0:=fun hz=>by
 have e1:e.x*(u.x*u.x+u.y*u.y)=0:=by unfold PtQ.dot PtQ.cross at*;grind
 have e2:e.y*(u.x*u.x+u.y*u.y)=0:=by unfold PtQ.dot PtQ.cross at*;grind
 have hu2:u.x*u.x+u.y*u.y≠0:=fun q=>by
  have h1:=abu u.x
  have h2:=abu u.y
  have x0:u.x=0:=by
   have:u.x*u.x=0:=by grind
   grind
  have y0:u.y=0:=by
   have:u.y*u.y=0:=by grind
   grind
  rcases aaM u with⟨_,q⟩|⟨_,q⟩|⟨q,_⟩
  ·grind
  ·grind
  ·exact hu q
 have x0:e.x=0:=by grind
 have y0:e.y=0:=by grind
 rcases aaM e with⟨_,q⟩|⟨_,q⟩|⟨q,_⟩
 ·grind
 ·grind
 ·exact he q
theorem Nxt.gen{ds:List PtQ}{u w:PtQ}(h:ayy ds)(hu:u∈ds)(hw:w∈ds)(hn:Nxt ds u w)(hc:u.cross w≠0){a b:Rat}(ha:0<a)(hb:0<b): ∀d∈ds,d.cross (btw a b u w)≠0:=fun d hd hz=>by
 have hp:=hn.pos h hu hw
 have hp:0<u.cross w:=by grind
 obtain⟨c1,c2⟩:=amZ (a:=a) (b:=b) (u:=u) (w:=w)
 have d1:0<u.cross (btw a b u w):=by rw[c1];exact aab hb hp
 -- of d and its opposite, one points the same way
 have key: ∀e∈ds,e.cross (btw a b u w)=0→0<e.dot (btw a b u w)→False:=fun e he h1 h2=>by
  obtain⟨g,g1,g2⟩:=aid h1 h2
  refine hn.none h hu hw hc (a:=g*a) (b:=g*b) (aab g1 ha) (aab g1 hb) ?_
  have:btw (g*a) (g*b) u w=e:=by rw[g2];unfold btw;simp only[PtQ.mk.injEq];constructor<;>grind
  rw[this];exact he
 rcases aaR (d.dot (btw a b u w)) with k|k|k
 ·-- both 0: then d is 0, or the other is
  have hnz:=h.nz d hd
  generalize btw a b u w=v at*
  have e1:d.x*(v.x*v.x+v.y*v.y)=0:=by unfold PtQ.dot PtQ.cross at*;grind
  have e2:d.y*(v.x*v.x+v.y*v.y)=0:=by unfold PtQ.dot PtQ.cross at*;grind
  have hv:v.x*v.x+v.y*v.y≠0:=fun e=>by
   have h1:=abu v.x
   have h2:=abu v.y
   have x0:v.x=0:=by have:v.x*v.x=0:=(by grind);grind
   have y0:v.y=0:=by have:v.y*v.y=0:=(by grind);grind
   unfold PtQ.cross at d1
   rw[x0,y0] at d1;grind
  have x0:d.x=0:=by grind
  have y0:d.y=0:=by grind
  rcases aaM d with⟨_,q⟩|⟨_,q⟩|⟨q,_⟩
  ·grind
  ·grind
  ·exact hnz q
 ·exact key d hd hz k
 ·refine key _ (h.neg d hd) ?_ ?_
  ·unfold PtQ.cross abR at*;grind
  ·unfold PtQ.dot abR at*;grind
theorem akg(d u:PtQ):d.cross (aem u)=d.dot u:=by unfold PtQ.cross aem PtQ.dot;grind
theorem Nxt.turn{ds:List PtQ}{u w:PtQ}(h:ayy ds)(hu:u∈ds)(hw:w∈ds)(hn:Nxt ds u w)(hc:u.cross w=0): ∀d∈ds,d.cross (aem u)≠0:=fun d hd=>by
 have zu:=aaY (h.nz u hu)
 have zw:=aaY (h.nz w hw)
 rw[akg]
 rcases hn.spec h hu hw with⟨_,h2,_⟩|⟨h1,h2,h3⟩
 ·rw[hc] at h2;exact absurd h2 (by decide)
 have par: ∀e∈ds,e.half=u.half→e.cross u=0:=fun e he k=>by
  have a1:=h2 e he k
  have a2:=h3 _ (h.neg e he) (by rw[adA (h.nz e he)];omega)
  rw[aa5] at a2
  -- w = -g u
  have hwu:w.cross u=0:=by rw[aal,hc];rfl
  have huw:w.dot u<0:=by
   rcases aaR (w.dot u) with k0|k0|k0
   ·exact absurd k0 (aqt (h.nz w hw) (h.nz u hu) hwu)
   ·obtain⟨g,g1,g2⟩:=aid hwu k0
    exfalso
    apply h1
    rcases aaM u with⟨x,q⟩|⟨x,q⟩|⟨x,q⟩
    ·rw[x]
     refine(abv.2 ?_).symm
     rw[g2]
     simp only
     rcases q with q|⟨q,q'⟩
     ·exact .inl (aab g1 q)
     ·exact .inr ⟨by rw[q];grind,aab g1 q'⟩
    ·rw[x]
     refine(acz.2 ?_).symm
     rw[g2]
     simp only
     rcases q with q|⟨q,q'⟩
     ·have:=aab (a:=g) (b:= -u.y) g1 (by grind);exact .inl (by grind)
     ·have:=aab (a:=g) (b:= -u.x) g1 (by grind);exact .inr ⟨by rw[q];grind,by grind⟩
    ·exact absurd x (h.nz u hu)
   ·exact k0
  obtain⟨g,g1,g2⟩:=aid (d:=u) (e:=abR w) (by unfold PtQ.cross abR at*;grind) (by unfold PtQ.dot abR at*;grind)
  have a3:0≤ -(g*e.cross u):=by
   have e1:w=⟨-(g*u.x), -(g*u.y)⟩:=by
    have:=congrArg abR g2
    unfold abR at this
    cases w
    simp only[Rat.neg_neg] at this
    exact this
   rw[e1] at a2
   unfold PtQ.cross at*
   grind
  by_cases hz:0<e.cross u
  ·have:=aab g1 hz;grind
  ·grind
 have nzd: ∀e∈ds,e.half=u.half→e.dot u≠0:=fun e he k=>aqt (h.nz e he) (h.nz u hu) (par e he k)
 by_cases k:d.half=u.half
 ·exact nzd d hd k
 ·have:=nzd _ (h.neg d hd) (by rw[adA (h.nz d hd)];have:=aaY (h.nz d hd);omega)
  unfold PtQ.dot abR at*
  grind
end Go.Sx
end
section
namespace Go.Sx
open Go
inductive OT where
 |z (π:List (Nat×Bool))
 |q (i:Nat) (t:OT)
 |a (i:Nat) (t:OT)
 |c (i:Nat) (t r:OT)
def OT.sz:OT→Nat
 | .z _=>0
 | .q _ t=>t.sz+1
 | .a _ t=>t.sz+1
 | .c _ t r=>t.sz+r.sz+1
def OT.d:OT→Nat
 | .z π=>π.length
 | .q _ t=>t.d+1
 | .a _ t=>t.d+1
 | .c _ t r=>Nat.max (t.d+1) r.d
section
variable {P:Program} {ops:Array Oper} {Q:Exit→Act→World→Prop} {S:World→Prop} {π₂:List (Nat×Bool)}
def dwN(P:Program)(ops:Array Oper)(Q:Exit→Act→World→Prop)(K:(World→Prop)→Act→World→Prop):List Nat→OT→(World→Prop)→Act→World→Prop
 |ks, .z π,S,a,w=>dwT P ops Q K ks π S a w
 |ks, .q i t,S,a,w=> ∃o v,ops[i]? =some o∧S w∧YieldsIf P ops S o v a∧dwN P ops Q K ks t S (a.put o.dst v) w
 |ks, .a i t,S,a,w=>wpOp P ops Q i (grS S (dwN P ops Q K ks t)) a w∧
   ∀j,(h:j∈ks)→wpOp P ops Q j (grS S (dwN P ops Q K (without ks j) (.a i t))) a w
 |ks, .c i t r,S,a,w=>wpOp P ops Q i (grS S (dwN P ops Q K ks t)) a w∧dwN P ops Q K ks r S a w∧
   ∀j,(h:j∈ks)→wpOp P ops Q j (grS S (dwN P ops Q K (without ks j) (.c i t r))) a w
termination_by ks t=>ks.length+t.sz
decreasing_by
 all_goals (first|(have:=ahu h;simp only[OT.sz] at*;omega)|(simp only[OT.sz];omega))
def ady(ops:Array Oper)(fin:Nat→Bool)(π₂:List (Nat×Bool)):Nat→Bool→List Nat→OT→Array Bool→List Nat→Bool
 |0,_,_,_,_,_=>false
 |n+1,false,ks, .z π,l,_=>agP ops fin π₂ n ks π l
 |_+1,true,_, .z _,_,_=>false
 |n+1,false,ks, .q i t,l,_=>akS ops fin l i&&ady ops fin π₂ n false ks t (l.setIfInBounds i true) []
 |_+1,true,_, .q _ _,_,_=>false
 |n+1,true,ks, .a i t,l,rs=>rs.all (fun j=>Nat.beq j i)&&ady ops fin π₂ n false ks t (l.setIfInBounds i true) []
 |n+1,false,ks, .a i t,l,_=>!(Region.ready .any ops l).isEmpty&&(Region.ready .any ops l).all (fun j=>Nat.beq j i||ks.contains j)&&ady ops fin π₂ n false ks t (l.setIfInBounds i true) []&&ks.all fun j=>ady ops fin π₂ n false (without ks j) (.a i t) (l.setIfInBounds j true) []
 |n+1,true,ks, .c i t r,l,rs=>ady ops fin π₂ n false ks t (l.setIfInBounds i true) []&&ady ops fin π₂ n true ks r l (without rs i)
 |n+1,false,ks, .c i t r,l,_=>!(Region.ready .any ops l).isEmpty&&ady ops fin π₂ n false ks t (l.setIfInBounds i true) []&&ady ops fin π₂ n true ks r l (without ((Region.ready .any ops l).filter fun j=>!ks.contains j) i)&&ks.all fun j=>ady ops fin π₂ n false (without ks j) (.c i t r) (l.setIfInBounds j true) []
end
section
variable {P:Program} {GB:Gh} {C:Ctx} {n:Nat} {fr fr':FrF} {own own' own0 own1 own1':List adC} {bs bs0 bs1 bs1':List aen} {ops:Array Oper} {Q:Exit→Act→World→Prop} {fd:List FD} {π₂:List (Nat×Bool)} {t r:OT}
abbrev dnK (P:Program) (ops:Array Oper) (Q:Exit→Act→World→Prop) (K:(World→Prop)→Act→World→Prop) (t:OT):List Nat→(World→Prop)→Act→World→Prop:=fun ks S=>dwN P ops (acG Q) K ks t S
end
end Go.Sx
end
section
namespace Go.Sx
open Go Go.Proofs Tryz
variable {GB:Gh}
theorem agL{c:List LnQ}{l:LnQ}(hc: ∀m∈c,LB m)(hl:LB l): ∀m∈c++[l],LB m:=by
 rw[rK]
 exact⟨hc,by simpa using hl⟩
theorem LB.rev{l:LnQ}(h:LB l):LB l.rev:=⟨⟨by rw[show l.rev.a= -l.a from rfl,jX];exact h.bl.a,by rw[show l.rev.b= -l.b from rfl,jX];exact h.bl.b,by rw[show l.rev.c= -l.c from rfl,jX];exact h.bl.c⟩⟩
theorem ask{c:List LnQ}{l:LnQ}(hc: ∀m∈c,LB m)(hok: ∀m∈c,m.ok)(hn:c.length≤900)(hl:LB l)(hlo:l.ok):PF GB prog 90 [.sl (c.map eL),eL l] (vI (ad7 c l)):=by
 have hcl:=ae4 c
 refine fn func90 J J ntmps90 J J (fun C=>?_)
 refine ro0 J J<|ap (c.map eL) J J (acZ _) rfl<|rf J J<|apf ((c++[l]).map eL) rfl (by rw[bV];rfl) (acZ [l]) rfl<|?_
 refine cl rfl (aoW (c:=c++[l]) (agL hc hl) (ab1 hok hlo) (by simp;omega)) rfl<|ro0 J J<|ap (c.map eL) J J (acZ _) rfl<|cl rfl (akU (l:=l)) rfl<|?_
 refine rf J J<|apf ((c++[l.rev]).map eL) rfl (by rw[bV];rfl) (acZ [l.rev]) rfl<|cl rfl (aoW (c:=c++[l.rev]) (agL hc hl.rev) (ab1 hok hlo.rev) (by simp;omega)) rfl<|?_
 refine csb 31 J J J (fun hg31=>?_) (fun hg31=>?_)
 ·
  refine bb J J J (fun hc33=>?_) (fun hc33=>?_)
  ·
   exact rz rfl (by show vI 0=vI _;congr 1;unfold ad7;simp_all)
  ·
   refine bb J J J (fun hc34=>?_) (fun hc34=>?_)
   ·
    exact rz rfl (by show vI 1=vI _;congr 1;unfold ad7;simp_all)
   ·
    exact rz rfl (by simp[hg31] at hc34)
 ·
  refine bb J J J (fun hc34=>?_) (fun hc34=>?_)
  ·
   exact rz rfl (by simp[hg31] at hc34)
  ·
   exact rz rfl (by show vI (-1)=vI _;congr 1;unfold ad7;simp_all)
theorem aeN{α:Type}{p:α→Bool}: ∀{xs:List α} {n:Nat},n≤xs.length→(∀j (h:j<xs.length),j<n→p xs[j]=true)→(∀h:n<xs.length,p xs[n]=false)→(xs.takeWhile p).length=n
 |[],n,h,_,_=>by simp at h;subst h;rfl
 |x::xs,0,_,_,h3=>by
  have:=h3 (by simp)
  simp only[oS] at this
  simp[oX,this]
 |x::xs,n+1,h1,h2,h3=>by
  have hx:=h2 0 (by simp) (by omega)
  simp only[oS] at hx
  rw[oX,if_pos hx,bY]
  rw[aeN (n:=n) (by simpa using h1) (fun j h hj=>by have:=h2 (j+1) (by simpa using h) (by omega);simpa using this) (fun h=>by have:=h3 (by simpa using h);simpa using this)]
theorem amJ{xs:List LnQ}{l:LnQ}{n:Nat}(h1:n≤xs.length)(h2: ∀j (h:j<xs.length),j<n→aay xs[j].dir l.dir<0)(h3: ∀h:n<xs.length,¬aay xs[n].dir l.dir<0):aed xs l=n:=
 aeN h1 (fun j h hj=>decide_eq_true (h2 j h hj)) (fun h=>decide_eq_false (h3 h))
theorem anv{xs:List LnQ}{l:LnQ}{n:Nat}(hn:aed xs l=n)(h:n<xs.length)(e:xs[n]=l):acy xs l=xs:=by
 unfold acy;rw[hn,if_pos (by rw[aQ h,e])]
theorem ah3{xs:List LnQ}{l:LnQ}{n:Nat}(hn:aed xs l=n)(h: ∀h:n<xs.length,xs[n]≠l):acy xs l=xs.take n++l::xs.drop n:=by
 unfold acy
 rw[hn,if_neg]
 intro e
 obtain⟨h1,h2⟩:=aL.1 e
 exact h h1 h2
theorem azF(xs:List LnQ)(n:Nat):adn 6 ((xs.map eL).take n):=fun d hd=>acZ xs d (dZ hd)
theorem auz(xs:List LnQ)(n m:Nat):adn 6 (((xs.map eL).take n).drop m):=fun d hd=>acZ xs d (dZ (gK hd))
theorem ay3(xs:List LnQ)(n m:Nat)(l:LnQ):adn 6 ([eL l]++((xs.map eL).take n).drop m):=fun d hd=>by
 rcases bZ.1 hd with h|h
 ·exact acZ [l] d h
 ·exact auz xs n m d h
structure Cst (c:List LnQ) (k:Nat) (xs:List LnQ):Prop where
 le:k≤c.length
 f:aec c (c.drop k) xs=aa7 c
 m: ∀m∈xs,m∈c
 n:xs.length≤k
theorem Cst.skip{c xs:List LnQ}{k:Nat}(h:Cst c k xs)(hk:k<c.length)(e:(ach c[k] c IvQ.all).isSome=false):Cst c (k+1) xs:=by
 have:=h.f
 rw[bQ hk,aec,e] at this
 exact⟨hk,this,h.m,by have:=h.n;omega⟩
theorem Cst.ins{c xs ys:List LnQ}{k:Nat}(h:Cst c k xs)(hk:k<c.length)(e:(ach c[k] c IvQ.all).isSome=true)(hy:acy xs c[k]=ys)(hl:ys.length≤xs.length+1):Cst c (k+1) ys:=by
 have:=h.f
 rw[bQ hk,aec,e,if_pos rfl,hy] at this
 refine⟨hk,this,fun m hm=>?_,by have:=h.n;omega⟩
 rw[←hy] at hm
 rcases afu.1 hm with rfl|hm
 ·exact cZ hk
 ·exact h.m m hm
theorem Cst.done{c xs:List LnQ}{k:Nat}(h:Cst c k xs)(hk:k=c.length):aa7 c=xs:=by
 have:=h.f
 rw[hk,dR,aec] at this
 exact this.symm
def af5(c:List LnQ):Bool:=if(((c.map eL).length:Nat):Int)=0 then true else decide ((0:Int)<((((aa7 c).map eL).length:Nat):Int))
theorem Cst.nil(c:List LnQ):Cst c 0 []:=⟨bX _,rfl,fun m hm=>absurd hm (by simp),aM _⟩
theorem aB2{c:List LnQ}(hc: ∀m∈c,LB m)(hok: ∀m∈c,m.ok)(hn:c.length≤1000):PF GB prog 151 [.sl (c.map eL)] (.tp [.sl ((aa7 c).map eL),vB (af5 c)]):=by
 have hcl:=ae4 c
 refine fn (fu:=⟨16⟩) func151 J J ntmps151 J J (fun C=>?_)
 refine eqF 11 (.d (vI (c.length:Nat))) rfl (by rw[hcl];rfl) ?_
 refine gx rfl<|?_
 refine nlC 4 rfl ?_
 refine lp (X:=List LnQ×Nat) (fun⟨xs,k⟩=>[(12, .d (vI (k:Nat))),(11, .d (vI (c.length:Nat))),(10, .d (.sl (c.map eL))),(0, .d (.sl (c.map eL))),(4, .d (.sl (xs.map eL)))]) (fun⟨xs,k⟩=>[]) (fun⟨xs,k⟩=>Cst c k xs) (fun⟨xs,k⟩=>c.length-k) ⟨[],0⟩ rfl (Cst.nil c) (fun _=>rfl) (fun⟨xs,k⟩ hk=>?_)
 try dsimp only at hk⊢
 have hS:=hk
 refine br J J J (fun hc13=>?_) (fun hc13=>?_)
 ·
  have hk:k<c.length:=by omega
  obtain⟨m,hm⟩: ∃m,m=c[k]:=⟨_,rfl⟩
  haveI hmb:LB m:=hm▸hc _ (cZ hk)
  have hmo:m.ok:=hm▸hok _ (cZ hk)
  have hxl:=ae4 xs
  have hxn:=hS.n
  refine ix (fu:=⟨1⟩) _ rfl (aeT hk) rfl<|?_
  refine eqF 16 (.d (eL m)) rfl (by rw[hm];rfl) ?_
  refine gx rfl<|cl rfl (ayX hc hok hn hk) rfl<|?_
  refine bb (fu2:=⟨8⟩) J J J (fun hc24=>?_) (fun hc24=>?_)
  ·
   have hinv:Cst c (k+1) xs:=hS.skip hk (by rw[←adL];simpa using hc24)
   exact at_ ⟨xs,k+1⟩ (by dsimp only;exact⟨hinv,(by omega)⟩)
  ·
   have hyes:(ach c[k] c IvQ.all).isSome=true:=by rw[←adL];simpa using hc24
   refine mg (fu:=⟨6⟩) (X:=Unit) (fun _=>[(12, .d (vI (k:Nat))),(11, .d (vI (c.length:Nat))),(10, .d (.sl (c.map eL))),(0, .d (.sl (c.map eL))),(4, .d (.sl (xs.map eL))),(6, .ov 6 0),(9, .d (vI (aed xs m:Nat)))]) (fun _=>[(6,some (.o 175 [.d ((.v (.bool (decide (m.a<0))))), .d (dN m.a.natAbs), .d ((.v (.bool (decide (m.b<0))))), .d (dN m.b.natAbs), .d ((.v (.bool (decide (m.c<0))))), .d (dN m.c.natAbs)] true))]) (fun _=>True) [12,11,10,0,4,6,9] [6] rfl ?_ (fun _=>rfl) (fun _ _=>?_)
   ·
    refine gx rfl<|?_
    refine lp (fu:=⟨6⟩) (X:=Nat) (fun n=>[(12, .d (vI (k:Nat))),(11, .d (vI (c.length:Nat))),(10, .d (.sl (c.map eL))),(0, .d (.sl (c.map eL))),(4, .d (.sl (xs.map eL))),(6, .ov 6 0),(9, .d (vI (n:Nat)))]) (fun n=>[(6,some (.o 175 [.d ((.v (.bool (decide (m.a<0))))), .d (dN m.a.natAbs), .d ((.v (.bool (decide (m.b<0))))), .d (dN m.b.natAbs), .d ((.v (.bool (decide (m.c<0))))), .d (dN m.c.natAbs)] true))]) (fun n=>n≤xs.length∧ ∀j (h:j<xs.length),j<n→aay xs[j].dir m.dir<0) (fun n=>xs.length-n) 0 rfl ⟨bX _,fun j _ hj=>absurd hj (by omega)⟩ (fun _=>rfl) (fun n hk=>?_)
    obtain⟨n1,n2⟩:=hk
    refine csS J J J J (fun hg28=>?_) (fun hg28=>?_)
    ·
     refine ix _ rfl (aeT (by omega)) rfl<|?_
     haveI:LB (xs[n]'(by omega)):=hc _ (hS.m _ (cZ _))
     refine cl rfl (aof (l:=xs[n]'(by omega))) rfl<|cl rfl (aof (l:=m)) rfl<|cl rfl (aCc (u:=(xs[n]'(by omega)).dir) (v:=m.dir)) rfl<|?_
     refine br J J J (fun hc39=>?_) (fun hc39=>?_)
     ·
      exact at_ (n+1) ⟨⟨by omega,fun j h hj=>by by_cases q:j=n;(subst q;exact hc39);exact n2 j h (by omega)⟩,(by omega)⟩
     ·
      have hidx:aed xs m=n:=amJ n1 n2 (fun h=>hc39)
      exact at_ () trivial
    ·
     have hidx:aed xs m=n:=amJ n1 n2 (fun h=>absurd h (by omega))
     exact at_ () trivial
   ·
    obtain⟨n,hnx⟩: ∃n,aed xs m=n:=⟨_,rfl⟩
    rw[hnx]
    have hnl:n≤xs.length:=by rw[←hnx];unfold aed;exact(List.takeWhile_sublist _).length_le
    have hcb: ∀m∈xs,LB m:=fun m hm=>hc m (hS.m m hm)
    refine csS J J J J (fun hg45=>?_) (fun hg45=>?_)
    ·
     refine ix _ rfl (aeT (by omega)) rfl<|cl rfl (ap8 (l:=xs[n]'(by omega)) (m:=m) (hl:=hcb _ (cZ (by omega)))) rfl<|?_
     refine br J J J (fun hc54=>?_) (fun hc54=>?_)
     ·
      have hn46:n<xs.length:=by omega
      have hinv:Cst c (k+1) xs:=hS.ins hk hyes (by rw[←hm];exact anv hnx hn46 ((ahn _ m).1 hc54)) (by omega)
      exact at_ ⟨xs,k+1⟩ (by dsimp only;exact⟨hinv,(by omega)⟩)
     ·
      have hnew: ∀h:n<xs.length,xs[n]≠m:=fun h e=>hc54 ((ahn _ m).2 e)
      obtain⟨ys,hys⟩: ∃ys,ys=xs.take n++m::xs.drop n:=⟨_,rfl⟩
      have hinv:Cst c (k+1) ys:=hS.ins hk hyes (by rw[←hm,ah3 hnx hnew,hys]) (by rw[hys];simp;omega)
      refine s3 n _ J J J J (acZ _) (by rw[hxl];exact hnl) rfl<|ro J J<|sc' n xs.length _ J J (by rw[hxl]) rfl (acZ _) hnl (by omega) rfl<|?_
      refine ap _ J J (auz _ _ _) rfl<|apf (hv:=by simp only[aaj];exact⟨by kernel_rfl,by omega⟩) (ho:=fun _=>⟨azF _ _,by simp⟩) (ys.map eL) rfl (by rw[hys,bV,cK,gX,iK,aR (l:=xs.map eL) (i:=xs.length) (by simp)];rfl) (ay3 _ _ _ _) rfl<|?_
      exact at_ ⟨ys,k+1⟩ (by dsimp only;exact⟨hinv,(by omega)⟩)
    ·
     have hnew: ∀h:n<xs.length,xs[n]≠m:=fun h=>absurd h (by omega)
     obtain⟨ys,hys⟩: ∃ys,ys=xs.take n++m::xs.drop n:=⟨_,rfl⟩
     have hinv:Cst c (k+1) ys:=hS.ins hk hyes (by rw[←hm,ah3 hnx hnew,hys]) (by rw[hys];simp;omega)
     refine s3 n _ J J J J (acZ _) (by rw[hxl];exact hnl) rfl<|ro J J<|sc' n xs.length _ J J (by rw[hxl]) rfl (acZ _) hnl (by omega) rfl<|?_
     refine ap _ J J (auz _ _ _) rfl<|apf (hv:=by simp only[aaj];exact⟨by kernel_rfl,by omega⟩) (ho:=fun _=>⟨azF _ _,by simp⟩) (ys.map eL) rfl (by rw[hys,bV,cK,gX,iK,aR (l:=xs.map eL) (i:=xs.length) (by simp)];rfl) (ay3 _ _ _ _) rfl<|?_
     exact at_ ⟨ys,k+1⟩ (by dsimp only;exact⟨hinv,(by omega)⟩)
 ·
  have hfin:aa7 c=xs:=hS.done (by have:=hS.le;omega)
  refine cs 71 J J J (fun hg71=>?_) (fun hg71=>?_)
  ·
   exact rz rfl (by rw[af5,if_pos hg71,hfin];rfl)
  ·
   exact rz rfl (by rw[af5,if_neg hg71,hfin];rfl)
section
variable {α:Type} (c:α→α→Int)
def ad6(x:α):List α→List α
 |[]=>[x]
 |u::t=>if c u x<0 then u::ad6 x t else if c u x=0 then u::t else x::u::t
def amm(x:α)(xs:List α):Nat:=(xs.takeWhile fun u=>decide (c u x<0)).length
theorem ami(x:α)(xs:List α):amm c x xs≤xs.length:=(List.takeWhile_sublist _).length_le
theorem afh{x:α}{xs:List α}{n:Nat}(h1:n≤xs.length)(h2: ∀j (h:j<xs.length),j<n→c xs[j] x<0)(h3: ∀h:n<xs.length,¬c xs[n] x<0):amm c x xs=n:=
 aeN h1 (fun j h hj=>decide_eq_true (h2 j h hj)) (fun h=>decide_eq_false (h3 h))
theorem agF{x:α}: ∀{xs:List α} {n:Nat},amm c x xs=n→(h:n<xs.length)→c xs[n] x=0→ad6 c x xs=xs
 |[],n,_,h,_=>by simp at h
 |u::t,n,hn,h,e=>by
  rw[ad6]
  unfold amm at hn
  rw[oX] at hn
  by_cases hu:c u x<0
  ·rw[if_pos hu]
   rw[if_pos (by simpa using hu)] at hn
   obtain⟨k,rfl⟩: ∃k,n=k+1:=⟨n-1,by simp at hn;omega⟩
   rw[agF (xs:=t) (n:=k) (by unfold amm;simpa using hn) (by simpa using h) (by simpa using e)]
  ·rw[if_neg (by simpa using hu)] at hn
   simp at hn;subst hn
   rw[if_neg hu,if_pos (by simpa using e)]
theorem adB{x:α}: ∀{xs:List α} {n:Nat},amm c x xs=n→(∀h:n<xs.length,c xs[n] x≠0)→ad6 c x xs=xs.take n++x::xs.drop n
 |[],n,hn,_=>by simp[amm] at hn;subst hn;rfl
 |u::t,n,hn,e=>by
  rw[ad6]
  unfold amm at hn
  rw[oX] at hn
  by_cases hu:c u x<0
  ·rw[if_pos hu]
   rw[if_pos (by simpa using hu)] at hn
   obtain⟨k,rfl⟩: ∃k,n=k+1:=⟨n-1,by simp at hn;omega⟩
   rw[adB (xs:=t) (n:=k) (by unfold amm;simpa using hn) (fun h=>by have:=e (by simpa using h);simpa using this)]
   simp
  ·rw[if_neg (by simpa using hu)] at hn
   simp at hn;subst hn
   have:=e (by simp)
   rw[if_neg hu,if_neg (by simpa using this)];rfl
theorem aiD(x:α): ∀(xs:List α),(ad6 c x xs).length≤xs.length+1
 |[]=>aM _
 |u::t=>by
  have:=aiD x t
  rw[ad6]
  split
  ·simp;omega
  ·split<;>simp
theorem alm{x y:α}: ∀{xs:List α},y∈ad6 c x xs→y=x∨y∈xs
 |[],h=>by rw[ad6,aY] at h;exact .inl h
 |u::t,h=>by
  rw[ad6] at h
  split at h
  ·rcases aU.1 h with rfl|h
   ·exact .inr aZ
   ·rcases alm h with h|h
    ·exact .inl h
    ·exact .inr (aJ _ h)
  ·split at h
   ·exact .inr h
   ·rcases aU.1 h with rfl|h
    ·exact .inl rfl
    ·exact .inr h
def alc(l:List α):List α:=l.foldl (fun out x=>ad6 c x out) []
theorem aog: ∀(l o:List α),(l.foldl (fun out x=>ad6 c x out) o).length≤l.length+o.length
 |[],o=>by simp
 |x::t,o=>by
  have:=aog t (ad6 c x o)
  have:=aiD c x o
  simp only[lX,bY];omega
theorem agV{y:α}: ∀{l o:List α},y∈l.foldl (fun out x=>ad6 c x out) o→y∈l∨y∈o
 |[],o,h=> .inr h
 |x::t,o,h=>by
  rcases agV (l:=t) h with h|h
  ·exact .inl (aJ _ h)
  ·rcases alm c h with rfl|h
   ·exact .inl aZ
   ·exact .inr h
end
theorem amx{x:Rat}: ∀{l:List Rat},aos x l=ad6 abg x l
 |[]=>rfl
 |u::t=>by
  have e1:abg u x<0↔u<x:=afj u x
  have e2:abg u x=0↔u=x:=aeR u x
  rw[aos,ad6,amx (l:=t)]
  by_cases h:u<x
  ·rw[if_pos h,if_pos (e1.2 h)]
  ·rw[if_neg h,if_neg (fun e=>h (e1.1 e))]
   by_cases h2:u=x
   ·rw[if_pos h2,if_pos (e2.2 h2)]
   ·rw[if_neg h2,if_neg (fun e=>h2 (e2.1 e))]
theorem abt{α β:Type}{f:α→β}{l:List α}{k:Nat}{x:α}(h:l[k]? =some x):(l.take k).map f++[f x]=(l.take (k+1)).map f:=by
 rw[gR,h,bV];rfl
theorem aGB{n i:Nat}[h:BN n i](hi:i≤20000000:=by decide):PF GB prog 52 [dN n] (dN n):=by
 have hl:=aa8 h.h
 have:=aG9 (GB:=GB) (ds:=dg n) (ae9 n) (by omega)
 rw[aaW,←aCf] at this;exact this
theorem axK(z:Int):ahQ (decide (z<0)) (dg z.natAbs)=z:=by
 unfold ahQ
 rw[aaW]
 split<;>(rename_i h;simp at h;omega)
theorem aF4{z:Int}{i:Nat}[h:BI z i](hi:i≤20000000:=by decide):PF GB prog 53 [eI z] (eI z):=by
 have hl:=aa8 h.h
 have:=aIF (GB:=GB) (neg:=decide (z<0)) (ds:=dg z.natAbs) (ae9 _) (by omega)
 rw[axK,←aCf] at this;exact this
theorem aG0{n:Nat}(h:0<n): ¬((((dg n).map dU).length:Nat):Int)=0:=by
 rw[aK]
 have:=acC (n:=n)
 omega
instance BQ.m1':BQ (((-1:Int):Int):Rat) 2:=⟨by decide,by decide⟩
instance BQ.m1:BQ (-1:Rat) 2:=⟨by decide,by decide⟩
theorem aHd{q:Rat}{i:Nat}[h:BQ q i](hi:i≤20000000:=by decide):PF GB prog 14 [eR q] (eQ q):=by
 have hd:=q.den_pos
 refine fn func14 J J ntmps14 J J (fun C=>?_)
 refine cl (fu:=⟨8⟩) rfl (aGB (n:=q.den) hi) rfl<|knF rfl (by show some (decide _)=some false;rw[decide_eq_false (aG0 hd)]) rfl<|cl rfl (aF4 (z:=q.num) hi) rfl<|?_
 refine cl rfl (ak5 (x:=q.num) (d:=q.den) hd (by omega) (by omega)) rfl<|?_
 exact rz rfl (by rw[sL];rfl)
theorem azB{q:Rat}{i:Nat}[h:BQ q i](hi:i≤400000000:=by decide):PF GB prog 61 [eQ q] (eR q):=by
 refine fn func61 J J ntmps61 J J (fun C=>?_)
 refine cl rfl (ayf (z:=q.num) hi) rfl<|cl rfl (afd (q:=q)) rfl<|cl rfl (aEE (a:=q.den) hi) rfl<|?_
 exact rz J J
theorem aIA{p:PtQ}{i:Nat}[h:BPt p i](hi:i≤20000000:=by decide):PF GB prog 23 [ePt p] (eP p):=by
 refine fn func23 J J ntmps23 J J (fun C=>?_)
 refine cl rfl (aHd (q:=p.x) hi) rfl<|cl rfl (aHd (q:=p.y) hi) rfl<|?_
 exact rz J J
theorem aGc{p:PtQ}{i:Nat}[h:BPt p i](hi:i≤20000:=by decide):PF GB prog 30 [eP p] (ePt p):=by
 refine fn func30 J J ntmps30 J J (fun C=>?_)
 refine cl rfl (azB (q:=p.x) (i:=i) (by omega)) rfl<|cl rfl (azB (q:=p.y) (i:=i) (by omega)) rfl<|?_
 exact rz J J
theorem aaG{α:Type}(f:α→DV)(l:List α):(l.map f).length=l.length:=aK ..
theorem aiS(ps:List PtQ):adn 6 (ps.map eP):=fun d hd=>by
 obtain⟨u,_,rfl⟩:=bJ.1 hd;exact⟨rfl,rfl⟩
theorem atz(ps:List PtQ):adn 6 (ps.map ePt):=fun d hd=>by
 obtain⟨u,_,rfl⟩:=bJ.1 hd;exact⟨rfl,rfl⟩
theorem aFR{ps:List PtQ}(hb: ∀p∈ps,BPt p 1200)(hn:ps.length≤1000000):PF GB prog 119 [.sl (ps.map ePt)] (.sl (ps.map eP)):=by
 have hm:=aaG ePt ps
 refine fn (fu:=⟨15⟩) func119 J J ntmps119 J J (fun C=>?_)
 refine eqF 7 (.d (vI (ps.length:Nat))) rfl (by rw[hm]<;>rfl) ?_
 refine gx rfl<|?_
 refine nr 3 3 62 6 J J J ?_
 refine lp (X:=Nat) (fun k=>[(8, .d (vI (k:Nat))),(3, .rw 3)]) (fun k=>[(3,some (.b 62 6 ((ps.take k).map eP) true))]) (fun k=>k≤ps.length) (fun k=>ps.length-k) 0 rfl (bX _) (fun _=>rfl) (fun k hk=>?_)
 have hml:=aaG eP (ps.take k)
 rw[cJ] at hml
 refine br J J J (fun hc9=>?_) (fun hc9=>?_)
 ·
  obtain⟨z,hz⟩: ∃s,ps[k]? =some s:=⟨_,aQ (by omega)⟩
  have hzm:=aS hz
  refine ix _ rfl (aaq hz) rfl<|cl rfl (aIA (p:=z) (h:=hb z hzm)) rfl<|rf J J<|ap ((ps.take (k+1)).map eP) rfl (abt hz) (aiS [z]) rfl<|?_
  refine rnE 16 3 rfl ?_
  exact at_ (k+1) ⟨(by omega),(by omega)⟩
 ·
  obtain rfl:k=ps.length:=by omega
  refine fzE 3 rfl ?_
  exact rz rfl (by rw[fY];rfl)
theorem ay1{ps:List PtQ}(hb: ∀p∈ps,BPt p 1200)(hn:ps.length≤1000000):PF GB prog 56 [.sl (ps.map eP)] (.sl (ps.map ePt)):=by
 have hm:=aaG eP ps
 refine fn (fu:=⟨15⟩) func56 J J ntmps56 J J (fun C=>?_)
 refine eqF 7 (.d (vI (ps.length:Nat))) rfl (by rw[hm]<;>rfl) ?_
 refine gx rfl<|?_
 refine nr 3 3 65 6 J J J ?_
 refine lp (X:=Nat) (fun k=>[(8, .d (vI (k:Nat))),(3, .rw 3)]) (fun k=>[(3,some (.b 65 6 ((ps.take k).map ePt) true))]) (fun k=>k≤ps.length) (fun k=>ps.length-k) 0 rfl (bX _) (fun _=>rfl) (fun k hk=>?_)
 have hml:=aaG ePt (ps.take k)
 rw[cJ] at hml
 refine br J J J (fun hc9=>?_) (fun hc9=>?_)
 ·
  obtain⟨z,hz⟩: ∃s,ps[k]? =some s:=⟨_,aQ (by omega)⟩
  have hzm:=aS hz
  refine ix _ rfl (aaq hz) rfl<|cl rfl (aGc (p:=z) (h:=hb z hzm)) rfl<|rf J J<|ap ((ps.take (k+1)).map ePt) rfl (abt hz) (atz [z]) rfl<|?_
  refine rnE 16 3 rfl ?_
  exact at_ (k+1) ⟨(by omega),(by omega)⟩
 ·
  obtain rfl:k=ps.length:=by omega
  refine fzE 3 rfl ?_
  exact rz rfl (by rw[fY];rfl)
theorem azE{p q:PtQ}{i j:Nat}[hp:BPt p i][hq:BPt q j](hi:i≤100000:=by decide)(hj:j≤100000:=by decide):PF GB prog 275 [eP p,eP q] (eP (act p q (-1))):=by
 refine fn func275 J J ntmps275 J J (fun C=>?_)
 refine cl rfl (aoo (n:= -1) (by decide) (by decide)) rfl<|cl rfl (anX (p:=p) (q:=q) (c:=((-1:Int):Rat)) (i:=i) (j:=j) (k:=2) (by omega) (by omega)) rfl<|?_
 exact rz rfl (by rw[show((-1:Int):Rat)= -1 from rfl];rfl)
theorem aqZ{a b c:PtQ}{i j k:Nat}[ha:BPt a i][hb:BPt b j][hc:BPt c k](hi:i≤80000:=by decide)(hj:j≤80000:=by decide)(hk:k≤80000:=by decide):PF GB prog 278 [eP a,eP b,eP c] (vI (ahS a b c)):=by
 refine fn func278 J J ntmps278 J J (fun C=>?_)
 refine cl rfl (azE (p:=b) (q:=a) (i:=j) (j:=i) (by omega) (by omega)) rfl<|cl rfl (azE (p:=c) (q:=a) (i:=k) (j:=i) (by omega) (by omega)) rfl<|?_
 refine cl rfl (aml (p:=act b a (-1)) (q:=act c a (-1)) (by omega) (by omega)) rfl<|cl rfl (q_S (q:=(act b a (-1)).cross (act c a (-1)))) rfl<|?_
 exact rz J J
def ag5(p q:PtQ):Int:=if abg p.x q.x≠0 then abg p.x q.x else abg p.y q.y
theorem akE{p q:PtQ}{i j:Nat}[hp:BPt p i][hq:BPt q j](hi:i≤100000:=by decide)(hj:j≤100000:=by decide):PF GB prog 211 [eP p,eP q] (vI (ag5 p q)):=by
 refine fn func211 J J ntmps211 J J (fun C=>?_)
 refine cl rfl (q_C (a:=p.x) (b:=q.x) (by omega) (by omega)) rfl<|?_
 refine br J J J (fun hc12=>?_) (fun hc12=>?_)
 ·
  exact rz rfl (by unfold ag5;rw[if_pos hc12];rfl)
 ·
  refine cl rfl (q_C (a:=p.y) (b:=q.y) (by omega) (by omega)) rfl<|?_
  exact rz rfl (by unfold ag5;rw[if_neg hc12];rfl)
def ar8(l:LnQ):Bool:=decide (l.a<0∨(l.a=0∧l.b<0))
def LnQ.canon(l:LnQ):LnQ:=if ar8 l then l.rev else l
theorem ags(a:Int):a.sign<0↔a<0:=by
 rcases lQ a 0 with h|h|h
 ·rw[dT h];omega
 ·subst h;simp
 ·rw[dS h];omega
theorem am1(a:Int):a.sign=0↔a=0:=iM
theorem azJ{l:LnQ}(h:l.a<0∨(l.a=0∧l.b<0)):DV.tp [eL l.canon,vB (ar8 l)]= .tp [eL l.rev,vB true]:=by
 unfold LnQ.canon ar8;rw[decide_eq_true h];rfl
theorem auF{l:LnQ}(h: ¬(l.a<0∨(l.a=0∧l.b<0))):DV.tp [eL l.canon,vB (ar8 l)]= .tp [eL l,vB false]:=by
 unfold LnQ.canon ar8;rw[decide_eq_false h];rfl
theorem avV{l:LnQ}[hl:LB l]:PF GB prog 178 [eL l] (.tp [eL l.canon,vB (ar8 l)]):=by
 refine fn func178 J J ntmps178 J J (fun C=>?_)
 refine cl rfl (arc (z:=l.a)) rfl<|?_
 refine cs 10 J J J (fun hg10=>?_) (fun hg10=>?_)
 ·
  refine cl rfl (akU (l:=l)) rfl<|?_
  exact rz rfl (by rw[azJ (.inl ((ags _).1 hg10))];rfl)
 ·
  refine cs 13 J J J (fun hg13=>?_) (fun hg13=>?_)
  ·
   refine cl rfl (arc (z:=l.b)) rfl<|?_
   refine br J J J (fun hc19=>?_) (fun hc19=>?_)
   ·
    refine cl rfl (akU (l:=l)) rfl<|?_
    exact rz rfl (by rw[azJ (.inr ⟨(am1 _).1 hg13,(ags _).1 hc19⟩)];rfl)
   ·
    exact rz rfl (by rw[auF (fun e=>e.elim (fun e=>hg10 ((ags _).2 e)) (fun e=>hc19 ((ags _).2 e.2)))];rfl)
  ·
   exact rz rfl (by rw[auF (fun e=>e.elim (fun e=>hg10 ((ags _).2 e)) (fun e=>hg13 ((am1 _).2 e.1)))];rfl)
instance LB.canon (l:LnQ) [h:LB l]:LB l.canon:=by unfold LnQ.canon;split;exact LB.rev h;exact h
def akf{α β:Type}(c:β→β→Int)(g:α→β)(l:List α)(k:Nat):List β:=alc c ((l.take k).map g)
section
variable {α β:Type} {c:β→β→Int} {g:α→β} {l:List α} {k:Nat}
theorem adD{x:α}(h:l[k]? =some x):akf c g l (k+1)=ad6 c (g x) (akf c g l k):=by
 unfold akf alc
 rw[gR,h,Option.toList_some,bV,rW];rfl
theorem anj(h:k=l.length):akf c g l k=alc c (l.map g):=by unfold akf;rw[h,fY]
theorem am3:(akf c g l k).length≤k:=by
 have:=aog c ((l.take k).map g) []
 have h2:((l.take k).map g).length≤k:=by rw[aK,cJ];omega
 rw[fU] at this
 unfold akf alc
 omega
theorem amD{y:β}(h:y∈akf c g l k): ∃x∈l,y=g x:=by
 rcases agV c h with h|h
 ·obtain⟨x,hx,rfl⟩:=bJ.1 h
  exact⟨x,dZ hx,rfl⟩
 ·cases h
end
theorem slT{α:Type}{f:α→DV}{s:Nat}(ok: ∀l:List α,adn s (l.map f))(xs:List α)(n:Nat):adn s ((xs.map f).take n):=fun d hd=>ok xs d (dZ hd)
theorem slD{α:Type}{f:α→DV}{s:Nat}(ok: ∀l:List α,adn s (l.map f))(xs:List α)(n m:Nat):adn s (((xs.map f).take n).drop m):=fun d hd=>ok xs d (dZ (gK hd))
theorem slI{α:Type}{f:α→DV}{s:Nat}(ok: ∀l:List α,adn s (l.map f))(xs:List α)(n m:Nat)(x:α):adn s ([f x]++((xs.map f).take n).drop m):=fun d hd=>by
 rcases bZ.1 hd with h|h
 ·exact ok [x] d h
 ·exact slD ok xs n m d h
theorem ac7{α:Type}{f:α→DV}{l:List α}{i:Nat}(h:i<l.length):(l.map f)[(i:Int).toNat]? =some (f l[i]):=by
 rw[bK,cV,aQ h];rfl
theorem ax4{ps:List PtQ}(hb: ∀p∈ps,BPt p 1200)(hn:ps.length≤100000):PF GB prog 156 [.sl (ps.map eP)] (.sl ((alc ag5 ps).map eP)):=by
 have hm':=aaG eP ps
 refine fn (fu:=⟨15⟩) func156 J J ntmps156 J J (fun C=>?_)
 refine eqF 8 (.d (vI (ps.length:Nat))) rfl (by rw[hm'];rfl) ?_
 refine gx rfl<|?_
 refine nlC 3 rfl ?_
 refine lp (X:=List PtQ×Nat) (fun⟨xs,k⟩=>[(9, .d (vI (k:Nat))),(8, .d (vI (ps.length:Nat))),(7, .d (.sl (ps.map eP))),(0, .d (.sl (ps.map eP))),(3, .d (.sl (xs.map eP)))]) (fun⟨xs,k⟩=>[]) (fun⟨xs,k⟩=>xs=akf ag5 id ps k∧k≤ps.length) (fun⟨xs,k⟩=>ps.length-k) ⟨[],0⟩ rfl ⟨rfl,bX _⟩ (fun _=>rfl) (fun⟨xs,k⟩ hk=>?_)
 try dsimp only at hk⊢
 obtain⟨hS,hkl⟩:=hk
 refine br J J J (fun hc10=>?_) (fun hc10=>?_)
 ·
  have hk:k<ps.length:=by omega
  obtain⟨m,hm⟩: ∃m,m=ps[k]:=⟨_,rfl⟩
  have hz:ps[k]? =some m:=by rw[hm];exact aQ hk
  haveI hmb:BPt m 1200:=hm▸hb _ (cZ hk)
  have hxl:=aaG eP xs
  have hxn:xs.length≤k:=by rw[hS];exact am3
  have hxb: ∀q∈xs,BPt q 1200:=fun q hq=>by rw[hS] at hq;obtain⟨z,hz,he⟩:=amD hq;rw[he];exact hb z hz
  refine ix (fu:=⟨1⟩) _ rfl (ac7 hk) rfl<|?_
  refine eqF 12 (.d (eP m)) rfl (by rw[hm];rfl) ?_
  refine gx (fu:=⟨10⟩) rfl<|?_
  refine mg (fu:=⟨5⟩) (X:=Unit) (fun _=>[(9, .d (vI (k:Nat))),(8, .d (vI (ps.length:Nat))),(7, .d (.sl (ps.map eP))),(0, .d (.sl (ps.map eP))),(3, .d (.sl (xs.map eP))),(5, .ov 5 0),(6, .d (vI (amm ag5 m xs:Nat)))]) (fun _=>[(5,some (.o 62 [.d ((.v (.bool (decide (m.x.num<0))))), .d (dN m.x.num.natAbs), .d (dD m.x.den), .d ((.v (.bool (decide (m.y.num<0))))), .d (dN m.y.num.natAbs), .d (dD m.y.den)] true))]) (fun _=>True) [9,8,7,0,3,5,6] [5] rfl ?_ (fun _=>rfl) (fun _ _=>?_)
  ·
   refine gx rfl<|?_
   refine lp (fu:=⟨6⟩) (X:=Nat) (fun n=>[(9, .d (vI (k:Nat))),(8, .d (vI (ps.length:Nat))),(7, .d (.sl (ps.map eP))),(0, .d (.sl (ps.map eP))),(3, .d (.sl (xs.map eP))),(5, .ov 5 0),(6, .d (vI (n:Nat)))]) (fun n=>[(5,some (.o 62 [.d ((.v (.bool (decide (m.x.num<0))))), .d (dN m.x.num.natAbs), .d (dD m.x.den), .d ((.v (.bool (decide (m.y.num<0))))), .d (dN m.y.num.natAbs), .d (dD m.y.den)] true))]) (fun n=>n≤xs.length∧ ∀j (h:j<xs.length),j<n→ag5 xs[j] m<0) (fun n=>xs.length-n) 0 rfl ⟨bX _,fun j _ hj=>absurd hj (by omega)⟩ (fun _=>rfl) (fun n hk=>?_)
   obtain⟨n1,n2⟩:=hk
   refine csS (v2:=fun hg16=>by simp only[aaj];kernel_rfl) J J J J (fun hg16=>?_) (fun hg16=>?_)
   ·
    refine ix _ rfl (ac7 (by omega)) rfl<|cl rfl (akE (p:=xs[n]'(by omega)) (q:=m) (hp:=hxb _ (cZ (by omega))) (hq:=hmb)) rfl<|?_
    refine br J J J (fun hc25=>?_) (fun hc25=>?_)
    ·
     exact at_ (n+1) ⟨⟨by omega,fun j h hj=>by by_cases q:j=n;(subst q;exact hc25);exact n2 j h (by omega)⟩,(by omega)⟩
    ·
     have hidx:amm ag5 m xs=n:=afh ag5 n1 n2 (fun h=>hc25)
     exact at_ () trivial
   ·
    have hidx:amm ag5 m xs=n:=afh ag5 n1 n2 (fun h=>absurd h (by omega))
    exact at_ () trivial
  ·
   obtain⟨n,hnx⟩: ∃n,amm ag5 m xs=n:=⟨_,rfl⟩
   rw[hnx]
   have hnl:n≤xs.length:=by rw[←hnx];exact ami _ _ _
   refine csS (v1:=fun hg31=>by simp only[aaj];kernel_rfl) J J J J (fun hg31=>?_) (fun hg31=>?_)
   ·
    have hnew: ∀h:n<xs.length,ag5 xs[n] m≠0:=fun h=>absurd h (by omega)
    obtain⟨ys,hys⟩: ∃ys,ys=xs.take n++m::xs.drop n:=⟨_,rfl⟩
    have hin:ad6 ag5 m xs=ys:=by rw[hys];exact adB ag5 hnx hnew
    have hyl:ys.length≤xs.length+1:=by rw[hys];simp;omega
    refine s3 n _ J J J J (aiS _) (by rw[hxl];exact hnl) rfl<|ro J J<|sc' n xs.length _ J J (by rw[hxl]) rfl (aiS _) hnl (by omega) rfl<|?_
    refine ap _ J J (slD aiS _ _ _) rfl<|apf (hv:=by simp only[aaj];exact⟨by kernel_rfl,by omega⟩) (ho:=fun _=>⟨slT aiS _ _,by simp⟩) (ys.map eP) rfl (by rw[hys,bV,cK,gX,iK,aR (l:=xs.map eP) (i:=xs.length) (by simp)];rfl) (slI aiS _ _ _ _) rfl<|?_
    exact at_ ⟨ys,k+1⟩ (by dsimp only;exact⟨⟨by rw[adD hz,←hS];exact hin.symm,by omega⟩,(by omega)⟩)
   ·
    refine ix _ rfl (ac7 (by omega)) rfl<|cl rfl (akE (p:=xs[n]'(by omega)) (q:=m) (hp:=hxb _ (cZ (by omega))) (hq:=hmb)) rfl<|?_
    refine br J J J (fun hc40=>?_) (fun hc40=>?_)
    ·
     have hnew: ∀h:n<xs.length,ag5 xs[n] m≠0:=fun h=>hc40
     obtain⟨ys,hys⟩: ∃ys,ys=xs.take n++m::xs.drop n:=⟨_,rfl⟩
     have hin:ad6 ag5 m xs=ys:=by rw[hys];exact adB ag5 hnx hnew
     have hyl:ys.length≤xs.length+1:=by rw[hys];simp;omega
     refine s3 n _ J J J J (aiS _) (by rw[hxl];exact hnl) rfl<|ro J J<|sc' n xs.length _ J J (by rw[hxl]) rfl (aiS _) hnl (by omega) rfl<|?_
     refine ap _ J J (slD aiS _ _ _) rfl<|apf (hv:=by simp only[aaj];exact⟨by kernel_rfl,by omega⟩) (ho:=fun _=>⟨slT aiS _ _,by simp⟩) (ys.map eP) rfl (by rw[hys,bV,cK,gX,iK,aR (l:=xs.map eP) (i:=xs.length) (by simp)];rfl) (slI aiS _ _ _ _) rfl<|?_
     exact at_ ⟨ys,k+1⟩ (by dsimp only;exact⟨⟨by rw[adD hz,←hS];exact hin.symm,by omega⟩,(by omega)⟩)
    ·
     have hin:ad6 ag5 m xs=xs:=agF ag5 hnx (by omega) (Decidable.not_not.1 hc40)
     exact at_ ⟨xs,k+1⟩ (by dsimp only;exact⟨⟨by rw[adD hz,←hS];exact hin.symm,by omega⟩,(by omega)⟩)
 ·
  have hfin:alc ag5 ps=xs:=by rw[hS,anj (by omega),List.map_id]
  exact rz rfl (by rw[hfin];rfl)
def apu(ls:List LnQ):List LnQ:=alc ai9 (ls.map LnQ.canon)
theorem ar3{ls:List LnQ}(hb: ∀p∈ls,LB p)(hn:ls.length≤100000):PF GB prog 120 [.sl (ls.map eL)] (.sl ((apu ls).map eL)):=by
 have hm':=aaG eL ls
 refine fn (fu:=⟨15⟩) func120 J J ntmps120 J J (fun C=>?_)
 refine eqF 8 (.d (vI (ls.length:Nat))) rfl (by rw[hm'];rfl) ?_
 refine gx rfl<|?_
 refine nlC 3 rfl ?_
 refine lp (X:=List LnQ×Nat) (fun⟨xs,k⟩=>[(9, .d (vI (k:Nat))),(8, .d (vI (ls.length:Nat))),(7, .d (.sl (ls.map eL))),(0, .d (.sl (ls.map eL))),(3, .d (.sl (xs.map eL)))]) (fun⟨xs,k⟩=>[]) (fun⟨xs,k⟩=>xs=akf ai9 LnQ.canon ls k∧k≤ls.length) (fun⟨xs,k⟩=>ls.length-k) ⟨[],0⟩ rfl ⟨rfl,bX _⟩ (fun _=>rfl) (fun⟨xs,k⟩ hk=>?_)
 try dsimp only at hk⊢
 obtain⟨hS,hkl⟩:=hk
 refine br J J J (fun hc10=>?_) (fun hc10=>?_)
 ·
  have hk:k<ls.length:=by omega
  obtain⟨z,hm⟩: ∃m,m=ls[k]:=⟨_,rfl⟩
  have hz:ls[k]? =some z:=by rw[hm];exact aQ hk
  haveI hzb:LB z:=hm▸hb _ (cZ hk)
  obtain⟨m,hmc⟩: ∃m,m=z.canon:=⟨_,rfl⟩
  haveI hmb:LB m:=by rw[hmc];infer_instance
  have hxl:=aaG eL xs
  have hxn:xs.length≤k:=by rw[hS];exact am3
  have hxb: ∀q∈xs,LB q:=fun q hq=>by rw[hS] at hq;obtain⟨z,hz,rfl⟩:=amD hq;haveI:=hb z hz;infer_instance
  refine ix (fu:=⟨1⟩) _ rfl (ac7 hk) rfl<|?_
  refine eqF 12 (.d (eL z)) rfl (by rw[hm];rfl) ?_
  refine gx rfl<|cl (fu:=⟨2⟩) rfl (avV (l:=z)) rfl<|?_
  refine eqF 16 (.d (eL m)) rfl (by rw[hmc]) ?_
  refine gx (fu:=⟨10⟩) rfl<|?_
  refine mg (fu:=⟨5⟩) (X:=Unit) (fun _=>[(9, .d (vI (k:Nat))),(8, .d (vI (ls.length:Nat))),(7, .d (.sl (ls.map eL))),(0, .d (.sl (ls.map eL))),(3, .d (.sl (xs.map eL))),(5, .ov 5 0),(6, .d (vI (amm ai9 m xs:Nat)))]) (fun _=>[(5,some (.o 175 [.d ((.v (.bool (decide (m.a<0))))), .d (dN m.a.natAbs), .d ((.v (.bool (decide (m.b<0))))), .d (dN m.b.natAbs), .d ((.v (.bool (decide (m.c<0))))), .d (dN m.c.natAbs)] true))]) (fun _=>True) [9,8,7,0,3,5,6] [5] rfl ?_ (fun _=>rfl) (fun _ _=>?_)
  ·
   refine gx rfl<|?_
   refine lp (fu:=⟨6⟩) (X:=Nat) (fun n=>[(9, .d (vI (k:Nat))),(8, .d (vI (ls.length:Nat))),(7, .d (.sl (ls.map eL))),(0, .d (.sl (ls.map eL))),(3, .d (.sl (xs.map eL))),(5, .ov 5 0),(6, .d (vI (n:Nat)))]) (fun n=>[(5,some (.o 175 [.d ((.v (.bool (decide (m.a<0))))), .d (dN m.a.natAbs), .d ((.v (.bool (decide (m.b<0))))), .d (dN m.b.natAbs), .d ((.v (.bool (decide (m.c<0))))), .d (dN m.c.natAbs)] true))]) (fun n=>n≤xs.length∧ ∀j (h:j<xs.length),j<n→ai9 xs[j] m<0) (fun n=>xs.length-n) 0 rfl ⟨bX _,fun j _ hj=>absurd hj (by omega)⟩ (fun _=>rfl) (fun n hk=>?_)
   obtain⟨n1,n2⟩:=hk
   refine csS (v2:=fun hg21=>by simp only[aaj];kernel_rfl) J J J J (fun hg21=>?_) (fun hg21=>?_)
   ·
    refine ix _ rfl (ac7 (by omega)) rfl<|cl rfl (ap8 (l:=xs[n]'(by omega)) (m:=m) (hl:=hxb _ (cZ (by omega))) (hm:=hmb)) rfl<|?_
    refine br J J J (fun hc30=>?_) (fun hc30=>?_)
    ·
     exact at_ (n+1) ⟨⟨by omega,fun j h hj=>by by_cases q:j=n;(subst q;exact hc30);exact n2 j h (by omega)⟩,(by omega)⟩
    ·
     have hidx:amm ai9 m xs=n:=afh ai9 n1 n2 (fun h=>hc30)
     exact at_ () trivial
   ·
    have hidx:amm ai9 m xs=n:=afh ai9 n1 n2 (fun h=>absurd h (by omega))
    exact at_ () trivial
  ·
   obtain⟨n,hnx⟩: ∃n,amm ai9 m xs=n:=⟨_,rfl⟩
   rw[hnx]
   have hnl:n≤xs.length:=by rw[←hnx];exact ami _ _ _
   refine csS (v1:=fun hg36=>by simp only[aaj];kernel_rfl) J J J J (fun hg36=>?_) (fun hg36=>?_)
   ·
    have hnew: ∀h:n<xs.length,ai9 xs[n] m≠0:=fun h=>absurd h (by omega)
    obtain⟨ys,hys⟩: ∃ys,ys=xs.take n++m::xs.drop n:=⟨_,rfl⟩
    have hin:ad6 ai9 m xs=ys:=by rw[hys];exact adB ai9 hnx hnew
    have hyl:ys.length≤xs.length+1:=by rw[hys];simp;omega
    refine s3 n _ J J J J (acZ _) (by rw[hxl];exact hnl) rfl<|ro J J<|sc' n xs.length _ J J (by rw[hxl]) rfl (acZ _) hnl (by omega) rfl<|?_
    refine ap _ J J (slD acZ _ _ _) rfl<|apf (hv:=by simp only[aaj];exact⟨by kernel_rfl,by omega⟩) (ho:=fun _=>⟨slT acZ _ _,by simp⟩) (ys.map eL) rfl (by rw[hys,bV,cK,gX,iK,aR (l:=xs.map eL) (i:=xs.length) (by simp)];rfl) (slI acZ _ _ _ _) rfl<|?_
    exact at_ ⟨ys,k+1⟩ (by dsimp only;exact⟨⟨by rw[adD hz,←hS,←hmc];exact hin.symm,by omega⟩,(by omega)⟩)
   ·
    refine ix _ rfl (ac7 (by omega)) rfl<|cl rfl (ap8 (l:=xs[n]'(by omega)) (m:=m) (hl:=hxb _ (cZ (by omega))) (hm:=hmb)) rfl<|?_
    refine br J J J (fun hc45=>?_) (fun hc45=>?_)
    ·
     have hnew: ∀h:n<xs.length,ai9 xs[n] m≠0:=fun h=>hc45
     obtain⟨ys,hys⟩: ∃ys,ys=xs.take n++m::xs.drop n:=⟨_,rfl⟩
     have hin:ad6 ai9 m xs=ys:=by rw[hys];exact adB ai9 hnx hnew
     have hyl:ys.length≤xs.length+1:=by rw[hys];simp;omega
     refine s3 n _ J J J J (acZ _) (by rw[hxl];exact hnl) rfl<|ro J J<|sc' n xs.length _ J J (by rw[hxl]) rfl (acZ _) hnl (by omega) rfl<|?_
     refine ap _ J J (slD acZ _ _ _) rfl<|apf (hv:=by simp only[aaj];exact⟨by kernel_rfl,by omega⟩) (ho:=fun _=>⟨slT acZ _ _,by simp⟩) (ys.map eL) rfl (by rw[hys,bV,cK,gX,iK,aR (l:=xs.map eL) (i:=xs.length) (by simp)];rfl) (slI acZ _ _ _ _) rfl<|?_
     exact at_ ⟨ys,k+1⟩ (by dsimp only;exact⟨⟨by rw[adD hz,←hS,←hmc];exact hin.symm,by omega⟩,(by omega)⟩)
    ·
     have hin:ad6 ai9 m xs=xs:=agF ai9 hnx (by omega) (Decidable.not_not.1 hc45)
     exact at_ ⟨xs,k+1⟩ (by dsimp only;exact⟨⟨by rw[adD hz,←hS,←hmc];exact hin.symm,by omega⟩,(by omega)⟩)
 ·
  have hfin:apu ls=xs:=by rw[hS,anj (by omega)];rfl
  exact rz rfl (by rw[hfin];rfl)
theorem avg(l:LnQ)(p:PtQ):l.canon.value p=l.value p∨l.canon.value p= -l.value p:=by
 unfold LnQ.canon
 split
 ·exact .inr (aaI l p)
 ·exact .inl rfl
def fcs(a b:Tr):List PtQ:=azq (apu (a.lns++b.lns))
def eqR(a b:Tr):Bool:=(fcs a b).all fun p=>atQ a p==atQ b p
def aJs(f:Bool→Bool→Bool)(a b:Tr):Bool:=(fcs a b).any fun p=>f (atQ a p) (atQ b p)
def aH0(v:Bool)(t:Tr):Bool:=decide ((t.restrict []).isLeaf=true∧(t.restrict []).code=v)
theorem aqo{α:Type}{c:α→α→Int}(hT: ∀u v w,c u v<0→c v w<0→c u w<0)(hA: ∀u v,¬c u v<0→c u v≠0→c v u<0){x:α}: ∀{xs:List α},xs.Pairwise (fun a b=>c a b<0)→(ad6 c x xs).Pairwise (fun a b=>c a b<0)
 |[],_=>by rw[ad6];exact List.pairwise_singleton _ _
 |u::t,h=>by
  obtain⟨h1,h2⟩:=bR.1 h
  rw[ad6]
  split
  ·rename_i hu
   refine bR.2 ⟨fun y hy=>?_,aqo hT hA h2⟩
   rcases alm c hy with rfl|hy
   ·exact hu
   ·exact h1 y hy
  ·rename_i hu
   split
   ·exact h
   ·rename_i hz
    have hx:=hA u x hu hz
    refine bR.2 ⟨fun y hy=>?_,h⟩
    rcases aU.1 hy with rfl|hy
    ·exact hx
    ·exact hT _ _ _ hx (h1 y hy)
theorem an3{α:Type}{c:α→α→Int}(hT: ∀u v w,c u v<0→c v w<0→c u w<0)(hA: ∀u v,¬c u v<0→c u v≠0→c v u<0): ∀{l o:List α},o.Pairwise (fun a b=>c a b<0)→(l.foldl (fun out x=>ad6 c x out) o).Pairwise (fun a b=>c a b<0)
 |[],o,h=>h
 |x::l,o,h=>an3 (l:=l) (o:=ad6 c x o) hT hA (aqo hT hA h)
def aFA(L:List LnQ)(p:PtQ):List PtQ:=L.flatMap fun l=>if Int.sign (l.value p).num=0 then [l.dir,abR l.dir] else []
theorem az5{u v:PtQ}:0<aay u v↔Bef v u:=by
 unfold aay Bef
 split
 ·rename_i h;exact⟨fun e=>absurd e (by decide),fun e=>by omega⟩
 ·rename_i h
  split
  ·rename_i h2;exact⟨fun _=> .inl h2,fun _=>by decide⟩
  ·rename_i h2
   have e:v.half=u.half:=by omega
   rw[aal u v]
   constructor
   ·intro k
    have:Int.sign (u.cross v).num<0:=by omega
    rw[ael] at this
    exact .inr ⟨e,by grind⟩
   ·rintro (k|⟨_,k⟩)
    ·omega
    ·have:Int.sign (u.cross v).num<0:=(ael _).2 (by grind)
     omega
theorem Bef.trans{u v w:PtQ}(hu:u.half≠0)(hv:v.half≠0)(hw:w.half≠0)(h:Bef u v)(k:Bef v w):Bef u w:=by
 rcases h with h|⟨h,h'⟩<;>rcases k with k|⟨k,k'⟩
 ·exact .inl (by omega)
 ·exact .inl (by omega)
 ·exact .inl (by omega)
 ·refine .inr ⟨h.trans k,?_⟩
  have id1:u.cross w*v.y=u.cross v*w.y+v.cross w*u.y:=by unfold PtQ.cross;grind
  rcases aaM v with⟨x,q⟩|⟨x,q⟩|⟨x,q⟩
  ·rw[x] at h k
   have qu:=abv.1 h
   have qw:=abv.1 k.symm
   rcases q with q|⟨q,q'⟩
   ·rw[←aai q,id1]
    have wy:0≤w.y:=by grind
    have uy:0≤u.y:=by grind
    have a1:=aac (cM h') wy
    rcases qu with qu|⟨qu,qu'⟩
    ·have:=aab k' qu;grind
    ·rcases qw with qw|⟨qw,qw'⟩
     ·have:=aab h' qw;rw[qu];grind
     ·exfalso
      have hx:v.cross w= -(w.x*v.y):=by unfold PtQ.cross;rw[qw];grind
      have:=aab qw' q
      grind
   ·exfalso
    have hx:u.cross v= -(v.x*u.y):=by unfold PtQ.cross;rw[q];grind
    have:=aac (a:=v.x) (b:=u.y) (cM q') (by grind)
    grind
  ·rw[x] at h k
   have qu:=acz.1 h
   have qw:=acz.1 k.symm
   rcases q with q|⟨q,q'⟩
   ·have e1:u.cross w* -v.y=u.cross v* -w.y+v.cross w* -u.y:=by grind
    rw[←aai (k:= -v.y) (by grind),e1]
    have a1:=aac (a:=u.cross v) (b:= -w.y) (cM h') (by grind)
    rcases qu with qu|⟨qu,qu'⟩
    ·have:=aab (a:=v.cross w) (b:= -u.y) k' (by grind);grind
    ·rcases qw with qw|⟨qw,qw'⟩
     ·have:=aab (a:=u.cross v) (b:= -w.y) h' (by grind);rw[qu];grind
     ·exfalso
      have hx:v.cross w= -(-w.x* -v.y):=by unfold PtQ.cross;rw[qw];grind
      have:=aab (a:= -w.x) (b:= -v.y) (by grind) (by grind)
      grind
   ·exfalso
    have hx:u.cross v= -(-v.x* -u.y):=by unfold PtQ.cross;rw[q];grind
    have:=aac (a:= -v.x) (b:= -u.y) (by grind) (by grind)
    grind
  ·exact absurd x hv
def aFV(S:List PtQ)(x:PtQ):Nat→Nat
 |0=>0
 |k+1=>if 0<aay (S.getD k ⟨0,0⟩) x then aFV S x k else k+1
def aHZ(S:List PtQ)(x:PtQ):List PtQ:=S.take (aFV S x S.length)++x::S.drop (aFV S x S.length)
def aGD(ds:List PtQ):List PtQ:=ds.foldl aHZ []
structure aI8 (L:List LnQ):Prop where
 ok: ∀l∈L,l.ok
 cn: ∀l∈L,ar8 l=false
 nd:L.Pairwise (fun a b=>a≠b)
theorem anb{l:LnQ}(h:l.ok):ar8 l.canon=false:=by
 have hn:=h.ne
 unfold LnQ.Ne at hn
 unfold LnQ.canon
 split
 ·rename_i k
  unfold ar8 at*
  rw[decide_eq_true_eq] at k
  rw[decide_eq_false_iff_not]
  show¬(-l.a<0∨(-l.a=0∧ -l.b<0))
  omega
 ·rename_i k;simpa using k
theorem ah2{l:LnQ}(h:l.ok):l.dir.half≠0:=fun e=>by
 have hn:=h.ne
 unfold LnQ.Ne at hn
 rcases aaM l.dir with⟨k,_⟩|⟨k,_⟩|⟨_,k1,k2⟩
 ·rw[k] at e;cases e
 ·rw[k] at e;cases e
 ·unfold LnQ.dir at k1 k2
  simp only at k1 k2
  apply hn
  refine⟨?_,dQ.1 k2⟩
  have:(l.a:Rat)=0:=by grind
  exact dQ.1 this
theorem aCp{d:PtQ}(h:d.half≠0):(abR d).half≠0:=by rw[adA h];have:=aaY h;omega
theorem afk(d:PtQ):abR (abR d)=d:=by unfold abR;cases d;simp
theorem aBu{l m:LnQ}(hl:l.ok)(hm:m.ok)(cl:ar8 l=false)(cm:ar8 m=false){p:PtQ}(h1:l.value p=0)(h2:m.value p=0)(hc:l.dir.cross m.dir=0):l=m:=by
 have key: ∀t,l.value (m.at t)=0:=fun t=>by
  obtain⟨s,rfl⟩:=asz hm.ne h2
  rw[acR] at h1⊢
  have hk:m.cutK l=0:=by
   unfold LnQ.cutK
   rw[←ab7];exact hc
  rw[hk] at h1⊢
  grind
 rcases aex hl hm key with e|e
 ·exact e
 ·exfalso
  have hn:=hm.ne
  unfold LnQ.Ne at hn
  rw[e] at cl
  unfold ar8 at cl cm
  rw[decide_eq_false_iff_not] at cl cm
  have cl: ¬(-m.a<0∨(-m.a=0∧ -m.b<0)):=cl
  omega
theorem ayL{ds:List PtQ}(h:ds.Pairwise Bef)(hd:ayy ds){i:Nat}(hi:i<ds.length)(hj:(i+1)%ds.length<ds.length):Nxt ds ds[i] ds[(i+1)%ds.length]:=by
 have hp:=iN.1 h
 have irr: ∀{u v:PtQ},Bef u v→ ¬Bef v u:=fun{u v} a b=>by
  unfold Bef at a b
  rw[aal u v] at b
  rcases a with a|⟨a,a'⟩<;>rcases b with b|⟨b,b'⟩
  ·omega
  ·omega
  ·omega
  ·grind
 have ord: ∀{j k:Nat} (a:j<ds.length) (b:k<ds.length),Bef ds[j] ds[k]→j<k:=fun{j k} a b q=>by
  rcases pZ j k with e|e|e
  ·exact e
  ·subst e;exact absurd q (irr q)
  ·exact absurd (hp k j b a e) (irr q)
 by_cases hl:i+1<ds.length
 ·have e:(i+1)%ds.length=i+1:=dV hl
  simp only[e]
  refine .inl ⟨hp i (i+1) hi hl (by omega),fun d hd' ⟨q1,q2⟩=>?_⟩
  obtain⟨j,hj',rfl⟩:=qJ hd'
  have:=ord hi hj' q1
  have:=ord hj' hl q2
  omega
 ·have e:(i+1)%ds.length=0:=by rw[show i+1=ds.length by omega];exact Nat.mod_self _
  simp only[e]
  refine .inr ⟨fun d hd' q=>?_,fun d hd' q=>?_⟩
  ·obtain⟨j,hj',rfl⟩:=qJ hd'
   have:=ord hi hj' q
   omega
  ·obtain⟨j,hj',rfl⟩:=qJ hd'
   have:=ord hj' (by omega) q
   omega
def aDw(v:PtQ):Nat:=Nat.gcd (v.x.num.natAbs*v.y.den) (v.y.num.natAbs*v.x.den)
def aCX(n:Int)(d g:Nat):Int:=if n<0 then-((n.natAbs*d/g:Nat):Int) else((n.natAbs*d/g:Nat):Int)
def aEX(v:PtQ):PtQ:=if v.half=0 then⟨0,0⟩ else⟨(aCX v.x.num v.y.den (aDw v):Int),(aCX v.y.num v.x.den (aDw v):Int)⟩
def aIE(ds:List PtQ)(i:Nat):List PtQ:=
 if aay (ds.getD i ⟨0,0⟩) (ds.getD ((i+1)%ds.length) ⟨0,0⟩)=0∧2<ds.length then []
 else if Int.sign ((ds.getD i ⟨0,0⟩).cross (ds.getD ((i+1)%ds.length) ⟨0,0⟩)).num=0 then [aem (ds.getD i ⟨0,0⟩)]
 else [act (aEX (ds.getD i ⟨0,0⟩)) (aEX (ds.getD ((i+1)%ds.length) ⟨0,0⟩)) 1]
def aFH(ds:List PtQ):List PtQ:=if ds.length=0 then [⟨1,0⟩] else(List.range ds.length).flatMap (aIE ds)
def aEa(L:List LnQ)(p:PtQ):List PtQ:=aFH (aGD (aFA L p))
theorem alw{ds:List PtQ}{i:Nat}(h:i<ds.length):ds.getD i ⟨0,0⟩=ds[i]:=by
 rw[aX,aQ h,lV]
def aIX(t:Tr)(p:PtQ):Bool:=(aEa (apu t.lns) p).any fun v=>(af9 t p v).1
def aJb(t:Tr)(p:PtQ):Bool:=(aEa (apu t.lns) p).all fun v=>(af9 t p v).1
end Go.Sx
end
