/-
  Plain geometry: the cells of a tree, a point inside a cell, the leaf near a point in a direction. Program: numbers and points written, the cells of a tree, a point inside a cell. Regions that draw their order, with a tree of orders. Reference: the place of a line, canonical cells, restriction. Insertion into an ascending list, as the reference does it; lists taken apart. Reference: numbers and points of package api; orientation; canonical lines. Reference: sorted points, distinct lines. Reference: spans: classes, probes, ends.
-/
import Derived.Test.YtopfgminkdfpkaaGreatDoorMw14
set_option linter.unusedSimpArgs false
set_option maxHeartbeats 4000000
set_option maxRecDepth 100000
set_option linter.unusedVariables false
section
namespace Go.Sx
open Go Go.Proofs
variable {GB:Gh}
theorem acY: ∀{t:Tr} {c:aaf} {b:Bool} {e:aaf},t.all LnQ.ok→aa3 c→(b,e)∈t.parts c→aa3 e∧ ∀p,InD e p→InD c p∧t.val p=b
 | .leaf v,c,b,e,_,hc,h=>by
  rw[Tr.parts,List.mem_singleton] at h
  cases h
  exact⟨hc,fun p hp=>⟨hp,rfl⟩⟩
 | .node l x y,c,b,e,⟨hl,hx,hy⟩,hc,h=>by
  rw[Tr.parts] at h
  rcases List.mem_append.1 h with h|h
  ·split at h
   ·rename_i hb
    obtain⟨k1,k2⟩:=aaY hc hl hb
    obtain⟨m1,m2⟩:=acY hx k1 h
    refine⟨m1,fun p hp=>?_⟩
    obtain⟨n1,n2⟩:=m2 p hp
    obtain⟨o1,o2⟩:=(k2 p).1 n1
    exact⟨o1,by rw[Tr.val_pos o2,n2]⟩
   ·cases h
  ·split at h
   ·rename_i hb
    obtain⟨k1,k2⟩:=aaY hc hl.rev hb
    obtain⟨m1,m2⟩:=acY hy k1 h
    refine⟨m1,fun p hp=>?_⟩
    obtain⟨n1,n2⟩:=m2 p hp
    obtain⟨o1,o2⟩:=(k2 p).1 n1
    rw[aaM] at o2
    exact⟨o1,by rw[Tr.val_neg (by grind),n2]⟩
   ·cases h
theorem agq: ∀{t:Tr} {c:aaf} {p:PtQ},t.all LnQ.ok→aa3 c→InD c p→Off t.lns p→ ∃b e,(b,e)∈t.parts c∧InD e p
 | .leaf v,c,p,_,_,hp,_=>⟨v,c,List.mem_singleton.2 rfl,hp⟩
 | .node l x y,c,p,⟨hl,hx,hy⟩,hc,hp,ho=>by
  have h0:=ho.l
  rw[Tr.parts]
  by_cases h:0<l.value p
  ·have hb:=(adE hc hl).2 ⟨p,hp,h⟩
   obtain⟨k1,k2⟩:=aaY hc hl hb
   obtain⟨b,e,m1,m2⟩:=agq hx k1 ((k2 p).2 ⟨hp,h⟩) ho.x
   exact⟨b,e,List.mem_append_left _ (by rw[if_pos hb];exact m1),m2⟩
  ·have h':0<l.rev.value p:=by rw[aaM];grind
   have hb:=(adE hc hl.rev).2 ⟨p,hp,h'⟩
   obtain⟨k1,k2⟩:=aaY hc hl.rev hb
   obtain⟨b,e,m1,m2⟩:=agq hy k1 ((k2 p).2 ⟨hp,h'⟩) ho.y
   exact⟨b,e,List.mem_append_right _ (by rw[if_pos hb];exact m1),m2⟩
def aaW(t:Tr):List aaf:=((t.parts []).filter (·.1)).map (·.2)
theorem adK{t:Tr}{e:aaf}:e∈aaW t↔(true,e)∈t.parts []:=by
 unfold aaW
 simp
theorem an1{t:Tr}(h:t.all LnQ.ok):aaW t=[]↔ ∀p,Off t.lns p→t.val p=false:=by
 constructor
 ·intro hc p hp
  obtain⟨b,e,h1,h2⟩:=agq h aa3.nil (ags p) hp
  cases b with
  |true=>have:=adK.2 h1;rw[hc] at this;cases this
  |false=>exact((acY h aa3.nil h1).2 p h2).2
 ·intro hv
  cases hc:aaW t with
  |nil=>rfl
  |cons e r=>
   exfalso
   obtain⟨g,hs⟩:=acY h aa3.nil (adK.1 (by rw[hc];exact List.mem_cons_self))
   obtain⟨q,h1,h2⟩:=atL g t.lns (adk h)
   have:=(hs q h1).2
   rw[hv q h2] at this
   cases this
def akn(l:LnQ)(p:PtQ):aaf→Rat→Rat
 |[],f=>f
 |s::c,f=>akn l p c (if Int.sign (s.l.nor.dot l.nor).num<0 then(if-(s.l.value p/s.l.nor.dot l.nor)<f then-(s.l.value p/s.l.nor.dot l.nor) else f) else f)
def aaF:aaf→PtQ
 |[]=>⟨0,0⟩
 |s::c=>acR (s.l.at s.v.sample) s.l.nor (akn s.l (s.l.at s.v.sample) c 1*mkRat 1 2)
theorem av9{v k:Rat}(hk:k<0)(hv:0<v):0< -(v/k):=by
 have e: -(v/k)* -k=v:=by grind
 exact(aal (k:= -k) (by grind)).1 (by rw[e];exact hv)
theorem alz{l:LnQ}{p:PtQ}: ∀{c:aaf} {f:Rat},0<f→(∀s∈c,s.l.nor.dot l.nor<0→0<s.l.value p)→0<akn l p c f∧akn l p c f≤f∧ ∀s∈c,s.l.nor.dot l.nor<0→akn l p c f≤ -(s.l.value p/s.l.nor.dot l.nor)
 |[],f,hf,_=>⟨hf,Rat.le_refl,fun s hs=>by cases hs⟩
 |s::c,f,hf,h=>by
  have h0:=h s List.mem_cons_self
  have h1:=fun u hu=>h u (List.mem_cons_of_mem _ hu)
  rw[akn]
  by_cases hk:s.l.nor.dot l.nor<0
  ·have hp:=av9 hk (h0 hk)
   rw[if_pos ((afj _).2 hk)]
   obtain⟨k1,k2,k3⟩:=alz (c:=c) (f:=if-(s.l.value p/s.l.nor.dot l.nor)<f then-(s.l.value p/s.l.nor.dot l.nor) else f) (by split<;>assumption) h1
   refine⟨k1,?_,fun u hu=>?_⟩
   ·split at k2<;>grind
   ·rcases List.mem_cons.1 hu with rfl|hu
    ·intro _;split at k2<;>grind
    ·exact k3 u hu
  ·rw[if_neg (fun e=>hk ((afj _).1 e))]
   obtain⟨k1,k2,k3⟩:=alz (c:=c) hf h1
   refine⟨k1,k2,fun u hu=>?_⟩
   rcases List.mem_cons.1 hu with rfl|hu
   ·intro e;exact absurd e hk
   ·exact k3 u hu
theorem apz: ∀{c:aaf},aa3 c→InD c (aaF c)
 |[],_=>ags _
 |s::c,hc=>by
  have hs:s∈s::c:=List.mem_cons_self
  obtain⟨p1,p2⟩:=hc.edge s hs
  have hin:=(p2 s.v.sample).1 (acZ p1).has
  have hne:=(hc.ok s hs).ne
  have hself:=ahI hne s.v.sample
  have hpos: ∀g∈c,g.l≠s.l→0<g.l.value (s.l.at s.v.sample):=fun g hg hn=>by
   have h1:=hin g (List.mem_cons_of_mem _ hg)
   have h2:g.l.value (s.l.at s.v.sample)≠0:=fun e=>hn (amN hc hs (hc.ok g (List.mem_cons_of_mem _ hg)) (fun p hp=>hp g (List.mem_cons_of_mem _ hg)) e)
   grind
  have hnn:=agI hne
  have hk: ∀g∈c,g.l.nor.dot s.l.nor<0→0<g.l.value (s.l.at s.v.sample):=fun g hg hk=>hpos g hg (fun e=>by rw[e] at hk;grind)
  obtain⟨f1,f2,f3⟩:=alz (l:=s.l) (p:=s.l.at s.v.sample) (c:=c) (f:=1) (by decide) hk
  show InD (s::c) (acR (s.l.at s.v.sample) s.l.nor (akn s.l (s.l.at s.v.sample) c 1*mkRat 1 2))
  rw[atq]
  generalize akn s.l (s.l.at s.v.sample) c 1=F at f1 f2 f3⊢
  intro g hg
  rw[abS]
  have hhalf:0<F*(1/2):=by grind
  rcases List.mem_cons.1 hg with e|hg
  ·rw[e,hself,Rat.zero_add]
   exact aae hhalf hnn
  ·by_cases he:g.l=s.l
   ·rw[he,hself]
    have:=aae (a:=F*(1/2)) (b:=s.l.nor.dot s.l.nor) (by grind) hnn
    grind
   ·have hv:=hpos g hg he
    by_cases hk2:g.l.nor.dot s.l.nor<0
    ·have hf:=f3 g hg hk2
     generalize g.l.nor.dot s.l.nor=k at hk2 hf⊢
     generalize g.l.value (s.l.at s.v.sample)=v at hf hv⊢
     have e1: -(v/k)* -k=v:=by grind
     generalize-(v/k)=w at e1 hf
     have:=aah (a:=w-F) (b:= -k) (by grind) (by grind)
     clear hin hpos hk f3 hc p2
     grind
    ·have h9:=aah (a:=F*(1/2)) (b:=g.l.nor.dot s.l.nor) (Rat.le_of_lt hhalf) (by grind)
     generalize F*(1/2)*g.l.nor.dot s.l.nor=z at h9⊢
     clear hin hpos hk f3 hc p2
     grind
def amD:Tr→PtQ→PtQ→Bool×Bool
 | .leaf b,_,_=>(b,true)
 | .node l x y,p,v=>match (if(l.value p).num.sign=0 then(l.dir.cross v).num.sign else(l.value p).num.sign) with
  |1=>amD x p v
  | -1=>amD y p v
  |_=>(false,false)
theorem ajC(l:LnQ)(v:PtQ):l.dir.cross v=l.nor.dot v:=by
 unfold LnQ.dir LnQ.nor PtQ.cross PtQ.dot
 grind
def Gn(L:List LnQ)(p v:PtQ):Prop:= ∀l∈L,l.value p=0→l.nor.dot v≠0
theorem aDS{l:LnQ}{p v:PtQ}(h:l.value p=0→l.nor.dot v≠0): ∃e:Rat,0<e∧ ∀d,0<d→d≤e→(0<l.value (acR p v d)↔0<l.value p∨(l.value p=0∧0<l.nor.dot v))∧(l.value (acR p v d)<0↔l.value p<0∨(l.value p=0∧l.nor.dot v<0)):=by
 generalize hk:l.nor.dot v=k at*
 by_cases h0:l.value p=0
 ·have hk0:=h h0
  refine⟨1,by decide,fun d h1 _=>?_⟩
  rw[abS,hk,h0]
  rcases abj k with e|e|e
  ·exact absurd e hk0
  ·have:=aae h1 e;grind
  ·have:=aae (a:=d) (b:= -k) h1 (by grind);grind
 ·have key: ∀w:Rat,0<w→ ∃e:Rat,0<e∧ ∀d,0<d→d≤e→ ∀j:Rat,(j=k∨j= -k)→0<w+d*j:=fun w hw=>by
   have hA: ∃A:Rat,0<A∧k≤A∧ -k≤A:=by
    rcases abj k with e|e|e
    ·exact⟨1,by decide,by grind,by grind⟩
    ·exact⟨k,e,by grind,by grind⟩
    ·exact⟨-k,by grind,by grind,by grind⟩
   obtain⟨A,a1,a2,a3⟩:=hA
   refine⟨w/(2*A),?_,fun d d1 d2 j hj=>?_⟩
   ·have e1:w/(2*A)*(2*A)=w:=by grind
    exact(aal (k:=2*A) (by grind)).1 (by rw[e1];exact hw)
   ·have e1:w/(2*A)*(2*A)=w:=by grind
    generalize w/(2*A)=f at*
    have h1:=aah (a:=f-d) (b:=A) (by grind) (by grind)
    have h2:=aah (a:=d) (b:=A+j) (by grind) (by rcases hj with rfl|rfl<;>grind)
    grind
  rcases abj (l.value p) with e|e|e
  ·exact absurd e h0
  ·obtain⟨f,f1,f2⟩:=key _ e
   refine⟨f,f1,fun d d1 d2=>?_⟩
   have:=f2 d d1 d2 k (.inl rfl)
   rw[abS,hk]
   grind
  ·obtain⟨f,f1,f2⟩:=key (-l.value p) (by grind)
   refine⟨f,f1,fun d d1 d2=>?_⟩
   have:=f2 d d1 d2 (-k) (.inr rfl)
   rw[abS,hk]
   grind
theorem al6: ∀{t:Tr} {p v:PtQ},Gn t.lns p v→ ∃e:Rat,0<e∧ ∀d,0<d→d≤e→Off t.lns (acR p v d)∧amD t p v=(t.val (acR p v d),true)
 | .leaf b,p,v,_=>⟨1,by decide,fun d _ _=>⟨fun l hl=>(by cases hl),rfl⟩⟩
 | .node l x y,p,v,h=>by
  obtain⟨e1,a1,b1⟩:=aDS (h l List.mem_cons_self)
  obtain⟨e2,a2,b2⟩:=al6 (t:=x) (p:=p) (v:=v) (fun m hm=>h m (List.mem_cons_of_mem _ (List.mem_append_left _ hm)))
  obtain⟨e3,a3,b3⟩:=al6 (t:=y) (p:=p) (v:=v) (fun m hm=>h m (List.mem_cons_of_mem _ (List.mem_append_right _ hm)))
  have hgn:=h l List.mem_cons_self
  have hm: ∃e:Rat,0<e∧e≤e1∧e≤e2∧e≤e3:=by
   by_cases h1:e1≤e2
   ·by_cases h2:e1≤e3
    ·exact⟨e1,a1,by grind,h1,h2⟩
    ·exact⟨e3,a3,by grind,by grind,by grind⟩
   ·by_cases h2:e2≤e3
    ·exact⟨e2,a2,by grind,by grind,h2⟩
    ·exact⟨e3,a3,by grind,by grind,by grind⟩
  obtain⟨e,h0,h1,h2,h3⟩:=hm
  refine⟨e,h0,fun d d1 d2=>?_⟩
  obtain⟨c1,c2⟩:=b1 d d1 (by grind)
  obtain⟨o2,w2⟩:=b2 d d1 (by grind)
  obtain⟨o3,w3⟩:=b3 d d1 (by grind)
  have hs:(if(l.value p).num.sign=0 then(l.dir.cross v).num.sign else(l.value p).num.sign)=if 0<l.value (acR p v d) then 1 else-1:=by
   rw[ajC]
   by_cases hz:l.value p=0
   ·rw[if_pos ((abh _).2 hz)]
    split
    ·rename_i hp
     exact(aht _).2 (by rcases c1.1 hp with k|k;exact absurd k (by grind);exact k.2)
    ·rename_i hp
     have:l.nor.dot v<0:=by have:=hgn hz;have: ¬0<l.nor.dot v:=fun e=>hp (c1.2 (.inr ⟨hz,e⟩));grind
     exact Int.sign_eq_neg_one_iff_neg.2 (by have:=(afj _).2 this;rcases Int.lt_trichotomy (l.nor.dot v).num 0 with q|q|q;exact q;rw[q] at this;simp at this;rw[Int.sign_eq_one_of_pos q] at this;simp at this)
   ·rw[if_neg (fun e=>hz ((abh _).1 e))]
    split
    ·rename_i hp
     exact(aht _).2 (by rcases c1.1 hp with k|k;exact k;exact absurd k.1 hz)
    ·rename_i hp
     have:l.value p<0:=by have: ¬0<l.value p:=fun e=>hp (c1.2 (.inl e));grind
     exact Int.sign_eq_neg_one_iff_neg.2 (by have:=(afj _).2 this;rcases Int.lt_trichotomy (l.value p).num 0 with q|q|q;exact q;rw[q] at this;simp at this;rw[Int.sign_eq_one_of_pos q] at this;simp at this)
  have hz:l.value (acR p v d)≠0:=fun e=>by
   rcases abj (l.value p) with q|q|q
   ·rcases abj (l.nor.dot v) with r|r|r
    ·exact hgn q r
    ·have:=c1.2 (.inr ⟨q,r⟩);grind
    ·have:=c2.2 (.inr ⟨q,r⟩);grind
   ·have:=c1.2 (.inl q);grind
   ·have:=c2.2 (.inl q);grind
  refine⟨fun m hm=>?_,?_⟩
  ·rcases List.mem_cons.1 hm with rfl|hm
   ·exact hz
   ·exact(List.mem_append.1 hm).elim (o2 m) (o3 m)
  ·rw[amD,hs]
   by_cases hp:0<l.value (acR p v d)
   ·rw[if_pos hp,Tr.val_pos hp];exact w2
   ·rw[if_neg hp,Tr.val_neg hp];exact w3
def ePa(x:Bool×aaf):DV:= .ag [.sl (x.2.map eFr),eU (.leaf x.1)]
theorem aCo(l:List (Bool×aaf)):adx 2 (l.map ePa):=fun d hd=>by
 obtain⟨x,_,rfl⟩:=List.mem_map.1 hd
 exact⟨rfl,rfl⟩
theorem agy: ∀(t:Tr) (c:aaf),(t.parts c).length≤t.size+1
 | .leaf _,_=>Nat.le_refl _
 | .node l x y,c=>by
  have h1:=agy x (aaK c l)
  have h2:=agy y (aaK c l.rev)
  rw[Tr.parts,List.length_append,Tr.size]
  split<;>split<;>(try simp only[List.length_nil])<;>omega
theorem ayR{q:Rat}{i:Nat}[h:BQ q i](hi:i≤900000000:=by decide):PF GB Tryz.prog 123 [eF q] (eR q):=by
 refine fn Tryz.func123 J J Tryz.ntmps123 J J (fun C=>?_)
 refine cl rfl (apt (q:=q) (i:=i) hi) rfl<|cl rfl (aje (q:=q) (i:=i) hi) rfl<|?_
 exact rz J J
theorem apk{p:PtQ}{i:Nat}[h:BPt p i](hi:i≤900000000:=by decide):PF GB Tryz.prog 48 [eZ p] (ePt p):=by
 refine fn Tryz.func48 J J Tryz.ntmps48 J J (fun C=>?_)
 refine cl rfl (ayR (q:=p.x) (i:=i) hi) rfl<|cl rfl (ayR (q:=p.y) (i:=i) hi) rfl<|?_
 exact rz J J
theorem anA{b:Bool}{c:aaf}{o:List (Bool×aaf)}(hs:o.length≤1000000):PB GB Tryz.prog 177 (mkB [some (eU (.leaf b)),some (.sl (c.map eFr)),none]) 2 179 (o.map ePa) (fun w=> .v (.slice w.a w.n w.c)) ((o++Tr.parts (.leaf b) c).map ePa):=by
 refine fnQ Tryz.func177 J J Tryz.ntmps177 J J (fun C=>?_)
 refine cl (fu:=⟨0⟩) rfl abA rfl<|?_
 refine kbT 12 rfl ?_
 refine gx rfl<|rf J J<|apB ((o++[(b,c)]).map ePa) rfl (by rw[List.map_append]<;>rfl) (aCo [(b,c)]) rfl<|?_
 exact rzQ J J J J
theorem anS{l:LnQ}{x y:Tr}{c:aaf}{o:List (Bool×aaf)}(hl:LB l)(hlo:l.ok)(hc:aa5 c)(hn:c.length+(Tr.node l x y).depth≤100000)(hs:o.length+((Tr.node l x y).size+1)≤1000000)(ihx: ∀{c:aaf} {o:List (Bool×aaf)},aa5 c→c.length+x.depth≤100000→o.length+(x.size+1)≤1000000→PB GB Tryz.prog 177 (mkB [some (eU x),some (.sl (c.map eFr)),none]) 2 179 (o.map ePa) (fun w=> .v (.slice w.a w.n w.c)) ((o++Tr.parts x c).map ePa))(ihy: ∀{c:aaf} {o:List (Bool×aaf)},aa5 c→c.length+y.depth≤100000→o.length+(y.size+1)≤1000000→PB GB Tryz.prog 177 (mkB [some (eU y),some (.sl (c.map eFr)),none]) 2 179 (o.map ePa) (fun w=> .v (.slice w.a w.n w.c)) ((o++Tr.parts y c).map ePa)):PB GB Tryz.prog 177 (mkB [some (eU (.node l x y)),some (.sl (c.map eFr)),none]) 2 179 (o.map ePa) (fun w=> .v (.slice w.a w.n w.c)) ((o++Tr.parts (.node l x y) c).map ePa):=by
 have hk1:=adm c l
 have hk2:=adm c l.rev
 have hd:(Tr.node l x y).depth=1+max x.depth y.depth:=rfl
 have hz:(Tr.node l x y).size=1+x.size+y.size:=rfl
 have hp:=agy x (aaK c l)
 refine fnQ Tryz.func177 J J Tryz.ntmps177 J J (fun C=>?_)
 refine cl (fu:=⟨0⟩) rfl abK rfl<|?_
 refine kbF 12 rfl ?_
 refine gx rfl<|cl rfl (alL hlo hc (by omega)) rfl<|?_
 refine bb J J J (fun hc30=>?_) (fun hc30=>?_)
 ·
  have hs2:(o++x.parts (aaK c l)).length+(y.size+1)≤1000000:=by rw[List.length_append];omega
  refine cq ((o++x.parts (aaK c l)).map ePa) rfl (ihx (aeW hlo hc) (by omega) (by omega)) J J<|?_
  refine bb J J J (fun hc38=>?_) (fun hc38=>?_)
  ·
   refine cq _ rfl (ihy (aeW hlo.rev hc) (by omega) (by first|exact hs2|omega)) J J<|?_
   exact rzQ J J J (by simp[Tr.parts,hc30,hc38])
  ·
   exact rzQ J J J (by simp[Tr.parts,hc30,hc38])
 ·
  refine bb J J J (fun hc38=>?_) (fun hc38=>?_)
  ·
   refine cq _ rfl (ihy (aeW hlo.rev hc) (by omega) (by first|exact hs2|omega)) J J<|?_
   exact rzQ J J J (by simp[Tr.parts,hc30,hc38])
  ·
   exact rzQ J J J (by simp[Tr.parts,hc30,hc38])
theorem aoU: ∀{t:Tr} {c:aaf} {o:List (Bool×aaf)},t.all LB→t.all LnQ.ok→aa5 c→c.length+t.depth≤100000→o.length+(t.size+1)≤1000000→PB GB Tryz.prog 177 (mkB [some (eU t),some (.sl (c.map eFr)),none]) 2 179 (o.map ePa) (fun w=> .v (.slice w.a w.n w.c)) ((o++Tr.parts t c).map ePa)
 | .leaf _,_,_,_,_,_,_,hs=>anA (by simp only[Tr.size] at hs;omega)
 | .node _ _ _,_,_,hb,ho,hc,hn,hs=>anS hb.1 ho.1 hc hn hs (fun k1 k2 k3=>aoU hb.2.1 ho.2.1 k1 k2 k3) (fun k1 k2 k3=>aoU hb.2.2 ho.2.2 k1 k2 k3)
theorem ax4{t:Tr}(hb:t.all LB)(ho:t.all LnQ.ok)(hd:t.depth≤100000)(hs:t.size≤900000):PB GB Tryz.prog 177 (mkB [some (eU t),some (.sl []),none]) 2 179 [] (fun w=> .v (.slice w.a w.n w.c)) ((t.parts []).map ePa):=
 aoU (c:=[]) (o:=[]) hb ho aa5.nil (by rw[List.length_nil];omega) (by rw[List.length_nil];omega)
def eC(c:aaf):DV:= .sl (c.map eFr)
theorem aEV(l:List aaf):adx 1 (l.map eC):=fun d hd=>by
 obtain⟨x,_,rfl⟩:=List.mem_map.1 hd
 exact⟨rfl,rfl⟩
def ani(ps:List (Bool×aaf)):List aaf:=(ps.filter (·.1)).map (·.2)
theorem ajs{ps:List (Bool×aaf)}{k:Nat}{b:Bool}{e:aaf}(h:ps[k]? =some (b,e)):ani (ps.drop k)=(if b then [e] else [])++ani (ps.drop (k+1)):=by
 obtain⟨h1,h2⟩:=List.getElem?_eq_some_iff.1 h
 rw[List.drop_eq_getElem_cons h1,h2]
 unfold ani
 cases b<;>simp
theorem azY{t:Tr}(hb:t.all LB)(ho:t.all LnQ.ok)(hd:t.depth≤100000)(hs:t.size≤900000):PF GB Tryz.prog 109 [eU t] (.sl ((t.parts []).map ePa)):=by
 refine fn Tryz.func109 J J Tryz.ntmps109 J J (fun C=>?_)
 refine cqn _ rfl (ax4 hb ho hd hs) J J<|?_
 refine fzE 4 rfl ?_
 exact rz J J
theorem alQ{t:Tr}(hb:t.all LB)(ho:t.all LnQ.ok)(hd:t.depth≤100000)(hs:t.size≤900000):PF GB Tryz.prog 46 [eU t] (.sl ((aaW t).map eC)):=by
 obtain⟨ps,hps⟩: ∃ps,ps=t.parts []:=⟨_,rfl⟩
 have hpl:=agy t []
 rw[←hps] at hpl
 have hml:(ps.map ePa).length=ps.length:=List.length_map ..
 refine fn Tryz.func46 J J Tryz.ntmps46 J J (fun C=>?_)
 refine cl (fu:=⟨0⟩) rfl (azY hb ho hd hs) rfl<|?_
 refine eqF 7 (.d (.sl (ps.map ePa))) rfl (by rw[hps]) ?_
 refine gx (fu:=⟨1⟩) rfl<|?_
 refine eqF 8 (.d (vI (ps.length:Nat))) rfl (by rw[hml]<;>rfl) ?_
 refine gx rfl<|?_
 refine nr 3 3 106 1 J J J ?_
 refine lp (X:=List aaf×Nat) (fun⟨acc,k⟩=>[(9, .d (vI (k:Nat))),(3, .rw 3)]) (fun⟨acc,k⟩=>[(3,some (.b 106 1 (acc.map eC) true))]) (fun⟨acc,k⟩=>acc++ani (ps.drop k)=aaW t∧k≤ps.length) (fun⟨acc,k⟩=>ps.length-k) ⟨[],0⟩ rfl ⟨by rw[hps];rfl,Nat.zero_le _⟩ (fun _=>rfl) (fun⟨acc,k⟩ hk=>?_)
 try dsimp only at hk⊢
 obtain⟨h1,h2⟩:=hk
 have hal:acc.length≤ps.length:=by
  have q1:=congrArg List.length h1
  have q2:(aaW t).length≤ps.length:=by unfold aaW;rw[List.length_map,hps];exact List.length_filter_le ..
  rw[List.length_append] at q1;omega
 have ham:(acc.map eC).length=acc.length:=List.length_map ..
 refine br J J J (fun hc10=>?_) (fun hc10=>?_)
 ·
  obtain⟨⟨b,e⟩,hx⟩: ∃x,ps[k]? =some x:=⟨_,List.getElem?_eq_getElem (by omega)⟩
  refine ix _ rfl (aay hx) rfl<|?_
  refine bb J J J (fun hc17=>?_) (fun hc17=>?_)
  ·
   refine rf J J<|ap ((acc++[e]).map eC) rfl (by rw[List.map_append]<;>rfl) (aEV [e]) rfl<|?_
   refine rnE 22 3 rfl ?_
   exact at_ ⟨acc++[e],k+1⟩ (by dsimp only;exact⟨⟨by rw[←h1,ajs hx,if_pos hc17];simp,by omega⟩,(by omega)⟩)
  ·
   exact at_ ⟨acc,k+1⟩ (by dsimp only;exact⟨⟨by rw[←h1,ajs hx,if_neg (by simp at hc17;rw[hc17];decide)];rfl,by omega⟩,(by omega)⟩)
 ·
  obtain rfl:k=ps.length:=by omega
  obtain rfl:acc=aaW t:=by rw[List.drop_length] at h1;simpa[ani] using h1
  refine fzE 3 rfl ?_
  exact rz J J
theorem aEW(G:Gh)(y:Value)(h:Is G (.ag [vI 0,vI 0, .v (.pointer none),vI 0,vI 0, .v (.pointer none)]) y):Is G (eZ (aaF [])) y:=by
 obtain⟨m,rfl,g⟩:=abL.1 h
 obtain⟨v1,m,rfl,h1,g⟩:=aab.1 g
 obtain⟨v2,m,rfl,h2,g⟩:=aab.1 g
 obtain⟨v3,m,rfl,h3,g⟩:=aab.1 g
 obtain⟨v4,m,rfl,h4,g⟩:=aab.1 g
 obtain⟨v5,m,rfl,h5,g⟩:=aab.1 g
 obtain⟨v6,m,rfl,h6,g⟩:=aab.1 g
 cases aaJ.1 g
 have e1:=aB0 G _ (abL.2 ⟨[v1,v2,v3],rfl, .cons h1 (.cons h2 (.cons h3 .nil))⟩)
 have e2:=aB0 G _ (abL.2 ⟨[v4,v5,v6],rfl, .cons h4 (.cons h5 (.cons h6 .nil))⟩)
 obtain⟨m1,q1,g1⟩:=abL.1 e1
 obtain⟨m2,q2,g2⟩:=abL.1 e2
 cases q1;cases q2
 exact abL.2 ⟨_,rfl,g1.app g2⟩
theorem BQ.samp(v:IvQ)(i j:Nat)[h1:BQ v.lo i][h2:BQ v.hi j]:BQ v.sample (i+j+1+2):=by
 have b1:BQ (1:Rat) 1:=⟨by decide,by decide⟩
 unfold IvQ.sample
 split
 ·exact BQ.z1.mono (by omega)
 ·split
  ·exact(inferInstance:BQ (v.hi-1) (j+1+1)).mono (by omega)
  ·split
   ·exact(inferInstance:BQ (v.lo+1) (i+1+1)).mono (by omega)
   ·exact inferInstance
theorem alr{s:FrQ}(h:aEG s):BPt (s.l.at s.v.sample) 3500:=by
 haveI:=h.lb
 haveI:=h.v.lo
 haveI:=h.v.hi
 have h0:BQ s.v.sample _:=BQ.samp s.v 1200 1200
 have:= @BPt.at s.l s.v.sample _ _ h0
 exact⟨this.x.mono (by decide),this.y.mono (by decide)⟩
theorem auy{s g:FrQ}(hs:aEG s)(hg:aEG g):BQ (-(g.l.value (s.l.at s.v.sample)/g.l.nor.dot s.l.nor)) 9000:=by
 haveI:=hs.lb
 haveI:=hg.lb
 haveI:=alr hs
 exact BQ.mono (inferInstance:BQ (-(g.l.value (s.l.at s.v.sample)/g.l.nor.dot s.l.nor)) _) (by decide)
theorem axM:PF GB Tryz.prog 47 [eC []] (eZ (aaF [])):=by
 refine fn (fu:=⟨10⟩) Tryz.func47 J J Tryz.ntmps47 J J (fun C=>?_)
 refine knT rfl (by rfl) rfl<|?_
 exact rzI rfl aEW
theorem aCY(l:List FrQ):adx 17 (l.map eFr):=fun d hd=>by
 obtain⟨x,_,rfl⟩:=List.mem_map.1 hd
 exact⟨rfl,rfl⟩
theorem aqz{l:LnQ}{p:PtQ}{cs:aaf}{k:Nat}{g:FrQ}{f:Rat}(h:cs[k]? =some g):akn l p (cs.drop k) f=akn l p (cs.drop (k+1)) (if Int.sign (g.l.nor.dot l.nor).num<0 then(if-(g.l.value p/g.l.nor.dot l.nor)<f then-(g.l.value p/g.l.nor.dot l.nor) else f) else f):=by
 obtain⟨h1,h2⟩:=List.getElem?_eq_some_iff.1 h
 rw[List.drop_eq_getElem_cons h1,h2,akn]
theorem aqO(s:FrQ)(cs:aaf):aaF (s::cs)=(s.l.at s.v.sample).add (s.l.nor.scale (akn s.l (s.l.at s.v.sample) cs 1*mkRat 1 2)):=by
 show acR _ _ _=_
 unfold acR PtQ.add PtQ.scale
 simp only[PtQ.mk.injEq]
 constructor<;>grind
theorem awm{s:FrQ}{cs:aaf}(hc:aa5 (s::cs))(hn:cs.length≤100000):PF GB Tryz.prog 47 [eC (s::cs)] (eZ (aaF (s::cs))):=by
 have hs:=hc s List.mem_cons_self
 have hsl:=hs.lb
 have hv1:=hs.v.lo
 have hv2:=hs.v.hi
 have hp:=alr hs
 have hml:((s::cs).map eFr).length=cs.length+1:=by simp
 have hml2:(cs.map eFr).length=cs.length:=List.length_map ..
 refine fn (fu:=⟨10⟩) Tryz.func47 J J Tryz.ntmps47 J J (fun C=>?_)
 refine knF rfl (by show some (decide _)=some false;rw[decide_eq_false (by simp;omega)]) rfl<|ix _ J J J<|ix _ J J J<|cl rfl (aqR (v:=s.v) (i:=1200)) rfl<|?_
 refine cl rfl (aDC (l:=s.l) (t:=s.v.sample)) rfl<|ix _ J J J<|cl rfl (am7 (l:=s.l)) rfl<|cl rfl (akk (by omega)) rfl<|sc' (fu:=⟨1⟩) 1 (cs.length+1) (cs.map eFr) J J (by rw[hml]) (by rw[List.take_of_length_le (by rw[hml];exact Nat.le_refl _)];rfl) (aCY _) (by omega) (by omega) rfl<|?_
 refine eqF 31 (.d (vI (cs.length:Nat))) rfl (by rw[hml2]<;>rfl) ?_
 refine gx rfl<|?_
 refine lp (X:=Rat×Nat) (fun⟨f,k⟩=>[(32, .d (vI (k:Nat))),(5, .ov 5 0)]) (fun⟨f,k⟩=>[(5,some (.o 102 [.d (vI (fn_ f)), .d (vI (fd_ f)), .d (fp_ f)] true))]) (fun⟨f,k⟩=>akn s.l (s.l.at s.v.sample) (cs.drop k) f=akn s.l (s.l.at s.v.sample) cs 1∧k≤cs.length∧BQ f 9000) (fun⟨f,k⟩=>cs.length-k) ⟨((1:Int):Rat),0⟩ rfl ⟨rfl,Nat.zero_le _,BQ.mono (k:=2) ⟨by decide,by decide⟩ (by decide)⟩ (fun _=>rfl) (fun⟨f,k⟩ hk=>?_)
 try dsimp only at hk⊢
 obtain⟨h1,h2,h3⟩:=hk
 refine br J J J (fun hc33=>?_) (fun hc33=>?_)
 ·
  obtain⟨g,hx⟩: ∃g,cs[k]? =some g:=⟨_,List.getElem?_eq_getElem (by omega)⟩
  have hg:=hc g (List.mem_cons_of_mem _ (List.mem_of_getElem? hx))
  have hgl:=hg.lb
  have hfb:=auy hs hg
  refine ix _ rfl (aay hx) rfl<|cl rfl (am7 (l:=g.l)) rfl<|cl rfl (aqP (p:=g.l.nor) (q:=s.l.nor)) rfl<|cl rfl (ads (q:=g.l.nor.dot s.l.nor)) rfl<|?_
  refine br J J J (fun hc43=>?_) (fun hc43=>?_)
  ·
   refine cl rfl (alA (l:=g.l) (p:=(s.l.at s.v.sample))) rfl<|cl rfl (apT (p:=g.l.value (s.l.at s.v.sample)) (q:=g.l.nor.dot s.l.nor)) rfl<|?_
   refine cl rfl (ag6 (q:=g.l.value (s.l.at s.v.sample)/g.l.nor.dot s.l.nor)) rfl<|cl (hv:=by simp only[aai];exact⟨by kernel_rfl,by omega⟩) rfl (ayS (p:=f) (q:= -(g.l.value (s.l.at s.v.sample)/g.l.nor.dot s.l.nor))) rfl<|?_
   exact at_ ⟨if-(g.l.value (s.l.at s.v.sample)/g.l.nor.dot s.l.nor)<f then-(g.l.value (s.l.at s.v.sample)/g.l.nor.dot s.l.nor) else f,k+1⟩ (by dsimp only;exact⟨⟨by rw[←h1,aqz hx,if_pos hc43],by omega,by split;exact auy hs hg;exact h3⟩,(by omega)⟩)
  ·
   exact at_ ⟨f,k+1⟩ (by dsimp only;exact⟨⟨by rw[←h1,aqz hx,if_neg hc43],by omega,h3⟩,(by omega)⟩)
 ·
  obtain rfl:k=cs.length:=by omega
  obtain rfl:f=akn s.l (s.l.at s.v.sample) cs 1:=by rw[List.drop_length] at h1;exact h1
  refine cl rfl (aoN (q:=akn s.l (s.l.at s.v.sample) cs 1)) rfl<|cl rfl (alW (p:=s.l.nor) (c:=akn s.l (s.l.at s.v.sample) cs 1*mkRat 1 2)) rfl<|?_
  refine cl rfl (ayw (p:=(s.l.at s.v.sample)) (q:=s.l.nor.scale (akn s.l (s.l.at s.v.sample) cs 1*mkRat 1 2))) rfl<|?_
  exact rz rfl (by rw[aqO];rfl)
end Go.Sx
end
section
namespace Go.Sx
open Go
inductive OT where
 |z (π:List (Nat×Bool))
 |q (i:Nat) (t:OT)
 |a (i:Nat) (t:OT)
 |c (i:Nat) (t r:OT)
def OT.sz:OT→Nat
 | .z _=>0
 | .q _ t=>t.sz+1
 | .a _ t=>t.sz+1
 | .c _ t r=>t.sz+r.sz+1
def OT.d:OT→Nat
 | .z π=>π.length
 | .q _ t=>t.d+1
 | .a _ t=>t.d+1
 | .c _ t r=>Nat.max (t.d+1) r.d
section
variable {P:Program} {ops:Array Oper} {Q:Exit→Act→World→Prop} {S:World→Prop} {π₂:List (Nat×Bool)}
def dwN(P:Program)(ops:Array Oper)(Q:Exit→Act→World→Prop)(K:(World→Prop)→Act→World→Prop):List Nat→OT→(World→Prop)→Act→World→Prop
 |ks, .z π,S,a,w=>dwT P ops Q K ks π S a w
 |ks, .q i t,S,a,w=> ∃o v,ops[i]? =some o∧S w∧YieldsIf P ops S o v a∧dwN P ops Q K ks t S (a.put o.dst v) w
 |ks, .a i t,S,a,w=>wpOp P ops Q i (grS S (dwN P ops Q K ks t)) a w∧
   ∀j,(h:j∈ks)→wpOp P ops Q j (grS S (dwN P ops Q K (without ks j) (.a i t))) a w
 |ks, .c i t r,S,a,w=>wpOp P ops Q i (grS S (dwN P ops Q K ks t)) a w∧dwN P ops Q K ks r S a w∧
   ∀j,(h:j∈ks)→wpOp P ops Q j (grS S (dwN P ops Q K (without ks j) (.c i t r))) a w
termination_by ks t=>ks.length+t.sz
decreasing_by
 all_goals (first|(have:=aho h;simp only[OT.sz] at*;omega)|(simp only[OT.sz];omega))
def adG(ops:Array Oper)(fin:Nat→Bool)(π₂:List (Nat×Bool)):Nat→Bool→List Nat→OT→Array Bool→List Nat→Bool
 |0,_,_,_,_,_=>false
 |n+1,false,ks, .z π,l,_=>agO ops fin π₂ n ks π l
 |_+1,true,_, .z _,_,_=>false
 |n+1,false,ks, .q i t,l,_=>ale ops fin l i&&adG ops fin π₂ n false ks t (l.setIfInBounds i true) []
 |_+1,true,_, .q _ _,_,_=>false
 |n+1,true,ks, .a i t,l,rs=>rs.all (fun j=>Nat.beq j i)&&adG ops fin π₂ n false ks t (l.setIfInBounds i true) []
 |n+1,false,ks, .a i t,l,_=>!(Region.ready .any ops l).isEmpty&&(Region.ready .any ops l).all (fun j=>Nat.beq j i||ks.contains j)&&adG ops fin π₂ n false ks t (l.setIfInBounds i true) []&&ks.all fun j=>adG ops fin π₂ n false (without ks j) (.a i t) (l.setIfInBounds j true) []
 |n+1,true,ks, .c i t r,l,rs=>adG ops fin π₂ n false ks t (l.setIfInBounds i true) []&&adG ops fin π₂ n true ks r l (without rs i)
 |n+1,false,ks, .c i t r,l,_=>!(Region.ready .any ops l).isEmpty&&adG ops fin π₂ n false ks t (l.setIfInBounds i true) []&&adG ops fin π₂ n true ks r l (without ((Region.ready .any ops l).filter fun j=>!ks.contains j) i)&&ks.all fun j=>adG ops fin π₂ n false (without ks j) (.c i t r) (l.setIfInBounds j true) []
end
section
variable {P:Program} {GB:Gh} {C:Ctx} {n:Nat} {fr fr':FrF} {own own' own0 own1 own1':List adz} {bs bs0 bs1 bs1':List aej} {ops:Array Oper} {Q:Exit→Act→World→Prop} {fd:List FD} {π₂:List (Nat×Bool)} {t r:OT}
abbrev dnK (P:Program) (ops:Array Oper) (Q:Exit→Act→World→Prop) (K:(World→Prop)→Act→World→Prop) (t:OT):List Nat→(World→Prop)→Act→World→Prop:=fun ks S=>dwN P ops (acs Q) K ks t S
end
end Go.Sx
end
section
namespace Go.Sx
open Go Go.Proofs
variable {GB:Gh}
theorem agx{c:List LnQ}{l:LnQ}(hc: ∀m∈c,LB m)(hl:LB l): ∀m∈c++[l],LB m:=by
 rw[List.forall_mem_append]
 exact⟨hc,by simpa using hl⟩
theorem LB.rev{l:LnQ}(h:LB l):LB l.rev:=⟨⟨by rw[show l.rev.a= -l.a from rfl,Int.natAbs_neg];exact h.bl.a,by rw[show l.rev.b= -l.b from rfl,Int.natAbs_neg];exact h.bl.b,by rw[show l.rev.c= -l.c from rfl,Int.natAbs_neg];exact h.bl.c⟩⟩
theorem auX{c:List LnQ}{l:LnQ}(hc: ∀m∈c,LB m)(hok: ∀m∈c,m.ok)(hn:c.length≤900)(hl:LB l)(hlo:l.ok):PF GB Tryz.prog 104 [.sl (c.map eL),eL l] (vI (aec c l)):=by
 have hcl:=ae5 c
 refine fn Tryz.func104 J J Tryz.ntmps104 J J (fun C=>?_)
 refine ro0 J J<|ap (c.map eL) J J (acl _) rfl<|rf J J<|apf ((c++[l]).map eL) rfl (by rw[List.map_append];rfl) (acl [l]) rfl<|?_
 refine cl rfl (aps (c:=c++[l]) (agx hc hl) (acn hok hlo) (by simp;omega)) rfl<|ro0 J J<|ap (c.map eL) J J (acl _) rfl<|cl rfl (akB (l:=l)) rfl<|?_
 refine rf J J<|apf ((c++[l.rev]).map eL) rfl (by rw[List.map_append];rfl) (acl [l.rev]) rfl<|cl rfl (aps (c:=c++[l.rev]) (agx hc hl.rev) (acn hok hlo.rev) (by simp;omega)) rfl<|?_
 refine csb 31 J J J (fun hg31=>?_) (fun hg31=>?_)
 ·
  refine bb J J J (fun hc33=>?_) (fun hc33=>?_)
  ·
   exact rz rfl (by show vI 0=vI _;congr 1;unfold aec;simp_all)
  ·
   refine bb J J J (fun hc34=>?_) (fun hc34=>?_)
   ·
    exact rz rfl (by show vI 1=vI _;congr 1;unfold aec;simp_all)
   ·
    exact rz rfl (by simp[hg31] at hc34)
 ·
  refine bb J J J (fun hc34=>?_) (fun hc34=>?_)
  ·
   exact rz rfl (by simp[hg31] at hc34)
  ·
   exact rz rfl (by show vI (-1)=vI _;congr 1;unfold aec;simp_all)
theorem afb{α:Type}{p:α→Bool}: ∀{xs:List α} {n:Nat},n≤xs.length→(∀j (h:j<xs.length),j<n→p xs[j]=true)→(∀h:n<xs.length,p xs[n]=false)→(xs.takeWhile p).length=n
 |[],n,h,_,_=>by simp at h;subst h;rfl
 |x::xs,0,_,_,h3=>by
  have:=h3 (by simp)
  simp only[List.getElem_cons_zero] at this
  simp[List.takeWhile_cons,this]
 |x::xs,n+1,h1,h2,h3=>by
  have hx:=h2 0 (by simp) (by omega)
  simp only[List.getElem_cons_zero] at hx
  rw[List.takeWhile_cons,if_pos hx,List.length_cons]
  rw[afb (n:=n) (by simpa using h1) (fun j h hj=>by have:=h2 (j+1) (by simpa using h) (by omega);simpa using this) (fun h=>by have:=h3 (by simpa using h);simpa using this)]
theorem anF{xs:List LnQ}{l:LnQ}{n:Nat}(h1:n≤xs.length)(h2: ∀j (h:j<xs.length),j<n→abY xs[j].dir l.dir<0)(h3: ∀h:n<xs.length,¬abY xs[n].dir l.dir<0):aff xs l=n:=
 afb h1 (fun j h hj=>decide_eq_true (h2 j h hj)) (fun h=>decide_eq_false (h3 h))
theorem aoe{xs:List LnQ}{l:LnQ}{n:Nat}(hn:aff xs l=n)(h:n<xs.length)(e:xs[n]=l):ac5 xs l=xs:=by
 unfold ac5;rw[hn,if_pos (by rw[List.getElem?_eq_getElem h,e])]
theorem ahW{xs:List LnQ}{l:LnQ}{n:Nat}(hn:aff xs l=n)(h: ∀h:n<xs.length,xs[n]≠l):ac5 xs l=xs.take n++l::xs.drop n:=by
 unfold ac5
 rw[hn,if_neg]
 intro e
 obtain⟨h1,h2⟩:=List.getElem?_eq_some_iff.1 e
 exact h h1 h2
theorem azr(xs:List LnQ)(n:Nat):adx 6 ((xs.map eL).take n):=fun d hd=>acl xs d (List.mem_of_mem_take hd)
theorem atV(xs:List LnQ)(n m:Nat):adx 6 (((xs.map eL).take n).drop m):=fun d hd=>acl xs d (List.mem_of_mem_take (List.mem_of_mem_drop hd))
theorem ay4(xs:List LnQ)(n m:Nat)(l:LnQ):adx 6 ([eL l]++((xs.map eL).take n).drop m):=fun d hd=>by
 rcases List.mem_append.1 hd with h|h
 ·exact acl [l] d h
 ·exact atV xs n m d h
structure Cst (c:List LnQ) (k:Nat) (xs:List LnQ):Prop where
 le:k≤c.length
 f:afe c (c.drop k) xs=abW c
 m: ∀m∈xs,m∈c
 n:xs.length≤k
theorem Cst.skip{c xs:List LnQ}{k:Nat}(h:Cst c k xs)(hk:k<c.length)(e:(adb c[k] c IvQ.all).isSome=false):Cst c (k+1) xs:=by
 have:=h.f
 rw[List.drop_eq_getElem_cons hk,afe,e] at this
 exact⟨hk,this,h.m,by have:=h.n;omega⟩
theorem Cst.ins{c xs ys:List LnQ}{k:Nat}(h:Cst c k xs)(hk:k<c.length)(e:(adb c[k] c IvQ.all).isSome=true)(hy:ac5 xs c[k]=ys)(hl:ys.length≤xs.length+1):Cst c (k+1) ys:=by
 have:=h.f
 rw[List.drop_eq_getElem_cons hk,afe,e,if_pos rfl,hy] at this
 refine⟨hk,this,fun m hm=>?_,by have:=h.n;omega⟩
 rw[←hy] at hm
 rcases ah8.1 hm with rfl|hm
 ·exact List.getElem_mem hk
 ·exact h.m m hm
theorem Cst.done{c xs:List LnQ}{k:Nat}(h:Cst c k xs)(hk:k=c.length):abW c=xs:=by
 have:=h.f
 rw[hk,List.drop_length,afe] at this
 exact this.symm
def ats(c:List LnQ):Bool:=if(((c.map eL).length:Nat):Int)=0 then true else decide ((0:Int)<((((abW c).map eL).length:Nat):Int))
theorem Cst.nil(c:List LnQ):Cst c 0 []:=⟨Nat.zero_le _,rfl,fun m hm=>absurd hm (by simp),Nat.le_refl _⟩
theorem aAP{c:List LnQ}(hc: ∀m∈c,LB m)(hok: ∀m∈c,m.ok)(hn:c.length≤1000):PF GB Tryz.prog 169 [.sl (c.map eL)] (.tp [.sl ((abW c).map eL),vB (ats c)]):=by
 have hcl:=ae5 c
 refine fn (fu:=⟨16⟩) Tryz.func169 J J Tryz.ntmps169 J J (fun C=>?_)
 refine eqF 11 (.d (vI (c.length:Nat))) rfl (by rw[hcl];rfl) ?_
 refine gx rfl<|?_
 refine nlC 4 rfl ?_
 refine lp (X:=List LnQ×Nat) (fun⟨xs,k⟩=>[(12, .d (vI (k:Nat))),(11, .d (vI (c.length:Nat))),(10, .d (.sl (c.map eL))),(0, .d (.sl (c.map eL))),(4, .d (.sl (xs.map eL)))]) (fun⟨xs,k⟩=>[]) (fun⟨xs,k⟩=>Cst c k xs) (fun⟨xs,k⟩=>c.length-k) ⟨[],0⟩ rfl (Cst.nil c) (fun _=>rfl) (fun⟨xs,k⟩ hk=>?_)
 try dsimp only at hk⊢
 have hS:=hk
 refine br J J J (fun hc13=>?_) (fun hc13=>?_)
 ·
  have hk:k<c.length:=by omega
  obtain⟨m,hm⟩: ∃m,m=c[k]:=⟨_,rfl⟩
  haveI hmb:LB m:=hm▸hc _ (List.getElem_mem hk)
  have hmo:m.ok:=hm▸hok _ (List.getElem_mem hk)
  have hxl:=ae5 xs
  have hxn:=hS.n
  refine ix (fu:=⟨1⟩) _ rfl (aeM hk) rfl<|?_
  refine eqF 16 (.d (eL m)) rfl (by rw[hm];rfl) ?_
  refine gx rfl<|cl rfl (ay8 hc hok hn hk) rfl<|?_
  refine bb (fu2:=⟨8⟩) J J J (fun hc24=>?_) (fun hc24=>?_)
  ·
   have hinv:Cst c (k+1) xs:=hS.skip hk (by rw[←aeG];simpa using hc24)
   exact at_ ⟨xs,k+1⟩ (by dsimp only;exact⟨hinv,(by omega)⟩)
  ·
   have hyes:(adb c[k] c IvQ.all).isSome=true:=by rw[←aeG];simpa using hc24
   refine mg (fu:=⟨6⟩) (X:=Unit) (fun _=>[(12, .d (vI (k:Nat))),(11, .d (vI (c.length:Nat))),(10, .d (.sl (c.map eL))),(0, .d (.sl (c.map eL))),(4, .d (.sl (xs.map eL))),(6, .ov 6 0),(9, .d (vI (aff xs m:Nat)))]) (fun _=>[(6,some (.o 88 [.d ((.v (.bool (decide (m.a<0))))), .d (dN m.a.natAbs), .d ((.v (.bool (decide (m.b<0))))), .d (dN m.b.natAbs), .d ((.v (.bool (decide (m.c<0))))), .d (dN m.c.natAbs)] true))]) (fun _=>True) [12,11,10,0,4,6,9] [6] rfl ?_ (fun _=>rfl) (fun _ _=>?_)
   ·
    refine gx rfl<|?_
    refine lp (fu:=⟨6⟩) (X:=Nat) (fun n=>[(12, .d (vI (k:Nat))),(11, .d (vI (c.length:Nat))),(10, .d (.sl (c.map eL))),(0, .d (.sl (c.map eL))),(4, .d (.sl (xs.map eL))),(6, .ov 6 0),(9, .d (vI (n:Nat)))]) (fun n=>[(6,some (.o 88 [.d ((.v (.bool (decide (m.a<0))))), .d (dN m.a.natAbs), .d ((.v (.bool (decide (m.b<0))))), .d (dN m.b.natAbs), .d ((.v (.bool (decide (m.c<0))))), .d (dN m.c.natAbs)] true))]) (fun n=>n≤xs.length∧ ∀j (h:j<xs.length),j<n→abY xs[j].dir m.dir<0) (fun n=>xs.length-n) 0 rfl ⟨Nat.zero_le _,fun j _ hj=>absurd hj (by omega)⟩ (fun _=>rfl) (fun n hk=>?_)
    obtain⟨n1,n2⟩:=hk
    refine csS J J J J (fun hg28=>?_) (fun hg28=>?_)
    ·
     refine ix _ rfl (aeM (by omega)) rfl<|?_
     haveI:LB (xs[n]'(by omega)):=hc _ (hS.m _ (List.getElem_mem _))
     refine cl rfl (ajO (l:=xs[n]'(by omega))) rfl<|cl rfl (ajO (l:=m)) rfl<|cl rfl (ao3 (u:=(xs[n]'(by omega)).dir) (v:=m.dir)) rfl<|?_
     refine br J J J (fun hc39=>?_) (fun hc39=>?_)
     ·
      exact at_ (n+1) ⟨⟨by omega,fun j h hj=>by by_cases q:j=n;(subst q;exact hc39);exact n2 j h (by omega)⟩,(by omega)⟩
     ·
      have hidx:aff xs m=n:=anF n1 n2 (fun h=>hc39)
      exact at_ () trivial
    ·
     have hidx:aff xs m=n:=anF n1 n2 (fun h=>absurd h (by omega))
     exact at_ () trivial
   ·
    obtain⟨n,hnx⟩: ∃n,aff xs m=n:=⟨_,rfl⟩
    rw[hnx]
    have hnl:n≤xs.length:=by rw[←hnx];unfold aff;exact(List.takeWhile_sublist _).length_le
    have hcb: ∀m∈xs,LB m:=fun m hm=>hc m (hS.m m hm)
    refine csS J J J J (fun hg45=>?_) (fun hg45=>?_)
    ·
     refine ix _ rfl (aeM (by omega)) rfl<|cl rfl (aqd (l:=xs[n]'(by omega)) (m:=m) (hl:=hcb _ (List.getElem_mem (by omega)))) rfl<|?_
     refine br J J J (fun hc54=>?_) (fun hc54=>?_)
     ·
      have hn46:n<xs.length:=by omega
      have hinv:Cst c (k+1) xs:=hS.ins hk hyes (by rw[←hm];exact aoe hnx hn46 ((afu _ m).1 hc54)) (by omega)
      exact at_ ⟨xs,k+1⟩ (by dsimp only;exact⟨hinv,(by omega)⟩)
     ·
      have hnew: ∀h:n<xs.length,xs[n]≠m:=fun h e=>hc54 ((afu _ m).2 e)
      obtain⟨ys,hys⟩: ∃ys,ys=xs.take n++m::xs.drop n:=⟨_,rfl⟩
      have hinv:Cst c (k+1) ys:=hS.ins hk hyes (by rw[←hm,ahW hnx hnew,hys]) (by rw[hys];simp;omega)
      refine s3 n _ J J J J (acl _) (by rw[hxl];exact hnl) rfl<|ro J J<|sc' n xs.length _ J J (by rw[hxl]) rfl (acl _) hnl (by omega) rfl<|?_
      refine ap _ J J (atV _ _ _) rfl<|apf (hv:=by simp only[aai];exact⟨by kernel_rfl,by omega⟩) (ho:=fun _=>⟨azr _ _,by simp⟩) (ys.map eL) rfl (by rw[hys,List.map_append,List.map_cons,List.map_take,List.map_drop,List.take_of_length_le (l:=xs.map eL) (i:=xs.length) (by simp)];rfl) (ay4 _ _ _ _) rfl<|?_
      exact at_ ⟨ys,k+1⟩ (by dsimp only;exact⟨hinv,(by omega)⟩)
    ·
     have hnew: ∀h:n<xs.length,xs[n]≠m:=fun h=>absurd h (by omega)
     obtain⟨ys,hys⟩: ∃ys,ys=xs.take n++m::xs.drop n:=⟨_,rfl⟩
     have hinv:Cst c (k+1) ys:=hS.ins hk hyes (by rw[←hm,ahW hnx hnew,hys]) (by rw[hys];simp;omega)
     refine s3 n _ J J J J (acl _) (by rw[hxl];exact hnl) rfl<|ro J J<|sc' n xs.length _ J J (by rw[hxl]) rfl (acl _) hnl (by omega) rfl<|?_
     refine ap _ J J (atV _ _ _) rfl<|apf (hv:=by simp only[aai];exact⟨by kernel_rfl,by omega⟩) (ho:=fun _=>⟨azr _ _,by simp⟩) (ys.map eL) rfl (by rw[hys,List.map_append,List.map_cons,List.map_take,List.map_drop,List.take_of_length_le (l:=xs.map eL) (i:=xs.length) (by simp)];rfl) (ay4 _ _ _ _) rfl<|?_
     exact at_ ⟨ys,k+1⟩ (by dsimp only;exact⟨hinv,(by omega)⟩)
 ·
  have hfin:abW c=xs:=hS.done (by have:=hS.le;omega)
  refine cs 71 J J J (fun hg71=>?_) (fun hg71=>?_)
  ·
   exact rz rfl (by rw[ats,if_pos hg71,hfin];rfl)
  ·
   exact rz rfl (by rw[ats,if_neg hg71,hfin];rfl)
section
variable {α:Type} (c:α→α→Int)
def ad3(x:α):List α→List α
 |[]=>[x]
 |u::t=>if c u x<0 then u::ad3 x t else if c u x=0 then u::t else x::u::t
def akD(x:α)(xs:List α):Nat:=(xs.takeWhile fun u=>decide (c u x<0)).length
theorem ajG(x:α)(xs:List α):akD c x xs≤xs.length:=(List.takeWhile_sublist _).length_le
theorem aen{x:α}{xs:List α}{n:Nat}(h1:n≤xs.length)(h2: ∀j (h:j<xs.length),j<n→c xs[j] x<0)(h3: ∀h:n<xs.length,¬c xs[n] x<0):akD c x xs=n:=
 afb h1 (fun j h hj=>decide_eq_true (h2 j h hj)) (fun h=>decide_eq_false (h3 h))
theorem afP{x:α}: ∀{xs:List α} {n:Nat},akD c x xs=n→(h:n<xs.length)→c xs[n] x=0→ad3 c x xs=xs
 |[],n,_,h,_=>by simp at h
 |u::t,n,hn,h,e=>by
  rw[ad3]
  unfold akD at hn
  rw[List.takeWhile_cons] at hn
  by_cases hu:c u x<0
  ·rw[if_pos hu]
   rw[if_pos (by simpa using hu)] at hn
   obtain⟨k,rfl⟩: ∃k,n=k+1:=⟨n-1,by simp at hn;omega⟩
   rw[afP (xs:=t) (n:=k) (by unfold akD;simpa using hn) (by simpa using h) (by simpa using e)]
  ·rw[if_neg (by simpa using hu)] at hn
   simp at hn;subst hn
   rw[if_neg hu,if_pos (by simpa using e)]
theorem acM{x:α}: ∀{xs:List α} {n:Nat},akD c x xs=n→(∀h:n<xs.length,c xs[n] x≠0)→ad3 c x xs=xs.take n++x::xs.drop n
 |[],n,hn,_=>by simp[akD] at hn;subst hn;rfl
 |u::t,n,hn,e=>by
  rw[ad3]
  unfold akD at hn
  rw[List.takeWhile_cons] at hn
  by_cases hu:c u x<0
  ·rw[if_pos hu]
   rw[if_pos (by simpa using hu)] at hn
   obtain⟨k,rfl⟩: ∃k,n=k+1:=⟨n-1,by simp at hn;omega⟩
   rw[acM (xs:=t) (n:=k) (by unfold akD;simpa using hn) (fun h=>by have:=e (by simpa using h);simpa using this)]
   simp
  ·rw[if_neg (by simpa using hu)] at hn
   simp at hn;subst hn
   have:=e (by simp)
   rw[if_neg hu,if_neg (by simpa using this)];rfl
theorem aiu(x:α): ∀(xs:List α),(ad3 c x xs).length≤xs.length+1
 |[]=>Nat.le_refl _
 |u::t=>by
  have:=aiu x t
  rw[ad3]
  split
  ·simp;omega
  ·split<;>simp
theorem alZ{x y:α}: ∀{xs:List α},y∈ad3 c x xs→y=x∨y∈xs
 |[],h=>by rw[ad3,List.mem_singleton] at h;exact .inl h
 |u::t,h=>by
  rw[ad3] at h
  split at h
  ·rcases List.mem_cons.1 h with rfl|h
   ·exact .inr List.mem_cons_self
   ·rcases alZ h with h|h
    ·exact .inl h
    ·exact .inr (List.mem_cons_of_mem _ h)
  ·split at h
   ·exact .inr h
   ·rcases List.mem_cons.1 h with rfl|h
    ·exact .inl rfl
    ·exact .inr h
def aid(l:List α):List α:=l.foldl (fun out x=>ad3 c x out) []
theorem agz: ∀(l o:List α),(l.foldl (fun out x=>ad3 c x out) o).length≤l.length+o.length
 |[],o=>by simp
 |x::t,o=>by
  have:=agz t (ad3 c x o)
  have:=aiu c x o
  simp only[List.foldl_cons,List.length_cons];omega
theorem aiU{y:α}: ∀{l o:List α},y∈l.foldl (fun out x=>ad3 c x out) o→y∈l∨y∈o
 |[],o,h=> .inr h
 |x::t,o,h=>by
  rcases aiU (l:=t) h with h|h
  ·exact .inl (List.mem_cons_of_mem _ h)
  ·rcases alZ c h with rfl|h
   ·exact .inl List.mem_cons_self
   ·exact .inr h
end
theorem akA{x:Rat}: ∀{l:List Rat},amB x l=ad3 aa1 x l
 |[]=>rfl
 |u::t=>by
  have e1:aa1 u x<0↔u<x:=akg u x
  have e2:aa1 u x=0↔u=x:=ae8 u x
  rw[amB,ad3,akA (l:=t)]
  by_cases h:u<x
  ·rw[if_pos h,if_pos (e1.2 h)]
  ·rw[if_neg h,if_neg (fun e=>h (e1.1 e))]
   by_cases h2:u=x
   ·rw[if_pos h2,if_pos (e2.2 h2)]
   ·rw[if_neg h2,if_neg (fun e=>h2 (e2.1 e))]
theorem abo{α β:Type}{f:α→β}{l:List α}{k:Nat}{x:α}(h:l[k]? =some x):(l.take k).map f++[f x]=(l.take (k+1)).map f:=by
 rw[List.take_add_one,h,List.map_append];rfl
theorem aFd{n i:Nat}[h:BN n i](hi:i≤20000:=by decide):PF GB Tryz.prog 134 [dN n] (dN n):=by
 have hl:=aa4 h.h
 have:=aGk (GB:=GB) (ds:=dg n) (afg n) (by omega)
 rw[aaR,←azv] at this;exact this
theorem awJ(z:Int):ahP (decide (z<0)) (dg z.natAbs)=z:=by
 unfold ahP
 rw[aaR]
 split<;>(rename_i h;simp at h;omega)
theorem aEQ{z:Int}{i:Nat}[h:BI z i](hi:i≤20000:=by decide):PF GB Tryz.prog 136 [eI z] (eI z):=by
 have hl:=aa4 h.h
 have:=aGW (GB:=GB) (neg:=decide (z<0)) (ds:=dg z.natAbs) (afg _) (by omega)
 rw[awJ,←azv] at this;exact this
theorem aFV{n:Nat}(h:0<n): ¬((((dg n).map dU).length:Nat):Int)=0:=by
 rw[List.length_map]
 have:=ab2 (n:=n)
 omega
instance BQ.m1':BQ (((-1:Int):Int):Rat) 2:=⟨by decide,by decide⟩
instance BQ.m1:BQ (-1:Rat) 2:=⟨by decide,by decide⟩
theorem aFO{q:Rat}{i:Nat}[h:BQ q i](hi:i≤20000:=by decide):PF GB Tryz.prog 60 [eR q] (eQ q):=by
 have hd:=q.den_pos
 refine fn Tryz.func60 J J Tryz.ntmps60 J J (fun C=>?_)
 refine cl (fu:=⟨8⟩) rfl (aFd (n:=q.den) hi) rfl<|knF rfl (by show some (decide _)=some false;rw[decide_eq_false (aFV hd)]) rfl<|cl rfl (aEQ (z:=q.num) hi) rfl<|?_
 refine cl rfl (akI (x:=q.num) (d:=q.den) hd (by omega) (by omega)) rfl<|?_
 exact rz rfl (by rw[Rat.mkRat_self];rfl)
theorem asX{q:Rat}{i:Nat}[h:BQ q i](hi:i≤400000000:=by decide):PF GB Tryz.prog 69 [eQ q] (eR q):=by
 refine fn Tryz.func69 J J Tryz.ntmps69 J J (fun C=>?_)
 refine cl rfl (awW (z:=q.num) hi) rfl<|cl rfl (aeA (q:=q)) rfl<|cl rfl (aCy (a:=q.den) hi) rfl<|?_
 exact rz J J
theorem ar9{p:PtQ}{i:Nat}[h:BPt p i](hi:i≤20000:=by decide):PF GB Tryz.prog 19 [ePt p] (eP p):=by
 refine fn Tryz.func19 J J Tryz.ntmps19 J J (fun C=>?_)
 refine cl rfl (aFO (q:=p.x) hi) rfl<|cl rfl (aFO (q:=p.y) hi) rfl<|?_
 exact rz J J
theorem aFg{p:PtQ}{i:Nat}[h:BPt p i](hi:i≤20000:=by decide):PF GB Tryz.prog 25 [eP p] (ePt p):=by
 refine fn Tryz.func25 J J Tryz.ntmps25 J J (fun C=>?_)
 refine cl rfl (asX (q:=p.x) (i:=i) (by omega)) rfl<|cl rfl (asX (q:=p.y) (i:=i) (by omega)) rfl<|?_
 exact rz J J
theorem aau{α:Type}(f:α→DV)(l:List α):(l.map f).length=l.length:=List.length_map ..
theorem afw(ps:List PtQ):adx 6 (ps.map eP):=fun d hd=>by
 obtain⟨u,_,rfl⟩:=List.mem_map.1 hd;exact⟨rfl,rfl⟩
theorem aCZ(ps:List PtQ):adx 6 (ps.map ePt):=fun d hd=>by
 obtain⟨u,_,rfl⟩:=List.mem_map.1 hd;exact⟨rfl,rfl⟩
theorem aFh{ps:List PtQ}(hb: ∀p∈ps,BPt p 1200)(hn:ps.length≤1000000):PF GB Tryz.prog 222 [.sl (ps.map ePt)] (.sl (ps.map eP)):=by
 have hm:=aau ePt ps
 refine fn (fu:=⟨15⟩) Tryz.func222 J J Tryz.ntmps222 J J (fun C=>?_)
 refine eqF 7 (.d (vI (ps.length:Nat))) rfl (by rw[hm]<;>rfl) ?_
 refine gx rfl<|?_
 refine nr 3 3 58 6 J J J ?_
 refine lp (X:=Nat) (fun k=>[(8, .d (vI (k:Nat))),(3, .rw 3)]) (fun k=>[(3,some (.b 58 6 ((ps.take k).map eP) true))]) (fun k=>k≤ps.length) (fun k=>ps.length-k) 0 rfl (Nat.zero_le _) (fun _=>rfl) (fun k hk=>?_)
 have hml:=aau eP (ps.take k)
 rw[List.length_take] at hml
 refine br J J J (fun hc9=>?_) (fun hc9=>?_)
 ·
  obtain⟨z,hz⟩: ∃s,ps[k]? =some s:=⟨_,List.getElem?_eq_getElem (by omega)⟩
  have hzm:=List.mem_of_getElem? hz
  refine ix _ rfl (aay hz) rfl<|cl rfl (ar9 (p:=z) (h:=hb z hzm)) rfl<|rf J J<|ap ((ps.take (k+1)).map eP) rfl (abo hz) (afw [z]) rfl<|?_
  refine rnE 16 3 rfl ?_
  exact at_ (k+1) ⟨(by omega),(by omega)⟩
 ·
  obtain rfl:k=ps.length:=by omega
  refine fzE 3 rfl ?_
  exact rz rfl (by rw[List.take_length];rfl)
theorem aCJ{ps:List PtQ}(hb: ∀p∈ps,BPt p 1200)(hn:ps.length≤1000000):PF GB Tryz.prog 223 [.sl (ps.map eP)] (.sl (ps.map ePt)):=by
 have hm:=aau eP ps
 refine fn (fu:=⟨15⟩) Tryz.func223 J J Tryz.ntmps223 J J (fun C=>?_)
 refine eqF 7 (.d (vI (ps.length:Nat))) rfl (by rw[hm]<;>rfl) ?_
 refine gx rfl<|?_
 refine nr 3 3 35 6 J J J ?_
 refine lp (X:=Nat) (fun k=>[(8, .d (vI (k:Nat))),(3, .rw 3)]) (fun k=>[(3,some (.b 35 6 ((ps.take k).map ePt) true))]) (fun k=>k≤ps.length) (fun k=>ps.length-k) 0 rfl (Nat.zero_le _) (fun _=>rfl) (fun k hk=>?_)
 have hml:=aau ePt (ps.take k)
 rw[List.length_take] at hml
 refine br J J J (fun hc9=>?_) (fun hc9=>?_)
 ·
  obtain⟨z,hz⟩: ∃s,ps[k]? =some s:=⟨_,List.getElem?_eq_getElem (by omega)⟩
  have hzm:=List.mem_of_getElem? hz
  refine ix _ rfl (aay hz) rfl<|cl rfl (aFg (p:=z) (h:=hb z hzm)) rfl<|rf J J<|ap ((ps.take (k+1)).map ePt) rfl (abo hz) (aCZ [z]) rfl<|?_
  refine rnE 16 3 rfl ?_
  exact at_ (k+1) ⟨(by omega),(by omega)⟩
 ·
  obtain rfl:k=ps.length:=by omega
  refine fzE 3 rfl ?_
  exact rz rfl (by rw[List.take_length];rfl)
theorem ayB{p q:PtQ}{i j:Nat}[hp:BPt p i][hq:BPt q j](hi:i≤100000:=by decide)(hj:j≤100000:=by decide):PF GB Tryz.prog 155 [eP p,eP q] (eP (acR p q (-1))):=by
 refine fn Tryz.func155 J J Tryz.ntmps155 J J (fun C=>?_)
 refine cl rfl (akj (n:= -1) (by decide) (by decide)) rfl<|cl rfl (aj9 (p:=p) (q:=q) (c:=((-1:Int):Rat)) (i:=i) (j:=j) (k:=2) (by omega) (by omega)) rfl<|?_
 exact rz rfl (by rw[show((-1:Int):Rat)= -1 from rfl];rfl)
theorem aqi{a b c:PtQ}{i j k:Nat}[ha:BPt a i][hb:BPt b j][hc:BPt c k](hi:i≤80000:=by decide)(hj:j≤80000:=by decide)(hk:k≤80000:=by decide):PF GB Tryz.prog 312 [eP a,eP b,eP c] (vI (alw a b c)):=by
 refine fn Tryz.func312 J J Tryz.ntmps312 J J (fun C=>?_)
 refine cl rfl (ayB (p:=b) (q:=a) (i:=j) (j:=i) (by omega) (by omega)) rfl<|cl rfl (ayB (p:=c) (q:=a) (i:=k) (j:=i) (by omega) (by omega)) rfl<|?_
 refine cl rfl (agm (p:=acR b a (-1)) (q:=acR c a (-1)) (by omega) (by omega)) rfl<|cl rfl (q_S (q:=(acR b a (-1)).cross (acR c a (-1)))) rfl<|?_
 exact rz J J
def ahd(p q:PtQ):Int:=if aa1 p.x q.x≠0 then aa1 p.x q.x else aa1 p.y q.y
theorem ak2{p q:PtQ}{i j:Nat}[hp:BPt p i][hq:BPt q j](hi:i≤100000:=by decide)(hj:j≤100000:=by decide):PF GB Tryz.prog 261 [eP p,eP q] (vI (ahd p q)):=by
 refine fn Tryz.func261 J J Tryz.ntmps261 J J (fun C=>?_)
 refine cl rfl (q_C (a:=p.x) (b:=q.x) (by omega) (by omega)) rfl<|?_
 refine br J J J (fun hc12=>?_) (fun hc12=>?_)
 ·
  exact rz rfl (by unfold ahd;rw[if_pos hc12];rfl)
 ·
  refine cl rfl (q_C (a:=p.y) (b:=q.y) (by omega) (by omega)) rfl<|?_
  exact rz rfl (by unfold ahd;rw[if_neg hc12];rfl)
def ar6(l:LnQ):Bool:=decide (l.a<0∨(l.a=0∧l.b<0))
def LnQ.canon(l:LnQ):LnQ:=if ar6 l then l.rev else l
theorem ad8(a:Int):a.sign<0↔a<0:=by
 rcases Int.lt_trichotomy a 0 with h|h|h
 ·rw[Int.sign_eq_neg_one_of_neg h];omega
 ·subst h;simp
 ·rw[Int.sign_eq_one_of_pos h];omega
theorem abC(a:Int):a.sign=0↔a=0:=Int.sign_eq_zero_iff_zero
theorem ayj{l:LnQ}(h:l.a<0∨(l.a=0∧l.b<0)):DV.tp [eL l.canon,vB (ar6 l)]= .tp [eL l.rev,vB true]:=by
 unfold LnQ.canon ar6;rw[decide_eq_true h];rfl
theorem auL{l:LnQ}(h: ¬(l.a<0∨(l.a=0∧l.b<0))):DV.tp [eL l.canon,vB (ar6 l)]= .tp [eL l,vB false]:=by
 unfold LnQ.canon ar6;rw[decide_eq_false h];rfl
theorem axq{l:LnQ}[hl:LB l]:PF GB Tryz.prog 89 [eL l] (.tp [eL l.canon,vB (ar6 l)]):=by
 refine fn Tryz.func89 J J Tryz.ntmps89 J J (fun C=>?_)
 refine cl rfl (ak6 (z:=l.a)) rfl<|?_
 refine cs 10 J J J (fun hg10=>?_) (fun hg10=>?_)
 ·
  refine cl rfl (akB (l:=l)) rfl<|?_
  exact rz rfl (by rw[ayj (.inl ((ad8 _).1 hg10))];rfl)
 ·
  refine cs 13 J J J (fun hg13=>?_) (fun hg13=>?_)
  ·
   refine cl rfl (ak6 (z:=l.b)) rfl<|?_
   refine br J J J (fun hc19=>?_) (fun hc19=>?_)
   ·
    refine cl rfl (akB (l:=l)) rfl<|?_
    exact rz rfl (by rw[ayj (.inr ⟨(abC _).1 hg13,(ad8 _).1 hc19⟩)];rfl)
   ·
    exact rz rfl (by rw[auL (fun e=>e.elim (fun e=>hg10 ((ad8 _).2 e)) (fun e=>hc19 ((ad8 _).2 e.2)))];rfl)
  ·
   exact rz rfl (by rw[auL (fun e=>e.elim (fun e=>hg10 ((ad8 _).2 e)) (fun e=>hg13 ((abC _).2 e.1)))];rfl)
instance LB.canon (l:LnQ) [h:LB l]:LB l.canon:=by unfold LnQ.canon;split;exact LB.rev h;exact h
theorem amq{l:LnQ}(h:l.ok):l.canon.ok:=by unfold LnQ.canon;split;exact h.rev;exact h
def ai1{α β:Type}(c:β→β→Int)(g:α→β)(l:List α)(k:Nat):List β:=aid c ((l.take k).map g)
section
variable {α β:Type} {c:β→β→Int} {g:α→β} {l:List α} {k:Nat}
theorem ab8{x:α}(h:l[k]? =some x):ai1 c g l (k+1)=ad3 c (g x) (ai1 c g l k):=by
 unfold ai1 aid
 rw[List.take_add_one,h,Option.toList_some,List.map_append,List.foldl_append];rfl
theorem akh(h:k=l.length):ai1 c g l k=aid c (l.map g):=by unfold ai1;rw[h,List.take_length]
theorem ajN:(ai1 c g l k).length≤k:=by
 have:=agz c ((l.take k).map g) []
 have h2:((l.take k).map g).length≤k:=by rw[List.length_map,List.length_take];omega
 rw[List.length_nil] at this
 unfold ai1 aid
 omega
theorem ajD{y:β}(h:y∈ai1 c g l k): ∃x∈l,y=g x:=by
 rcases aiU c h with h|h
 ·obtain⟨x,hx,rfl⟩:=List.mem_map.1 h
  exact⟨x,List.mem_of_mem_take hx,rfl⟩
 ·cases h
end
theorem slT{α:Type}{f:α→DV}{s:Nat}(ok: ∀l:List α,adx s (l.map f))(xs:List α)(n:Nat):adx s ((xs.map f).take n):=fun d hd=>ok xs d (List.mem_of_mem_take hd)
theorem slD{α:Type}{f:α→DV}{s:Nat}(ok: ∀l:List α,adx s (l.map f))(xs:List α)(n m:Nat):adx s (((xs.map f).take n).drop m):=fun d hd=>ok xs d (List.mem_of_mem_take (List.mem_of_mem_drop hd))
theorem slI{α:Type}{f:α→DV}{s:Nat}(ok: ∀l:List α,adx s (l.map f))(xs:List α)(n m:Nat)(x:α):adx s ([f x]++((xs.map f).take n).drop m):=fun d hd=>by
 rcases List.mem_append.1 hd with h|h
 ·exact ok [x] d h
 ·exact slD ok xs n m d h
theorem acq{α:Type}{f:α→DV}{l:List α}{i:Nat}(h:i<l.length):(l.map f)[(i:Int).toNat]? =some (f l[i]):=by
 rw[Int.toNat_natCast,List.getElem?_map,List.getElem?_eq_getElem h];rfl
theorem aya{ps:List PtQ}(hb: ∀p∈ps,BPt p 1200)(hn:ps.length≤100000):PF GB Tryz.prog 219 [.sl (ps.map eP)] (.sl ((aid ahd ps).map eP)):=by
 have hm':=aau eP ps
 refine fn (fu:=⟨15⟩) Tryz.func219 J J Tryz.ntmps219 J J (fun C=>?_)
 refine eqF 8 (.d (vI (ps.length:Nat))) rfl (by rw[hm'];rfl) ?_
 refine gx rfl<|?_
 refine nlC 3 rfl ?_
 refine lp (X:=List PtQ×Nat) (fun⟨xs,k⟩=>[(9, .d (vI (k:Nat))),(8, .d (vI (ps.length:Nat))),(7, .d (.sl (ps.map eP))),(0, .d (.sl (ps.map eP))),(3, .d (.sl (xs.map eP)))]) (fun⟨xs,k⟩=>[]) (fun⟨xs,k⟩=>xs=ai1 ahd id ps k∧k≤ps.length) (fun⟨xs,k⟩=>ps.length-k) ⟨[],0⟩ rfl ⟨rfl,Nat.zero_le _⟩ (fun _=>rfl) (fun⟨xs,k⟩ hk=>?_)
 try dsimp only at hk⊢
 obtain⟨hS,hkl⟩:=hk
 refine br J J J (fun hc10=>?_) (fun hc10=>?_)
 ·
  have hk:k<ps.length:=by omega
  obtain⟨m,hm⟩: ∃m,m=ps[k]:=⟨_,rfl⟩
  have hz:ps[k]? =some m:=by rw[hm];exact List.getElem?_eq_getElem hk
  haveI hmb:BPt m 1200:=hm▸hb _ (List.getElem_mem hk)
  have hxl:=aau eP xs
  have hxn:xs.length≤k:=by rw[hS];exact ajN
  have hxb: ∀q∈xs,BPt q 1200:=fun q hq=>by rw[hS] at hq;obtain⟨z,hz,he⟩:=ajD hq;rw[he];exact hb z hz
  refine ix (fu:=⟨1⟩) _ rfl (acq hk) rfl<|?_
  refine eqF 12 (.d (eP m)) rfl (by rw[hm];rfl) ?_
  refine gx (fu:=⟨10⟩) rfl<|?_
  refine mg (fu:=⟨5⟩) (X:=Unit) (fun _=>[(9, .d (vI (k:Nat))),(8, .d (vI (ps.length:Nat))),(7, .d (.sl (ps.map eP))),(0, .d (.sl (ps.map eP))),(3, .d (.sl (xs.map eP))),(5, .ov 5 0),(6, .d (vI (akD ahd m xs:Nat)))]) (fun _=>[(5,some (.o 58 [.d ((.v (.bool (decide (m.x.num<0))))), .d (dN m.x.num.natAbs), .d (dD m.x.den), .d ((.v (.bool (decide (m.y.num<0))))), .d (dN m.y.num.natAbs), .d (dD m.y.den)] true))]) (fun _=>True) [9,8,7,0,3,5,6] [5] rfl ?_ (fun _=>rfl) (fun _ _=>?_)
  ·
   refine gx rfl<|?_
   refine lp (fu:=⟨6⟩) (X:=Nat) (fun n=>[(9, .d (vI (k:Nat))),(8, .d (vI (ps.length:Nat))),(7, .d (.sl (ps.map eP))),(0, .d (.sl (ps.map eP))),(3, .d (.sl (xs.map eP))),(5, .ov 5 0),(6, .d (vI (n:Nat)))]) (fun n=>[(5,some (.o 58 [.d ((.v (.bool (decide (m.x.num<0))))), .d (dN m.x.num.natAbs), .d (dD m.x.den), .d ((.v (.bool (decide (m.y.num<0))))), .d (dN m.y.num.natAbs), .d (dD m.y.den)] true))]) (fun n=>n≤xs.length∧ ∀j (h:j<xs.length),j<n→ahd xs[j] m<0) (fun n=>xs.length-n) 0 rfl ⟨Nat.zero_le _,fun j _ hj=>absurd hj (by omega)⟩ (fun _=>rfl) (fun n hk=>?_)
   obtain⟨n1,n2⟩:=hk
   refine csS (v2:=fun hg16=>by simp only[aai];kernel_rfl) J J J J (fun hg16=>?_) (fun hg16=>?_)
   ·
    refine ix _ rfl (acq (by omega)) rfl<|cl rfl (ak2 (p:=xs[n]'(by omega)) (q:=m) (hp:=hxb _ (List.getElem_mem (by omega))) (hq:=hmb)) rfl<|?_
    refine br J J J (fun hc25=>?_) (fun hc25=>?_)
    ·
     exact at_ (n+1) ⟨⟨by omega,fun j h hj=>by by_cases q:j=n;(subst q;exact hc25);exact n2 j h (by omega)⟩,(by omega)⟩
    ·
     have hidx:akD ahd m xs=n:=aen ahd n1 n2 (fun h=>hc25)
     exact at_ () trivial
   ·
    have hidx:akD ahd m xs=n:=aen ahd n1 n2 (fun h=>absurd h (by omega))
    exact at_ () trivial
  ·
   obtain⟨n,hnx⟩: ∃n,akD ahd m xs=n:=⟨_,rfl⟩
   rw[hnx]
   have hnl:n≤xs.length:=by rw[←hnx];exact ajG _ _ _
   refine csS (v1:=fun hg31=>by simp only[aai];kernel_rfl) J J J J (fun hg31=>?_) (fun hg31=>?_)
   ·
    have hnew: ∀h:n<xs.length,ahd xs[n] m≠0:=fun h=>absurd h (by omega)
    obtain⟨ys,hys⟩: ∃ys,ys=xs.take n++m::xs.drop n:=⟨_,rfl⟩
    have hin:ad3 ahd m xs=ys:=by rw[hys];exact acM ahd hnx hnew
    have hyl:ys.length≤xs.length+1:=by rw[hys];simp;omega
    refine s3 n _ J J J J (afw _) (by rw[hxl];exact hnl) rfl<|ro J J<|sc' n xs.length _ J J (by rw[hxl]) rfl (afw _) hnl (by omega) rfl<|?_
    refine ap _ J J (slD afw _ _ _) rfl<|apf (hv:=by simp only[aai];exact⟨by kernel_rfl,by omega⟩) (ho:=fun _=>⟨slT afw _ _,by simp⟩) (ys.map eP) rfl (by rw[hys,List.map_append,List.map_cons,List.map_take,List.map_drop,List.take_of_length_le (l:=xs.map eP) (i:=xs.length) (by simp)];rfl) (slI afw _ _ _ _) rfl<|?_
    exact at_ ⟨ys,k+1⟩ (by dsimp only;exact⟨⟨by rw[ab8 hz,←hS];exact hin.symm,by omega⟩,(by omega)⟩)
   ·
    refine ix _ rfl (acq (by omega)) rfl<|cl rfl (ak2 (p:=xs[n]'(by omega)) (q:=m) (hp:=hxb _ (List.getElem_mem (by omega))) (hq:=hmb)) rfl<|?_
    refine br J J J (fun hc40=>?_) (fun hc40=>?_)
    ·
     have hnew: ∀h:n<xs.length,ahd xs[n] m≠0:=fun h=>hc40
     obtain⟨ys,hys⟩: ∃ys,ys=xs.take n++m::xs.drop n:=⟨_,rfl⟩
     have hin:ad3 ahd m xs=ys:=by rw[hys];exact acM ahd hnx hnew
     have hyl:ys.length≤xs.length+1:=by rw[hys];simp;omega
     refine s3 n _ J J J J (afw _) (by rw[hxl];exact hnl) rfl<|ro J J<|sc' n xs.length _ J J (by rw[hxl]) rfl (afw _) hnl (by omega) rfl<|?_
     refine ap _ J J (slD afw _ _ _) rfl<|apf (hv:=by simp only[aai];exact⟨by kernel_rfl,by omega⟩) (ho:=fun _=>⟨slT afw _ _,by simp⟩) (ys.map eP) rfl (by rw[hys,List.map_append,List.map_cons,List.map_take,List.map_drop,List.take_of_length_le (l:=xs.map eP) (i:=xs.length) (by simp)];rfl) (slI afw _ _ _ _) rfl<|?_
     exact at_ ⟨ys,k+1⟩ (by dsimp only;exact⟨⟨by rw[ab8 hz,←hS];exact hin.symm,by omega⟩,(by omega)⟩)
    ·
     have hin:ad3 ahd m xs=xs:=afP ahd hnx (by omega) (Decidable.not_not.1 hc40)
     exact at_ ⟨xs,k+1⟩ (by dsimp only;exact⟨⟨by rw[ab8 hz,←hS];exact hin.symm,by omega⟩,(by omega)⟩)
 ·
  have hfin:aid ahd ps=xs:=by rw[hS,akh (by omega),List.map_id]
  exact rz rfl (by rw[hfin];rfl)
def adh(ls:List LnQ):List LnQ:=aid agt (ls.map LnQ.canon)
theorem aeC{ls:List LnQ}{y:LnQ}(h:y∈adh ls): ∃x∈ls,y=x.canon:=by
 rcases aiU agt h with h|h
 ·obtain⟨x,hx,rfl⟩:=List.mem_map.1 h;exact⟨x,hx,rfl⟩
 ·cases h
theorem ahx{ls:List LnQ}(hb: ∀p∈ls,LB p)(hn:ls.length≤100000):PF GB Tryz.prog 32 [.sl (ls.map eL)] (.sl ((adh ls).map eL)):=by
 have hm':=aau eL ls
 refine fn (fu:=⟨15⟩) Tryz.func32 J J Tryz.ntmps32 J J (fun C=>?_)
 refine eqF 8 (.d (vI (ls.length:Nat))) rfl (by rw[hm'];rfl) ?_
 refine gx rfl<|?_
 refine nlC 3 rfl ?_
 refine lp (X:=List LnQ×Nat) (fun⟨xs,k⟩=>[(9, .d (vI (k:Nat))),(8, .d (vI (ls.length:Nat))),(7, .d (.sl (ls.map eL))),(0, .d (.sl (ls.map eL))),(3, .d (.sl (xs.map eL)))]) (fun⟨xs,k⟩=>[]) (fun⟨xs,k⟩=>xs=ai1 agt LnQ.canon ls k∧k≤ls.length) (fun⟨xs,k⟩=>ls.length-k) ⟨[],0⟩ rfl ⟨rfl,Nat.zero_le _⟩ (fun _=>rfl) (fun⟨xs,k⟩ hk=>?_)
 try dsimp only at hk⊢
 obtain⟨hS,hkl⟩:=hk
 refine br J J J (fun hc10=>?_) (fun hc10=>?_)
 ·
  have hk:k<ls.length:=by omega
  obtain⟨z,hm⟩: ∃m,m=ls[k]:=⟨_,rfl⟩
  have hz:ls[k]? =some z:=by rw[hm];exact List.getElem?_eq_getElem hk
  haveI hzb:LB z:=hm▸hb _ (List.getElem_mem hk)
  obtain⟨m,hmc⟩: ∃m,m=z.canon:=⟨_,rfl⟩
  haveI hmb:LB m:=by rw[hmc];infer_instance
  have hxl:=aau eL xs
  have hxn:xs.length≤k:=by rw[hS];exact ajN
  have hxb: ∀q∈xs,LB q:=fun q hq=>by rw[hS] at hq;obtain⟨z,hz,rfl⟩:=ajD hq;haveI:=hb z hz;infer_instance
  refine ix (fu:=⟨1⟩) _ rfl (acq hk) rfl<|?_
  refine eqF 12 (.d (eL z)) rfl (by rw[hm];rfl) ?_
  refine gx rfl<|cl (fu:=⟨2⟩) rfl (axq (l:=z)) rfl<|?_
  refine eqF 16 (.d (eL m)) rfl (by rw[hmc]) ?_
  refine gx (fu:=⟨10⟩) rfl<|?_
  refine mg (fu:=⟨5⟩) (X:=Unit) (fun _=>[(9, .d (vI (k:Nat))),(8, .d (vI (ls.length:Nat))),(7, .d (.sl (ls.map eL))),(0, .d (.sl (ls.map eL))),(3, .d (.sl (xs.map eL))),(5, .ov 5 0),(6, .d (vI (akD agt m xs:Nat)))]) (fun _=>[(5,some (.o 88 [.d ((.v (.bool (decide (m.a<0))))), .d (dN m.a.natAbs), .d ((.v (.bool (decide (m.b<0))))), .d (dN m.b.natAbs), .d ((.v (.bool (decide (m.c<0))))), .d (dN m.c.natAbs)] true))]) (fun _=>True) [9,8,7,0,3,5,6] [5] rfl ?_ (fun _=>rfl) (fun _ _=>?_)
  ·
   refine gx rfl<|?_
   refine lp (fu:=⟨6⟩) (X:=Nat) (fun n=>[(9, .d (vI (k:Nat))),(8, .d (vI (ls.length:Nat))),(7, .d (.sl (ls.map eL))),(0, .d (.sl (ls.map eL))),(3, .d (.sl (xs.map eL))),(5, .ov 5 0),(6, .d (vI (n:Nat)))]) (fun n=>[(5,some (.o 88 [.d ((.v (.bool (decide (m.a<0))))), .d (dN m.a.natAbs), .d ((.v (.bool (decide (m.b<0))))), .d (dN m.b.natAbs), .d ((.v (.bool (decide (m.c<0))))), .d (dN m.c.natAbs)] true))]) (fun n=>n≤xs.length∧ ∀j (h:j<xs.length),j<n→agt xs[j] m<0) (fun n=>xs.length-n) 0 rfl ⟨Nat.zero_le _,fun j _ hj=>absurd hj (by omega)⟩ (fun _=>rfl) (fun n hk=>?_)
   obtain⟨n1,n2⟩:=hk
   refine csS (v2:=fun hg21=>by simp only[aai];kernel_rfl) J J J J (fun hg21=>?_) (fun hg21=>?_)
   ·
    refine ix _ rfl (acq (by omega)) rfl<|cl rfl (aqd (l:=xs[n]'(by omega)) (m:=m) (hl:=hxb _ (List.getElem_mem (by omega))) (hm:=hmb)) rfl<|?_
    refine br J J J (fun hc30=>?_) (fun hc30=>?_)
    ·
     exact at_ (n+1) ⟨⟨by omega,fun j h hj=>by by_cases q:j=n;(subst q;exact hc30);exact n2 j h (by omega)⟩,(by omega)⟩
    ·
     have hidx:akD agt m xs=n:=aen agt n1 n2 (fun h=>hc30)
     exact at_ () trivial
   ·
    have hidx:akD agt m xs=n:=aen agt n1 n2 (fun h=>absurd h (by omega))
    exact at_ () trivial
  ·
   obtain⟨n,hnx⟩: ∃n,akD agt m xs=n:=⟨_,rfl⟩
   rw[hnx]
   have hnl:n≤xs.length:=by rw[←hnx];exact ajG _ _ _
   refine csS (v1:=fun hg36=>by simp only[aai];kernel_rfl) J J J J (fun hg36=>?_) (fun hg36=>?_)
   ·
    have hnew: ∀h:n<xs.length,agt xs[n] m≠0:=fun h=>absurd h (by omega)
    obtain⟨ys,hys⟩: ∃ys,ys=xs.take n++m::xs.drop n:=⟨_,rfl⟩
    have hin:ad3 agt m xs=ys:=by rw[hys];exact acM agt hnx hnew
    have hyl:ys.length≤xs.length+1:=by rw[hys];simp;omega
    refine s3 n _ J J J J (acl _) (by rw[hxl];exact hnl) rfl<|ro J J<|sc' n xs.length _ J J (by rw[hxl]) rfl (acl _) hnl (by omega) rfl<|?_
    refine ap _ J J (slD acl _ _ _) rfl<|apf (hv:=by simp only[aai];exact⟨by kernel_rfl,by omega⟩) (ho:=fun _=>⟨slT acl _ _,by simp⟩) (ys.map eL) rfl (by rw[hys,List.map_append,List.map_cons,List.map_take,List.map_drop,List.take_of_length_le (l:=xs.map eL) (i:=xs.length) (by simp)];rfl) (slI acl _ _ _ _) rfl<|?_
    exact at_ ⟨ys,k+1⟩ (by dsimp only;exact⟨⟨by rw[ab8 hz,←hS,←hmc];exact hin.symm,by omega⟩,(by omega)⟩)
   ·
    refine ix _ rfl (acq (by omega)) rfl<|cl rfl (aqd (l:=xs[n]'(by omega)) (m:=m) (hl:=hxb _ (List.getElem_mem (by omega))) (hm:=hmb)) rfl<|?_
    refine br J J J (fun hc45=>?_) (fun hc45=>?_)
    ·
     have hnew: ∀h:n<xs.length,agt xs[n] m≠0:=fun h=>hc45
     obtain⟨ys,hys⟩: ∃ys,ys=xs.take n++m::xs.drop n:=⟨_,rfl⟩
     have hin:ad3 agt m xs=ys:=by rw[hys];exact acM agt hnx hnew
     have hyl:ys.length≤xs.length+1:=by rw[hys];simp;omega
     refine s3 n _ J J J J (acl _) (by rw[hxl];exact hnl) rfl<|ro J J<|sc' n xs.length _ J J (by rw[hxl]) rfl (acl _) hnl (by omega) rfl<|?_
     refine ap _ J J (slD acl _ _ _) rfl<|apf (hv:=by simp only[aai];exact⟨by kernel_rfl,by omega⟩) (ho:=fun _=>⟨slT acl _ _,by simp⟩) (ys.map eL) rfl (by rw[hys,List.map_append,List.map_cons,List.map_take,List.map_drop,List.take_of_length_le (l:=xs.map eL) (i:=xs.length) (by simp)];rfl) (slI acl _ _ _ _) rfl<|?_
     exact at_ ⟨ys,k+1⟩ (by dsimp only;exact⟨⟨by rw[ab8 hz,←hS,←hmc];exact hin.symm,by omega⟩,(by omega)⟩)
    ·
     have hin:ad3 agt m xs=xs:=afP agt hnx (by omega) (Decidable.not_not.1 hc45)
     exact at_ ⟨xs,k+1⟩ (by dsimp only;exact⟨⟨by rw[ab8 hz,←hS,←hmc];exact hin.symm,by omega⟩,(by omega)⟩)
 ·
  have hfin:adh ls=xs:=by rw[hS,akh (by omega)];rfl
  exact rz rfl (by rw[hfin];rfl)
theorem arn(vs:List IvQ):adx 8 (vs.map eV):=fun d hd=>by
 obtain⟨u,_,rfl⟩:=List.mem_map.1 hd;exact⟨rfl,rfl⟩
theorem abT(qs:List Rat):adx 3 (qs.map eQ):=fun d hd=>by
 obtain⟨u,_,rfl⟩:=List.mem_map.1 hd;exact⟨rfl,rfl⟩
theorem aD5(bs:List Bool):adx 1 (bs.map vB):=fun d hd=>by
 obtain⟨u,_,rfl⟩:=List.mem_map.1 hd;exact⟨rfl,rfl⟩
theorem axQ{l:List IvQ}{k:Nat}{v:IvQ}{t:Rat}{a b:Int}(h:l[k]? =some v)(ha:a=if v.nl then 1 else aa1 t v.lo)(hb:b=if v.nh then-1 else aa1 t v.hi):
  ayD (l.drop k) t=if 0<a∧b<0 then 2 else if(a=0∧b≤0)∨(b=0∧0≤a) then 1 else ayD (l.drop (k+1)) t:=by
 obtain⟨hk,rfl⟩:=List.getElem?_eq_some_iff.1 h
 rw[List.drop_eq_getElem_cons hk,ayD,ha,hb]
structure IvB (v:IvQ):Prop where
 lo:BQ v.lo 1200
 hi:BQ v.hi 1200
theorem awN{l:List IvQ}{t:Rat}{i:Nat}[ht:BQ t i](hb: ∀v∈l,IvB v)(hn:l.length≤100000)(hi:i≤20000:=by decide):PF GB Tryz.prog 321 [.sl (l.map eV),eQ t] (vI (ayD l t)):=by
 have hm:=aau eV l
 refine fn (fu:=⟨11⟩) Tryz.func321 J J Tryz.ntmps321 J J (fun C=>?_)
 refine eqF 10 (.d (vI (l.length:Nat))) rfl (by rw[hm]<;>rfl) ?_
 refine gx rfl<|?_
 refine lp (X:=Nat) (fun k=>[(11, .d (vI (k:Nat)))]) (fun k=>[]) (fun k=>k≤l.length∧ayD (l.drop k) t=ayD l t) (fun k=>l.length-k) 0 rfl ⟨Nat.zero_le _,rfl⟩ (fun _=>rfl) (fun k hk=>?_)
 obtain⟨h1,h2⟩:=hk
 refine br J J J (fun hc12=>?_) (fun hc12=>?_)
 ·
  obtain⟨v,hz⟩: ∃s,l[k]? =some s:=⟨_,List.getElem?_eq_getElem (by omega)⟩
  have hv:=hb v (List.mem_of_getElem? hz)
  haveI:=hv.lo
  haveI:=hv.hi
  refine ix (fu:=⟨12⟩) _ rfl (aay hz) rfl<|?_
  refine mg (fu:=⟨1⟩) (X:=Int) (fun a=>[(7, .d (vI a))]) (fun a=>[]) (fun a=>a=if v.nl then 1 else aa1 t v.lo) [7] [] rfl ?_ (fun _=>rfl) (fun a ha=>?_)
  ·
   refine gx rfl<|?_
   refine bb J J J (fun hc17=>?_) (fun hc17=>?_)
   ·
    refine cl rfl (q_C (a:=t) (b:=v.lo) (i:=i) (by omega)) rfl<|?_
    exact at_ (aa1 t v.lo) (by rw[if_neg (by simpa using hc17)])
   ·
    exact at_ 1 (by rw[if_pos (by simpa using hc17)])
  ·
   refine mg (X:=Int) (fun b=>[(8, .d (vI b))]) (fun b=>[]) (fun b=>b=if v.nh then-1 else aa1 t v.hi) [8] [] rfl ?_ (fun _=>rfl) (fun b hb'=>?_)
   ·
    refine gx rfl<|?_
    refine bb J J J (fun hc24=>?_) (fun hc24=>?_)
    ·
     refine cl rfl (q_C (a:=t) (b:=v.hi) (i:=i) (by omega)) rfl<|?_
     exact at_ (aa1 t v.hi) (by rw[if_neg (by simpa using hc24)])
    ·
     exact at_ (-1) (by rw[if_pos (by simpa using hc24)])
   ·
    have hst:=axQ hz ha hb'
    refine cs 31 J J J (fun hg31=>?_) (fun hg31=>?_)
    ·
     refine br J J J (fun hc34=>?_) (fun hc34=>?_)
     ·
      exact rz rfl (by first|(rw[←h2,List.drop_length];rfl)|(rw[←h2,hst,if_pos (by omega)];rfl)|(rw[←h2,hst,if_neg (by omega),if_pos (by omega)];rfl))
     ·
      refine cs 37 J J J (fun hg37=>?_) (fun hg37=>?_)
      ·
       refine cs 41 J J J (fun hg41=>?_) (fun hg41=>?_)
       ·
        exact rz rfl (by first|(rw[←h2,List.drop_length];rfl)|(rw[←h2,hst,if_pos (by omega)];rfl)|(rw[←h2,hst,if_neg (by omega),if_pos (by omega)];rfl))
       ·
        refine cs 44 J J J (fun hg44=>?_) (fun hg44=>?_)
        ·
         refine br J J J (fun hc48=>?_) (fun hc48=>?_)
         ·
          exact rz rfl (by first|(rw[←h2,List.drop_length];rfl)|(rw[←h2,hst,if_pos (by omega)];rfl)|(rw[←h2,hst,if_neg (by omega),if_pos (by omega)];rfl))
         ·
          exact at_ (k+1) ⟨⟨by omega,by rw[←h2,hst,if_neg (by omega),if_neg (by omega)]⟩,(by omega)⟩
        ·
         exact at_ (k+1) ⟨⟨by omega,by rw[←h2,hst,if_neg (by omega),if_neg (by omega)]⟩,(by omega)⟩
      ·
       refine cs 44 J J J (fun hg44=>?_) (fun hg44=>?_)
       ·
        refine br J J J (fun hc48=>?_) (fun hc48=>?_)
        ·
         exact rz rfl (by first|(rw[←h2,List.drop_length];rfl)|(rw[←h2,hst,if_pos (by omega)];rfl)|(rw[←h2,hst,if_neg (by omega),if_pos (by omega)];rfl))
        ·
         exact at_ (k+1) ⟨⟨by omega,by rw[←h2,hst,if_neg (by omega),if_neg (by omega)]⟩,(by omega)⟩
       ·
        exact at_ (k+1) ⟨⟨by omega,by rw[←h2,hst,if_neg (by omega),if_neg (by omega)]⟩,(by omega)⟩
    ·
     refine cs 37 J J J (fun hg37=>?_) (fun hg37=>?_)
     ·
      refine cs 41 J J J (fun hg41=>?_) (fun hg41=>?_)
      ·
       exact rz rfl (by first|(rw[←h2,List.drop_length];rfl)|(rw[←h2,hst,if_pos (by omega)];rfl)|(rw[←h2,hst,if_neg (by omega),if_pos (by omega)];rfl))
      ·
       refine cs 44 J J J (fun hg44=>?_) (fun hg44=>?_)
       ·
        refine br J J J (fun hc48=>?_) (fun hc48=>?_)
        ·
         exact rz rfl (by first|(rw[←h2,List.drop_length];rfl)|(rw[←h2,hst,if_pos (by omega)];rfl)|(rw[←h2,hst,if_neg (by omega),if_pos (by omega)];rfl))
        ·
         exact at_ (k+1) ⟨⟨by omega,by rw[←h2,hst,if_neg (by omega),if_neg (by omega)]⟩,(by omega)⟩
       ·
        exact at_ (k+1) ⟨⟨by omega,by rw[←h2,hst,if_neg (by omega),if_neg (by omega)]⟩,(by omega)⟩
     ·
      refine cs 44 J J J (fun hg44=>?_) (fun hg44=>?_)
      ·
       refine br J J J (fun hc48=>?_) (fun hc48=>?_)
       ·
        exact rz rfl (by first|(rw[←h2,List.drop_length];rfl)|(rw[←h2,hst,if_pos (by omega)];rfl)|(rw[←h2,hst,if_neg (by omega),if_pos (by omega)];rfl))
       ·
        exact at_ (k+1) ⟨⟨by omega,by rw[←h2,hst,if_neg (by omega),if_neg (by omega)]⟩,(by omega)⟩
      ·
       exact at_ (k+1) ⟨⟨by omega,by rw[←h2,hst,if_neg (by omega),if_neg (by omega)]⟩,(by omega)⟩
 ·
  obtain rfl:k=l.length:=by omega
  exact rz rfl (by first|(rw[←h2,List.drop_length];rfl)|(rw[←h2,hst,if_pos (by omega)];rfl)|(rw[←h2,hst,if_neg (by omega),if_pos (by omega)];rfl))
theorem aDq{l:List IvQ}{t:Rat}{i:Nat}[ht:BQ t i](hb: ∀v∈l,IvB v)(hn:l.length≤100000)(hi:i≤20000:=by decide):PF GB Tryz.prog 315 [.sl (l.map eV),eQ t] (vB (acQ l t)):=by
 refine fn Tryz.func315 J J Tryz.ntmps315 J J (fun C=>?_)
 refine cl rfl (awN (l:=l) (t:=t) hb hn hi) rfl<|?_
 exact rz J J
theorem ajn: ∀{l:List Rat} {i:Nat} {a b:Rat},l[i]? =some a→l[i+1]? =some b→adR (l.take (i+2))=adR (l.take (i+1))++[(a+b)/2]
 |[],i,a,b,h,_=>by simp at h
 |[_],i,a,b,h,k=>by simp at k
 |c::d::t,0,a,b,h,k=>by
  simp at h k;subst h;subst k
  simp[adR]
 |c::d::t,i+1,a,b,h,k=>by
  have:=ajn (l:=d::t) (i:=i) (by simpa using h) (by simpa using k)
  rw[show(c::d::t).take (i+1+2)=c::d::t.take (i+1) by simp,show(c::d::t).take (i+1+1)=c::d::t.take i by simp,adR,adR,List.cons_append]
  congr 1
theorem afm: ∀l:List Rat,(adR l).length≤l.length
 |[]=>Nat.le_refl _
 |[_]=>Nat.zero_le _
 |a::b::t=>by rw[adR,List.length_cons,List.length_cons];exact Nat.succ_le_succ (afm (b::t))
theorem aon{a:Rat}{t:List Rat}{z:Rat}(h:(a::t)[t.length]? =some z):aaU (a::t)=(a-1)::(adR (a::t)++[z+1]):=by
 rw[aaU]
 have:(a::t).getLast (by simp)=z:=by
  rw[List.getLast_eq_getElem]
  have:=List.getElem?_eq_some_iff.1 h
  obtain⟨h1,h2⟩:=this
  rw[←h2];congr 1
 rw[this]
theorem av5{cuts:List Rat}(hb: ∀q∈cuts,BQ q 1200)(hn:cuts.length≤100000):PF GB Tryz.prog 314 [.sl (cuts.map eQ)] (.sl ((aaU cuts).map eQ)):=by
 have hm:=aau eQ cuts
 refine fn (fu:=⟨10⟩) Tryz.func314 J J Tryz.ntmps314 J J (fun C=>?_)
 refine eqF 6 (.d (vI (cuts.length:Nat))) rfl (by rw[hm]<;>rfl) ?_
 refine gx rfl<|?_
 refine br J J J (fun hc7=>?_) (fun hc7=>?_)
 ·
  obtain rfl:cuts=[]:=List.eq_nil_of_length_eq_zero (by omega)
  refine rf J J<|?_
  exact rz rfl (by rw[aaU];show DV.sl [_]=DV.sl [_];rw[ao2])
 ·
  obtain⟨a,ct,rfl⟩: ∃a t,cuts=a::t:=by cases cuts with|nil=>exact absurd rfl hc7|cons a t=>exact⟨a,t,rfl⟩
  haveI hab:=hb a List.mem_cons_self
  have hcl:ct.length+1≤100000:=hn
  refine ix _ J J J<|cl rfl (akj (n:=1) (by decide) (by decide)) rfl<|cl (fu:=⟨0⟩) rfl (ako (a:=a) (b:=((1:Int):Rat))) rfl<|?_
  refine eqF 14 (.d (eQ (a-1))) J J ?_
  refine gx rfl<|ro J J<|?_
  refine lp (fu:=⟨6⟩) (X:=Nat) (fun i=>[(4, .d (vI ((i+1:Nat):Int))),(3, .rw 15)]) (fun i=>[(15,some (.b 56 3 (((a-1)::adR ((a::ct).take (i+1))).map eQ) true))]) (fun i=>i≤ct.length) (fun i=>ct.length-i) 0 rfl (Nat.zero_le _) (fun _=>rfl) (fun i hk=>?_)
  have hm2:=aau eQ (a::ct)
  have hml:=afm (a::ct.take i)
  rw[List.length_cons,List.length_take] at hml
  have hml2:=afm (a::ct)
  rw[List.length_cons] at hml2
  refine eqF 18 (.d (vI ((ct.length+1:Nat):Int))) rfl (by rw[hm2]<;>rfl) ?_
  refine gx rfl<|?_
  refine br (fu2:=⟨11⟩) J J J (fun hc19=>?_) (fun hc19=>?_)
  ·
   obtain⟨u,hu⟩: ∃s,(a::ct)[i]? =some s:=⟨_,List.getElem?_eq_getElem (by simp;omega)⟩
   obtain⟨w,hw⟩: ∃s,(a::ct)[i+1]? =some s:=⟨_,List.getElem?_eq_getElem (by simp;omega)⟩
   haveI:=hb u (List.mem_of_getElem? hu)
   haveI:=hb w (List.mem_of_getElem? hw)
   refine ix _ rfl (by rw[show((((i+1:Nat):Int))-1).toNat=i by omega,List.getElem?_map,hu];rfl) rfl<|ix _ rfl (by rw[Int.toNat_natCast,List.getElem?_map,hw];rfl) rfl<|?_
   refine cl rfl (awK (a:=u) (b:=w)) rfl<|rf J J<|ap (hv:=by simp only[aai];exact⟨by kernel_rfl,by omega⟩) (((a-1)::adR ((a::ct).take (i+1+1))).map eQ) rfl (by rw[ajn hu hw,←List.cons_append,List.map_append];rfl) (abT [(u+w)/2]) rfl<|?_
   refine rnE 34 15 rfl ?_
   exact at_ (i+1) ⟨(by omega),(by omega)⟩
  ·
   obtain rfl:i=ct.length:=by omega
   obtain⟨z,hz⟩: ∃s,(a::ct)[ct.length]? =some s:=⟨_,List.getElem?_eq_getElem (by simp)⟩
   haveI:=hb z (List.mem_of_getElem? hz)
   rw[show(a::ct).take (ct.length+1)=a::ct from List.take_length (l:=a::ct)]
   refine eqF 38 (.d (vI ((ct.length+1:Nat):Int))) rfl (by rw[hm2]<;>rfl) ?_
   refine gx rfl<|ix _ rfl (by rw[show((((ct.length+1:Nat):Int))-1).toNat=ct.length by omega,List.getElem?_map,hz];rfl) rfl<|cl rfl (akj (n:=1) (by decide) (by decide)) rfl<|?_
   refine cl rfl (aeh (a:=z) (b:=((1:Int):Rat))) rfl<|rf J J<|ap ((aaU (a::ct)).map eQ) rfl (by rw[aon hz,←List.cons_append,List.map_append];rfl) (abT [z+1]) rfl<|?_
   refine fzE 45 rfl ?_
   exact rz J J
theorem aq6(o:List Rat)(s:IvQ):(arW o s).length≤o.length+2:=by
 unfold arW
 have h:=fun(x:Rat) (l:List Rat)=>akA (x:=x) (l:=l)▸aiu aa1 x l
 have h1:=h s.lo o
 have h2:=h s.hi o
 have h3:=h s.hi (amB s.lo o)
 split<;>split<;>omega
def aiW(l:List IvQ)(k:Nat):List Rat:=aeP (l.take k)
theorem alm{l:List IvQ}{k:Nat}{v:IvQ}(h:l[k]? =some v):aiW l (k+1)=arW (aiW l k) v:=by
 unfold aiW aeP;rw[List.take_add_one,h,List.foldl_append];rfl
theorem agD(l:List IvQ): ∀k,(aiW l k).length≤2*k
 |0=>Nat.le_refl _
 |k+1=>by
  cases h:l[k]? with
  |none=>
   have:=agD l k
   unfold aiW at*
   rw[List.take_add_one,h];simp;omega
  |some v=>rw[alm h];have:=agD l k;have:=aq6 (aiW l k) v;omega
theorem apA{l:List IvQ}(hb: ∀v∈l,IvB v){k:Nat}: ∀y∈aiW l k,BQ y 1200:=fun y hy=>by
 obtain⟨s,hs,h⟩:=(alf _).2 y hy
 have:=hb s (List.mem_of_mem_take hs)
 rcases h with⟨_,rfl⟩|⟨_,rfl⟩
 ·exact this.lo
 ·exact this.hi
def avJ(o:List Rat)(v:IvQ)(j:Nat):List Rat:=if j=0 then o else if j=1 then(if v.nl then o else amB v.lo o) else arW o v
def aDh(v:IvQ)(j:Nat):Rat:=if j=0 then v.lo else v.hi
def as4(v:IvQ)(j:Nat):Bool:=if j=0 then v.nl else v.nh
theorem ado{o:List Rat}{v:IvQ}{j:Nat}(hj:j<2):avJ o v (j+1)=if as4 v j then avJ o v j else ad3 aa1 (aDh v j) (avJ o v j):=by
 have:j=0∨j=1:=by omega
 rcases this with rfl|rfl
 ·simp[avJ,as4,aDh,akA]
 ·simp[avJ,as4,aDh,arW,akA]
theorem ax5{o:List Rat}{v:IvQ}{j:Nat}(hj:j≤2):(avJ o v j).length≤o.length+2:=by
 unfold avJ
 have:=aq6 o v
 have h:=akA (x:=v.lo) (l:=o)▸aiu aa1 v.lo o
 split
 ·omega
 ·split
  ·split<;>omega
  ·exact this
theorem aBB{o:List Rat}(ho: ∀q∈o,BQ q 1200){v:IvQ}(hv:IvB v){j:Nat}(hj:j≤2): ∀q∈avJ o v j,BQ q 1200:=fun q hq=>by
 unfold avJ arW at hq
 have lo:=hv.lo
 have hi:=hv.hi
 split at hq
 ·exact ho q hq
 ·split at hq
  ·split at hq
   ·exact ho q hq
   ·rcases acN.1 hq with rfl|hq
    ·exact lo
    ·exact ho q hq
  ·split at hq
   ·split at hq
    ·exact ho q hq
    ·rcases acN.1 hq with rfl|hq
     ·exact lo
     ·exact ho q hq
   ·rcases acN.1 hq with rfl|hq
    ·exact hi
    ·split at hq
     ·exact ho q hq
     ·rcases acN.1 hq with rfl|hq
      ·exact lo
      ·exact ho q hq
theorem aDb{l:List IvQ}(hb: ∀v∈l,IvB v)(hn:l.length≤10000):PF GB Tryz.prog 313 [.sl (l.map eV)] (.sl ((aeP l).map eQ)):=by
 have hm:=aau eV l
 refine fn (fu:=⟨15⟩) Tryz.func313 J J Tryz.ntmps313 J J (fun C=>?_)
 refine eqF 10 (.d (vI (l.length:Nat))) rfl (by rw[hm]<;>rfl) ?_
 refine gx rfl<|?_
 refine nlC 3 rfl ?_
 refine lp (X:=List Rat×Nat) (fun⟨o,k⟩=>[(11, .d (vI (k:Nat))),(3, .d (.sl (o.map eQ)))]) (fun⟨o,k⟩=>[]) (fun⟨o,k⟩=>o=aiW l k∧k≤l.length) (fun⟨o,k⟩=>l.length-k) ([],0) rfl ⟨rfl,Nat.zero_le _⟩ (fun _=>rfl) (fun⟨o,k⟩ hk=>?_)
 dsimp only at hk⊢
 obtain⟨h1,h2⟩:=hk
 refine br J J J (fun hc12=>?_) (fun hc12=>?_)
 ·
  obtain⟨v,hz⟩: ∃s,l[k]? =some s:=⟨_,List.getElem?_eq_getElem (by omega)⟩
  have hv:=hb v (List.mem_of_getElem? hz)
  haveI:=hv.lo
  haveI:=hv.hi
  have hob:=apA hb (k:=k)
  have hol:=agD l k
  rw[←h1] at hob hol
  refine ix _ rfl (aay hz) rfl<|rf J J<|?_
  refine lp (X:=List Rat×Nat) (fun⟨xs,j⟩=>[(21, .d (vI (j:Nat))),(3, .d (.sl (xs.map eQ)))]) (fun⟨xs,j⟩=>[]) (fun⟨xs,j⟩=>xs=avJ o v j∧j≤2) (fun⟨xs,j⟩=>2-j) (o,0) rfl ⟨rfl,by omega⟩ (fun _=>rfl) (fun⟨xs,j⟩ hk=>?_)
  dsimp only at hk⊢
  obtain⟨g1,g2⟩:=hk
  refine br J J J (fun hc22=>?_) (fun hc22=>?_)
  ·
   have hj2:j<2:=by have:=hc22;simp only[List.length_cons,List.length_nil] at this;omega
   obtain⟨m,hm2⟩: ∃m,m=aDh v j:=⟨_,rfl⟩
   haveI hmb:BQ m 1200:=by rw[hm2];unfold aDh;split;exact hv.lo;exact hv.hi
   have hxl:=aau eQ xs
   have hxn:xs.length≤2*k+2:=by rw[g1];have:=ax5 (o:=o) (v:=v) (j:=j) g2;omega
   have hxb: ∀q∈xs,BQ q 1200:=by rw[g1];exact aBB hob hv g2
   refine ix (fu:=⟨10⟩) _ rfl (by rw[Int.toNat_natCast];exact(show([v.lo,v.hi].map eQ)[j]? =some (eQ m) by rw[hm2];have:j=0∨j=1:=(by omega);rcases this with rfl|rfl<;>rfl)) rfl<|?_
   rcases(show j=0∨j=1 by omega) with rfl|rfl
   ·
    refine knT J J J<|?_
    refine csb (fu2:=⟨1⟩) 32 J J J (fun hg32=>?_) (fun hg32=>?_)
    ·
     exact at_ (xs,0+1) (by dsimp only;exact⟨⟨by rw[ado (by decide),if_pos (by simpa[as4] using hg32),←g1],by omega⟩,(by omega)⟩)
    ·
     refine knF (fu:=⟨16⟩) J J J<|?_
     refine mg (fu:=⟨5⟩) (X:=Nat) (fun n=>[(8, .d (vI (n:Nat)))]) (fun n=>[]) (fun n=>akD aa1 m xs=n) [8] [] rfl ?_ (fun _=>rfl) (fun n hnx=>?_)
     ·
      refine gx rfl<|?_
      refine lp (fu:=⟨6⟩) (X:=Nat) (fun n=>[(8, .d (vI (n:Nat)))]) (fun n=>[]) (fun n=>n≤xs.length∧ ∀j (h:j<xs.length),j<n→aa1 xs[j] m<0) (fun n=>xs.length-n) 0 rfl ⟨Nat.zero_le _,fun j _ hj=>absurd hj (by omega)⟩ (fun _=>rfl) (fun n hk=>?_)
      obtain⟨n1,n2⟩:=hk
      refine csS (v2:=fun hg43=>by simp only[aai];kernel_rfl) J J J J (fun hg43=>?_) (fun hg43=>?_)
      ·
       refine ix _ rfl (acq (by omega)) rfl<|cl rfl (q_C (a:=xs[n]'(by omega)) (b:=m) (ha:=hxb _ (List.getElem_mem (by omega))) (hb:=hmb)) rfl<|?_
       refine br J J J (fun hc52=>?_) (fun hc52=>?_)
       ·
        exact at_ (n+1) ⟨⟨by omega,fun j h hj=>by by_cases q:j=n;(subst q;exact hc52);exact n2 j h (by omega)⟩,(by omega)⟩
       ·
        exact at_ n (aen aa1 n1 n2 (fun h=>hc52))
      ·
       exact at_ n (aen aa1 n1 n2 (fun h=>absurd h (by omega)))
     ·
      have hnl:n≤xs.length:=by rw[←hnx];exact ajG _ _ _
      refine csS (v1:=fun hg58=>by simp only[aai];kernel_rfl) J J J J (fun hg58=>?_) (fun hg58=>?_)
      ·
       have hnew: ∀h:n<xs.length,aa1 xs[n] m≠0:=fun h=>absurd h (by omega)
       obtain⟨ys,hys⟩: ∃ys,ys=xs.take n++m::xs.drop n:=⟨_,rfl⟩
       have hin:ad3 aa1 m xs=ys:=by rw[hys];exact acM aa1 hnx hnew
       have hyl:ys.length≤xs.length+1:=by rw[hys];simp;omega
       refine s3 n _ J J J J (abT _) (by rw[hxl];exact hnl) rfl<|ro J J<|sc' n xs.length _ J J (by rw[hxl]) rfl (abT _) hnl (by omega) rfl<|?_
       refine ap _ J J (slD abT _ _ _) rfl<|apf (hv:=by simp only[aai];exact⟨by kernel_rfl,by omega⟩) (ho:=fun _=>⟨slT abT _ _,by simp⟩) (ys.map eQ) rfl (by rw[hys,List.map_append,List.map_cons,List.map_take,List.map_drop,List.take_of_length_le (l:=xs.map eQ) (i:=xs.length) (by simp)];rfl) (slI abT _ _ _ _) rfl<|?_
       exact at_ (ys,0+1) (by dsimp only;exact⟨⟨by rw[ado (by decide),if_neg (by simpa[as4] using hg32),←g1,←hm2,hin],by omega⟩,(by omega)⟩)
      ·
       refine ix _ rfl (acq (by omega)) rfl<|cl rfl (q_C (a:=xs[n]'(by omega)) (b:=m) (ha:=hxb _ (List.getElem_mem (by omega))) (hb:=hmb)) rfl<|?_
       refine br (fu2:=⟨7⟩) J J J (fun hc67=>?_) (fun hc67=>?_)
       ·
        have hnew: ∀h:n<xs.length,aa1 xs[n] m≠0:=fun h=>hc67
        obtain⟨ys,hys⟩: ∃ys,ys=xs.take n++m::xs.drop n:=⟨_,rfl⟩
        have hin:ad3 aa1 m xs=ys:=by rw[hys];exact acM aa1 hnx hnew
        have hyl:ys.length≤xs.length+1:=by rw[hys];simp;omega
        refine s3 n _ J J J J (abT _) (by rw[hxl];exact hnl) rfl<|ro J J<|sc' n xs.length _ J J (by rw[hxl]) rfl (abT _) hnl (by omega) rfl<|?_
        refine ap _ J J (slD abT _ _ _) rfl<|apf (hv:=by simp only[aai];exact⟨by kernel_rfl,by omega⟩) (ho:=fun _=>⟨slT abT _ _,by simp⟩) (ys.map eQ) rfl (by rw[hys,List.map_append,List.map_cons,List.map_take,List.map_drop,List.take_of_length_le (l:=xs.map eQ) (i:=xs.length) (by simp)];rfl) (slI abT _ _ _ _) rfl<|?_
        exact at_ (ys,0+1) (by dsimp only;exact⟨⟨by rw[ado (by decide),if_neg (by simpa[as4] using hg32),←g1,←hm2,hin],by omega⟩,(by omega)⟩)
       ·
        have hin:ad3 aa1 m xs=xs:=afP aa1 hnx (by omega) (Decidable.not_not.1 hc67)
        exact at_ (xs,0+1) (by dsimp only;exact⟨⟨by rw[ado (by decide),if_neg (by simpa[as4] using hg32),←g1,←hm2,hin],by omega⟩,(by omega)⟩)
   ·
    refine knF (fu:=⟨6⟩) J J J<|knT J J J<|?_
    refine bb (fu2:=⟨8⟩) J J J (fun hc39=>?_) (fun hc39=>?_)
    ·
     exact at_ (xs,1+1) (by dsimp only;exact⟨⟨by rw[ado (by decide),if_pos (by simpa[as4] using hc39),←g1],by omega⟩,(by omega)⟩)
    ·
     refine mg (fu:=⟨5⟩) (X:=Nat) (fun n=>[(8, .d (vI (n:Nat)))]) (fun n=>[]) (fun n=>akD aa1 m xs=n) [8] [] rfl ?_ (fun _=>rfl) (fun n hnx=>?_)
     ·
      refine gx rfl<|?_
      refine lp (fu:=⟨6⟩) (X:=Nat) (fun n=>[(8, .d (vI (n:Nat)))]) (fun n=>[]) (fun n=>n≤xs.length∧ ∀j (h:j<xs.length),j<n→aa1 xs[j] m<0) (fun n=>xs.length-n) 0 rfl ⟨Nat.zero_le _,fun j _ hj=>absurd hj (by omega)⟩ (fun _=>rfl) (fun n hk=>?_)
      obtain⟨n1,n2⟩:=hk
      refine csS (v2:=fun hg43=>by simp only[aai];kernel_rfl) J J J J (fun hg43=>?_) (fun hg43=>?_)
      ·
       refine ix _ rfl (acq (by omega)) rfl<|cl rfl (q_C (a:=xs[n]'(by omega)) (b:=m) (ha:=hxb _ (List.getElem_mem (by omega))) (hb:=hmb)) rfl<|?_
       refine br J J J (fun hc52=>?_) (fun hc52=>?_)
       ·
        exact at_ (n+1) ⟨⟨by omega,fun j h hj=>by by_cases q:j=n;(subst q;exact hc52);exact n2 j h (by omega)⟩,(by omega)⟩
       ·
        exact at_ n (aen aa1 n1 n2 (fun h=>hc52))
      ·
       exact at_ n (aen aa1 n1 n2 (fun h=>absurd h (by omega)))
     ·
      have hnl:n≤xs.length:=by rw[←hnx];exact ajG _ _ _
      refine csS (v1:=fun hg58=>by simp only[aai];kernel_rfl) J J J J (fun hg58=>?_) (fun hg58=>?_)
      ·
       have hnew: ∀h:n<xs.length,aa1 xs[n] m≠0:=fun h=>absurd h (by omega)
       obtain⟨ys,hys⟩: ∃ys,ys=xs.take n++m::xs.drop n:=⟨_,rfl⟩
       have hin:ad3 aa1 m xs=ys:=by rw[hys];exact acM aa1 hnx hnew
       have hyl:ys.length≤xs.length+1:=by rw[hys];simp;omega
       refine s3 n _ J J J J (abT _) (by rw[hxl];exact hnl) rfl<|ro J J<|sc' n xs.length _ J J (by rw[hxl]) rfl (abT _) hnl (by omega) rfl<|?_
       refine ap _ J J (slD abT _ _ _) rfl<|apf (hv:=by simp only[aai];exact⟨by kernel_rfl,by omega⟩) (ho:=fun _=>⟨slT abT _ _,by simp⟩) (ys.map eQ) rfl (by rw[hys,List.map_append,List.map_cons,List.map_take,List.map_drop,List.take_of_length_le (l:=xs.map eQ) (i:=xs.length) (by simp)];rfl) (slI abT _ _ _ _) rfl<|?_
       exact at_ (ys,1+1) (by dsimp only;exact⟨⟨by rw[ado (by decide),if_neg (by simpa[as4] using hc39),←g1,←hm2,hin],by omega⟩,(by omega)⟩)
      ·
       refine ix _ rfl (acq (by omega)) rfl<|cl rfl (q_C (a:=xs[n]'(by omega)) (b:=m) (ha:=hxb _ (List.getElem_mem (by omega))) (hb:=hmb)) rfl<|?_
       refine br J J J (fun hc67=>?_) (fun hc67=>?_)
       ·
        have hnew: ∀h:n<xs.length,aa1 xs[n] m≠0:=fun h=>hc67
        obtain⟨ys,hys⟩: ∃ys,ys=xs.take n++m::xs.drop n:=⟨_,rfl⟩
        have hin:ad3 aa1 m xs=ys:=by rw[hys];exact acM aa1 hnx hnew
        have hyl:ys.length≤xs.length+1:=by rw[hys];simp;omega
        refine s3 n _ J J J J (abT _) (by rw[hxl];exact hnl) rfl<|ro J J<|sc' n xs.length _ J J (by rw[hxl]) rfl (abT _) hnl (by omega) rfl<|?_
        refine ap _ J J (slD abT _ _ _) rfl<|apf (hv:=by simp only[aai];exact⟨by kernel_rfl,by omega⟩) (ho:=fun _=>⟨slT abT _ _,by simp⟩) (ys.map eQ) rfl (by rw[hys,List.map_append,List.map_cons,List.map_take,List.map_drop,List.take_of_length_le (l:=xs.map eQ) (i:=xs.length) (by simp)];rfl) (slI abT _ _ _ _) rfl<|?_
        exact at_ (ys,1+1) (by dsimp only;exact⟨⟨by rw[ado (by decide),if_neg (by simpa[as4] using hc39),←g1,←hm2,hin],by omega⟩,(by omega)⟩)
       ·
        have hin:ad3 aa1 m xs=xs:=afP aa1 hnx (by omega) (Decidable.not_not.1 hc67)
        exact at_ (xs,1+1) (by dsimp only;exact⟨⟨by rw[ado (by decide),if_neg (by simpa[as4] using hc39),←g1,←hm2,hin],by omega⟩,(by omega)⟩)
  ·
   have hj2: ¬j<2:=by have:=hc22;simp only[List.length_cons,List.length_nil] at this;omega
   exact at_ (xs,k+1) (by dsimp only;exact⟨⟨by rw[alm hz,←h1,g1,show j=2 by omega];rfl,by omega⟩,(by omega)⟩)
 ·
  have hfin:aeP l=o:=by rw[h1,show k=l.length by omega];unfold aiW;rw[List.take_length]
  exact rz rfl (by rw[hfin];rfl)
end Go.Sx
end
