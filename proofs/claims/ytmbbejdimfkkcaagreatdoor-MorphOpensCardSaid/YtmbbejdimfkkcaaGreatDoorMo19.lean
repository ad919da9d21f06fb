import Derived.Test.YtmbbejdimfkkcaaGreatDoorMo18
import Derived.RecoverIn
import Derived.Shelf.SlSortCmp.NoneTotal
import Derived.Test.YtmbbejdimfkkcaaGreatDoorProg
set_option linter.all false
set_option maxHeartbeats 2000000
set_option maxRecDepth 100000
section
namespace Go.Sx
open Go Go.Proofs Tryz
variable {GB:Gh}
def Qh: ∀{ls:List aa} {c e:ao},bw c->fk c->(∀l∈ls,l.ok)->js ls c=some e->fk e
 |[],c,e,_,ha,_,h=>by
  obtain rfl:c=e:=by simpa[js] using h
  exact ha
 |l::t,c,e,hc,ha,hl,h=>by
  have hl':=eJ.1 hl;rw[js] at h;split at h
  .rename_i hb
   exact Qh (gz hc hl'.1 hb).1 (Hd hc hl'.1 ha hb) hl'.2 h
  .exact absurd h omc
def gu.nz{V:List ah}{E:List (ah×ah)}(hB:gu V E){f:ah×ah}(hf:f∈E): ¬((aB f).x=0/\(aB f).y=0):=by
 obtain⟨u,hu⟩:=hB.cen;exact Qx (hu f hf)
def gu.vne{V:List ah}{E:List (ah×ah)}(hB:gu V E):V≠[]:=by
 obtain⟨u,hu⟩:=hB.cen;obtain⟨v,hv,_⟩:=hB.hull ⟨0,0⟩ u fun f hf=>dZ (hu f hf);exact List.ne_nil_of_mem hv
def vQ{l:aa}(hl:l.ok)(V:List ah):(f9 l V).ok/\ ∃g:Rat,0<g/\ ∀p,(f9 l V).value p=g*(l.value p-jb l.nor V):=by
 refine⟨xp (BB hl),?_⟩;obtain⟨g,g0,hg⟩:=Ax (c:=l.c-jb l.nor V) (BB hl);refine⟨g,g0,fun p=>?_⟩;unfold f9;rw[hg,A'];unfold aa.nor ah.dot;dsimp only;grind
def Cj{c:ao}{f:ah×ah}(hn: ¬((aB f).x=0/\(aB f).y=0)){l:aa}(h:gp c f=some l): ∃m,fD c (aB f)=some m/\l.ok/\ ∃g:Rat,0<g/\ ∀p,l.value p=g*((aB f).dot p-m-(aB f).dot f.1):=by
 unfold gp at h
 cases hf:fD c (aB f) with
 |none=>rw[hf] at h;cases h
 |some m=>
  rw[hf] at h
  cases h
  refine⟨m,J,xp hn,?_⟩;obtain⟨g,g0,hg⟩:=Ax (c:= -(m+(aB f).dot f.1)) hn;refine⟨g,g0,fun p=>?_⟩;rw[hg];unfold ah.dot;grind
def Fy{V:List ah}{E:List (ah×ah)}(hB:gu V E){c:ao}(hc:bw c): ∀l∈fH c V E,l.ok:=fun l hl=>by
 rcases bZ.1 hl with hl|hl
 .obtain⟨s,hs,rfl⟩:=aU.1 hl
  exact(vQ (hc.ok s hs) V).1
 .obtain⟨f,hf,e⟩:=jU.1 hl
  obtain⟨_,_,h,_⟩:=Cj (hB.nz hf) e;exact h
def Nj{V:List ah}{E:List (ah×ah)}(hB:gu V E){c:ao}(hc:bw c)(ha:fk c)(p:ah):d8 (fH c V E) p↔ ∃q,bu c q/\ ∀f∈E,0<bB f.1 f.2 (p.subQ q):=by
 constructor
 .intro h
  refine aEj hB hc (fun s hs=>?_) fun f hf ⟨M,hM⟩=>?_
  .obtain⟨h1,v,hv,h2⟩:=o9 (n:=s.l.nor) hB.vne
   refine⟨v,hv,fun w hw=>by rw[<-h2];exact h1 w hw,?_⟩;obtain⟨_,g,g0,hg⟩:=vQ (hc.ok s hs) V;have:=h _ (bU _ (dX (f:=fun s:bD=>f9 s.l V) hs));rw[hg] at this;rw[<-h2];exact(w7 g0).1 this
  .cases hfl:fD c (aB f) with
   |none=>
    obtain⟨q,hq,hlt⟩:=auP hc (hB.nz hf) hfl M;have:=hM q hq;grind
   |some m=>
    obtain⟨_,q,hq,e⟩:=FP hc ha (hB.nz hf) hfl;refine⟨q,hq,?_⟩;have he:gp c f=some (dE (aB f).x (aB f).y (-(m+(aB f).dot f.1))):=by unfold gp;rw[hfl];rfl
    obtain⟨m',k1,_,g,g0,hg⟩:=Cj (hB.nz hf) he;rw[hfl] at k1;cases k1;have:=h _ (bQ _ (jU.2 ⟨f,hf,he⟩));rw[hg] at this;rw[e];exact(w7 g0).1 this
 .rintro ⟨q,hq,hu⟩ l hl
  have hdp: ∀n:ah,n.dot p=n.dot q+n.dot (p.subQ q):=fun n=>by rw[GC];grind
  rcases bZ.1 hl with hl|hl
  .obtain⟨s,hs,rfl⟩:=aU.1 hl
   obtain⟨_,g,g0,hg⟩:=vQ (hc.ok s hs) V;rw[hg,w7 g0];have h1:=aAB hB (c:=c) (q:=q) (u:=p.subQ q) (fun f hf=>dZ (hu f hf)) (o9 (n:=s.l.nor) hB.vne).1;have h2:=hq s hs;rw[A'] at h2⊢;rw[hdp];grind
  .obtain⟨f,hf,e⟩:=jU.1 hl
   obtain⟨m,k1,_,g,g0,hg⟩:=Cj (hB.nz hf) e;rw[hg,w7 g0,hdp];have h1:=hu f hf;rw[FK] at h1;have h2:=(FP hc ha (hB.nz hf) k1).1 q hq.c;grind
def Uh{V:List ah}{E:List (ah×ah)}(hB:gu V E){c:ao}(hc:bw c)(ha:fk c): ∃p,d8 (fH c V E) p:=by
 obtain⟨q,hq⟩:=hc.ne;obtain⟨u,hu⟩:=hB.cen;refine⟨q.add u,(Nj hB hc ha _).2 ⟨q,hq,fun f hf=>?_⟩⟩;have e:(q.add u).subQ q=u:=by unfold ah.subQ ah.add;cases u;simp only[ah.mk.injEq];constructor<;>grind
 rw[e];exact hu f hf
def EU{V:List ah}{E:List (ah×ah)}(hB:gu V E){c:ao}(hc:bw c)(ha:fk c): ∃d,js (fH c V E) []=some d/\bw d/\fk d/\(∀p,bu d p↔d8 (fH c V E) p)/\cj (fH c V E)=d.map (·.l):=by
 have hok:=Fy hB hc;obtain⟨p,hp⟩:=Uh hB hc ha;obtain⟨d,hd⟩:=I5 bw.nil hok ⟨p,fun s hs=>absurd hs omc,hp⟩;obtain⟨g1,g2⟩:=LP bw.nil hok hd;have g2: ∀p,bu d p↔d8 (fH c V E) p:=fun p=>by
  rw[g2];exact⟨fun h=>h.2,fun h=>⟨fun s hs=>absurd hs omc,h⟩⟩
 have g3:=Qh bw.nil .nil hok hd;exact⟨d,hd,g1,g3,g2,Mk hok g1 g3 g2⟩
def dk(V:List ah)(E:List (ah×ah))(c:ao):Tr:=jB (cj (fH c V E))
def z'{V:List ah}{E:List (ah×ah)}(hB:gu V E){c:ao}(hc:bw c)(ha:fk c):(dk V E c).all aa.ok:=by
 obtain⟨d,_,g1,_,_,e⟩:=EU hB hc ha;unfold dk;rw[e];exact Ef fun l hl=>by obtain⟨s,hs,rfl⟩:=aU.1 hl;exact g1.ok s hs
def P3{V:List ah}{E:List (ah×ah)}(hB:gu V E){c:ao}(hc:bw c)(ha:fk c)(p:ah):(dk V E c).val p=true↔ ∃q,bu c q/\ ∀f∈E,0<bB f.1 f.2 (p.subQ q):=by
 obtain⟨d,_,g1,_,g2,e⟩:=EU hB hc ha;unfold dk;rw[e,Rm,<-Nj hB hc ha,<-g2];unfold d8 bu;constructor
 .intro h s hs;exact h s.l (dX (f:=fun s:bD=>s.l) hs)
 .intro h l hl;obtain⟨s,hs,rfl⟩:=aU.1 hl;exact h s hs
def ow(f:ah×ah):ah×ah:=(aG f.1,aG f.2)
def JZ(a b p:ah):bB (aG a) (aG b) p=bB a b (aG p):=by unfold bB aG;dsimp only;grind
def H2(p:ah):aG (aG p)=p:=by unfold aG;cases p;simp only[ah.mk.injEq];constructor<;>grind
def WK{V:List ah}{E:List (ah×ah)}(h:gu V E):gu (V.map aG) (E.map ow) where
 ends:=fun f hf=>by
  obtain⟨g,hg,rfl⟩:=aU.1 hf;exact⟨dX (h.ends g hg).1,dX (h.ends g hg).2⟩
 cvx:=fun f hf v hv=>by
  obtain⟨g,hg,rfl⟩:=aU.1 hf;obtain⟨w,hw,rfl⟩:=aU.1 hv;show 0<=bB (aG g.1) (aG g.2) (aG w);rw[JZ,H2];exact h.cvx g hg w hw
 cen:=by
  obtain⟨u,hu⟩:=h.cen;refine⟨aG u,fun f hf=>?_⟩;obtain⟨g,hg,rfl⟩:=aU.1 hf;show 0<bB (aG g.1) (aG g.2) (aG u);rw[JZ,H2];exact hu g hg
 hull:=fun n u hu=>by
  obtain⟨v,hv,hle⟩:=h.hull (aG n) (aG u) fun f hf=>by
   have:=hu _ (dX (f:=ow) hf);unfold ow at this;rwa [JZ] at this
  refine⟨aG v,dX hv,?_⟩;have e: ∀z,(aG n).dot z=n.dot (aG z):=fun z=>by unfold ah.dot aG;dsimp only;grind
  rw[e,e,H2] at hle;exact hle
def Mh{P:ah×ah->Prop}{f:ah×ah}{x y z:ah×ah}(hf:f∈[x,y,z])(h1:P x)(h2:P y)(h3:P z):P f:=by
 simp only[aW,dK,or_false] at hf;rcases hf with rfl|rfl|rfl<;>assumption
def Z9{a b c:ah}(h:0<bB a b c):gu [a,b,c] [(a,b),(b,c),(c,a)] where
 ends:=fun f hf=>Mh (P:=fun f=>f.1∈[a,b,c]/\f.2∈[a,b,c]) hf omc omc omc
 cvx:=fun f hf v hv=>by
  simp only[aW,dK,or_false] at hv;refine Mh (P:=fun f=>0<=bB f.1 f.2 v) hf ?_ ?_ ?_<;>dsimp only<;>rcases hv with rfl|rfl|rfl<;>unfold bB at* <;>grind
 cen:=⟨⟨(a.x+b.x+c.x)/3,(a.y+b.y+c.y)/3⟩,fun f hf=>by
  refine Mh (P:=fun f=>0<bB f.1 f.2 ⟨(a.x+b.x+c.x)/3,(a.y+b.y+c.y)/3⟩) hf ?_ ?_ ?_<;>dsimp only<;>unfold bB at* <;>grind⟩
 hull:=fun n u hu=>by
  have h1:=hu (a,b) omc;have h2:=hu (b,c) omc;have h3:=hu (c,a) omc;dsimp only at h1 h2 h3;have e:bB a b c*n.dot u=bB b c u*n.dot a+bB c a u*n.dot b+bB a b u*n.dot c:=by unfold bB ah.dot;grind
  have e2:bB a b c=bB b c u+bB c a u+bB a b u:=by unfold bB;grind
  apply Classical.byContradiction;intro k;have ka:n.dot u<n.dot a:=by have: ¬n.dot a<=n.dot u:=fun q=>k ⟨a,omc,q⟩;grind
  have kb:n.dot u<n.dot b:=by have: ¬n.dot b<=n.dot u:=fun q=>k ⟨b,omc,q⟩;grind
  have kc:n.dot u<n.dot c:=by have: ¬n.dot c<=n.dot u:=fun q=>k ⟨c,omc,q⟩;grind
  have:=uj h2 h3 h1 omb (show 0<n.dot a-n.dot u by grind) (show 0<n.dot b-n.dot u by grind) (show 0<n.dot c-n.dot u by grind);rw[e2] at e;clear hu k h e2;generalize bB b c u=x at*;generalize bB c a u=y at*;generalize bB a b u=z at*;generalize n.dot u=m at*;generalize n.dot a=p at*;generalize n.dot b=q at*;generalize n.dot c=r at*;grind
def L3{P:ah×ah->Prop}{f:ah×ah}{x y z w:ah×ah}(hf:f∈[x,y,z,w])(h1:P x)(h2:P y)(h3:P z)(h4:P w):P f:=by
 simp only[aW,dK,or_false] at hf;rcases hf with rfl|rfl|rfl|rfl<;>assumption
def aL0{a b c d:Rat}(h1:a<c)(h2:b<d):gu [⟨a,b⟩,⟨c,b⟩,⟨c,d⟩,⟨a,d⟩] [(⟨a,b⟩,⟨c,b⟩),(⟨c,b⟩,⟨c,d⟩),(⟨c,d⟩,⟨a,d⟩),(⟨a,d⟩,⟨a,b⟩)] where
 ends:=fun f hf=>L3 (P:=fun f=>f.1∈[(⟨a,b⟩:ah),⟨c,b⟩,⟨c,d⟩,⟨a,d⟩]/\f.2∈[(⟨a,b⟩:ah),⟨c,b⟩,⟨c,d⟩,⟨a,d⟩]) hf omc omc omc omc
 cvx:=fun f hf v hv=>by
  have k:=c9 (show 0<c-a by grind) (show 0<d-b by grind);simp only[aW,dK,or_false] at hv;refine L3 (P:=fun f=>0<=bB f.1 f.2 v) hf ?_ ?_ ?_ ?_<;>dsimp only<;>rcases hv with rfl|rfl|rfl|rfl<;>unfold bB<;>dsimp only<;>grind
 cen:=⟨⟨(a+c)/2,(b+d)/2⟩,fun f hf=>by
  have k:=c9 (show 0<c-a by grind) (show 0<d-b by grind);refine L3 (P:=fun f=>0<bB f.1 f.2 ⟨(a+c)/2,(b+d)/2⟩) hf ?_ ?_ ?_ ?_<;>dsimp only<;>unfold bB<;>dsimp only<;>grind⟩
 hull:=fun n u hu=>by
  have k1:=hu (⟨a,b⟩,⟨c,b⟩) omc;have k2:=hu (⟨c,b⟩,⟨c,d⟩) omc;have k3:=hu (⟨c,d⟩,⟨a,d⟩) omc;have k4:=hu (⟨a,d⟩,⟨a,b⟩) omc;unfold bB at k1 k2 k3 k4;dsimp only at k1 k2 k3 k4;have y1:0<=u.y-b:=(iH (k:=c-a) omb).1 omb;have y2:0<=d-u.y:=(iH (k:=c-a) omb).1 omb;have x1:0<=u.x-a:=(iH (k:=d-b) omb).1 omb;have x2:0<=c-u.x:=(iH (k:=d-b) omb).1 omb;by_cases hx:0<=n.x<;>by_cases hy:0<=n.y
  .refine⟨⟨a,b⟩,omc,?_⟩
   have:=cI hx x1;have:=cI hy y1;unfold ah.dot;dsimp only;grind
  .refine⟨⟨a,d⟩,omc,?_⟩
   have:=cI hx x1;have:=cI (show 0<= -n.y by grind) y2;unfold ah.dot;dsimp only;grind
  .refine⟨⟨c,b⟩,omc,?_⟩
   have:=cI (show 0<= -n.x by grind) x2;have:=cI hy y1;unfold ah.dot;dsimp only;grind
  .refine⟨⟨c,d⟩,omc,?_⟩
   have:=cI (show 0<= -n.x by grind) x2;have:=cI (show 0<= -n.y by grind) y2;unfold ah.dot;dsimp only;grind
def jA(V:List ah)(E:List (ah×ah))(cs:List ao)(t:Tr):Tr:=cs.foldl (fun t c=>t.mergeQ 1 (dk V E c) []) t
def dx(V:List ah)(E:List (ah×ah))(t:Tr):Tr:=jA V E (bO (t.restrict [])) (.leaf false)
def US{V:List ah}{E:List (ah×ah)}(hB:gu V E){M:List aa}: ∀{cs:List ao} {t:Tr},(∀c∈cs,bw c/\fk c)->t.all aa.ok->(∀l∈t.lns,l∈M)->(∀c∈cs,∀l∈(dk V E c).lns,l∈M)->(jA V E cs t).all aa.ok/\(∀l∈(jA V E cs t).lns,l∈M)/\ ∀p,cA M p->((jA V E cs t).val p=true↔t.val p=true\/ ∃c∈cs,(dk V E c).val p=true)
 |[],t,_,ht,hl,_=>⟨ht,hl,fun p _=>⟨.inl,fun h=>h.elim id fun⟨c,hc,_⟩=>by cases hc⟩⟩
 |c::cs,t,hcs,ht,hl,hM=>by
  obtain⟨g,a⟩:=hcs c aQ;have hok:=z' hB g a;have h1:=Tr.mergeQ_all aa.ok 1 hok t [] ht;have h2:=Tr.mergeQ_all (fun l=>l∈M) 1 (l9.2 (hM c aQ)) t [] (l9.2 hl);obtain⟨i1,i2,i3⟩:=US hB (cs:=cs) (t:=t.mergeQ 1 (dk V E c) []) (fun d hd=>hcs d (aJ _ hd)) h1 (l9.1 h2) (fun d hd=>hM d (aJ _ hd));refine⟨i1,i2,fun p hp=>?_⟩;show(jA V E cs (t.mergeQ 1 (dk V E c) [])).val p=true↔_;rw[i3 p hp,Tr.val_merge 1 _ hok t [] p ht bw.nil (fun s hs=>by cases hs) (hp.sub hl) (hp.sub (hM c aQ))];have e: ∀x y:Bool,uq 1 x y=true↔x=true\/y=true:=fun x y=>by cases x<;>cases y<;>decide
  rw[e];constructor
  .rintro ((h|h)|⟨d,hd,h⟩)
   .exact .inl h
   .exact .inr ⟨c,aQ,h⟩
   .exact .inr ⟨d,aJ _ hd,h⟩
  .rintro (h|⟨d,hd,h⟩)
   .exact .inl (.inl h)
   .rcases aW.1 hd with rfl|hd
    .exact .inl (.inr h)
    .exact .inr ⟨d,hd,h⟩
def n7{t:Tr}(ht:t.all aa.ok): ∀c∈bO (t.restrict []),bw c/\fk c:=fun c hc=>⟨ary (t.restrict_all _ [] ht) c hc,K4 (t.restrict_all _ [] ht) bw.nil (show fk [] from .nil) _ (nC.1 hc)⟩
def ve(V:List ah)(E:List (ah×ah))(t:Tr):List aa:=(bO (t.restrict [])).flatMap fun c=>(dk V E c).lns
def AC{V:List ah}{E:List (ah×ah)}(hB:gu V E){t:Tr}(ht:t.all aa.ok):(dx V E t).all aa.ok/\(∀l∈(dx V E t).lns,l∈ve V E t)/\ ∀p,cA (ve V E t) p->((dx V E t).val p=true↔ ∃c∈bO (t.restrict []),(dk V E c).val p=true):=by
 obtain⟨h1,h2,h3⟩:=US hB (M:=ve V E t) (t:= .leaf false) (n7 ht) trivial (fun l hl=>by cases hl) fun c hc l hl=>fJ.2 ⟨c,hc,hl⟩;refine⟨h1,h2,fun p hp=>?_⟩;show(jA V E _ _).val p=true↔_;rw[h3 p hp];exact⟨fun h=>h.elim (fun h=>by cases h) id, .inr⟩
def Er{V:List ah}{E:List (ah×ah)}(hB:gu V E){t:Tr}(ht:t.all aa.ok){M:List aa}(hM: ∀l∈M,l.ok){p:ah}(hp:cA (ve V E t) p):(dx V E t).val p=true↔ ∃q,cA t.lns q/\cA M q/\t.val q=true/\ ∀f∈E,0<bB f.1 f.2 (p.subQ q):=by
 have htr:=t.restrict_all aa.ok [] ht;rw[(AC hB ht).2.2 p hp];constructor
 .rintro ⟨c,hc,h⟩
  obtain⟨g,a⟩:=n7 ht c hc;obtain⟨q,hq,hu⟩:=(P3 hB g a p).1 h
  -- a point near to q off all lines
  have hL:bu (c++E.map fun f=>⟨ti f p,ar.all⟩) q:=fun s hs=>by
   rcases bZ.1 hs with hs|hs
   .exact hq s hs
   .obtain⟨f,hf,rfl⟩:=aU.1 hs
    obtain⟨u,hu0⟩:=hB.cen;exact(Az (hu0 f hf) p q).2 (hu f hf)
  obtain⟨r,hr,ho⟩:=Jr hL (t.lns++M) fun l hl=>(bZ.1 hl).elim (pd ht l) (hM l);obtain⟨o1,o2⟩:=cA.app.1 ho;have hrc:bu c r:=fun s hs=>hr s (bU _ hs);refine⟨r,o1,o2,?_,fun f hf=>?_⟩
  .have:=((Ce htr bw.nil (nC.1 hc)).2 r hrc).2
   rwa [Tr.val_restrict t [] r ht bw.nil (fun s hs=>by cases hs) o1] at this
  .obtain⟨u,hu0⟩:=hB.cen
   exact(Az (hu0 f hf) p r).1 (hr ⟨ti f p,ar.all⟩ (bQ _ (dX (f:=fun f=>(⟨ti f p,ar.all⟩:bD)) hf)))
 .rintro ⟨q,o1,_,hv,hu⟩
  have o1r:cA (t.restrict []).lns q:=fun l hl=>o1 l (l9.1 (t.restrict_all (fun l=>l∈t.lns) [] (l9.2 fun l hl=>hl)) l hl);obtain⟨b,e,he,hq⟩:=Kk htr bw.nil (fun s hs=>by cases hs) o1r;have hb:=((Ce htr bw.nil he).2 q hq).2;rw[Tr.val_restrict t [] q ht bw.nil (fun s hs=>by cases hs) o1,hv] at hb;subst hb;have hc:=nC.2 he;obtain⟨g,a⟩:=n7 ht e hc;exact⟨e,hc,(P3 hB g a p).2 ⟨q,hq,hu⟩⟩
def Kg: ∀t:Tr,t.compl.compl=t
 | .leaf b=>by show Tr.leaf (!(!b))=_;rw[Bool.not_not]
 | .node l x y=>by show Tr.node l x.compl.compl y.compl.compl=_;rw[Kg x,Kg y]
section
variable {rs:List (List ZP)} {fill:Int} {L:List aa} {p:ah}
end
def OW{v w:ZP}(h:v≠w)(p:ah): ∃g:Rat,0<g/\bB v.q w.q p=g*(ph v w).l.value p/\w.q.y-v.q.y=g*(ph v w).l.dir.y:=by
 obtain⟨g,g0,h1,h2,h3⟩:=Tc h;refine⟨g,g0,?_,by rw[h3];unfold cD;show _=g*(ji v.1 v.2 w.1 w.2).dir.y;dsimp only;grind⟩;show _=g*(ji v.1 v.2 w.1 w.2).value p;rw[h3];generalize ji v.1 v.2 w.1 w.2=l at*;rw[iG] at*;unfold bB cD aa.dir;dsimp only;grind
section
variable {rs:List (List ZP)} {fill:Int} {p:ah}
end
def Tr.Prp:Tr->ao->Prop
 | .leaf _,_=>True
 | .node l x y,c=>cw c l=true/\cw c l.rev=true/\x.Prp (bG c l)/\y.Prp (bG c l.rev)
def Tr.red_prp: ∀{t:Tr} {c:ao},t.Red c->t.Prp c
 | .leaf _,_,_=>trivial
 | .node _ _ _,_,⟨h1,h2,h3,h4,_⟩=>⟨h1,h2,Tr.red_prp h3,Tr.red_prp h4⟩
def auo{c:ao}(hc:bw c){l:aa}(hl:l.ok){p:ah}(hp:bu c p)(h0:l.value p=0):cw c l=true/\cw c l.rev=true:=by
 have hn:=mO hl.ne;obtain⟨e,he,hm⟩:=hp.open l.nor;obtain⟨f,hf,hk⟩:=hp.open (aG l.nor);have hn2:l.nor.dot (aG l.nor)= -(l.nor.dot l.nor):=by unfold aG ah.dot;dsimp only;grind
 refine⟨(oz hc hl).2 ⟨_,hm e omb omb,?_⟩,(oz hc hl.rev).2 ⟨_,hk f omb omb,?_⟩⟩
 .rw[jF,h0];have:=c9 he hn;grind
 .rw[en,jF,h0,hn2];have:=c9 hf hn;grind
def mB(c:ao)(m:aa):Bool:=cw c m&&cw c m.rev
def pH{c:ao}(hc:bw c){m:aa}(hm:m.ok):mB c m=true↔Fi m c:=by
 unfold mB;rw[bT];constructor
 .rintro ⟨h1,h2⟩
  obtain⟨p,hp,k1⟩:=(oz hc hm).1 h1;obtain⟨q,hq,k2⟩:=(oz hc hm.rev).1 h2;rw[en] at k2;generalize hA:m.value p=A at*;generalize hB:m.value q=B at*;have hAB:0<A-B:=by grind
  have e:A/(A-B)*(A-B)=A:=by grind
  generalize A/(A-B)=r at*;have r0:0<=r:=(iH hAB).1 (by rw[e];exact dZ k1);have r1:r<=1:=by
   have:=(iH (s:=1-r) hAB).1 omb;grind
  exact⟨kC p q r,hp.seg hq r0 r1,by rw[lP,hA,hB];grind⟩
 .rintro ⟨p,hp,h0⟩
  exact auo hc hm hp h0
def xB(c:ao)(m n:aa):Bool:=decide (¬m.same n)&&(decide (n.value (AU m n)=0)&&qt c (AU m n))
def ry{c:ao}{m n:aa}(hm:m.ok)(hn:n.ok):xB c m n=true↔ ¬m.same n/\ ∃z,bu c z/\m.value z=0/\n.value z=0:=by
 unfold xB;rw[bT,bT,decide_eq_true_eq,decide_eq_true_eq,sP];constructor
 .rintro ⟨h1,h2,h3⟩
  exact⟨h1,_,h3,ly hm.ne _,h2⟩
 .rintro ⟨h1,z,hz,k1,k2⟩
  rcases GF hm hn k1 k2 with h|h
  .exact absurd h h1
  .rw[<-h];exact⟨h1,k2,hz⟩
def MQ{c:ao}{m n:aa}(hm:m.ok)(hn:n.ok):xB c m n=xB c n m:=by
 rw[rW,ry hm hn,ry hn hm];constructor<;>(rintro ⟨h,z,hz,k1,k2⟩;exact⟨fun e=>h e.symm,z,hz,k2,k1⟩)
def iO(f:aa->Nat):List aa->Nat
 |[]=>0
 |m::K=>f m+iO f K
def bN(b:Bool):Nat:=if b then 1 else 0
def Si{f g:aa->Nat}: ∀{K:List aa},(∀m∈K,f m<=g m)->iO f K<=iO g K
 |[],_=>bV _
 |m::K,h=>by
  have:=Si (f:=f) (g:=g) (K:=K) fun n hn=>h n (aJ _ hn);have:=h m aQ;show f m+iO f K<=g m+iO g K;omega
def By(f g:aa->Nat): ∀K,iO (fun m=>f m+g m) K=iO f K+iO g K
 |[]=>rfl
 |m::K=>by
  have:=By f g K;show f m+g m+iO (fun m=>f m+g m) K=f m+iO f K+(g m+iO g K);omega
def Ap{f g:aa->Nat}{d:Nat}{m0:aa}: ∀{K:List aa},(∀m∈K,f m<=g m)->m0∈K->f m0+d<=g m0->iO f K+d<=iO g K
 |[],_,h,_=>by cases h
 |m::K,h,hm,hd=>by
  have i1:=Si (f:=f) (g:=g) (K:=K) fun n hn=>h n (aJ _ hn);have:=h m aQ;show f m+iO f K+d<=g m+iO g K;rcases aW.1 hm with rfl|hm
  .omega
  .have:=Ap (f:=f) (g:=g) (d:=d) (K:=K) (fun n hn=>h n (aJ _ hn)) hm hd
   omega
def Ba{f:aa->Nat}{B:Nat}: ∀{K:List aa},(∀m∈K,f m<=B)->iO f K<=K.length*B
 |[],_=>aN _
 |m::K,h=>by
  have:=Ba (f:=f) (B:=B) (K:=K) fun n hn=>h n (aJ _ hn);have:=h m aQ;show f m+iO f K<=(K.length+1)*B;rw[fS];omega
def qv(K:List aa)(c:ao):Nat:=iO (fun m=>bN (mB c m)) K
def kB(K:List aa)(c:ao)(m:aa):Nat:=iO (fun n=>bN (xB c m n)) K
def Bt(K:List aa)(c:ao):Nat:=iO (kB K c) K
def KK(b:Bool):bN b<=1:=by cases b<;>decide
def W9{K:List aa}(hK: ∀m∈K,m.ok){c:ao}(hc:bw c){n m0:aa}(hn:n.ok)(h0:m0∈K)(hs:m0.same n)(hb:cw c n=true)(hb2:cw c n.rev=true):
  qv K (bG c n)+qv K (bG c n.rev)+1<=qv K c+kB K c m0/\Bt K (bG c n)+Bt K (bG c n.rev)+2*kB K c m0<=Bt K c:=by
 obtain⟨g1,i1⟩:=gz hc hn hb;obtain⟨g2,i2⟩:=gz hc hn.rev hb2;have i2: ∀p,bu (bG c n.rev) p↔bu c p/\n.value p<0:=fun p=>by rw[i2,en];constructor<;>(rintro ⟨a,b⟩;exact⟨a,omb⟩)
 have hm0:=hK m0 h0;have z1: ∀m,m.ok->(mB (bG c n) m=true->mB c m=true)/\(mB (bG c n.rev) m=true->mB c m=true):=fun m hm=>by
  rw[pH g1 hm,pH g2 hm,pH hc hm];exact⟨fun⟨p,hp,k⟩=>⟨p,((i1 p).1 hp).1,k⟩,fun⟨p,hp,k⟩=>⟨p,((i2 p).1 hp).1,k⟩⟩
 have z2: ∀m,m.ok->mB (bG c n) m=true->mB (bG c n.rev) m=true->xB c m0 m=true:=fun m hm h1 h2=>by
  obtain⟨p,hp,k1⟩:=(pH g1 hm).1 h1;obtain⟨q,hq,k2⟩:=(pH g2 hm).1 h2;obtain⟨hp,ap⟩:=(i1 p).1 hp;obtain⟨hq,aq⟩:=(i2 q).1 hq;rw[ry hm0 hm];refine⟨fun e=>?_,?_⟩
  .rw[oO hs (oO e.symm k1)] at ap;grind
  generalize hA:n.value p=A at*;generalize hB:n.value q=B at*;have hAB:0<A-B:=by grind
  have e:A/(A-B)*(A-B)=A:=by grind
  generalize A/(A-B)=r at*;have r0:0<=r:=(iH hAB).1 (by rw[e];exact dZ ap);have r1:r<=1:=by
   have:=(iH (s:=1-r) hAB).1 omb;grind
  exact⟨kC p q r,hp.seg hq r0 r1,oO hs.symm (by rw[lP,hA,hB];grind),by rw[lP,k1,k2];grind⟩
 have w1: ∀m m',m.ok->m'.ok->xB (bG c n) m m'=true->xB c m m'=true/\ ¬xB (bG c n.rev) m m'=true:=fun m m' hm hm' h=>by
  rw[ry hm hm'] at h;obtain⟨e,z,hz,k1,k2⟩:=h;obtain⟨hz,az⟩:=(i1 z).1 hz;refine⟨(ry hm hm').2 ⟨e,z,hz,k1,k2⟩,fun h=>?_⟩;obtain⟨_,y,hy,j1,j2⟩:=(ry hm hm').1 h;obtain⟨hy,ay⟩:=(i2 y).1 hy;rcases GF hm hm' k1 k2 with h|h
  .exact e h
  .rcases GF hm hm' j1 j2 with h'|h'
   .exact e h'
   .rw[h'] at ay;rw[h] at az;grind
 have w2: ∀m m',m.ok->m'.ok->xB (bG c n.rev) m m'=true->xB c m m'=true:=fun m m' hm hm' h=>by
  rw[ry hm hm'] at h⊢;obtain⟨e,z,hz,k1,k2⟩:=h;exact⟨e,z,((i2 z).1 hz).1,k1,k2⟩
 have w3: ∀m,m.ok->xB (bG c n) m m0=false/\xB (bG c n.rev) m m0=false:=fun m hm=>by
  constructor
  .rw[<-jX,ry hm hm0]
   rintro ⟨_,z,hz,_,k2⟩;have:=((i1 z).1 hz).2;rw[oO hs k2] at this;grind
  .rw[<-jX,ry hm hm0]
   rintro ⟨_,z,hz,_,k2⟩;have:=((i2 z).1 hz).2;rw[oO hs k2] at this;grind
 have hmm: ∀d,xB d m0 m0=false:=fun d=>by
  rw[<-jX,ry hm0 hm0];rintro ⟨h,_⟩;exact h (.inl rfl)
 have n1: ∀d:ao,bw d->(∀p,bu d p->n.value p≠0)->mB d m0=false:=fun d hd h=>by
  rw[<-jX,pH hd hm0];rintro ⟨p,hp,k⟩;exact h p hp (oO hs k)
 have n2:mB c m0=true:=by
  rw[pH hc hm0];obtain⟨p,hp,k⟩:=(pH hc hn).1 (by unfold mB;rw[hb,hb2];rfl);exact⟨p,hp,oO hs.symm k⟩
 constructor
 .unfold qv kB
  rw[<-By,<-By];refine Ap (m0:=m0) (d:=1) (fun m hm=>?_) h0 ?_
  .have hmk:=hK m hm
   obtain⟨a1,a2⟩:=z1 m hmk;have a3:=z2 m hmk
   try dsimp only
   cases e1:mB (bG c n) m<;>cases e2:mB (bG c n.rev) m<;>simp only[e1,e2,forall_const,reduceCtorEq,false_implies] at a1 a2 a3<;>simp_all [bN]
  .try dsimp only
   rw[n1 _ g1 (fun p hp=>by have:=((i1 p).1 hp).2;grind),n1 _ g2 (fun p hp=>by have:=((i2 p).1 hp).2;grind),n2,hmm];decide
 .have row: ∀m∈K,kB K (bG c n) m+kB K (bG c n.rev) m+bN (xB c m m0)<=kB K c m:=fun m hm=>by
   have hmk:=hK m hm;unfold kB;rw[<-By];refine Ap (m0:=m0) (d:=bN (xB c m m0)) (fun m' hm'=>?_) h0 ?_
   .have hmk':=hK m' hm'
    have b1:=w1 m m' hmk hmk';have b2:=w2 m m' hmk hmk'
    try dsimp only
    cases e1:xB (bG c n) m m'<;>cases e2:xB (bG c n.rev) m m'<;>simp_all [bN]
   .obtain⟨c1,c2⟩:=w3 m hmk
    try dsimp only
    rw[c1,c2];simp[bN]
  have r0:kB K (bG c n) m0=0/\kB K (bG c n.rev) m0=0:=by
   have z: ∀d,(∀m∈K,xB d m0 m=false)->kB K d m0=0:=fun d h=>by
    have:=Ba (f:=fun m=>bN (xB d m0 m)) (B:=0) (K:=K) fun m hm=>by rw[h m hm];decide
    unfold kB;omega
   exact⟨z _ fun m hm=>by rw[MQ hm0 (hK m hm)];exact(w3 m (hK m hm)).1,z _ fun m hm=>by rw[MQ hm0 (hK m hm)];exact(w3 m (hK m hm)).2⟩
  have cs:iO (fun m=>bN (xB c m m0)) K=kB K c m0:=by
   unfold kB;have key: ∀Jv:List aa,(∀m∈Jv,m.ok)->iO (fun m=>bN (xB c m m0)) Jv=iO (fun m=>bN (xB c m0 m)) Jv:=fun Jv=>by
    induction Jv with
    |nil=>intro _;rfl
    |cons a Jv ih=>
     intro h;show bN (xB c a m0)+_=bN (xB c m0 a)+_;rw[ih fun m hm=>h m (aJ _ hm),MQ (h a aQ) hm0]
   exact key K hK
  have:=Ap (f:=fun m=>kB K (bG c n) m+kB K (bG c n.rev) m+bN (xB c m m0)) (g:=kB K c) (d:=kB K c m0) (m0:=m0) row h0 (by rw[r0.1,r0.2,hmm];simp[bN]);rw[By,By,cs] at this;unfold Bt;omega
def IT{K:List aa}(hK: ∀m∈K,m.ok): ∀{t:Tr} {c:ao},t.Prp c->t.all aa.ok->bw c->dw K t->2*t.size<=2*qv K c+Bt K c
 | .leaf _,_,_,_,_,_=>aN _
 | .node n x y,c,⟨h1,h2,h3,h4⟩,⟨hn,hx,hy⟩,hc,⟨⟨m0,hm0,hs⟩,kx,ky⟩=>by
  obtain⟨g1,_⟩:=gz hc hn h1;obtain⟨g2,_⟩:=gz hc hn.rev h2;have a:=IT hK h3 hx g1 kx;have b:=IT hK h4 hy g2 ky;obtain⟨d1,d2⟩:=W9 hK hc hn hm0 hs h1 h2;rw[Tr.size];omega
def QJ{K:List aa}(hK: ∀m∈K,m.ok){t:Tr}{c:ao}(h:t.Prp c)(ht:t.all aa.ok)(hc:bw c)(hA:dw K t):2*t.size<=K.length*(K.length+1):=by
 have h1:=IT hK h ht hc hA;have h2:qv K c<=K.length*1:=Ba fun m _=>KK _;have h3:Bt K c<=K.length*(K.length-1):=Ba fun m hm=>by
  have:=Ap (f:=fun n=>bN (xB c m n)) (g:=fun _=>1) (d:=1) (m0:=m) (K:=K) (fun n _=>KK _) hm (by
   have:xB c m m=false:=by rw[<-jX,ry (hK m hm) (hK m hm)];rintro ⟨h,_⟩;exact h (.inl rfl)
   rw[this];decide)
  have l1:iO (fun _=>1) K<=K.length*1:=Ba fun _ _=>bV _;unfold kB;omega
 have:K.length*(K.length+1)=K.length*(K.length-1)+2*K.length:=by
  cases K.length with
  |zero=>rfl
  |succ k=>rw[Nat.succ_sub_one,Nat.mul_succ,Nat.mul_succ,fS];omega
 omega
def KZ{K:List aa}(hK: ∀m∈K,m.ok): ∀{t:Tr} {c:ao},t.Prp c->t.all aa.ok->bw c->dw K t->t.depth<=qv K c
 | .leaf _,_,_,_,_,_=>aN _
 | .node n x y,c,⟨h1,h2,h3,h4⟩,⟨hn,hx,hy⟩,hc,⟨⟨m0,hm0,hs⟩,kx,ky⟩=>by
  obtain⟨g1,i1⟩:=gz hc hn h1;obtain⟨g2,i2⟩:=gz hc hn.rev h2;have a:=KZ hK h3 hx g1 kx;have b:=KZ hK h4 hy g2 ky;have hm0k:=hK m0 hm0;have n2:mB c m0=true:=by
   rw[pH hc hm0k];obtain⟨p,hp,k⟩:=(pH hc hn).1 (by unfold mB;rw[h1,h2];rfl);exact⟨p,hp,oO hs.symm k⟩
  have key: ∀d:ao,bw d->(∀p,bu d p->bu c p/\n.value p≠0)->qv K d+1<=qv K c:=fun d hd h=>by
   unfold qv;refine Ap (m0:=m0) (d:=1) (fun m hm=>?_) hm0 ?_
   .have hmk:=hK m hm
    cases e1:mB d m with
    |false=>exact aN _
    |true=>
     obtain⟨p,hp,k⟩:=(pH hd hmk).1 e1;rw[(pH hc hmk).2 ⟨p,(h p hp).1,k⟩];exact bV _
   .have e1:mB d m0=false:=by
     rw[<-jX,pH hd hm0k];rintro ⟨p,hp,k⟩;exact(h p hp).2 (oO hs k)
    try dsimp only
    rw[e1,n2];decide
  have d1:=key _ g1 fun p hp=>⟨((i1 p).1 hp).1,by have:=((i1 p).1 hp).2;grind⟩;have d2:=key _ g2 fun p hp=>⟨((i2 p).1 hp).1,by have:=((i2 p).1 hp).2;rw[en] at this;grind⟩;show 1+max _ _<=_;omega
def avi{K:List aa}(hK: ∀m∈K,m.ok){t:Tr}{c:ao}(h:t.Prp c)(ht:t.all aa.ok)(hc:bw c)(hA:dw K t):t.depth<=K.length:=by
 have h1:=KZ hK h ht hc hA;have h2:qv K c<=K.length*1:=Ba fun m _=>KK _;omega
structure rm (K:List aa) (t:Tr):Prop where
 ok:t.all aa.ok
 am:dw K t
 rd:t.Red []
def rm.size{K:List aa}(hK: ∀m∈K,m.ok){t:Tr}(h:rm K t):2*t.size<=K.length*(K.length+1)/\t.depth<=K.length:=
 ⟨QJ hK (Tr.red_prp h.rd) h.ok bw.nil h.am,avi hK (Tr.red_prp h.rd) h.ok bw.nil h.am⟩
def rm.merge{K:List aa}{op:Int}{t u:Tr}(h:rm K t)(hu:u.all aa.ok)(hA:dw K u):rm K (t.mergeQ op u []):=
 ⟨Tr.mergeQ_all aa.ok op hu t [] h.ok,h.am.merge hA [],Tr.merge_red op u t []⟩
def rm.lim{K:List aa}(hK: ∀m∈K,m.ok)(hn:K.length<=361){op:Int}{t u:Tr}(h:rm K t)(hu:u.all aa.ok)(hA:dw K u)(hd:u.depth<=600):jG op t u=some (t.mergeQ op u []):=by
 obtain⟨a1,a2⟩:=h.size hK;obtain⟨b1,_⟩:=(h.merge (op:=op) hu hA).size hK;have:K.length*(K.length+1)<=361*362:=fZ hn we;exact TX (op:=op) (a:=t) (b:=u) we we
def Cx{K:List aa}(hK: ∀m∈K,m.ok)(hn:K.length<=361){op:Int}: ∀{us:List Tr} {t:Tr},(∀u∈us,u.all aa.ok/\dw K u/\u.depth<=600)->rm K t->mP op t us=some (us.foldl (fun t u=>t.mergeQ op u []) t)/\rm K (us.foldl (fun t u=>t.mergeQ op u []) t)
 |[],t,_,ht=>⟨J,ht⟩
 |u::us,t,h,ht=>by
  obtain⟨h1,h2,h3⟩:=h u aQ;obtain⟨i1,i2⟩:=Cx hK hn (op:=op) (us:=us) (fun v hv=>h v (aJ _ hv)) (ht.merge (op:=op) h1 h2);refine⟨?_,i2⟩;rw[mP,ht.lim hK hn h1 h2 h3];exact i1
def gP(V:List ah)(E:List (ah×ah))(K:List aa)(cs:List ao):List aa:=(K.flatMap fun l=>[f9 l V,f9 l.rev V])++cs.flatMap fun c=>E.filterMap (gp c)
def Cb{α β:Type}{f:α->List β}{n:Nat}: ∀{l:List α},(∀x∈l,(f x).length<=n)->(l.flatMap f).length<=l.length*n
 |[],_=>by simp
 |x::l,h=>by
  have:=Cb (f:=f) (n:=n) (l:=l) fun y hy=>h y (aJ _ hy);have:=h x aQ;rw[gJ,aY,aS,fS];omega
def AN{V:List ah}{E:List (ah×ah)}{K:List aa}{cs:List ao}:(gP V E K cs).length<=K.length*2+cs.length*E.length:=by
 unfold gP;rw[aY];have h1:=Cb (f:=fun l=>[f9 l V,f9 l.rev V]) (n:=2) (l:=K) fun x _=>bV _;have h2:=Cb (f:=fun c=>E.filterMap (gp c)) (n:=E.length) (l:=cs) fun x _=>kU _ _;omega
def x8{V:List ah}{E:List (ah×ah)}(hB:gu V E){K:List aa}(hK: ∀l∈K,l.ok){cs:List ao}: ∀l∈gP V E K cs,l.ok:=fun l hl=>by
 rcases bZ.1 hl with h|h
 .obtain⟨k,hk,h⟩:=fJ.1 h
  simp only[aW,dK,or_false] at h;rcases h with rfl|rfl
  .exact(vQ (hK k hk) V).1
  .exact(vQ (hK k hk).rev V).1
 .obtain⟨c,_,h⟩:=fJ.1 h
  obtain⟨f,hf,h⟩:=jU.1 h;obtain⟨_,_,h1,_⟩:=Cj (hB.nz hf) h;exact h1
def NP{V:List ah}{E:List (ah×ah)}{K:List aa}{cs:List ao}{c:ao}(hc:c∈cs)(hs: ∀s∈c,∃m∈K,m.same s.l): ∀l∈fH c V E,l∈gP V E K cs:=fun l hl=>by
 unfold fH at hl;rcases bZ.1 hl with h|h
 .obtain⟨s,hs',rfl⟩:=aU.1 h
  obtain⟨m,hm,k⟩:=hs s hs';refine bU _ (fJ.2 ⟨m,hm,?_⟩);rcases k with k|k<;>rw[k]<;>simp
 .exact bQ _ (fJ.2 ⟨c,hc,h⟩)
def L4{L:List aa}: ∀l∈cj L,l∈L:=fun _ h=>(ke.1 h).1
def vw{V:List ah}{E:List (ah×ah)}{c:ao}{P:aa->Prop}(h: ∀l∈fH c V E,P l):(dk V E c).all P:=Ef fun l hl=>h l (L4 l hl)
def avb{V:List ah}{E:List (ah×ah)}{c:ao}:(fH c V E).length<=c.length+E.length:=by
 unfold fH;rw[aY,aX];have:=kU (gp c) E;omega
def FC{V:List ah}{E:List (ah×ah)}{c:ao}:(dk V E c).depth<=c.length+E.length:=by
 unfold dk;rw[Md];exact cX (pI _) avb
def Hz{K:List aa}{t:Tr}(hA:dw K t){c:ao}(hc:c∈bO t): ∀s∈c,∃m∈K,m.same s.l:=
 tG (P:=fun l=> ∃m∈K,m.same l) (fun l ⟨m,hm,h⟩=>⟨m,hm,h.trans (.inr J)⟩) hA (fun s hs=>by cases hs) (nC.1 hc)
def Ri{V:List ah}{E:List (ah×ah)}(hB:gu V E){t:Tr}(ht:t.all aa.ok){K:List aa}(hK: ∀l∈K,l.ok)(hA:dw K t)(hs: ∀c∈bO (t.restrict []),c.length+E.length<=600)(hn:(gP V E K (bO (t.restrict []))).length<=361):
  mP 1 (Tr.leaf false) ((bO (t.restrict [])).map (dk V E))=some (dx V E t)/\rm (gP V E K (bO (t.restrict []))) (dx V E t):=by
 have h:=Cx (K:=gP V E K (bO (t.restrict []))) (x8 hB hK) hn (op:=1) (us:=(bO (t.restrict [])).map (dk V E)) (t:= .leaf false) (fun u hu=>by
  obtain⟨c,hc,rfl⟩:=aU.1 hu;obtain⟨g1,g2⟩:=n7 ht c hc;exact⟨z' hB g1 g2,vw fun l hl=>⟨l,NP hc (Hz (hA.restrict []) hc) l hl, .inl J⟩,cX FC (hs c hc)⟩) ⟨trivial,trivial,trivial⟩
 rw[uT] at h;exact h
def ZB(p:ah):Prop:= ∃m n:Int,p=iP m n/\m.natAbs<=8/\n.natAbs<=8
def ZB.neg{p:ah}(h:ZB p):ZB (aG p):=by
 obtain⟨m,n,rfl,h1,h2⟩:=h;refine⟨-m, -n,?_,we,we⟩;unfold aG iP;rw[gW,gW]
def QD(k:Nat)(q:ah):Prop:= ∃(D:Nat) (X Y:Int),0<D/\D<=2^k/\X.natAbs<=2^k/\Y.natAbs<=2^k/\q.x*((D:Int):Rat)=(X:Rat)/\q.y*((D:Int):Rat)=(Y:Rat)
def IB(x y z:Int):dE (x:Rat) (y:Rat) (z:Rat)=m7 x y z:=by
 unfold dE;simp only[lL,lM];simp
def i7{a b:Int}{A B:Nat}(ha:a.natAbs<=A)(hb:b.natAbs<=B):(a*b).natAbs<=A*B:=by
 rw[fU];exact fZ ha hb
def I0{a b c d:Int}{k:Nat}(ha:a.natAbs<2^k)(hb:b.natAbs<2^k)(hc:c.natAbs<2^k)(hd:d.natAbs<2^k):(a*b-c*d).natAbs<=2^(2*k+1):=by
 have h1:=i7 (gS ha) (gS hb);have h2:=i7 (gS hc) (gS hd);have e:2^(2*k+1)=2^k*2^k+2^k*2^k:=by rw[iK,Nat.two_mul,fY];omega
 generalize a*b=u at*;generalize c*d=v at*;generalize 2^k*2^k=w at*;omega
def Rl{k:Nat}{q:ah}{D X Y:Int}(h0:D≠0)(hD:D.natAbs<=2^k)(hX:X.natAbs<=2^k)(hY:Y.natAbs<=2^k)(e1:q.x*(D:Rat)=(X:Rat))(e2:q.y*(D:Rat)=(Y:Rat)):QD k q:=by
 rcases Int.lt_or_lt_of_ne h0 with h|h
 .refine⟨D.natAbs, -X, -Y,we,hD,we,we,?_,?_⟩
  .rw[show((D.natAbs:Int))= -D by omega,gW,gW];grind
  .rw[show((D.natAbs:Int))= -D by omega,gW,gW];grind
 .refine⟨D.natAbs,X,Y,we,hD,hX,hY,?_,?_⟩
  .rw[show((D.natAbs:Int))=D by omega];exact e1
  .rw[show((D.natAbs:Int))=D by omega];exact e2
def NY{l m:aa}{k:Nat}(hl:BL l k)(hm:BL m k)(h:crossI l m≠0):QD (2*k+1) (cx l m):=by
 have h':((crossI l m:Int):Rat)≠0:=fun e=>h (cM.1 e);refine Rl (D:=crossI l m) (X:=meetX l m) (Y:=meetY l m) h (I0 hl.a hm.b hm.a hl.b) ?_ ?_ ?_ ?_
 .unfold meetX;exact I0 hl.b hm.c hm.b hl.c
 .unfold meetY;exact I0 hm.a hl.c hl.a hm.c
 .unfold cx;rw[if_neg h];exact rS h'
 .unfold cx;rw[if_neg h];exact rS h'
def TF{l:aa}{k:Nat}(hl:BL l k)(h:l.ok):QD (2*k+1) l.base:=by
 have hn:=mO h.ne;have e:l.nor.dot l.nor=((l.a*l.a+l.b*l.b:Int):Rat):=by
  unfold aa.nor ah.dot;rw[lS,bS,bS]
 have hz:l.nor.dot l.nor≠0:=by grind
 have h0:l.a*l.a+l.b*l.b≠0:=fun k=>hz (by rw[e,k];rfl);have e4:(2:Nat)^(2*k+1)=2^k*2^k+2^k*2^k:=by rw[iK,Nat.two_mul,fY];omega
 have q1:=i7 (gS hl.a) (gS hl.a);have q2:=i7 (gS hl.b) (gS hl.b);have q3:=i7 (gS hl.a) (gS hl.c);have q4:=i7 (gS hl.b) (gS hl.c);refine Rl (D:=l.a*l.a+l.b*l.b) (X:= -(l.a*l.c)) (Y:= -(l.b*l.c)) h0 we we we ?_ ?_
 .rw[<-e]
  show(l.a:Rat)*(-(l.c:Rat)/l.nor.dot l.nor)*l.nor.dot l.nor=_;rw[Rat.mul_assoc,rS hz,gW,bS];grind
 .rw[<-e]
  show(l.b:Rat)*(-(l.c:Rat)/l.nor.dot l.nor)*l.nor.dot l.nor=_;rw[Rat.mul_assoc,rS hz,gW,bS];grind
def MJ{L:List aa}{q:ah}(h:q∈gj L): ∃l∈L,∃m∈L,crossI l m≠0/\q=cx l m:=by
 obtain⟨i,hi,h⟩:=fJ.1 h;rw[kZ] at hi;obtain⟨l,hl⟩: ∃l,L[i]? =some l:=⟨_,aZ hi⟩;obtain⟨m,hm⟩: ∃m,L[(i+1)%L.length]? =some m:=⟨_,aZ (dW _ we)⟩;rw[tz hl hm] at h;split at h
 .rename_i hc
  refine⟨l,aK hl,m,aK hm,fun e=>?_,by simpa using h⟩;have h2:l.dir.cross m.dir=0:=by
   have:=u9 l m;rw[e] at this;unfold ah.cross aa.dir;dsimp only;have z:((0:Int):Rat)=0:=J;rw[z] at this;grind
  rw[h2] at hc;exact absurd hc oma
 .cases h
def aGm{k:Nat}{c:ao}(hc:bw c)(ha:fk c)(hk: ∀s∈c,BL s.l k){f:ah×ah}(hn: ¬((aB f).x=0/\(aB f).y=0))(h1:ZB f.1)(h2:ZB f.2){l:aa}(h:gp c f=some l):BL l (2*k+10):=by
 unfold gp at h
 cases hf:fD c (aB f) with
 |none=>rw[hf] at h;cases h
 |some m=>
  rw[hf] at h
  cases h
  obtain⟨e1,e2⟩:=LQ hc ha hn hf;obtain⟨q,hq,e3⟩:=(o9 (n:=aB f) e2).2;rw[e1] at e3;have hqd:QD (2*k+1) q:=by
   unfold lx at hq;split at hq
   .obtain⟨l,hl,rfl⟩:=aU.1 hq
    obtain⟨s,hs,rfl⟩:=aU.1 hl;exact TF (hk s hs) (hc.ok s hs)
   .obtain⟨l,hl,m,hm,hx,rfl⟩:=MJ hq
    obtain⟨s,hs,rfl⟩:=aU.1 hl;obtain⟨u,hu,rfl⟩:=aU.1 hm;exact NY (hk s hs) (hk u hu) hx
  obtain⟨D,X,Y,hD0,hD,hX,hY,x1,y1⟩:=hqd;obtain⟨m1,n1,p1,a1,a2⟩:=h1;obtain⟨m2,n2,p2,a3,a4⟩:=h2;have nx:(aB f).x=((n1-n2:Int):Rat):=by unfold aB;rw[p1,p2];unfold iP;rw[iX];grind
  have ny:(aB f).y=((m2-m1:Int):Rat):=by unfold aB;rw[p1,p2];unfold iP;rw[iX]
  generalize hA:n1-n2=A at nx;generalize hB:m2-m1=B at ny;have hD0':(0:Rat)<((D:Int):Rat):=by exact_mod_cast hD0
  have key:dE (aB f).x (aB f).y (-(m+(aB f).dot f.1))=m7 (A*D) (B*D) (-(A*X+B*Y+(A*m1+B*n1)*D)):=by
   rw[<-IB];refine(KE (fun uv=>?_) hn hD0' fun p=>?_).symm
   .obtain⟨u,v⟩:=uv
    rw[bS,<-nx] at u;rw[bS,<-ny] at v;refine hn ⟨?_,?_⟩
    .rcases dY.1 u with u|u
     .exact u
     .grind
    .rcases dY.1 v with v|v
     .exact v
     .grind
   .rw[e3,p1]
    unfold ah.dot iP;dsimp only;rw[nx,ny];simp only[bS,gW,lS];rw[<-x1,<-y1];grind
  show BL (dE (aB f).x (aB f).y (-(m+(aB f).dot f.1))) _;rw[key];have hA16:A.natAbs<=16:=by omega
  have hB16:B.natAbs<=16:=by omega
  have b0:(D:Int).natAbs<=2^(2*k+1):=hD;have b1:=i7 hA16 b0;have b2:=i7 hB16 b0;have b3:=i7 hA16 hX;have b4:=i7 hB16 hY;have b5:(A*m1+B*n1).natAbs<=256:=by
   have:=i7 hA16 a1;have:=i7 hB16 a2;omega
  have b6:=i7 b5 b0;obtain⟨r1,r2,r3⟩:=xo (A*D) (B*D) (-(A*X+B*Y+(A*m1+B*n1)*D));have e9:2^(2*k+10)=2^(2*k+1)*512:=by rw[show 2*k+10=2*k+1+9 by omega,fY]
  have w0:0<2^(2*k+1):=gU oma;generalize 2^(2*k+1)=w at*;exact⟨we,we,we⟩
def aDI{k:Nat}{l:aa}(hl:l.ok)(hk:BL l k){V:List ah}(hV:V≠[])(hz: ∀v∈V,ZB v):BL (f9 l V) (2*k+10):=by
 obtain⟨v,hv,e⟩:=(o9 (n:=l.nor) hV).2;obtain⟨m,n,rfl,h1,h2⟩:=hz v hv;unfold f9;have e2:(l.c:Rat)-jb l.nor V=((l.c-(l.a*m+l.b*n):Int):Rat):=by
  rw[e];unfold ah.dot aa.nor iP;rw[iX,lS,bS,bS]
 rw[e2,IB];obtain⟨r1,r2,r3⟩:=xo l.a l.b (l.c-(l.a*m+l.b*n));have b1:=i7 (gS hk.a) h1;have b2:=i7 (gS hk.b) h2;have ka:=hk.a;have kb:=hk.b;have kc:=hk.c;have e9:2^(2*k+10)=2^k*(2^k*1024):=by rw[show 2*k+10=k+(k+10) by omega,fY,fY]
 have w1:1<=2^k:=gU oma;have e10:2^k*1024<=2^k*(2^k*1024):=by rw[<-cR];exact bW _ (nZ _ w1)
 generalize 2^k*(2^k*1024)=z at*;generalize 2^k=w at*;exact⟨we,we,we⟩
def BL.mono{l:aa}{j k:Nat}(h:BL l j)(hk:j<=k):BL l k:=by
 have:=bR (n:=2) oma hk;exact⟨cS h.a this,cS h.b this,cS h.c this⟩
def BL.rev{l:aa}{k:Nat}(h:BL l k):BL l.rev k:=⟨by unfold aa.rev;dsimp only;rw[kQ];exact h.a,by unfold aa.rev;dsimp only;rw[kQ];exact h.b,by unfold aa.rev;dsimp only;rw[kQ];exact h.c⟩
def Ah{k:Nat}{V:List ah}{E:List (ah×ah)}(hB:gu V E)(hz: ∀v∈V,ZB v){c:ao}(hc:bw c)(ha:fk c)(hk: ∀s∈c,BL s.l k): ∀l∈fH c V E,BL l (2*k+10):=fun l hl=>by
 rcases bZ.1 hl with h|h
 .obtain⟨s,hs,rfl⟩:=aU.1 h
  exact aDI (hc.ok s hs) (hk s hs) hB.vne hz
 .obtain⟨f,hf,h⟩:=jU.1 h
  exact aGm hc ha hk (hB.nz hf) (hz _ (hB.ends f hf).1) (hz _ (hB.ends f hf).2) h
def SQ{k:Nat}{V:List ah}{E:List (ah×ah)}(hB:gu V E)(hz: ∀v∈V,ZB v){t:Tr}(ht:t.all aa.ok)(hk:t.all fun l=>BL l k):(dx V E t).all fun l=>BL l (2*k+10):=by
 unfold dx;have hb: ∀c∈bO (t.restrict []),(dk V E c).all fun l=>BL l (2*k+10):=fun c hc=>by
  obtain⟨g1,g2⟩:=n7 ht c hc;exact vw (Ah hB hz g1 g2 (tG (P:=fun l=>BL l k) (fun l h=>h.rev) (t.restrict_all _ [] hk) (fun s hs=>by cases hs) (nC.1 hc)))
 have key: ∀(cs:List ao) (u:Tr),(∀c∈cs,(dk V E c).all fun l=>BL l (2*k+10))->(u.all fun l=>BL l (2*k+10))->(jA V E cs u).all fun l=>BL l (2*k+10):=fun cs=>by
  induction cs with
  |nil=>intro u _ hu;exact hu
  |cons c cs ih=>
   intro u h hu;exact ih _ (fun d hd=>h d (aJ _ hd)) (Tr.mergeQ_all _ 1 (h c aQ) u [] hu)
 exact key _ _ hb trivial
section
variable {r:List ZP} {p:ah}
end
def Sv(p u v:ZP):bB p.q (kt p u).q (kt p v).q=((jd u v:Int):Rat):=by
 unfold bB kt jd ZP.q iP;dsimp only;push_cast;grind
def yy(p:Nat->Bool):Nat->Nat->Nat->Nat
 |0,i,_=>i
 |d+1,i,j=>if i<j then(if p ((i+j)/2) then yy p d ((i+j)/2+1) j else yy p d i ((i+j)/2)) else i
def LL(p:Nat->Bool): ∀(d i j:Nat),j-i<=d->gm p i j=yy p d i j
 |0,i,j,h=>by
  rw[gm,yy,dif_neg we]
 |d+1,i,j,h=>by
  rw[gm,yy];by_cases k:i<j
  .rw[dif_pos k,if_pos k]
   split
   .exact LL p d _ _ we
   .exact LL p d _ _ we
  .rw[dif_neg k,if_neg k]
def Kq(c:ao)(l:aa)(v:ar):ao:=c.take (yy (jq c l) c.length 0 c.length)++⟨l,v⟩::c.drop (yy (jq c l) c.length 0 c.length)
def vu(c:ao)(l:aa):ao:=match kw c l with
 |some v=>Kq (eu l c) l v
 |none=>c
def A8(c:ao)(l:aa):bG c l=vu c l:=by
 unfold bG vu
 cases h:kw c l with
 |none=>rfl
 |some v=>
  show lA (eu l c) l v=Kq (eu l c) l v;unfold lA Kq;rw[LL _ (eu l c).length _ _ we]
def Tr.restrictF:Tr->ao->Tr
 | .leaf b,_=> .leaf b
 | .node l x y,c=>if !cw c l.rev then x.restrictF c else if !cw c l then y.restrictF c else joinQ l (x.restrictF (vu c l)) (y.restrictF (vu c l.rev))
def Tr.restrict_F: ∀(t:Tr) (c:ao),t.restrict c=t.restrictF c
 | .leaf _,_=>rfl
 | .node l x y,c=>by
  rw[Tr.restrict,Tr.restrictF,x.restrict_F c,y.restrict_F c,A8,A8,x.restrict_F,y.restrict_F]
def jE:List ZP:=[(0,0),(3,0),(3,1),(1,1),(1,3),(0,3)]
def WQ:(dd [jE] 2).size<=9:=by
 unfold dd;rw[Tr.restrict_F];decide+kernel
def L0:gE jE:=⟨oma,oma,fun p hp=>by
  simp only[jE,aW,dK,or_false] at hp;rcases hp with rfl|rfl|rfl|rfl|rfl|rfl<;>exact⟨oma,oma⟩,fun i hi=>by
  have:i=0\/i=1\/i=2\/i=3\/i=4\/i=5:=by simp[jE] at hi;omega
  rcases this with rfl|rfl|rfl|rfl|rfl|rfl<;>decide⟩
def ue(v:List ah)(k i:Nat):Bool:=decide (i=k)||(decide (i=(k+1)%v.length)||decide (0<bB (v.getD k ⟨0,0⟩) (v.getD ((k+1)%v.length) ⟨0,0⟩) (v.getD i ⟨0,0⟩)))
def ln(v:List ah):Bool:=(List.range v.length).all fun k=>(List.range v.length).all fun i=>ue v k i
def Nr{v:List ah}:ln v=true↔ ∀k<v.length,∀i<v.length,ue v k i=true:=by
 unfold ln;simp only[dV,kZ]
def aHX{v:List ah}{k i:Nat}(hk:k<v.length)(hi:i<v.length)(h:ue v k i=false):ln v=false:=by
 rw[<-jX,Nr];exact fun f=>by rw[f k hk i hi] at h;cases h
def aLr{v:List ah}{k i:Nat}{q1 q2 w:ah}(h1:v[k]? =some q1)(h2:v[(k+1)%v.length]? =some q2)(h3:v[i]? =some w):ue v k i=(decide (i=k)||(decide (i=(k+1)%v.length)||decide (0<bB q1 q2 w))):=by
 unfold ue;rw[aV,aV,aV,h1,h2,h3];rfl
structure eO (V:List ah):Prop where
 br:gu V (aC V)
 zb: ∀v∈V,ZB v
 le:V.length<=4
def zm(V:List ah):aC (V.map aG)=(aC V).map ow:=by
 unfold aC;rw[aX,oU];refine uX fun i hi=>?_;have key: ∀k,(V.map aG).getD k ⟨0,0⟩=aG (V.getD k ⟨0,0⟩):=fun k=>by
  rw[aV,aV,cJ]
  cases V[k]? with
  |some p=>rfl
  |none=>show(⟨0,0⟩:ah)=aG ⟨0,0⟩;unfold aG;simp
 show _=ow _;unfold ow;rw[key,key]
def eO.neg{V:List ah}(h:eO V):eO (V.map aG):=
 ⟨by rw[zm];exact WK h.br,fun v hv=>by
  obtain⟨u,hu,rfl⟩:=aU.1 hv;exact(h.zb u hu).neg,by rw[aX];exact h.le⟩
def GA(a b c:ah):aC [a,b,c]=[(a,b),(b,c),(c,a)]:=by unfold aC;simp[rT]
def Ee(a b c d:ah):aC [a,b,c,d]=[(a,b),(b,c),(c,d),(d,a)]:=by unfold aC;simp[rT]
def PY(a b c:ah):bB b c a=bB a b c:=by unfold bB;grind
def aM9{a b c:ah}(h:0<bB a b c):ln [a,b,c]=true:=by
 have h1:=PY a b c;have h2:=PY b c a;simp[ln,ue,rT,h1,h2,h]
def Zm{a b c d:Rat}(h1:a<c)(h2:b<d):ln [⟨a,b⟩,⟨c,b⟩,⟨c,d⟩,⟨a,d⟩]=true:=by
 have k:=uL (show(0:Rat)<c-a by grind) (show(0:Rat)<d-b by grind);have o1:0<bB ⟨a,b⟩ ⟨c,b⟩ ⟨c,d⟩:=by unfold bB;dsimp only;grind
 have o2:0<bB ⟨a,b⟩ ⟨c,b⟩ ⟨a,d⟩:=by unfold bB;dsimp only;grind
 have o3:0<bB ⟨c,b⟩ ⟨c,d⟩ ⟨a,b⟩:=by unfold bB;dsimp only;grind
 have o4:0<bB ⟨c,b⟩ ⟨c,d⟩ ⟨a,d⟩:=by unfold bB;dsimp only;grind
 have o5:0<bB ⟨c,d⟩ ⟨a,d⟩ ⟨a,b⟩:=by unfold bB;dsimp only;grind
 have o6:0<bB ⟨c,d⟩ ⟨a,d⟩ ⟨c,b⟩:=by unfold bB;dsimp only;grind
 have o7:0<bB ⟨a,d⟩ ⟨a,b⟩ ⟨c,b⟩:=by unfold bB;dsimp only;grind
 have o8:0<bB ⟨a,d⟩ ⟨a,b⟩ ⟨c,d⟩:=by unfold bB;dsimp only;grind
 simp[ln,ue,rT,o1,o2,o3,o4,o5,o6,o7,o8]
def Kr{p:ZP}(h:p.1.natAbs<=8/\p.2.natAbs<=8):ZB p.q:=⟨p.1,p.2,J,h⟩
def Ti{a b c:ZP}(h:0<bB a.q b.q c.q)(ha:a.1.natAbs<=8/\a.2.natAbs<=8)(hb:b.1.natAbs<=8/\b.2.natAbs<=8)(hc:c.1.natAbs<=8/\c.2.natAbs<=8):eO ([a,b,c].map ZP.q)/\ln ([a,b,c].map ZP.q)=true:=by
 refine⟨⟨?_,fun v hv=>?_,omc⟩,aM9 h⟩
 .show gu [a.q,b.q,c.q] (aC [a.q,b.q,c.q])
  rw[GA];exact Z9 h
 .simp only[bY,iU,aW,dK,or_false] at hv
  rcases hv with rfl|rfl|rfl
  .exact Kr ha
  .exact Kr hb
  .exact Kr hc
def NJ{a b c d:Int}(h1:a<c:=by decide)(h2:b<d:=by decide)(ha:a.natAbs<=8:=by decide)(hb:b.natAbs<=8:=by decide)(hc:c.natAbs<=8:=by decide)(hd:d.natAbs<=8:=by decide):eO ((dG a b c d).map ZP.q)/\ln ((dG a b c d).map ZP.q)=true:=by
 have e:(dG a b c d).map ZP.q=[⟨(a:Rat),(b:Rat)⟩,⟨(c:Rat),(b:Rat)⟩,⟨(c:Rat),(d:Rat)⟩,⟨(a:Rat),(d:Rat)⟩]:=J;have q1:(a:Rat)<(c:Rat):=by exact_mod_cast h1
 have q2:(b:Rat)<(d:Rat):=by exact_mod_cast h2
 rw[e];refine⟨⟨?_,fun v hv=>?_,omc⟩,Zm q1 q2⟩
 .rw[Ee];exact aL0 q1 q2
 .simp only[aW,dK,or_false] at hv
  rcases hv with rfl|rfl|rfl|rfl
  .exact⟨a,b,J,ha,hb⟩
  .exact⟨c,b,J,hc,hb⟩
  .exact⟨c,d,J,hc,hd⟩
  .exact⟨a,d,J,ha,hd⟩
def Vm{es:List Int}{a:Nat}(ha:a<=es.length):eO ((cg es a).1.map ZP.q)/\ln ((cg es a).1.map ZP.q)=true:=by
 have h0:=im (n:=2) ha;unfold cg;dsimp only;split
 .unfold x7
  dsimp only;generalize (au es 2 a).2=k at*;have e1:=c8 (es:=es) (n:=3) (a:=k);generalize au es 3 k=x at*;have e2:=c8 (es:=es) (n:=3) (a:=x.2);generalize au es 3 x.2=y at*;have e3:=c8 (es:=es) (n:=2) (a:=y.2);generalize au es 2 y.2=z at*;have e4:=c8 (es:=es) (n:=2) (a:=z.2);generalize au es 2 z.2=w at*;exact NJ we we we we we we
 .generalize (au es 2 a).2=k at*
  have e1:=c8 (es:=es) (n:=3) (a:=k);generalize au es 3 k=x at*;have e2:=c8 (es:=es) (n:=3) (a:=x.2);generalize au es 3 x.2=y at*;have e3:=c8 (es:=es) (n:=2) (a:=y.2);generalize au es 2 y.2=u1 at*;have e4:=c8 (es:=es) (n:=3) (a:=u1.2);generalize au es 3 u1.2=u2 at*;have e5:=c8 (es:=es) (n:=3) (a:=u2.2);generalize au es 3 u2.2=v1 at*;have e6:=c8 (es:=es) (n:=2) (a:=v1.2);generalize au es 2 v1.2=v2 at*;split
  .rename_i hcr
   have:=Sv ((x.1:Int)-1,(y.1:Int)-1) (1+(u1.1:Int),(u2.1:Int)-1) ((v1.1:Int)-1,1+(v2.1:Int));exact Ti (by rw[this];exact_mod_cast hcr) ⟨by dsimp only;omega,by dsimp only;omega⟩ ⟨by unfold kt;dsimp only;omega,by unfold kt;dsimp only;omega⟩ ⟨by unfold kt;dsimp only;omega,by unfold kt;dsimp only;omega⟩
  .exact Ti (by decide+kernel) ⟨oma,oma⟩ ⟨oma,oma⟩ ⟨oma,oma⟩
def jj(es:List Int)(a:Nat):Tr×Nat:=
 let k:=au es 4 a
 if(k.1:Int)=0 then(vK (lF es k.2).1,(lF es k.2).2)
 else if(k.1:Int)=1 then(dd [(cg es k.2).1] 2,(cg es k.2).2)
 else if(k.1:Int)=2 then((dd [(cg es k.2).1] 2).compl,(cg es k.2).2)
 else(dd [jE] 2,k.2)
def Uw{v w:ZP}(h1:v.1.natAbs<=8)(h2:v.2.natAbs<=8)(h3:(w.1-v.1).natAbs<=8)(h4:(w.2-v.2).natAbs<=7):BL (ji v.1 v.2 w.1 w.2) 8:=by
 obtain⟨r1,r2,r3⟩:=xo (jl v.2 w.2) (jr v.1 w.1) (oD v.1 v.2 w.1 w.2);have b1:(jl v.2 w.2*v.1).natAbs<=7*8:=i7 (by unfold jl;omega) h1;have b2:(jr v.1 w.1*v.2).natAbs<=8*8:=i7 (by unfold jr;omega) h2;have b3:(jl v.2 w.2).natAbs<=7:=by unfold jl;omega
 have b4:(jr v.1 w.1).natAbs<=8:=by unfold jr;omega
 have b5:(oD v.1 v.2 w.1 w.2).natAbs<=120:=by
  show(-(jl v.2 w.2*v.1+jr v.1 w.1*v.2)).natAbs<=120;omega
 exact⟨dR r1 we,dR r2 we,dR r3 we⟩
def aAE{r:List ZP}(hr:gE r)(h: ∀p∈r,p.1.natAbs<=3/\p.2.natAbs<=3)(fill:Int):(dd [r] fill).all fun l=>BL l 8:=by
 unfold dd rx;refine Tr.restrict_all _ _ [] (zh fun f hf=>?_);unfold qO at hf;rw[gJ,tK,fR] at hf;have key: ∀n,n<=r.length-> ∀f∈s9 r n,BL f.l 8:=fun n=>by
  induction n with
  |zero=>intro _ f hf;cases hf
  |succ n ih=>
   intro hn f hf;rw[s9] at hf;rcases bZ.1 hf with hf|hf
   .exact ih we f hf
   .rw[aT.1 hf]
    have a1:=h _ (Bm (r:=r) (i:=n));have a2:=h _ (Gy (r:=r) (i:=n));exact Uw we we we we
 exact key _ (bV _) f hf
structure ij (t:Tr):Prop where
 x:gF 18 t
 rd:t.Red []
 bl:t.all fun l=>BL l 8
 dp:t.depth<=6
 k: ∃K:List aa,K.length*2+4*(t.size+1)<=52/\K.length<=6/\(∀l∈K,l.ok)/\dw K t
def ij.compl{t:Tr}(h:ij t):ij t.compl:=by
 obtain⟨K,h1,h2,h3,h4⟩:=h.k;exact⟨h.x.compl,Tr.compl_red h.rd,t.compl_all _ h.bl,by rw[t.compl_depth];exact h.dp,K,by rw[t.compl_size];exact h1,h2,h3,h4.compl⟩
def MM{r:List ZP}(hr:gE r)(h: ∀p∈r,p.1.natAbs<=3/\p.2.natAbs<=3)(hn:r.length*2+4*((dd [r] 2).size+1)<=52):ij (dd [r] 2):=by
 have ho:=IQ (rs:=[r]) (fill:=2) (fun q hq=>by rw[aT.1 hq];exact hr) omc;obtain⟨e1,e2⟩:=Fo hr;have hR:rx [r] 2=jD (vj [r] 2) r.length (wq r) []:=by
  unfold rx qO;rw[gJ,tK,fR,e1]
 have hro:kh r.length (dd [r] 2):=by
  unfold dd;rw[hR];exact(Ex (acc:=vj [r] 2) e2 e1).restrict []
 have h6:=hr.n6;obtain⟨K,k1,k2,k3⟩:=hro.am;exact⟨ho.x (Ht _ _) oma,Ht _ _,aAE hr h 2,cX hro.dp h6,K,we,we,k2,k3⟩
def V8{r:List ZP}(hr:gE r)(hn:r.length<=4):(dd [r] 2).size<=10:=by
 obtain⟨e1,e2⟩:=Fo hr;have hR:rx [r] 2=jD (vj [r] 2) r.length (wq r) []:=by
  unfold rx qO;rw[gJ,tK,fR,e1]
 have hro:kh r.length (dd [r] 2):=by
  unfold dd;rw[hR];exact(Ex (acc:=vj [r] 2) e2 e1).restrict []
 obtain⟨K,k1,k2,k3⟩:=hro.am;have:=QJ k2 (Tr.red_prp (Ht [r] 2)) hro.gd.ok bw.nil k3;have h4:K.length*(K.length+1)<=4*5:=fZ we we;omega
def Pw{es:List Int}{a:Nat}(ha:a<=es.length):(∀p∈(cg es a).1,p.1.natAbs<=3/\p.2.natAbs<=3)/\(cg es a).1.length<=4:=by
 have h0:=im (n:=2) ha;unfold cg;dsimp only;split
 .unfold x7
  dsimp only;generalize (au es 2 a).2=k at*;have e1:=c8 (es:=es) (n:=3) (a:=k);generalize au es 3 k=x at*;have e2:=c8 (es:=es) (n:=3) (a:=x.2);generalize au es 3 x.2=y at*;have e3:=c8 (es:=es) (n:=2) (a:=y.2);generalize au es 2 y.2=z at*;have e4:=c8 (es:=es) (n:=2) (a:=z.2);generalize au es 2 z.2=w at*;refine⟨fun p hp=>?_,by simp[dG]⟩;simp only[dG,aW,dK,or_false] at hp;rcases hp with rfl|rfl|rfl|rfl<;>exact⟨by dsimp only;omega,by dsimp only;omega⟩
 .generalize (au es 2 a).2=k at*
  have e1:=c8 (es:=es) (n:=3) (a:=k);generalize au es 3 k=x at*;have e2:=c8 (es:=es) (n:=3) (a:=x.2);generalize au es 3 x.2=y at*;have e3:=c8 (es:=es) (n:=2) (a:=y.2);generalize au es 2 y.2=u1 at*;have e4:=c8 (es:=es) (n:=3) (a:=u1.2);generalize au es 3 u1.2=u2 at*;have e5:=c8 (es:=es) (n:=3) (a:=u2.2);generalize au es 3 u2.2=v1 at*;have e6:=c8 (es:=es) (n:=2) (a:=v1.2);generalize au es 2 v1.2=v2 at*;split
  .refine⟨fun p hp=>?_,by simp[gq]⟩
   simp only[gq,kt,aW,dK,or_false] at hp;rcases hp with rfl|rfl|rfl<;>exact⟨by dsimp only;omega,by dsimp only;omega⟩
  .refine⟨fun p hp=>?_,tQ J⟩
   simp only[Dh,aW,dK,or_false] at hp;rcases hp with rfl|rfl|rfl<;>exact⟨oma,oma⟩
def K8{es:List Int}{a:Nat}(ha:a<=es.length):ij (dd [(cg es a).1] 2):=by
 obtain⟨h1,h2⟩:=Pw ha;have hr:=(xv ha).1;have:=V8 hr h2;exact MM hr h1 we
theorem oks{p:Prop}(h:p:=by dsimp only;omega):p:=h
def WZ{es:List Int}{a:Nat}(ha:a<=es.length):BL (lF es a).1 8:=by
 obtain⟨h1,h2,h3⟩:=Dr ha;obtain⟨k1,k2,_,_⟩:=LU h3;unfold lF;dsimp only;exact Uw (v:=(pF es a).1) (w:=((pF es a).1.1+1*(vF es (pF es a).2).1.1,(pF es a).1.2+1*(vF es (pF es a).2).1.2)) we we oks oks
def Xl{l:aa}(h:LS l)(hb:BL l 8):ij (vK l):=by
 have ho:=aDw h;have hr:(vK l).Red []:=Tr.restrict_red _ _;have hs:(vK l).size<=1:=Tr.restrict_size (.node l (.leaf true) (.leaf false)) [];have hd:=(vK l).depth_size;refine⟨ho.x hr oma,hr,Tr.restrict_all _ _ [] ⟨hb,trivial,trivial⟩,we,[l],by rw[eY];omega,tQ J,fun m hm=>by rw[aT.1 hm];exact h.ok,?_⟩;exact dw.restrict (t:= .node l (.leaf true) (.leaf false)) ⟨⟨l,aT.2 J, .inl J⟩,trivial,trivial⟩ []
def Jl{es:List Int}{a:Nat}(ha:a<=es.length):ij (jj es a).1/\(jj es a).2<=es.length:=by
 have h0:=im (n:=4) ha;unfold jj;dsimp only;split
 .obtain⟨h1,h2⟩:=I2 h0
  exact⟨Xl h1 (WZ h0),h2⟩
 .split
  .exact⟨K8 h0,(xv h0).2⟩
  .split
   .exact⟨(K8 h0).compl,(xv h0).2⟩
   .refine⟨MM L0 (fun p hp=>?_) (by have:=WQ;simp only[jE,aS,eX] at*;omega),h0⟩
    simp only[jE,aW,dK,or_false] at hp;rcases hp with rfl|rfl|rfl|rfl|rfl|rfl<;>exact⟨oma,oma⟩
def CZ{V:List ah}(hV:eO V){t:Tr}(h:ij t):mP 1 (Tr.leaf false) ((bO (t.restrict [])).map (dk V (aC V)))=some (dx V (aC V) t)/\gF 54 (dx V (aC V) t)/\(dx V (aC V) t).Red []/\(dx V (aC V) t).all (fun l=>BL l 26):=by
 obtain⟨K,h1,h2,h3,h4⟩:=h.k;have hE:(aC V).length<=4:=by unfold aC;rw[aX,jY];exact hV.le
 have ho:=h.x.ok;have hcl:(bO (t.restrict [])).length<=t.size+1:=cX (Dy _) (Nat.succ_le_succ (t.restrict_size []));have hKl:(gP V (aC V) K (bO (t.restrict []))).length<=52:=by
  have:=AN (V:=V) (E:=aC V) (K:=K) (cs:=bO (t.restrict []));have:(bO (t.restrict [])).length*(aC V).length<=(t.size+1)*4:=fZ hcl hE;omega
 have hs: ∀c∈bO (t.restrict []),c.length+(aC V).length<=600:=fun c hc=>by
  have:=Ac (t.restrict_all LB [] h.x.lb) (t.restrict_all aa.ok [] ho) c hc;have:=t.restrict_depth [];have:=h.dp;omega
 obtain⟨a1,a2⟩:=Ri hV.br ho h3 h4 hs we;have hb:=SQ hV.br hV.zb ho h.bl;obtain⟨b1,b2⟩:=a2.size (x8 hV.br h3);have b3:(gP V (aC V) K (bO (t.restrict []))).length*((gP V (aC V) K (bO (t.restrict []))).length+1)<=52*53:=fZ hKl we;exact⟨a1,⟨⟨⟨Tr.all_imp (fun l h=>⟨h.mono oma⟩) hb,a2.ok⟩,we,_,we,x8 hV.br h3,a2.am⟩,we⟩,a2.rd,hb⟩
section
variable {GB:Gh} {C:aH} {n:Nat} {Q0:Exit->Act->World->Prop} {fr fr':aF} {own own':bh} {cf cf':Cf} {vc:List Prop} {lk:LK} {bk:BM}
variable {dst:Option Nat} {t t' ty':TypeId} {pos:String} {af:Array Edge} {gd:Option (Nat×Bool)} {x y:Operand}
end
section
variable {GB:Gh} {C:aH} {n:Nat} {Q0:Exit->Act->World->Prop} {fr fr':aF} {own own':bh} {cf cf':Cf} {vc:List Prop} {ops:Array Oper} {r:List Oper} {K:List Kt}
end
section
variable {GB:Gh} {ai al ae:Addr} (hE:EG GB ai al ae) {j k:Nat} {a b:Tr} (ha:gF j a) (hb:gF k b)
include hE ha
include hb
end
section
variable {GB:Gh} {ai al ae:Addr} (hE:EG GB ai al ae)
include hE
end

def Zl(l:List ah):cO 6 (l.map eZ):=fun d hd=>by
 obtain⟨x,_,rfl⟩:=aU.1 hd;exact⟨J,J⟩
def aH7{p:ah}{i:Nat}[h:aD p i](hi:i<=900000000:=by decide):PF GB prog 109 [eZ p] (eZ (aG p)):=by
 refine fn func109 J J ntmps109 J J (fun C=>?_);refine cl J (qg (q:=p.x) (i:=i) hi) J<|cl J (qg (q:=p.y) (i:=i) hi) J<|rz J J
def YZ{p:ah}{i:Nat}[h:aD p i](hi:i<=900000000:=by decide):PF GB prog 118 [eZ p] (eZ (iF p)):=by
 refine fn func118 J J ntmps118 J J (fun C=>?_);refine cl J (qg (q:=p.y) (i:=i) hi) J<|rz J J
def Sn{q:Rat}{i:Nat}[h:BQ q i](hi:i<=400000000:=by decide):PF GB prog 220 [eR q] (eF q):=by
 haveI:BN q.num.natAbs i:=⟨h.hn⟩;haveI:BN q.den i:=⟨h.hd⟩;refine fn func220 J J ntmps220 J J (fun C=>?_);refine cl (fu:=⟨0⟩) J (xi (n:=decide (q.num<0)) (a:=q.num.natAbs) (d:=q.den) (i:=i) (j:=i) we we) J<|aj 7 (.d (eF q)) J (by rw[mp,sW])<|gx J<|rz J J
def aJl{p:ah}{i:Nat}[h:aD p i](hi:i<=400000000:=by decide):PF GB prog 160 [om p] (eZ p):=by
 refine fn func160 J J ntmps160 J J (fun C=>?_);refine cl J (Sn (q:=p.x) (i:=i) hi) J<|cl J (Sn (q:=p.y) (i:=i) hi) J<|rz J J
def Rx{p q:ah}{i:Nat}[hp:aD p i][hq:aD q i](hi:i<=1000000:=by decide):PF GB prog 162 [eZ p,eZ q] (vB (decide (p.x=q.x/\p.y=q.y))):=by
 refine fn func162 J J ntmps162 J J (fun C=>?_);refine cl J (Fh (p:=p.x) (q:=q.x) (i:=i) (j:=i) we we) J<|csd 10 J J J (fun hg10=>?_) (fun hg10=>?_)
 .
  refine cl J (Fh (p:=p.y) (q:=q.y) (i:=i) (j:=i) we we) J<|rz J (by show DV.v (.bool _)= .v (.bool _);simp_all)
 .
  exact rz J (by show DV.v (.bool _)= .v (.bool _);simp_all)
def Iz{p q:ah}{i j:Nat}[hp:aD p i][hq:aD q j](hi:i<=10000000:=by decide)(hj:j<=10000000:=by decide):PF GB prog 117 [eZ p,eZ q] (eZ ⟨p.x-q.x,p.y-q.y⟩):=by
 refine fn func117 J J ntmps117 J J (fun C=>?_);refine cl J (q7 (p:=p.x) (q:=q.x) (i:=i) (j:=j) we we) J<|cl J (q7 (p:=p.y) (q:=q.y) (i:=i) (j:=j) we we) J<|rz J J
def aKC{G:Gh}{q:Rat}{y:Value}(h: ¬gI q)(hy:Is G (dC q) y):y= .pointer none:=by
 unfold dC at hy;rw[decide_eq_false h] at hy;rcases ug.1 hy with⟨_,e⟩|⟨e,_⟩
 .exact e
 .cases e
def aKG{G:Gh}{q:Rat}(h: ¬gI q):Is G (dC q) (.pointer none):=by
 unfold dC;rw[decide_eq_false h];exact ug.2 (.inl ⟨J,J⟩)
def xF(q:Rat):List Value:=[.int .i64 (dP q), .int .i64 (dO q), .pointer none]
def Zn{G:Gh}{q:Rat}{t:List DV}{m:List Value}(h: ¬gI q)(hm:IsLs G (vI (dP q)::vI (dO q)::dC q::t) m): ∃n,m=xF q++n/\IsLs G t n:=by
 obtain⟨y1,m1,rfl,h1,hm1⟩:=bA.1 hm;obtain⟨y2,m2,rfl,h2,hm2⟩:=bA.1 hm1;obtain⟨y3,m3,rfl,h3,hm3⟩:=bA.1 hm2;obtain rfl:=aP.1 h1;obtain rfl:=aP.1 h2;obtain rfl:=aKC h h3;exact⟨m3,J,hm3⟩
def aGj{G:Gh}{q:Rat}{t:List DV}{n:List Value}(h: ¬gI q)(k:IsLs G t n):IsLs G (vI (dP q)::vI (dO q)::dC q::t) (xF q++n):= .cons (aP.2 J) (.cons (aP.2 J) (.cons (aKG h) k))
def rV(q:Rat):Value:= .agg ⟨xF q⟩
def aNa{G:Gh}{q:Rat}{y:Value}(h: ¬gI q)(hy:Is G (eF q) y):y=rV q:=by
 obtain⟨m,rfl,hm⟩:=eH.1 hy;obtain⟨n,rfl,hn⟩:=Zn h hm;rw[fh.1 hn];rfl
def aM3{G:Gh}{q:Rat}(h: ¬gI q):Is G (eF q) (rV q):=eH.2 ⟨_,J,aGj h (fh.2 J)⟩

def od(v:List ah):List (List DV):=(List.range v.length).map fun i=>[vI (i:Nat),K2 (v.getD i ⟨0,0⟩) (v.getD ((i+1)%v.length) ⟨0,0⟩)]
def RD{v:List ah}{i:Nat}{p q:ah}(h1:v[i]? =some p)(h2:v[(i+1)%v.length]? =some q):(od v)[i]? =some [vI (i:Nat),K2 p q]:=by
 have hi:=(aR.1 h1).1;unfold od;rw[cJ,qR hi,lR,aV,aV,h1,h2];rfl
def JV{v:List ah}{i:Nat}{e:List DV}(h:(od v)[i]? =some e): ∃p q,v[i]? =some p/\v[(i+1)%v.length]? =some q/\e=[vI (i:Nat),K2 p q]:=by
 have hi:i<v.length:=by
  have:=(aR.1 h).1;unfold od at this;simpa using this
 have h1:v[i]? =some v[i]:=aZ hi;have hm:(i+1)%v.length<v.length:=dW _ we;have h2:v[(i+1)%v.length]? =some v[(i+1)%v.length]:=aZ hm;refine⟨_,_,h1,h2,?_⟩;rw[RD h1 h2] at h;exact(Option.some.inj h).symm
def M0{v:List ah}: ∀e∈od v,e.length=2:=fun e he=>by
 obtain⟨i,_,rfl⟩:=aU.1 he;rfl
def Kd{v:List ah}(hn:v.length<=100000:=by omega):It GB prog 173 [.pt [.sl (v.map eZ)]] (od v):=by
 have hml:(v.map eZ).length=v.length:=aX ..;have hrl:(od v).length=v.length:=by unfold od;simp
 refine aMU func173 J J ntmps173 J (fun _=>J) (fun l Jv Jx GB' hg H C hp hJ=>?_);refine ptE 1 J<|gx J<|aj 6 (.d (vI (v.length:Nat))) J omo<|YS (X:=Nat) (fun k=>[(0, .d (.v (.func (.yield l) #[] #[]))),(1, .ep [.sl (v.map eZ)]),(5, .d (.sl (v.map eZ))),(6, .d (vI (v.length:Nat))),(7, .d (vI (k:Nat)))]) (fun k C=>k<=v.length/\Jv k C.G0 C.w0) (fun k=>v.length-k) 0 hp ⟨aN _,hJ⟩ (fun _=>J) (fun k C1 hp1 hk=>?_);obtain⟨hk1,hJ1⟩:=hk;refine br J J J (fun hc8=>?_) (fun hc8=>?_)
 .obtain⟨p,hpx⟩: ∃u,v[k]? =some u:=⟨_,aZ we⟩
  obtain⟨q,hqx⟩: ∃u,v[(k+1)%v.length]? =some u:=⟨_,aZ (dW _ we)⟩;refine ix _ J (cp hpx) J<|aj 20 (.d (vI (((k+1)%v.length:Nat):Int))) J omo<|gx J<|ix _ J (cp hqx) J<|bar (len:=2) (s:=6) (e:=199) J omd omd J<|YU omd J ?_;refine cy [(0, .d (.v (.func (.yield l) #[] #[]))),(1, .ep [.sl (v.map eZ)]),(5, .d (.sl (v.map eZ))),(6, .d (vI (v.length:Nat))),(7, .d (vI (k:Nat)))] H hp1 hJ1 J (RD hpx hqx) J (by repeat (first|exact trivial|refine And.intro J ?_)) J J J (fun C3 hp3 hJ3=>?_) (fun C3 hp3 hJ3=>?_)
  .exact atC (k+1) hp3 ⟨⟨we,hJ3⟩,we⟩
  .exact Rt H hp3 (.inr hJ3) J
 .obtain rfl:k=v.length:=by omega
  exact Rt H hp1 (.inl (by rw[hrl];exact hJ1)) J
def Iq{v:List ah}:M9 GB prog 116 [.sl (v.map eZ)] 173 (.pt [.sl (v.map eZ)]):=by
 refine aMX func116 J J ntmps116 J J (fun C=>?_);refine fz 1 J J<|Wb 1 J (fun GB' pv hg hp=>?_);refine mkG J J<|Wy J J hp
def aKH:JF 191:=fun x w=>by kernel_rfl
def aLv(m:List Value):GU 191 (.agg ⟨m⟩) "Mul" 187:=fun w=>by kernel_rfl
def aAV(l:List Rat)(k:Nat)(y:Rat):(l.map eF).set k (eF y)=(l.set k y).map eF:=(kK ..).symm
def n0(L:List Rat)(k:Rat)(j:Nat):List Rat:=(L.take j).map (· *k)++L.drop j
def Yp(L:List Rat)(k:Rat)(j:Nat):(n0 L k j).length=L.length:=by
 unfold n0;rw[aY,aX,bL,gM];omega
def aF4{L:List Rat}{k a:Rat}{j:Nat}(h:L[j]? =some a):(n0 L k j)[j]? =some a:=by
 have hj:=(aR.1 h).1;unfold n0;rw[jN (by rw[aX,bL];omega),aX,bL,mS,<-h];congr 1;omega
def Yi{L:List Rat}{k a:Rat}{j:Nat}(h:L[j]? =some a):(n0 L k j).set j (a*k)=n0 L k (j+1):=by
 have hj:=(aR.1 h).1;unfold n0;rw[dJ,h,nN _ _ (by rw[aX,bL];omega),aX,bL,show j-min j L.length=0 by omega,bK hj];simp only[lZ,aL,bY,iU,List.set_cons_zero,dT,gL,kV]
def OS{L:List Rat}{k:Rat}{i:Nat}[hk:BQ k i](hL: ∀a∈L,¬gI a)(hb: ∀a∈L,BQ a i)(hn:L.length<=1000)(hi:i<=1000000:=by decide):PB GB prog 169 (f7 [some (eF k),none]) 3 191 (L.map eF) (fun w=> .v (.slice w.a w.n w.c)) ((L.map (· *k)).map eF):=by
 have hml:(L.map eF).length=L.length:=aX ..;refine ED (fu:=⟨11⟩) func169 J J ntmps169 J J (fun C=>?_);refine aj 7 (.d (vI (L.length:Nat))) J omo<|gx J<|lp (X:=Nat) (fun j=>[(8, .d (vI (j:Nat)))]) (fun j=>[(1000000,some (.b 191 3 ((n0 L k j).map eF) false))]) (fun j=>j<=L.length) (fun j=>L.length-j) 0 J (aN _) (fun _=>J) (fun j hk=>?_);have hsl:=Yp L k j;have hsm:((n0 L k j).map eF).length=(n0 L k j).length:=aX ..;refine br J J J (fun hc9=>?_) (fun hc9=>?_)
 .
  obtain⟨a,hx⟩: ∃u,L[j]? =some u:=⟨_,aZ we⟩;have ham:=aK hx;haveI:=hb a ham;have hga:(n0 L k j)[j]? =some a:=aF4 hx;refine lb (fu:=⟨0⟩) _ J (cp hga) J<|mki (fu:=⟨1⟩) (rV a) J aKH (fun G y hy=>aNa (hL a ham) hy) J<|XX J (aLv _) (PF.arg0 (pu (p:=a) (q:=k) (i:=i) (j:=i) we we) (fun G y h=>by rw[aP.1 h];exact aM3 (hL a ham))) J<|sb (hv:=by simp only[ak];exact⟨omd,we⟩) _ ((n0 L k (j+1)).map eF) J (cp hga) J (by rw[<-Yi hx,<-aAV]<;>rfl) J<|at_ (j+1) ⟨we,we⟩
 .
  obtain rfl:j=L.length:=by omega
  have hend:n0 L k L.length=L.map (· *k):=by unfold n0;rw[cN,fL,fR]
  exact vm J J J (by rw[hend])
def Le{a:Int}{g:Nat}(hg:0<g)(hd:g∣a.natAbs):(a:Rat)*(((g:Nat):Int):Rat)⁻¹=((zv (decide (a<0)) (a.natAbs/g):Int):Rat):=by
 obtain⟨q,hq⟩:=hd;have e:zv (decide (a<0)) (a.natAbs/g)*(g:Int)=a:=by
  rw[hq,rN q hg];unfold zv;have hc:((g*q:Nat):Int)=(g:Int)*(q:Int):=by simp
  have hm:=sJ (g:Int) (q:Int);split
  .rename_i h
   have h:=of_decide_eq_true h;rw[uS];omega
  .rename_i h
   have h: ¬a<0:=fun k=>h (decide_eq_true k);omega
 generalize zv (decide (a<0)) (a.natAbs/g)=z at*;have h0:((g:Int):Rat)≠0:=by
  intro k;have:(g:Int)=0:=by exact_mod_cast k
  omega
 rw[<-e,bS];generalize ((g:Int):Rat)=r at*;grind
def At{q:Rat}{k:Nat}(h:BQ q k)(hk:k<=62:=by decide): ¬gI q:=fun b=>b (by
 have hp:2^k<=2^62:=bR oma hk;have e:(2:Nat)^62=4611686018427387904:=by decide
 obtain⟨h1,h2⟩:=h;exact⟨we,we⟩)
theorem HD(p q:ah){i j:Nat}[aD p i][aD q j]:aD ⟨p.x-q.x,p.y-q.y⟩ (i+j+1):=⟨inferInstanceAs (BQ (p.x-q.x) _),inferInstanceAs (BQ (p.y-q.y) _)⟩
theorem SO{z:Int}(h:z.natAbs<=1000000):BQ (z:Rat) 22:=by
 have e:(2:Nat)^21=2097152:=by decide
 haveI:BI z 21:=⟨we⟩;exact(inferInstance:BQ (z:Rat) 22)
theorem M6{z:ZP}(h:ZP.le 100 z):aD z.q 22:=⟨SO (by have:=h.1;omega),SO (by have:=h.2;omega)⟩
def On{r:List ZP}{k:Nat}{p:ah}(h:(r.map ZP.q)[k]? =some p):k<r.length/\p=(r.getD k (0,0)).q:=by
 rw[cJ] at h
 cases e:r[k]? with
 |none=>rw[e] at h;cases h
 |some z=>
  rw[e] at h;cases h;exact⟨(aR.1 e).1,by rw[aV,e];rfl⟩
def aFH{a i:Nat}[h:BN a i](hi:i<=1000000000:=by decide):PF GB prog 266 [dN a] (.v (.bool true)):=
 (R8 (ds:=dg a) (gh _).2.1 (by have:=ju (a:=a) hi;omega)).to (by unfold vB;rw[decide_eq_true (gh a).2.2])
def NO{q:Rat}{i:Nat}[hq:BQ q i](hi:i<=1000000:=by decide):PF GB prog 218 [eR q] (.v (.bool true)):=by
 have hd:=q.den_pos;have hdl:0<(dg q.den).length:=iM fun e=>by have:=wv.1 e;omega
 have hml:((dg q.den).map dU).length=(dg q.den).length:=aX ..;have hco:Nat.gcd q.num.natAbs q.den=1:=q.reduced;refine fn func218 J J ntmps218 J J (fun C=>?_);refine cl (fu:=⟨0⟩) J (Gb (m:=q.num) (i:=i) (h:=⟨hq.hn⟩) we) J<|ld 5 J<|gx J<|cl (fu:=⟨0⟩) J (aFH (a:=q.den) (i:=i) (h:=⟨hq.hd⟩) we) J<|ld 10 J<|gx (fu:=⟨6⟩) J<|cv J (omh we) J<|cl (fu:=⟨0⟩) J (LY (a:=q.num.natAbs) (b:=q.den) (i:=i) (j:=i) (h:=⟨hq.hn⟩) (k:=⟨hq.hd⟩) we we) J<|aj 24 (.d (dN 1)) J (by rw[hco])<|gx J<|cl J (vW (a:=1) (i:=1) (h:=⟨oma⟩)) J<|rz J J
def aF5{p:ah}{i:Nat}[hp:aD p i](hi:i<=1000000:=by decide):PF GB prog 158 [om p] (.v (.bool true)):=by
 refine fn func158 J J ntmps158 J J (fun C=>?_);refine cl (fu:=⟨0⟩) J (NO (q:=p.x) (i:=i) we) J<|ld 5 J<|gx J<|cl J (NO (q:=p.y) (i:=i) we) J<|rz J J
def um(l:List ah)(p:ah):Int:=match l.findIdx? (fun q=>decide (q.x=p.x/\q.y=p.y)) with
 |some i=>(i:Nat)
 |none=> -1
def GV{l:List ah}{p q:ah}{k:Nat}(hx:l[k]? =some q)(h:(l.take k).all (fun q=>!decide (q.x=p.x/\q.y=p.y))=true)(hq:q.x=p.x/\q.y=p.y):um l p=(k:Nat):=by
 have hk:=(aR.1 hx).1;have e:l.findIdx? (fun q=>decide (q.x=p.x/\q.y=p.y))=some k:=by
  rw[List.findIdx?_eq_some_iff_getElem];refine⟨hk,?_,fun j hj=>?_⟩
  .rw[(aR.1 hx).2];exact decide_eq_true hq
  .have:=dV.1 h l[j] (by rw[List.mem_take_iff_getElem];exact⟨j,we,J⟩)
   simp at this⊢;intro a b;rcases this with k|k
   .exact k a
   .exact k b
 unfold um;rw[e]
def Z1{l:List ah}{p:ah}(h:l.all (fun q=>!decide (q.x=p.x/\q.y=p.y))=true):um l p= -1:=by
 have e:l.findIdx? (fun q=>decide (q.x=p.x/\q.y=p.y))=none:=by
  rw[List.findIdx?_eq_none_iff];intro x hx;have:=dV.1 h x hx;simp at this⊢;intro a b;rcases this with k|k
  .exact k a
  .exact k b
 unfold um;rw[e]
def aBm{l:List ah}{k:Nat}{q:ah}{g:ah->Bool}(hx:l[k]? =some q)(h:(l.take k).all g=true)(hq:g q=true):(l.take (k+1)).all g=true:=by
 rw[dJ,hx,List.all_append,h];simp[hq]
def aFq{l:List ah}{p:ah}{i:Nat}[hp:aD p i](hl: ∀q∈l,aD q i)(hn:l.length<=100000)(hi:i<=1000000:=by decide):PF GB prog 161 [.sl (l.map eZ),eZ p] (vI (um l p)):=by
 have hml:(l.map eZ).length=l.length:=aX ..;refine fn (fu:=⟨11⟩) func161 J J ntmps161 J J (fun C=>?_);refine aj 8 (.d (vI (l.length:Nat))) J omo<|gx J<|lp (X:=Nat) (fun k=>[(9, .d (vI (k:Nat)))]) (fun k=>[]) (fun k=>k<=l.length/\(l.take k).all (fun q=>!decide (q.x=p.x/\q.y=p.y))=true) (fun k=>l.length-k) 0 J ⟨aN _,J⟩ (fun _=>J) (fun k hk=>?_);obtain⟨hk,hall⟩:=hk;refine br J J J (fun hc10=>?_) (fun hc10=>?_)
 .
  obtain⟨q,hx⟩: ∃u,l[k]? =some u:=⟨_,aZ we⟩;haveI:=hl q (aK hx);refine ix _ J (cp hx) J<|cl J (Rx (p:=q) (q:=p) (i:=i) hi) J<|bd J J J (fun hc16=>?_) (fun hc16=>?_)
  .
   exact rz J (by rw[GV hx hall hc16];rfl)
  .
   exact at_ (k+1) ⟨⟨we,aBm hx hall (by rw[decide_eq_false hc16];rfl)⟩,we⟩
 .
  obtain rfl:k=l.length:=by omega
  rw[cN] at hall;exact rz J (by rw[Z1 hall];rfl)
def fP(l:List ah):Nat->Nat
 |0=>0
 |k+1=>fP l k+if um l (l.getD k ⟨0,0⟩)=(k:Nat) then 1 else 0
def lv(l:List ah)(k:Nat):Nat:=if 3<=fP l k then 3 else fP l k
def aGP{l:List ah}{k:Nat}(h:lv l k<3)(e:fP l (k+1)=fP l k+1):((lv l k:Nat):Int)+1=((lv l (k+1):Nat):Int):=by
 have a:lv l k=if 3<=fP l k then 3 else fP l k:=J
 have b:lv l (k+1)=if 3<=fP l (k+1) then 3 else fP l (k+1):=J
 split at a<;>split at b<;>omega
def UW{l:List ah}{k:Nat}(h: ¬lv l k<3\/fP l (k+1)=fP l k)(m:fP l k<=fP l (k+1)):((lv l k:Nat):Int)=((lv l (k+1):Nat):Int):=by
 have a:lv l k=if 3<=fP l k then 3 else fP l k:=J
 have b:lv l (k+1)=if 3<=fP l (k+1) then 3 else fP l (k+1):=J
 split at a<;>split at b<;>omega
def aKv(l:List ah)(k:Nat):lv l k<=3:=by unfold lv;split<;>omega
def Yn{l:List ah}{k:Nat}(h:3<=fP l k):lv l k=3:=by unfold lv;rw[if_pos h]
def HX{l:List ah}{k:Nat}{p:ah}(hx:l[k]? =some p)(h:um l p=(k:Nat)):fP l (k+1)=fP l k+1:=by
 rw[fP,aV,hx,mQ,if_pos h]
def XR{l:List ah}{k:Nat}{p:ah}(hx:l[k]? =some p)(h: ¬um l p=(k:Nat)):fP l (k+1)=fP l k:=by
 rw[fP,aV,hx,mQ,if_neg h];rfl
def No{l:List ah}{k:Nat}:fP l k<=fP l (k+1):=by rw[fP];split<;>omega
def We{v:List ah}{k:Nat}{p:ah}(h:v[k]? =some p):((v.take k).map eZ)++[eZ p]=(v.take (k+1)).map eZ:=by
 rw[dJ,h,aL];rfl
def aEs{r:List ZP}(h:gE r){k:Nat}(hk:k<r.length):decide ((r.getD k (0,0)).q.x=(jy r k).q.x/\(r.getD k (0,0)).q.y=(jy r k).q.y)=false:=decide_eq_false fun e=>h.ne k hk (EE (by
 obtain⟨e1,e2⟩:=e;generalize (r.getD k (0,0)).q=a at*;generalize (jy r k).q=b at*
 cases a;cases b
 simp only[ah.mk.injEq];exact⟨e1,e2⟩))
def az5{r:List ZP}(h:gE r)(h3:3<=fP (r.map ZP.q) (r.map ZP.q).length):PF GB prog 103 [rG r] (.tp [.sl ((r.map ZP.q).map eZ), .v .nilIface]):=by
 have hn:=h.n6;obtain⟨v,hv⟩: ∃v,v=r.map ZP.q:=⟨_,rfl⟩;have hvl:v.length=r.length:=by rw[hv,aX]
 have hb: ∀p∈v,aD p 22:=fun p hp=>by rw[hv] at hp;obtain⟨z,hz,rfl⟩:=aU.1 hp;exact M6 (h.le z hz)
 unfold rG;rw[<-hv] at h3⊢;have hm1:(v.map om).length=v.length:=aX ..;have hm2:(v.map eZ).length=v.length:=aX ..;have hrl:(od v).length=v.length:=by unfold od;rw[aX,jY]
 refine Ii (fu:=⟨11⟩) func103 J J ntmps103 J J (fun C h0=>?_);refine aj 13 (.d (vI (v.length:Nat))) J (by rw[hm1]<;>rfl)<|gx (fu:=⟨0⟩) J<|cv (fu:=⟨15⟩) J (omh we) J<|aj 20 (.d (vI (v.length:Nat))) J (by rw[hm1]<;>rfl)<|gx J<|nr 4 4 199 6 J J J<|lp (X:=Nat) (fun k=>[(21, .d (vI (k:Nat))),(4, .rw 4)]) (fun k=>[(4,some (.b 199 6 ((v.take k).map eZ) true))]) (fun k=>k<=v.length) (fun k=>v.length-k) 0 J (aN _) (fun _=>J) (fun k hk=>?_);have hm3:((v.take k).map eZ).length<=k:=by rw[aX,bL];omega
 refine br (fu2:=⟨0⟩) J J J (fun hc22=>?_) (fun hc22=>?_)
 .
  obtain⟨p,hx⟩: ∃u,v[k]? =some u:=⟨_,aZ we⟩;haveI:=hb p (aK hx);refine ix _ J (cp hx) J<|cl (fu:=⟨0⟩) J (aF5 (p:=p) (i:=22)) J<|ld 27 J<|gx J<|cl J (aJl (p:=p) (i:=22)) J<|rf J J<|ap ((v.take (k+1)).map eZ) J (We hx) (Zl [p]) J<|ek 41 4 J<|at_ (k+1) ⟨we,we⟩
 .
  obtain rfl:k=v.length:=by omega
  rw[cN];refine nj 4 J<|gx (fu:=⟨15⟩) J<|aj 44 (.d (vI (v.length:Nat))) J okX<|gx J<|lp (X:=Nat) (fun k=>[(45, .d (vI (k:Nat))),(7, .d (vI ((lv v k):Nat)))]) (fun k=>[]) (fun k=>k<=v.length) (fun k=>v.length-k) 0 J (aN _) (fun _=>J) (fun k hk=>?_);have hdm:=aKv v k;refine br (fu2:=⟨9⟩) J J J (fun hc46=>?_) (fun hc46=>?_)
  .
   obtain⟨p,hx⟩: ∃u,v[k]? =some u:=⟨_,aZ we⟩;haveI:=hb p (aK hx);have hcm:=No (l:=v) (k:=k);refine ix _ J (cp hx) J<|cs 52 J J J (fun hg52=>?_) (fun hg52=>?_)
   .
    refine cl J (aFq (l:=v) (p:=p) (i:=22) hb we) J<|br J J J (fun hc58=>?_) (fun hc58=>?_)
    .
     have he7:=aGP we (HX hx we);refine aj 7 (.d (vI (lv v (k+1):Nat))) J (by rw[he7]<;>rfl)<|at_ (k+1) ⟨we,we⟩
    .
     have he7:=UW (.inr (XR hx we)) hcm;refine aj 7 (.d (vI (lv v (k+1):Nat))) J (by rw[he7]<;>rfl)<|at_ (k+1) ⟨we,we⟩
   .
    have he7:=UW (l:=v) (k:=k) (.inl we) hcm;refine aj 7 (.d (vI (lv v (k+1):Nat))) J (by rw[he7]<;>rfl)<|at_ (k+1) ⟨we,we⟩
  .
   obtain rfl:k=v.length:=by omega
   have hd3:=Yn h3;refine cv (fu:=⟨9⟩) J (omh we) J<|Lq J J J Iq (fun _=>J) (fun GB1 pv hg1 hpv=>?_);refine AO 2 2000002 h0.fx J<|AO 3 2000003 h0.fx J ?_;refine If (σ:=Empty) (fun _=>[(2000002,some (.o 122 [.nl] true)),(2000003,some (.o 34 [.d (.v .nilIface)] true))]) (fun _=>True) (fun _=>[]) (fun _=>False) [(2, .ov 2000002 0),(3, .ov 2000003 0),(4, .d (.sl (v.map eZ)))] h0 J (Kd) (.cons hpv .nil) ⟨J,J,J,trivial⟩ J ⟨J,J,trivial⟩ trivial M0 J J (fun k e GB' hE hg hp=>?_) (fun D hD hx hp=>?_) (fun D s hD hx hq=>hq.elim)
   .obtain⟨p,q,hpx,hqx,rfl⟩:=JV hE
    rw[hvl] at hqx;rw[hv] at hpx hqx;obtain⟨hk,rfl⟩:=On hpx;obtain⟨hk2,rfl⟩:=On hqx;haveI:=M6 (h.le _ (Bm hk));haveI:=M6 (h.le _ (Gy hk));have hne:=aEs h hk;refine⟨?_,?_,fun C2=>?_,fun C2=>?_⟩
    rotate_left 2
    .refine gx J<|JQ J J J ⟨J,J,J⟩ J ?_
     exact atR
    .refine gx J<|pC 0 (e:=199) (len:=2) (s:=6) J omd omd oma J<|pC 1 (e:=199) (len:=2) (s:=6) J omd omd oma J<|cl J (Rx (p:=(r.getD k (0,0)).q) (q:=(jy r k).q) (i:=22)) J<|bd J J J (fun hc=>absurd (decide_eq_true hc) (by rw[hne];decide)) (fun hc=>?_)
     exact rq trivial ⟨J,J,trivial⟩
   .refine gx J<|?_
    exact Ff hD hx J J
structure tj (r:List ZP):Prop where
 ok:gE r
 c3:3<=fP (r.map ZP.q) (r.map ZP.q).length




section
variable {α:Type} [Inhabited α]
end


end Go.Sx
end
