/-
  Program: Witness and Difference. Reference: numbers in order, gaps, points of all faces. Reference: the lines of a tree, leaves of points, regions held against each other. Reference: points written, the lines of a tree, the leaf near a point. Reference: primitive vectors. Reference: vectors around a point; the class of a point. The law RelateWitness: its walk.
-/
import Derived.Test.YtopfgminkdfpkaaGreatDoorMw17
set_option linter.unusedSimpArgs false
set_option maxHeartbeats 4000000
set_option maxRecDepth 100000
set_option linter.unusedVariables false
section
namespace Go.Sx
open Go Go.Proofs
variable {GB:Gh}
def ptZ:DV:= .ag [vI 0,vI 0, .v (.pointer none),vI 0,vI 0, .v (.pointer none)]
def apZ:DV:= .ag [.v (.bool false), .sl [], .sl [], .v (.bool false), .sl [], .sl []]
theorem ame: ∀{t:Tr} {c:aaf} {x:Bool×aaf},t.all LB→t.all LnQ.ok→aa5 c→x∈t.parts c→aa5 x.2∧x.2.length≤c.length+t.depth
 | .leaf b,c,x,_,_,hc,h=>by
  rw[Tr.parts,List.mem_singleton] at h
  subst h
  exact⟨hc,Nat.le_add_right _ _⟩
 | .node l u v,c,x,hb,ho,hc,h=>by
  have hl:=hb.1
  have hd:(Tr.node l u v).depth=1+max u.depth v.depth:=rfl
  rw[Tr.parts] at h
  rcases List.mem_append.1 h with h|h
  ·split at h
   ·obtain⟨k1,k2⟩:=ame hb.2.1 ho.2.1 (aeW ho.1 hc) h
    have:=adm c l
    exact⟨k1,by omega⟩
   ·cases h
  ·split at h
   ·obtain⟨k1,k2⟩:=ame hb.2.2 ho.2.2 (aeW ho.1.rev hc) h
    have:=adm c l.rev
    exact⟨k1,by omega⟩
   ·cases h
theorem adF{t:Tr}(hb:t.all LB)(ho:t.all LnQ.ok){c:aaf}{r:List aaf}(h:aaW t=c::r):aa5 c∧c.length≤t.depth:=by
 have:=ame hb ho aa5.nil (adK.1 (by rw[h];exact List.mem_cons_self))
 simpa using this
theorem apx{c:aaf}(hc:aa5 c)(hn:c.length≤100000):PF GB Tryz.prog 47 [eC c] (eZ (aaF c)):=by
 cases c with
 |nil=>exact axM
 |cons s cs=>exact awm hc (by rw[List.length_cons] at hn;omega)
def FK(d:Rat):Prop:=True
theorem azo{s:FrQ}{p:PtQ}: ∀{c:aaf} {f:Rat},BQ f 9000→(∀g∈c,BQ (-(g.l.value p/g.l.nor.dot s.l.nor)) 9000)→BQ (akn s.l p c f) 9000
 |[],f,h,_=>h
 |g::c,f,h,k=>by
  rw[akn]
  refine azo ?_ fun u hu=>k u (List.mem_cons_of_mem _ hu)
  split
  ·split
   ·exact k g List.mem_cons_self
   ·exact h
  ·exact h
theorem ada{c:aaf}(hc:aa5 c):BPt (aaF c) 20000:=by
 cases c with
 |nil=>exact⟨BQ.mono (k:=2) ⟨by decide,by decide⟩ (by decide),BQ.mono (k:=2) ⟨by decide,by decide⟩ (by decide)⟩
 |cons s cs=>
  have hs:=hc s List.mem_cons_self
  haveI:=hs.lb
  haveI:=alr hs
  haveI:=azo (s:=s) (p:=s.l.at s.v.sample) (c:=cs) (f:=1) (BQ.mono (k:=2) ⟨by decide,by decide⟩ (by decide)) fun g hg=>auy hs (hc g (List.mem_cons_of_mem _ hg))
  rw[aqO]
  have:=(inferInstance:BPt ((s.l.at s.v.sample).add (s.l.nor.scale (akn s.l (s.l.at s.v.sample) cs 1*mkRat 1 2))) _)
  exact⟨this.x.mono (by decide),this.y.mono (by decide)⟩
theorem avE{t:Tr}(hb:t.all LB)(ho:t.all LnQ.ok)(hd:t.depth≤100000)(hs:t.size≤900000)(hc:aaW t=[]):PF GB Tryz.prog 52 [eU t] (.tp [ptZ,vB false]):=by
 refine fn Tryz.func52 J J Tryz.ntmps52 J J (fun C=>?_)
 refine cl (fu:=⟨0⟩) rfl (alQ hb ho hd hs) rfl<|?_
 refine eqF 7 (.d (.sl [])) rfl (by rw[hc];rfl) ?_
 refine gx rfl<|?_
 refine lp (X:=Nat) (fun k=>[(9, .d (vI (k:Nat)))]) (fun k=>[]) (fun k=>k=0) (fun k=>1-k) 0 J J (fun _=>rfl) (fun k hk=>?_)
 subst hk
 refine br J J J (fun hc10=>?_) (fun hc10=>?_)
 ·
  exact absurd hc10 (by simp)
 ·
  exact rz J J
theorem azs{t:Tr}(hb:t.all LB)(ho:t.all LnQ.ok)(hd:t.depth≤100000)(hs:t.size≤900000){c:aaf}{r:List aaf}(hc:aaW t=c::r):PF GB Tryz.prog 52 [eU t] (.tp [eZ (aaF c),vB true]):=by
 obtain⟨hco,hcl⟩:=adF hb ho hc
 refine fn Tryz.func52 J J Tryz.ntmps52 J J (fun C=>?_)
 refine cl (fu:=⟨0⟩) rfl (alQ hb ho hd hs) rfl<|?_
 refine eqF 7 (.d (.sl (eC c::r.map eC))) rfl (by rw[hc];rfl) ?_
 refine gx rfl<|?_
 refine lp (X:=Nat) (fun k=>[(9, .d (vI (k:Nat)))]) (fun k=>[]) (fun k=>k=0) (fun k=>1-k) 0 J J (fun _=>rfl) (fun k hk=>?_)
 subst hk
 refine br J J J (fun hc10=>?_) (fun hc10=>?_)
 ·
  refine ix _ J J J<|cl rfl (apx hco (by omega)) rfl<|?_
  exact rz J J
 ·
  exact absurd hc10 (by simp)
theorem azT{ai al ae:Addr}(hE:EGE GB ai al ae){k:Nat}{t:Tr}(h:TrX k t)(hk:k≤1000)(hc:aaW (t.restrict [])=[]):PF GB Tryz.prog 10 [eA t] (.tp [apZ,ayI ae]):=by
 have hd:=h.dp
 have hu:=h.restrict []
 have hus:=hu.s
 have hud:=hu.dp
 refine fn Tryz.func10 J J Tryz.ntmps10 J J (fun C=>?_)
 refine cl rfl (arc hE.toEG h hk) rfl<|cl (fu:=⟨0⟩) rfl (alQ hu.lb hu.ok (by omega) (by omega)) rfl<|?_
 refine eqF 17 (.d (.sl [])) rfl (by rw[hc];rfl) ?_
 refine gx (fu:=⟨8⟩) rfl<|knT rfl (by rfl) rfl<|gl rfl hE.ErrEmpty rfl<|?_
 exact rz J J
theorem aBP{ai al ae:Addr}(hE:EGE GB ai al ae){k:Nat}{t:Tr}(h:TrX k t)(hk:k≤1000){c:aaf}{r:List aaf}(hc:aaW (t.restrict [])=c::r):PF GB Tryz.prog 10 [eA t] (.tp [ePt (aaF c), .v .nilIface]):=by
 have hd:=h.dp
 have hu:=h.restrict []
 have hus:=hu.s
 have hud:=hu.dp
 obtain⟨hco,hcl⟩:=adF hu.lb hu.ok hc
 have hpb:=ada hco
 refine fn Tryz.func10 J J Tryz.ntmps10 J J (fun C=>?_)
 refine cl rfl (arc hE.toEG h hk) rfl<|cl (fu:=⟨0⟩) rfl (alQ hu.lb hu.ok (by omega) (by omega)) rfl<|?_
 refine eqF 17 (.d (.sl (eC c::r.map eC))) rfl (by rw[hc];rfl) ?_
 refine gx (fu:=⟨8⟩) rfl<|knF rfl (by show some (decide _)=some false;rw[decide_eq_false (by simp;omega)]) rfl<|ix _ J J J<|cl rfl (apx hco (by omega)) rfl<|?_
 refine cl rfl (apk (p:=aaF c)) rfl<|?_
 exact rz J J
theorem auF{ai al ae:Addr}(hE:EG GB ai al ae){j k:Nat}{a b:Tr}(ha:TrX j a)(hb:TrX k b)(hjk:j+k≤54){c:aaf}{r:List aaf}(h1:aaW (a.mergeQ 3 b [])=c::r):PF GB Tryz.prog 12 [eA a,eA b] (.tp [ePt (aaF c),vB true, .v .nilIface]):=by
 have hM:=TrX.merge (op:=3) ha hb hjk
 have hN:=TrX.merge (op:=3) hb ha (by omega)
 have hMd:=hM.dp
 have hNd:=hN.dp
 have hMs:=hM.s
 have hNs:=hN.s
 obtain⟨hco,hcl⟩:=adF hM.lb hM.ok h1
 have hpb:=ada hco
 refine fn Tryz.func12 J J Tryz.ntmps12 J J (fun C=>?_)
 refine cl rfl (ayd ha hb) rfl<|rf J J<|?_
 refine lp (X:=Nat) (fun i=>[(33, .d (vI (i:Nat)))]) (fun i=>[]) (fun i=>i≤0) (fun i=>1-i) 0 rfl (Nat.zero_le _) (fun _=>rfl) (fun i hk=>?_)
 refine br J J J (fun hc34=>?_) (fun hc34=>?_)
 ·
  obtain rfl:i=0:=by omega
  refine ix _ J J J<|cl rfl (alg (a:=a) (b:=b) (t:=a.mergeQ 3 b []) hE ha.gd hb.gd (by have:=ha.s;omega) (by have:=hb.s;omega) (ha.lim hb (by omega))) rfl<|?_
  refine cl (fu:=⟨6⟩) rfl (azs hM.lb hM.ok (by omega) (by omega) h1) rfl<|?_
  refine kbT 14 rfl ?_
  refine gx rfl<|cl rfl (apk (p:=aaF c)) rfl<|?_
  exact rz J J
 ·
  exact absurd hc34 (by simp;omega)
theorem avx{ai al ae:Addr}(hE:EG GB ai al ae){j k:Nat}{a b:Tr}(ha:TrX j a)(hb:TrX k b)(hjk:j+k≤54){c:aaf}{r:List aaf}(h1:aaW (a.mergeQ 3 b [])=[])(h2:aaW (b.mergeQ 3 a [])=c::r):PF GB Tryz.prog 12 [eA a,eA b] (.tp [ePt (aaF c),vB true, .v .nilIface]):=by
 have hM:=TrX.merge (op:=3) ha hb hjk
 have hN:=TrX.merge (op:=3) hb ha (by omega)
 have hMd:=hM.dp
 have hNd:=hN.dp
 have hMs:=hM.s
 have hNs:=hN.s
 obtain⟨hco,hcl⟩:=adF hN.lb hN.ok h2
 have hpb:=ada hco
 refine fn Tryz.func12 J J Tryz.ntmps12 J J (fun C=>?_)
 refine cl rfl (ayd ha hb) rfl<|rf J J<|?_
 refine lp (X:=Nat) (fun i=>[(33, .d (vI (i:Nat)))]) (fun i=>[]) (fun i=>i≤1) (fun i=>2-i) 0 rfl (Nat.zero_le _) (fun _=>rfl) (fun i hk=>?_)
 refine br (fu1:=⟨6⟩) J J J (fun hc34=>?_) (fun hc34=>?_)
 ·
  rcases(show i=0∨i=1 by omega) with rfl|rfl
  ·
   refine gx rfl<|ix _ J J J<|cl rfl (alg (a:=a) (b:=b) (t:=a.mergeQ 3 b []) hE ha.gd hb.gd (by have:=ha.s;omega) (by have:=hb.s;omega) (ha.lim hb (by omega))) rfl<|?_
   refine cl (fu:=⟨6⟩) rfl (avE hM.lb hM.ok (by omega) (by omega) h1) rfl<|?_
   refine kbF 14 rfl ?_
   refine gx rfl<|?_
   exact at_ 1 ⟨(by omega),(by omega)⟩
  ·
   refine gx rfl<|ix _ J J J<|cl rfl (alg (a:=b) (b:=a) (t:=b.mergeQ 3 a []) hE hb.gd ha.gd (by have:=hb.s;omega) (by have:=ha.s;omega) (hb.lim ha (by omega))) rfl<|?_
   refine cl (fu:=⟨6⟩) rfl (azs hN.lb hN.ok (by omega) (by omega) h2) rfl<|?_
   refine kbT 14 rfl ?_
   refine gx rfl<|cl rfl (apk (p:=aaF c)) rfl<|?_
   exact rz J J
 ·
  exact absurd hc34 (by simp;omega)
theorem auY{ai al ae:Addr}(hE:EG GB ai al ae){j k:Nat}{a b:Tr}(ha:TrX j a)(hb:TrX k b)(hjk:j+k≤54)(h1:aaW (a.mergeQ 3 b [])=[])(h2:aaW (b.mergeQ 3 a [])=[]):PF GB Tryz.prog 12 [eA a,eA b] (.tp [apZ,vB false, .v .nilIface]):=by
 have hM:=TrX.merge (op:=3) ha hb hjk
 have hN:=TrX.merge (op:=3) hb ha (by omega)
 have hMd:=hM.dp
 have hNd:=hN.dp
 have hMs:=hM.s
 have hNs:=hN.s
 refine fn Tryz.func12 J J Tryz.ntmps12 J J (fun C=>?_)
 refine cl rfl (ayd ha hb) rfl<|rf J J<|?_
 refine lp (X:=Nat) (fun i=>[(33, .d (vI (i:Nat)))]) (fun i=>[]) (fun i=>i≤2) (fun i=>3-i) 0 rfl (Nat.zero_le _) (fun _=>rfl) (fun i hk=>?_)
 refine br (fu1:=⟨6⟩) J J J (fun hc34=>?_) (fun hc34=>?_)
 ·
  rcases(show i=0∨i=1 by simp at hc34;omega) with rfl|rfl
  ·
   refine gx rfl<|ix _ J J J<|cl rfl (alg (a:=a) (b:=b) (t:=a.mergeQ 3 b []) hE ha.gd hb.gd (by have:=ha.s;omega) (by have:=hb.s;omega) (ha.lim hb (by omega))) rfl<|?_
   refine cl (fu:=⟨6⟩) rfl (avE hM.lb hM.ok (by omega) (by omega) h1) rfl<|?_
   refine kbF 14 rfl ?_
   refine gx rfl<|?_
   exact at_ 1 ⟨(by omega),(by omega)⟩
  ·
   refine gx rfl<|ix _ J J J<|cl rfl (alg (a:=b) (b:=a) (t:=b.mergeQ 3 a []) hE hb.gd ha.gd (by have:=hb.s;omega) (by have:=ha.s;omega) (hb.lim ha (by omega))) rfl<|?_
   refine cl (fu:=⟨6⟩) rfl (avE hN.lb hN.ok (by omega) (by omega) h2) rfl<|?_
   refine kbF 14 rfl ?_
   refine gx rfl<|?_
   exact at_ 2 ⟨(by omega),(by omega)⟩
 ·
  exact rz J J
theorem atR(l:List Rat):acf l=aid aa1 l:=by
 unfold acf aid
 have key: ∀(l o:List Rat),l.foldl (fun out x=>amB x out) o=l.foldl (fun out x=>ad3 aa1 x out) o:=by
  intro l
  induction l with
  |nil=>intro o;rfl
  |cons a t ih=>intro o;rw[List.foldl_cons,List.foldl_cons,akA,ih]
 exact key l []
theorem agT(l:List Rat):(acf l).length≤l.length:=by
 have:=agz aa1 l []
 rw[atR];simpa[aid] using this
theorem alu{k:Nat}{l:List Rat}(h: ∀q∈l,BQ q k): ∀g∈aaU l,BQ g (2*k+100):=fun g hg=>by
 cases l with
 |nil=>
  rw[aaU,List.mem_singleton] at hg;subst hg
  exact BQ.mono (k:=1) ⟨by decide,by decide⟩ (by omega)
 |cons a t=>
  rw[aaU] at hg
  rcases List.mem_cons.1 hg with rfl|hg
  ·haveI:=h a List.mem_cons_self
   exact BQ.mono (inferInstance:BQ (a-1) _) (by omega)
  ·rcases List.mem_append.1 hg with hg|hg
   ·obtain⟨c,hc,d,hd,rfl⟩:=alt hg
    haveI:=h c hc
    haveI:=h d hd
    exact BQ.mono (inferInstance:BQ ((c+d)/2) _) (by omega)
   ·rw[List.mem_singleton] at hg
    haveI:=h _ (List.getLast_mem (l:=a::t) (by simp))
    subst hg
    exact BQ.mono (inferInstance:BQ ((a::t).getLast (by simp)+1) _) (by omega)
def mtQ(a:LnQ)(t:List LnQ):List Rat:=t.filterMap fun b=>if crossI a b=0 then none else some (ace a b).x
theorem al7(a:LnQ)(t:List LnQ):xsQ (a::t)=(if a.b=0 then [a.base.x] else [])++(mtQ a t++xsQ t):=rfl
theorem azU(a:LnQ)(t:List LnQ):(mtQ a t).length≤t.length:=List.length_filterMap_le _ _
theorem aoB: ∀l:List LnQ,(xsQ l).length≤l.length*(l.length+1)
 |[]=>Nat.le_refl _
 |a::t=>by
  have h1:=aoB t
  have h2:=azU a t
  have h3:(if a.b=0 then [a.base.x] else []).length≤1:=by split<;>simp
  rw[al7,List.length_append,List.length_append,List.length_cons]
  have e:(t.length+1)*(t.length+1+1)=t.length*(t.length+1)+2*t.length+2:=by simp only[Nat.add_mul,Nat.mul_add];omega
  rw[e];omega
theorem an3: ∀{l:List LnQ},(∀a∈l,LB a)→ ∀x∈xsQ l,BQ x 900
 |[],_,x,h=>by cases h
 |a::t,hl,x,h=>by
  haveI:=hl a List.mem_cons_self
  have ht: ∀b∈t,LB b:=fun b hb=>hl b (List.mem_cons_of_mem _ hb)
  rw[al7] at h
  rcases List.mem_append.1 h with h|h
  ·split at h
   ·rw[List.mem_singleton] at h;subst h;infer_instance
   ·cases h
  ·rcases List.mem_append.1 h with h|h
   ·obtain⟨b,hb,e⟩:=List.mem_filterMap.1 h
    haveI:=ht b hb
    split at e
    ·cases e
    ·cases e;exact BQ.mono (inferInstance:BQ (ace a b).x 772) (by decide)
   ·exact an3 ht x h
theorem avm(l:List LnQ)(x:Rat):(ysQ l x).length≤l.length:=List.length_filterMap_le _ _
theorem ayf{l:List LnQ}(hl: ∀a∈l,LB a){x:Rat}(hx:BQ x 1900): ∀y∈ysQ l x,BQ y 2400:=fun y hy=>by
 obtain⟨a,ha,hb,rfl⟩:=aDG hy
 haveI:=hl a ha
 unfold yA
 exact BQ.mono (inferInstance:BQ (-(((a.a:Rat)*x+(a.c:Rat))/(a.b:Rat))) _) (by omega)
theorem aqK{l:List LnQ}{k:Nat}{a:LnQ}{x:Rat}(h:l[k]? =some a):ysQ (l.drop k) x=(if a.b=0 then [] else [yA a x])++ysQ (l.drop (k+1)) x:=by
 obtain⟨hk,rfl⟩:=List.getElem?_eq_some_iff.1 h
 rw[List.drop_eq_getElem_cons hk]
 unfold ysQ
 rw[List.filterMap_cons]
 split<;>(rename_i e;split at e<;>simp_all)
theorem apY{t:List LnQ}{k:Nat}{a b:LnQ}(h:t[k]? =some b):mtQ a (t.drop k)=(if crossI a b=0 then [] else [(ace a b).x])++mtQ a (t.drop (k+1)):=by
 obtain⟨hk,rfl⟩:=List.getElem?_eq_some_iff.1 h
 rw[List.drop_eq_getElem_cons hk]
 unfold mtQ
 rw[List.filterMap_cons]
 split<;>(rename_i e;split at e<;>simp_all)
theorem aqp{l:List LnQ}{k:Nat}{a:LnQ}(h:l[k]? =some a):xsQ (l.drop k)=(if a.b=0 then [a.base.x] else [])++(mtQ a (l.drop (k+1))++xsQ (l.drop (k+1))):=by
 obtain⟨hk,rfl⟩:=List.getElem?_eq_some_iff.1 h
 rw[List.drop_eq_getElem_cons hk,al7]
theorem adI{α:Type}{a b c:List α}(h:a++b=c):a.length≤c.length:=by rw[←h,List.length_append];omega
def aA2(l:List LnQ)(x:Rat):List PtQ:=(aaU (acf (ysQ l x))).map fun y=>⟨x,y⟩
theorem arN(l:List LnQ):afc l=(aaU (acf (xsQ l))).flatMap (aA2 l):=rfl
theorem aqA(l:List LnQ)(x:Rat):(aA2 l x).length≤l.length+1:=by
 unfold aA2
 rw[List.length_map,aez]
 have:=agT (ysQ l x)
 have:=avm l x
 omega
theorem amK{α β:Type}(f:α→List β)(m:Nat): ∀l:List α,(∀x,(f x).length≤m)→(l.flatMap f).length≤l.length*m
 |[],_=>by simp
 |a::t,h=>by
  have:=amK f m t h
  have:=h a
  rw[List.flatMap_cons,List.length_append,List.length_cons,Nat.succ_mul];omega
theorem ana{l:List LnQ}(h:l.length≤6000):(aaU (acf (xsQ l))).length≤36006001:=by
 have h1:=aoB l
 have h2:=agT (xsQ l)
 have h3:l.length*(l.length+1)≤6000*6001:=Nat.mul_le_mul h (by omega)
 rw[aez];omega
theorem amR{l:List LnQ}(h:l.length≤6000):(afc l).length≤216072012001:=by
 have h1:=amK (aA2 l) 6001 (aaU (acf (xsQ l))) (fun x=>by have:=aqA l x;omega)
 have h2:(aaU (acf (xsQ l))).length*6001≤36006001*6001:=Nat.mul_le_mul_right _ (ana h)
 rw[arN];omega
theorem at6{α β:Type}{f:α→List β}{l:List α}{k:Nat}{x:α}(h:l[k]? =some x):(l.drop k).flatMap f=f x++(l.drop (k+1)).flatMap f:=by
 obtain⟨hk,rfl⟩:=List.getElem?_eq_some_iff.1 h
 rw[List.drop_eq_getElem_cons hk,List.flatMap_cons]
theorem aux{α β:Type}{f:α→β}{l:List α}{k:Nat}{x:α}(h:l[k]? =some x):(l.drop k).map f=f x::(l.drop (k+1)).map f:=by
 obtain⟨hk,rfl⟩:=List.getElem?_eq_some_iff.1 h
 rw[List.drop_eq_getElem_cons hk,List.map_cons]
theorem ahf{α:Type}(l:List α):l.drop l.length=[]:=by simp
theorem amY{qs:List Rat}{k:Nat}(hb: ∀q∈qs,BQ q k)(hk:k≤100000)(hn:qs.length≤40000000):PF GB Tryz.prog 83 [.sl (qs.map eQ)] (.sl ((acf qs).map eQ)):=by
 have hm':=aau eQ qs
 refine fn (fu:=⟨15⟩) Tryz.func83 J J Tryz.ntmps83 J J (fun C=>?_)
 refine eqF 8 (.d (vI (qs.length:Nat))) rfl (by rw[hm']<;>rfl) ?_
 refine gx rfl<|?_
 refine nlC 3 rfl ?_
 refine lp (X:=List Rat×Nat) (fun⟨xs,i⟩=>[(9, .d (vI (i:Nat))),(3, .d (.sl (xs.map eQ)))]) (fun⟨xs,i⟩=>[]) (fun⟨xs,i⟩=>xs=ai1 aa1 id qs i∧i≤qs.length) (fun⟨xs,i⟩=>qs.length-i) ⟨[],0⟩ rfl ⟨rfl,Nat.zero_le _⟩ (fun _=>rfl) (fun⟨xs,i⟩ hk=>?_)
 try dsimp only at hk⊢
 obtain⟨h1,h2⟩:=hk
 refine br J J J (fun hc10=>?_) (fun hc10=>?_)
 ·
  obtain⟨q,hz⟩: ∃s,qs[i]? =some s:=⟨_,List.getElem?_eq_getElem (by omega)⟩
  haveI hqb:=hb q (List.mem_of_getElem? hz)
  have hxl:=aau eQ xs
  have hxn:xs.length≤i:=by rw[h1];exact ajN
  have hxb: ∀u∈xs,BQ u k:=fun u hu=>by rw[h1] at hu;obtain⟨z,hz,he⟩:=ajD hu;rw[he];exact hb z hz
  refine ix (fu:=⟨11⟩) _ rfl (aay hz) rfl<|?_
  refine mg (fu:=⟨5⟩) (X:=Nat) (fun n=>[(6, .d (vI (n:Nat)))]) (fun n=>[]) (fun n=>akD aa1 q xs=n) [6] [] rfl ?_ (fun _=>rfl) (fun n hnx=>?_)
  ·
   refine gx rfl<|?_
   refine lp (fu:=⟨6⟩) (X:=Nat) (fun n=>[(6, .d (vI (n:Nat)))]) (fun n=>[]) (fun n=>n≤xs.length∧ ∀j (h:j<xs.length),j<n→aa1 xs[j] q<0) (fun n=>xs.length-n) 0 rfl ⟨Nat.zero_le _,fun j _ hj=>absurd hj (by omega)⟩ (fun _=>rfl) (fun n hk=>?_)
   obtain⟨n1,n2⟩:=hk
   refine csS (v2:=fun hg16=>by simp only[aai];kernel_rfl) J J J J (fun hg16=>?_) (fun hg16=>?_)
   ·
    refine ix _ rfl (acq (by omega)) rfl<|cl rfl (q_C (a:=xs[n]'(by omega)) (b:=q) (ha:=hxb _ (List.getElem_mem (by omega))) (hb:=hqb) (by omega) (by omega)) rfl<|?_
    refine br J J J (fun hc25=>?_) (fun hc25=>?_)
    ·
     exact at_ (n+1) ⟨⟨by omega,fun j h hj=>by by_cases q:j=n;(subst q;exact hc25);exact n2 j h (by omega)⟩,(by omega)⟩
    ·
     exact at_ n (aen aa1 n1 n2 (fun h=>hc25))
   ·
    exact at_ n (aen aa1 n1 n2 (fun h=>absurd h (by omega)))
  ·
   have hnl:n≤xs.length:=by rw[←hnx];exact ajG _ _ _
   refine csS (v1:=fun hg31=>by simp only[aai];kernel_rfl) J J J J (fun hg31=>?_) (fun hg31=>?_)
   ·
    have hnew: ∀h:n<xs.length,aa1 xs[n] q≠0:=fun h=>absurd h (by omega)
    obtain⟨ys,hys⟩: ∃ys,ys=xs.take n++q::xs.drop n:=⟨_,rfl⟩
    have hin:ad3 aa1 q xs=ys:=by rw[hys];exact acM aa1 hnx hnew
    have hyl:ys.length≤xs.length+1:=by rw[hys];simp;omega
    refine s3 n _ J J J J (abT _) (by rw[hxl];exact hnl) rfl<|ro J J<|sc' n xs.length _ J J (by rw[hxl]) rfl (abT _) hnl (by omega) rfl<|?_
    refine ap _ J J (slD abT _ _ _) rfl<|apf (hv:=by simp only[aai];exact⟨by kernel_rfl,by omega⟩) (ho:=fun _=>⟨slT abT _ _,by simp⟩) (ys.map eQ) rfl (by rw[hys,List.map_append,List.map_cons,List.map_take,List.map_drop,List.take_of_length_le (l:=xs.map eQ) (i:=xs.length) (by simp)];rfl) (slI abT _ _ _ _) rfl<|?_
    exact at_ ⟨ys,i+1⟩ (by dsimp only;exact⟨⟨by rw[ab8 hz,←h1];exact hin.symm,by omega⟩,(by omega)⟩)
   ·
    refine ix _ rfl (acq (by omega)) rfl<|cl rfl (q_C (a:=xs[n]'(by omega)) (b:=q) (ha:=hxb _ (List.getElem_mem (by omega))) (hb:=hqb) (by omega) (by omega)) rfl<|?_
    refine br J J J (fun hc40=>?_) (fun hc40=>?_)
    ·
     have hnew: ∀h:n<xs.length,aa1 xs[n] q≠0:=fun h=>hc40
     obtain⟨ys,hys⟩: ∃ys,ys=xs.take n++q::xs.drop n:=⟨_,rfl⟩
     have hin:ad3 aa1 q xs=ys:=by rw[hys];exact acM aa1 hnx hnew
     have hyl:ys.length≤xs.length+1:=by rw[hys];simp;omega
     refine s3 n _ J J J J (abT _) (by rw[hxl];exact hnl) rfl<|ro J J<|sc' n xs.length _ J J (by rw[hxl]) rfl (abT _) hnl (by omega) rfl<|?_
     refine ap _ J J (slD abT _ _ _) rfl<|apf (hv:=by simp only[aai];exact⟨by kernel_rfl,by omega⟩) (ho:=fun _=>⟨slT abT _ _,by simp⟩) (ys.map eQ) rfl (by rw[hys,List.map_append,List.map_cons,List.map_take,List.map_drop,List.take_of_length_le (l:=xs.map eQ) (i:=xs.length) (by simp)];rfl) (slI abT _ _ _ _) rfl<|?_
     exact at_ ⟨ys,i+1⟩ (by dsimp only;exact⟨⟨by rw[ab8 hz,←h1];exact hin.symm,by omega⟩,(by omega)⟩)
    ·
     have hin:ad3 aa1 q xs=xs:=afP aa1 hnx (by omega) (Decidable.not_not.1 hc40)
     exact at_ ⟨xs,i+1⟩ (by dsimp only;exact⟨⟨by rw[ab8 hz,←h1];exact hin.symm,by omega⟩,(by omega)⟩)
 ·
  have hfin:acf qs=xs:=by rw[atR,h1,akh (by omega),List.map_id]
  exact rz rfl (by rw[hfin];rfl)
theorem azf{cuts:List Rat}{k:Nat}(hb: ∀q∈cuts,BQ q k)(hk':k≤100000)(hn:cuts.length≤40000000):PF GB Tryz.prog 82 [.sl (cuts.map eQ)] (.sl ((aaU cuts).map eQ)):=by
 have hm:=aau eQ cuts
 refine fn (fu:=⟨10⟩) Tryz.func82 J J Tryz.ntmps82 J J (fun C=>?_)
 refine eqF 6 (.d (vI (cuts.length:Nat))) rfl (by rw[hm]<;>rfl) ?_
 refine gx rfl<|?_
 refine br J J J (fun hc7=>?_) (fun hc7=>?_)
 ·
  obtain rfl:cuts=[]:=List.eq_nil_of_length_eq_zero (by omega)
  refine rf J J<|?_
  exact rz rfl (by rw[aaU];show DV.sl [_]=DV.sl [_];rw[ao2])
 ·
  obtain⟨a,ct,rfl⟩: ∃a t,cuts=a::t:=by cases cuts with|nil=>exact absurd rfl hc7|cons a t=>exact⟨a,t,rfl⟩
  haveI hab:=hb a List.mem_cons_self
  have hcl:ct.length+1≤40000000:=hn
  refine ix _ J J J<|cl rfl (akj (n:=1) (by decide) (by decide)) rfl<|cl (fu:=⟨0⟩) rfl (ako (a:=a) (b:=((1:Int):Rat)) (by omega) (by omega)) rfl<|?_
  refine eqF 14 (.d (eQ (a-1))) J J ?_
  refine gx rfl<|ro J J<|?_
  refine lp (fu:=⟨6⟩) (X:=Nat) (fun i=>[(4, .d (vI ((i+1:Nat):Int))),(3, .rw 15)]) (fun i=>[(15,some (.b 56 3 (((a-1)::adR ((a::ct).take (i+1))).map eQ) true))]) (fun i=>i≤ct.length) (fun i=>ct.length-i) 0 rfl (Nat.zero_le _) (fun _=>rfl) (fun i hk=>?_)
  have hm2:=aau eQ (a::ct)
  have hml:=afm (a::ct.take i)
  rw[List.length_cons,List.length_take] at hml
  have hml2:=afm (a::ct)
  rw[List.length_cons] at hml2
  refine eqF 18 (.d (vI ((ct.length+1:Nat):Int))) rfl (by rw[hm2]<;>rfl) ?_
  refine gx rfl<|?_
  refine br (fu2:=⟨11⟩) J J J (fun hc19=>?_) (fun hc19=>?_)
  ·
   obtain⟨u,hu⟩: ∃s,(a::ct)[i]? =some s:=⟨_,List.getElem?_eq_getElem (by simp;omega)⟩
   obtain⟨w,hw⟩: ∃s,(a::ct)[i+1]? =some s:=⟨_,List.getElem?_eq_getElem (by simp;omega)⟩
   haveI:=hb u (List.mem_of_getElem? hu)
   haveI:=hb w (List.mem_of_getElem? hw)
   refine ix _ rfl (by rw[show((((i+1:Nat):Int))-1).toNat=i by omega,List.getElem?_map,hu];rfl) rfl<|ix _ rfl (by rw[Int.toNat_natCast,List.getElem?_map,hw];rfl) rfl<|?_
   refine cl rfl (awK (a:=u) (b:=w) (by omega) (by omega)) rfl<|rf J J<|ap (hv:=by simp only[aai];exact⟨by kernel_rfl,by omega⟩) (((a-1)::adR ((a::ct).take (i+1+1))).map eQ) rfl (by rw[ajn hu hw,←List.cons_append,List.map_append];rfl) (abT [(u+w)/2]) rfl<|?_
   refine rnE 34 15 rfl ?_
   exact at_ (i+1) ⟨(by omega),(by omega)⟩
  ·
   obtain rfl:i=ct.length:=by omega
   obtain⟨z,hz⟩: ∃s,(a::ct)[ct.length]? =some s:=⟨_,List.getElem?_eq_getElem (by simp)⟩
   haveI:=hb z (List.mem_of_getElem? hz)
   rw[show(a::ct).take (ct.length+1)=a::ct from List.take_length (l:=a::ct)]
   refine eqF 38 (.d (vI ((ct.length+1:Nat):Int))) rfl (by rw[hm2]<;>rfl) ?_
   refine gx rfl<|ix _ rfl (by rw[show((((ct.length+1:Nat):Int))-1).toNat=ct.length by omega,List.getElem?_map,hz];rfl) rfl<|cl rfl (akj (n:=1) (by decide) (by decide)) rfl<|?_
   refine cl rfl (aeh (a:=z) (b:=((1:Int):Rat)) (by omega) (by omega)) rfl<|rf J J<|ap ((aaU (a::ct)).map eQ) rfl (by rw[aon hz,←List.cons_append,List.map_append];rfl) (abT [z+1]) rfl<|?_
   refine fzE 45 rfl ?_
   exact rz J J
theorem azP{l:List LnQ}(hb: ∀a∈l,LB a)(ho: ∀a∈l,a.Ne)(hn:l.length≤6000):PF GB Tryz.prog 31 [.sl (l.map eL)] (.sl ((afc l).map eP)):=by
 have hbl:=hb
 have hml:=aau eL l
 have htot:=amR hn
 have hgl:=ana hn
 have hxl:=aoB l
 have hxl2:l.length*(l.length+1)≤6000*6001:=Nat.mul_le_mul hn (by omega)
 refine fn (fu:=⟨15⟩) Tryz.func31 J J Tryz.ntmps31 J J (fun C=>?_)
 refine eqF 19 (.d (vI (l.length:Nat))) rfl (by rw[List.length_map]<;>rfl) ?_
 refine gx rfl<|?_
 refine nr 3 3 56 3 J J J ?_
 refine lp (X:=List Rat×Nat) (fun⟨cur,i⟩=>[(20, .d (vI (i:Nat))),(3, .rw 3)]) (fun⟨cur,i⟩=>[(3,some (.b 56 3 (cur.map eQ) true))]) (fun⟨cur,i⟩=>cur++xsQ (l.drop i)=xsQ l∧i≤l.length) (fun⟨cur,i⟩=>l.length-i) ⟨[],0⟩ rfl ⟨by simp,Nat.zero_le _⟩ (fun _=>rfl) (fun⟨cur,i⟩ hk=>?_)
 try dsimp only at hk⊢
 obtain⟨h1,h2⟩:=hk
 have hcl:=adI h1
 have hcm:=aau eQ cur
 refine br (fu2:=⟨0⟩) J J J (fun hc21=>?_) (fun hc21=>?_)
 ·
  obtain⟨a,ha⟩: ∃s,l[i]? =some s:=⟨_,List.getElem?_eq_getElem (by omega)⟩
  haveI hab:=hb a (List.mem_of_getElem? ha)
  have hao:=ho a (List.mem_of_getElem? ha)
  refine ix (fu:=⟨7⟩) _ rfl (aay ha) rfl<|?_
  refine mg (X:=List Rat) (fun cur1=>[(3, .rw 3)]) (fun cur1=>[(3,some (.b 56 3 (cur1.map eQ) true))]) (fun cur1=>cur1++(mtQ a ((l.drop (i+1)).drop 0)++xsQ (l.drop (i+1)))=xsQ l) [3] [3] rfl ?_ (fun _=>rfl) (fun cur1 hc1=>?_)
  ·
   refine gx rfl<|cl rfl (ak6 (z:=a.b)) rfl<|?_
   refine br J J J (fun hc28=>?_) (fun hc28=>?_)
   ·
    refine cl rfl (aq4 (l:=a) hao) rfl<|rf J J<|ap ((cur++[a.base.x]).map eQ) rfl (by rw[List.map_append];rfl) (abT [_]) rfl<|?_
    refine rnE 34 3 rfl ?_
    exact at_ (cur++[a.base.x]) (by rw[←h1,aqp ha,if_pos (Int.sign_eq_zero_iff_zero.1 hc28)];simp)
   ·
    exact at_ cur (by rw[←h1,aqp ha,if_neg (fun e=>hc28 (Int.sign_eq_zero_iff_zero.2 e))];simp)
  ·
   have hcl1:=adI hc1
   have hdl:(l.drop (i+1)).length≤6000:=by rw[List.length_drop];omega
   have hcm1:=aau eQ cur1
   refine sc' (fu:=⟨1⟩) (i+1) l.length ((l.drop (i+1)).map eL) J J (by rw[hml]) (by rw[List.take_of_length_le (by rw[hml];exact Nat.le_refl _),List.map_drop]) (acl l) (by omega) (by rw[hml];exact Nat.le_refl _) rfl<|?_
   refine eqF 39 (.d (vI ((l.drop (i+1)).length:Nat))) rfl (by rw[List.length_map]<;>rfl) ?_
   refine gx rfl<|?_
   refine lp (X:=List Rat×Nat) (fun⟨cur2,j⟩=>[(40, .d (vI (j:Nat))),(3, .rw 3)]) (fun⟨cur2,j⟩=>[(3,some (.b 56 3 (cur2.map eQ) true))]) (fun⟨cur2,j⟩=>cur2++(mtQ a ((l.drop (i+1)).drop j)++xsQ (l.drop (i+1)))=xsQ l∧j≤(l.drop (i+1)).length) (fun⟨cur2,j⟩=>(l.drop (i+1)).length-j) ⟨cur1,0⟩ rfl ⟨hc1,Nat.zero_le _⟩ (fun _=>rfl) (fun⟨cur2,j⟩ hk=>?_)
   try dsimp only at hk⊢
   obtain⟨j1,j2⟩:=hk
   have hcl2:=adI j1
   have hcm2:=aau eQ cur2
   refine br J J J (fun hc41=>?_) (fun hc41=>?_)
   ·
    obtain⟨b,hb⟩: ∃s,(l.drop (i+1))[j]? =some s:=⟨_,List.getElem?_eq_getElem (by omega)⟩
    haveI hbb:=hbl b (List.mem_of_mem_drop (List.mem_of_getElem? hb))
    refine ix _ rfl (aay hb) rfl<|cl rfl (ash (l:=a) (m:=b)) rfl<|?_
    refine bd J J J (fun hc50=>?_) (fun hc50=>?_)
    ·
     refine rf J J<|ap ((cur2++[(ace a b).x]).map eQ) rfl (by rw[List.map_append];rfl) (abT [_]) rfl<|?_
     refine rnE 55 3 rfl ?_
     exact at_ ⟨cur2++[(ace a b).x],j+1⟩ (by dsimp only;exact⟨⟨by rw[←j1,apY hb,if_neg hc50];simp,by omega⟩,(by omega)⟩)
    ·
     exact at_ ⟨cur2,j+1⟩ (by dsimp only;exact⟨⟨by rw[←j1,apY hb,if_pos (Decidable.not_not.1 hc50)];simp,by omega⟩,(by omega)⟩)
   ·
    obtain rfl:j=(l.drop (i+1)).length:=by omega
    exact at_ ⟨cur2,i+1⟩ (by dsimp only;exact⟨⟨by rw[ahf] at j1;exact j1,by omega⟩,(by omega)⟩)
 ·
  obtain rfl:i=l.length:=by omega
  obtain rfl:cur=xsQ l:=by rw[ahf] at h1;simpa[xsQ] using h1
  refine fzC 3 rfl ?_
  refine gx rfl<|cl rfl (amY (qs:=xsQ l) (k:=900) (an3 hb) (by decide) (by omega)) rfl<|cl (fu:=⟨1⟩) rfl (azf (cuts:=acf (xsQ l)) (k:=900) (fun q hq=>an3 hb q (abM.1 hq)) (by decide) (by have:=agT (xsQ l);omega)) rfl<|?_
  refine eqF 61 (.d (vI ((aaU (acf (xsQ l))).length:Nat))) rfl (by rw[List.length_map]<;>rfl) ?_
  refine gx rfl<|?_
  refine nr 10 10 58 6 J J J ?_
  refine lp (X:=List PtQ×Nat) (fun⟨pts,g⟩=>[(62, .d (vI (g:Nat))),(10, .rw 10)]) (fun⟨pts,g⟩=>[(10,some (.b 58 6 (pts.map eP) true))]) (fun⟨pts,g⟩=>pts++((aaU (acf (xsQ l))).drop g).flatMap (aA2 l)=afc l∧g≤(aaU (acf (xsQ l))).length) (fun⟨pts,g⟩=>(aaU (acf (xsQ l))).length-g) ⟨[],0⟩ rfl ⟨rfl,Nat.zero_le _⟩ (fun _=>rfl) (fun⟨pts,g⟩ hk=>?_)
  try dsimp only at hk⊢
  obtain⟨g1,g2⟩:=hk
  have hpl:=adI g1
  have hpm:=aau eP pts
  refine br J J J (fun hc63=>?_) (fun hc63=>?_)
  ·
   obtain⟨x,hx⟩: ∃s,(aaU (acf (xsQ l)))[g]? =some s:=⟨_,List.getElem?_eq_getElem (by omega)⟩
   haveI hxb:BQ x 1900:=alu (k:=900) (fun q hq=>an3 hb q (abM.1 hq)) x (List.mem_of_getElem? hx)
   refine ix (fu:=⟨15⟩) _ rfl (aay hx) rfl<|?_
   refine eqF 67 (.d (vI (l.length:Nat))) rfl (by rw[List.length_map]<;>rfl) ?_
   refine gx rfl<|?_
   refine nr 13 13 56 3 J J J ?_
   refine lp (X:=List Rat×Nat) (fun⟨ys,j⟩=>[(68, .d (vI (j:Nat))),(13, .rw 13)]) (fun⟨ys,j⟩=>[(13,some (.b 56 3 (ys.map eQ) true))]) (fun⟨ys,j⟩=>ys++ysQ (l.drop j) x=ysQ l x∧j≤l.length) (fun⟨ys,j⟩=>l.length-j) ⟨[],0⟩ rfl ⟨rfl,Nat.zero_le _⟩ (fun _=>rfl) (fun⟨ys,j⟩ hk=>?_)
   try dsimp only at hk⊢
   obtain⟨y1,y2⟩:=hk
   have hyl:=adI y1
   have hym:=aau eQ ys
   have hyt:=avm l x
   refine br (fu2:=⟨0⟩) J J J (fun hc69=>?_) (fun hc69=>?_)
   ·
    obtain⟨a,ha⟩: ∃s,l[j]? =some s:=⟨_,List.getElem?_eq_getElem (by omega)⟩
    haveI hala:=hb a (List.mem_of_getElem? ha)
    refine ix _ rfl (aay ha) rfl<|cl rfl (ak6 (z:=a.b)) rfl<|?_
    refine br J J J (fun hc75=>?_) (fun hc75=>?_)
    ·
     have hab: ¬a.b=0:=fun e=>hc75 (Int.sign_eq_zero_iff_zero.2 e)
     have habR:((a.b:Int):Rat)≠0:=fun e=>hab (Rat.intCast_eq_zero_iff.1 e)
     refine cl rfl (aiL (z:=a.a)) rfl<|cl rfl (abi (a:=(a.a:Rat)) (b:=x)) rfl<|cl rfl (aiL (z:=a.c)) rfl<|cl rfl (aeh (a:=(a.a:Rat)*x) (b:=(a.c:Rat))) rfl<|?_
     refine cl rfl (aiL (z:=a.b)) rfl<|cl rfl (aj2 (a:=(a.a:Rat)*x+(a.c:Rat)) (b:=(a.b:Rat)) habR) rfl<|cl rfl (aic (q:=((a.a:Rat)*x+(a.c:Rat))/(a.b:Rat))) rfl<|?_
     refine rf J J<|ap (hv:=by simp only[aai];exact⟨by kernel_rfl,by omega⟩) ((ys++[yA a x]).map eQ) rfl (by rw[List.map_append];rfl) (abT [_]) rfl<|?_
     refine rnE 92 13 rfl ?_
     exact at_ ⟨ys++[yA a x],j+1⟩ (by dsimp only;exact⟨⟨by rw[←y1,aqK ha,if_neg hab];simp,by omega⟩,(by omega)⟩)
    ·
     have hab:a.b=0:=Int.sign_eq_zero_iff_zero.1 (Decidable.not_not.1 hc75)
     exact at_ ⟨ys,j+1⟩ (by dsimp only;exact⟨⟨by rw[←y1,aqK ha,if_pos hab];simp,by omega⟩,(by omega)⟩)
   ·
    obtain rfl:j=l.length:=by omega
    obtain rfl:ys=ysQ l x:=by rw[ahf] at y1;simpa[ysQ] using y1
    have hyb:=ayf hb hxb
    have hgy:(aaU (acf (ysQ l x))).length≤6001:=by have:=aqA l x;unfold aA2 at this;rw[List.length_map] at this;omega
    refine fzC 13 rfl ?_
    refine gx rfl<|cl rfl (amY (qs:=ysQ l x) (k:=2400) hyb (by decide) (by omega)) rfl<|cl (fu:=⟨1⟩) rfl (azf (cuts:=acf (ysQ l x)) (k:=2400) (fun q hq=>hyb q (abM.1 hq)) (by decide) (by have:=agT (ysQ l x);omega)) rfl<|?_
    refine eqF 97 (.d (vI ((aaU (acf (ysQ l x))).length:Nat))) rfl (by rw[List.length_map]<;>rfl) ?_
    refine gx rfl<|?_
    refine lp (X:=List PtQ×Nat) (fun⟨pts2,j⟩=>[(98, .d (vI (j:Nat))),(10, .rw 10)]) (fun⟨pts2,j⟩=>[(10,some (.b 58 6 (pts2.map eP) true))]) (fun⟨pts2,j⟩=>pts2++(((aaU (acf (ysQ l x))).drop j).map (fun y=>(⟨x,y⟩:PtQ))++((aaU (acf (xsQ l))).drop (g+1)).flatMap (aA2 l))=afc l∧j≤(aaU (acf (ysQ l x))).length) (fun⟨pts2,j⟩=>(aaU (acf (ysQ l x))).length-j) ⟨pts,0⟩ rfl ⟨by rw[at6 hx] at g1;exact g1,Nat.zero_le _⟩ (fun _=>rfl) (fun⟨pts2,j⟩ hk=>?_)
    try dsimp only at hk⊢
    obtain⟨w1,w2⟩:=hk
    have hpl2:=adI w1
    have hpm2:=aau eP pts2
    refine br J J J (fun hc99=>?_) (fun hc99=>?_)
    ·
     obtain⟨y,hy⟩: ∃s,(aaU (acf (ysQ l x)))[j]? =some s:=⟨_,List.getElem?_eq_getElem (by omega)⟩
     refine ix _ rfl (aay hy) rfl<|rf J J<|ap ((pts2++[(⟨x,y⟩:PtQ)]).map eP) rfl (by rw[List.map_append];rfl) (afw [(⟨x,y⟩:PtQ)]) rfl<|?_
     refine rnE 107 10 rfl ?_
     exact at_ ⟨pts2++[⟨x,y⟩],j+1⟩ (by dsimp only;exact⟨⟨by rw[←w1,aux hy];simp,by omega⟩,(by omega)⟩)
    ·
     obtain rfl:j=(aaU (acf (ysQ l x))).length:=by omega
     exact at_ ⟨pts2,g+1⟩ (by dsimp only;exact⟨⟨by rw[ahf] at w1;exact w1,by omega⟩,(by omega)⟩)
  ·
   obtain rfl:g=(aaU (acf (xsQ l))).length:=by omega
   obtain rfl:pts=afc l:=by rw[ahf] at g1;simpa using g1
   refine fzE 10 rfl ?_
   exact rz J J
theorem aoq{b:Bool}:PR GB Tryz.prog 53 [eT (Tr.leaf b)] 6 88 ((Tr.leaf b).lns.map eL):=by
 refine fnR (fu:=⟨11⟩) Tryz.func53 J J Tryz.ntmps53 J J (fun C hmb=>?_)
 refine knT J J J<|?_
 exact aGO J J J
theorem anf{l:LnQ}{x y:Tr}(hs:(Tr.node l x y).size≤100000)(ihx:PR GB Tryz.prog 53 [eT x] 6 88 (x.lns.map eL))(ihy:PR GB Tryz.prog 53 [eT y] 6 88 (y.lns.map eL)):PR GB Tryz.prog 53 [eT (Tr.node l x y)] 6 88 ((Tr.node l x y).lns.map eL):=by
 have hsx:=adM x
 have hsy:=adM y
 have hsz:(Tr.node l x y).size=1+x.size+y.size:=rfl
 refine fnR (fu:=⟨11⟩) Tryz.func53 J J Tryz.ntmps53 J J (fun C hmb=>?_)
 refine knF J J J<|ro J J<|cr rfl ihx rfl<|ap (hbd:=by simp only[List.length_map,List.length_cons,List.length_nil];omega) ((l::x.lns).map eL) rfl (by rw[List.map_cons];rfl) (acl _) rfl<|?_
 refine cr rfl ihy rfl<|ap (hbd:=by simp only[List.length_map,List.length_cons,List.length_nil];omega) ((l::(x.lns++y.lns)).map eL) rfl (by rw[List.map_cons,List.map_cons,List.map_append];rfl) (acl _) rfl<|?_
 exact rzR J J J J
theorem ajR: ∀{t:Tr},t.size≤100000→PR GB Tryz.prog 53 [eT t] 6 88 (t.lns.map eL)
 | .leaf _,_=>aoq
 | .node l x y,h=>anf h (ajR (by have:(Tr.node l x y).size=1+x.size+y.size:=rfl;omega)) (ajR (by have:(Tr.node l x y).size=1+x.size+y.size:=rfl;omega))
def atO:Tr→PtQ→Bool
 | .leaf _,_=>true
 | .node l x y,p=>if(l.value p).num.sign=1 then atO x p else if(l.value p).num.sign= -1 then atO y p else false
theorem aCc{t:Tr}{p:PtQ}{i:Nat}[hp:BPt p i](hb:t.all LB)(hi:i≤400000:=by decide):PF GB Tryz.prog 34 [eT t,eP p] (.tp [vB (atQ t p),vB (atO t p)]):=by
 refine fn Tryz.func34 J J Tryz.ntmps34 J J (fun C=>?_)
 refine lp (fu:=⟨3⟩) (X:=Tr) (fun s=>[(0, .d (eT s))]) (fun s=>[]) (fun s=>atQ s p=atQ t p∧atO s p=atO t p∧s.all LB) (fun s=>s.size) t rfl ⟨rfl,rfl,hb⟩ (fun _=>rfl) (fun s hk=>?_)
 obtain⟨h1,h2,hb2⟩:=hk
 rcases s with b|⟨l,x,y⟩
 ·
  have hA:atQ t p=b:=h1.symm
  have hO:atO t p=true:=h2.symm
  refine gx (fu:=⟨3⟩) rfl<|knT J J J<|?_
  exact rz rfl (by rw[hA,hO];rfl)
 ·
  have hAn:=h1.symm
  have hOn:=h2.symm
  rw[atQ] at hAn
  rw[atO] at hOn
  haveI:=hb2.1
  refine gx (fu:=⟨3⟩) rfl<|knF J J J<|cl rfl (aiO (l:=l) (p:=p) (i:=i) hi) rfl<|?_
  refine br J J J (fun hc17=>?_) (fun hc17=>?_)
  ·
   exact at_ x ⟨⟨by rw[hAn,if_pos hc17],by rw[hOn,if_pos hc17],hb2.2.1⟩,(by simp only[Tr.size];omega)⟩
  ·
   refine br J J J (fun hc23=>?_) (fun hc23=>?_)
   ·
    exact at_ y ⟨⟨by rw[hAn,if_neg hc17,if_pos hc23],by rw[hOn,if_neg hc17,if_pos hc23],hb2.2.2⟩,(by simp only[Tr.size];omega)⟩
   ·
    exact rz rfl (by rw[hAn,hOn,if_neg hc17,if_neg hc23,if_neg hc17,if_neg hc23];rfl)
theorem ajm(ls:List LnQ):(adh ls).length≤ls.length:=by
 have:=agz agt (ls.map LnQ.canon) []
 unfold adh aid
 rw[List.length_map,List.length_nil] at this
 omega
theorem axE{l:List LnQ}(hl: ∀a∈l,LB a): ∀p∈afc l,BPt p 4900:=fun p hp=>by
 obtain⟨h1,h2⟩:=aiQ.1 hp
 have hx:BQ p.x 1900:=alu (k:=900) (fun q hq=>an3 hl q (abM.1 hq)) _ h1
 have hy:BQ p.y 4900:=alu (k:=2400) (fun q hq=>ayf hl hx q (abM.1 hq)) _ h2
 exact⟨hx.mono (by decide),hy⟩
theorem apo{ls:List LnQ}(h: ∀l∈ls,LB l): ∀l∈adh ls,LB l:=fun l hl=>by
 obtain⟨x,hx,rfl⟩:=aeC hl
 haveI:=h x hx
 infer_instance
theorem aAf{ls:List LnQ}(h: ∀l∈ls,l.ok): ∀l∈adh ls,l.Ne:=fun l hl=>by
 obtain⟨x,hx,rfl⟩:=aeC hl
 exact(amq (h x hx)).ne
structure Two (a b:Tr):Prop where
 ga:a.gd
 gb:b.gd
 sa:a.size≤3000
 sb:b.size≤3000
theorem Two.lb{a b:Tr}(h:Two a b): ∀l∈a.lns++b.lns,LB l:=fun l hl=>(List.mem_append.1 hl).elim (act.1 h.ga.lb l) (act.1 h.gb.lb l)
theorem Two.ok{a b:Tr}(h:Two a b): ∀l∈a.lns++b.lns,l.ok:=fun l hl=>(List.mem_append.1 hl).elim (adk h.ga.ok l) (adk h.gb.ok l)
theorem Two.len{a b:Tr}(h:Two a b):(a.lns++b.lns).length≤6000:=by rw[List.length_append,adM,adM];have:=h.sa;have:=h.sb;omega
theorem Two.fl{a b:Tr}(h:Two a b):(fcs a b).length≤216072012001:=amR (Nat.le_trans (ajm _) h.len)
theorem Two.fb{a b:Tr}(h:Two a b): ∀p∈fcs a b,BPt p 4900:=axE (apo h.lb)
theorem aCG{a b:Tr}{k:Nat}{p:PtQ}(hz:(fcs a b)[k]? =some p)(h:atQ a p≠atQ b p):eqR a b=false:=by
 rw[eqR,List.all_eq_false]
 exact⟨p,List.mem_of_getElem? hz,by simpa using h⟩
theorem aBo{a b:Tr}(h: ∀j p,(fcs a b)[j]? =some p→j<(fcs a b).length→atQ a p=atQ b p):eqR a b=true:=by
 rw[eqR,List.all_eq_true]
 intro p hp
 obtain⟨j,hj,rfl⟩:=List.getElem_of_mem hp
 simpa using h j _ (List.getElem?_eq_getElem hj) hj
theorem aco{a b:Tr}(h:Two a b):PF GB Tryz.prog 13 [eT a,eT b] (vB (eqR a b)):=by
 have hsa:=h.sa
 have hsb:=h.sb
 have hll:=h.len
 have hfl:=h.fl
 have hla:=adM a
 have hlb:=adM b
 refine fn Tryz.func13 J J Tryz.ntmps13 J J (fun C=>?_)
 refine cr rfl (ajR (t:=a) (by omega)) rfl<|cr rfl (ajR (t:=b) (by omega)) rfl<|ap (hbd:=by simp only[List.length_map];omega) ((a.lns++b.lns).map eL) rfl (by rw[List.map_append]) (acl _) rfl<|?_
 refine fz 15 J J<|cl rfl (ahx (ls:=a.lns++b.lns) h.lb (by omega)) rfl<|cl (fu:=⟨1⟩) rfl (azP (l:=adh (a.lns++b.lns)) (apo h.lb) (aAf h.ok) (Nat.le_trans (ajm _) hll)) rfl<|?_
 refine eqF 18 (.d (vI ((fcs a b).length:Nat))) rfl (by rw[List.length_map];rfl) ?_
 refine gx rfl<|?_
 refine lp (X:=Nat) (fun k=>[(19, .d (vI (k:Nat)))]) (fun k=>[]) (fun k=>k≤(fcs a b).length∧ ∀j q,(fcs a b)[j]? =some q→j<k→atQ a q=atQ b q) (fun k=>(fcs a b).length-k) 0 rfl ⟨Nat.zero_le _,fun j q _ hj=>absurd hj (by omega)⟩ (fun _=>rfl) (fun k hk=>?_)
 obtain⟨k1,k2⟩:=hk
 refine br J J J (fun hc20=>?_) (fun hc20=>?_)
 ·
  obtain⟨p,hz⟩: ∃s,(fcs a b)[k]? =some s:=⟨_,List.getElem?_eq_getElem (by omega)⟩
  haveI hpb:=h.fb p (List.mem_of_getElem? hz)
  refine ix _ rfl (aay (l:=fcs a b) hz) rfl<|cl rfl (aCc (t:=a) (p:=p) (i:=4900) h.ga.lb) rfl<|cl rfl (aCc (t:=b) (p:=p) (i:=4900) h.gb.lb) rfl<|?_
  refine bb J J J (fun hc37=>?_) (fun hc37=>?_)
  ·
   exact rz rfl (by rw[aCG hz (by simpa using hc37)];rfl)
  ·
   exact at_ (k+1) ⟨⟨by omega,fun j q hq hj=>by by_cases e:j=k;(subst e;rw[hz] at hq;cases hq;simpa using hc37);exact k2 j q hq (by omega)⟩,(by omega)⟩
 ·
  exact rz rfl (by rw[aBo fun j q hq hj=>k2 j q hq (by omega)];rfl)
def f1R(x y:Bool):Bool:=x&&!y
def f2R(x y:Bool):Bool:=y&&!x
def f3R(x y:Bool):Bool:=x&&y
def f4R(x y:Bool):Bool:=!x&&!y
def anK(f:Bool→Bool→Bool)(a b:Tr)(k:Nat):Bool:=((fcs a b).take k).any fun p=>f (atQ a p) (atQ b p)
theorem aCw{p:PtQ}:PF GB Tryz.prog 129 [eP p] (eP (ahT p)):=by
 refine fn Tryz.func129 J J Tryz.ntmps129 J J (fun C=>?_)
 refine cl rfl aic rfl<|cl rfl aic rfl<|?_
 exact rz J J
theorem aAL{p q:Rat}{i j:Nat}[hp:BQ p i][hq:BQ q j](hi:i≤100000000:=by decide):PF GB Tryz.prog 56 [eR p,eR q] (vB (decide (p=q))):=by
 refine fn Tryz.func56 J J Tryz.ntmps56 J J (fun C=>?_)
 refine cl rfl (at7 (a:=p.num) (b:=q.num) (i:=i) (j:=j) (by omega)) rfl<|?_
 refine csd 10 J J J (fun hg10=>?_) (fun hg10=>?_)
 ·
  refine cl rfl (aph (a:=p.den) (b:=q.den) (i:=i) (j:=j) (by omega)) rfl<|?_
  exact rz rfl (by rw[show decide (p=q)=decide (p.den=q.den) from decide_eq_decide.2 ⟨fun e=>by rw[e],fun e=>Rat.ext hg10 e⟩]<;>rfl)
 ·
  exact rz rfl (by rw[decide_eq_false (fun e:p=q=>hg10 (by rw[e]))]<;>rfl)
theorem anl{q:Rat}{i:Nat}[h:BQ q i](hi:i≤20000:=by decide):PF GB Tryz.prog 57 [eR q] (.v (.bool true)):=by
 have hdl:0<((dg q.den).map dU).length:=by rw[List.length_map];have:=mt ab2.1 (Nat.ne_of_gt q.den_pos);omega
 refine fn Tryz.func57 J J Tryz.ntmps57 J J (fun C=>?_)
 refine cl rfl (aFO (q:=q) (i:=i) (by omega)) rfl<|cl rfl (asX (q:=q) (i:=i) (by omega)) rfl<|cl (fu:=⟨0⟩) rfl (aAL (p:=q) (q:=q) (i:=i) (j:=i) (by omega)) rfl<|?_
 refine knT (fu:=⟨3⟩) rfl (by show some (decide _)=some true;rw[decide_eq_true rfl]) rfl<|knT rfl (by show some (decide _)=some true;rw[decide_eq_true (by omega)]) rfl<|?_
 exact rz J J
theorem ajh{p:PtQ}{i:Nat}[h:BPt p i](hi:i≤20000:=by decide):PF GB Tryz.prog 17 [ePt p] (.v (.bool true)):=by
 refine fn Tryz.func17 J J Tryz.ntmps17 J J (fun C=>?_)
 refine cl (fu:=⟨0⟩) rfl (anl (q:=p.x) (i:=i) hi) rfl<|?_
 refine kbT 5 rfl ?_
 refine gx rfl<|cl rfl (anl (q:=p.y) (i:=i) hi) rfl<|?_
 exact rz J J
theorem aAd{t:Tr}(hb:t.all LB)(hs:t.size≤100000):PF GB Tryz.prog 33 [eT t] (.sl ((adh t.lns).map eL)):=by
 refine fn Tryz.func33 J J Tryz.ntmps33 J J (fun C=>?_)
 refine cr rfl (ajR hs) rfl<|fz 4 J J<|cl rfl (ahx (act.1 hb) (by rw[adM];exact hs)) rfl<|?_
 exact rz J J
theorem awj{t:Tr}{p v:PtQ}{i j:Nat}[hp:BPt p i][hv:BPt v j](hb:t.all LB)(hi:i≤200000:=by decide)(hj:j≤200000:=by decide):PF GB Tryz.prog 59 [eT t,eP p,eP v] (.tp [vB (amD t p v).1,vB (amD t p v).2]):=by
 refine fn Tryz.func59 J J Tryz.ntmps59 J J (fun C=>?_)
 refine lp (fu:=⟨3⟩) (X:=Tr) (fun s=>[(0, .d (eT s))]) (fun s=>[]) (fun s=>amD s p v=amD t p v∧s.all LB) (fun s=>s.size) t rfl ⟨rfl,hb⟩ (fun _=>rfl) (fun s hk=>?_)
 obtain⟨h1,hb2⟩:=hk
 rcases s with b|⟨l,x,y⟩
 ·
  have hA:amD t p v=(b,true):=h1.symm
  refine gx (fu:=⟨3⟩) rfl<|knT J J J<|?_
  exact rz rfl (by rw[hA];rfl)
 ·
  have hAn:=h1.symm
  rw[amD] at hAn
  haveI:=hb2.1
  refine gx (fu:=⟨3⟩) rfl<|knF J J J<|cl (fu:=⟨4⟩) rfl (aiO (l:=l) (p:=p) (i:=i) (by omega)) rfl<|?_
  refine mg (X:=Int) (fun s8=>[(8, .d (vI s8))]) (fun s8=>[]) (fun s8=>s8=(if(l.value p).num.sign=0 then(l.dir.cross v).num.sign else(l.value p).num.sign)) [8] [] rfl ?_ (fun _=>rfl) (fun s8 hs8=>?_)
  ·
   refine gx rfl<|?_
   refine br J J J (fun hc21=>?_) (fun hc21=>?_)
   ·
    refine cl rfl (ajO (l:=l)) rfl<|cl rfl (agm (p:=l.dir) (q:=v) (by omega) (by omega)) rfl<|cl rfl q_S rfl<|?_
    exact at_ (l.dir.cross v).num.sign (if_pos hc21).symm
   ·
    exact at_ (l.value p).num.sign (if_neg hc21).symm
  ·
   rw[←hs8] at hAn
   refine br J J J (fun hc31=>?_) (fun hc31=>?_)
   ·
    exact at_ x ⟨⟨by rw[hAn,hc31];rfl,hb2.2.1⟩,(by simp only[Tr.size];omega)⟩
   ·
    refine br J J J (fun hc37=>?_) (fun hc37=>?_)
    ·
     exact at_ y ⟨⟨by rw[hAn,hc37];rfl,hb2.2.2⟩,(by simp only[Tr.size];omega)⟩
    ·
     exact rz rfl (by rw[hAn];split<;>first|rfl|contradiction)
theorem aDX(m n:Int):eP ⟨(m:Rat),(n:Rat)⟩= .ag [.v (.bool (decide (m<0))),dN m.natAbs, .sl [], .v (.bool (decide (n<0))),dN n.natAbs, .sl []]:=by
 unfold eP dD
 simp only[Rat.num_intCast,Rat.den_intCast,if_true]
 try rfl
def prX(n:Int)(d:Nat):Int:=n*zv false d
theorem al0(n:Int)(d:Nat):(prX n d).natAbs=n.natAbs*d:=by unfold prX;rw[Int.natAbs_mul,aeD]
theorem asg{n:Int}{d:Nat}(hd:0<d):prX n d<0↔n<0:=by
 have e:zv false d=(d:Int):=rfl
 unfold prX
 rw[e]
 constructor
 ·intro h
  by_cases k:n<0
  ·exact k
  ·have:=Int.mul_nonneg (a:=n) (b:=(d:Int)) (by omega) (by omega);omega
 ·intro h
  exact Int.mul_neg_of_neg_of_pos h (by omega)
theorem apG{n:Int}{d g:Nat}(hd:0<d):aif n d g=zv (decide (prX n d<0)) ((prX n d).natAbs/g):=by
 unfold aif zv
 rw[al0]
 by_cases h:n<0
 ·rw[if_pos h,if_pos (decide_eq_true ((asg hd).2 h))]
 ·rw[if_neg h,if_neg (by rw[decide_eq_true_eq];exact fun e=>h ((asg hd).1 e))]
theorem as5{v:PtQ}(h:v.half≠0):acD v=⟨((zv (decide (prX v.x.num v.y.den<0)) ((prX v.x.num v.y.den).natAbs/acw v):Int):Rat),((zv (decide (prX v.y.num v.x.den<0)) ((prX v.y.num v.x.den).natAbs/acw v):Int):Rat)⟩:=by
 unfold acD
 rw[if_neg h,apG v.y.den_pos,apG v.x.den_pos]
theorem asT{v:PtQ}(h:v.half≠0):0<acw v:=by
 unfold acw
 refine Nat.pos_of_ne_zero fun e=>?_
 rw[Nat.gcd_eq_zero_iff] at e
 obtain⟨e1,e2⟩:=e
 have hx:=v.x.den_pos
 have hy:=v.y.den_pos
 have x0:v.x.num=0:=by rcases Nat.mul_eq_zero.1 e1 with q|q;omega;omega
 have y0:v.y.num=0:=by rcases Nat.mul_eq_zero.1 e2 with q|q;omega;omega
 rw[Rat.num_eq_zero] at x0 y0
 rcases abc v with⟨_,q⟩|⟨_,q⟩|⟨q,_⟩
 ·rw[x0,y0] at q;grind
 ·rw[x0,y0] at q;grind
 ·exact h q
theorem arf(v:PtQ):Nat.gcd (prX v.x.num v.y.den).natAbs (prX v.y.num v.x.den).natAbs=acw v:=by rw[al0,al0];rfl
instance BN.prx (n:Int) (d i j:Nat) [h:BI n i] [k:BN d j]:BN (prX n d).natAbs (i+j):=⟨by rw[al0,Nat.pow_add];exact Nat.mul_lt_mul'' h.h k.h⟩
theorem awZ{v:PtQ}{i:Nat}[hv:BPt v i]:BN (acw v) (i+i):=⟨by
 have hX:=(BN.prx v.x.num v.y.den i i).h
 have hY:=(BN.prx v.y.num v.x.den i i).h
 rw[←arf]
 rcases Nat.eq_zero_or_pos (prX v.x.num v.y.den).natAbs with h|h
 ·rw[h,Nat.gcd_zero_left];exact hY
 ·exact Nat.lt_of_le_of_lt (Nat.gcd_le_left _ h) hX⟩
theorem aqC{v:PtQ}{i:Nat}[hv:BPt v i](hz:v.half≠0)(hi:i≤100000:=by decide):PF GB Tryz.prog 133 [eP v] (eP (acD v)):=by
 have hgp:=asT hz
 haveI hgb:=awZ (v:=v) (i:=i)
 refine fn Tryz.func133 J J Tryz.ntmps133 J J (fun C=>?_)
 refine cl (fu:=⟨0⟩) rfl avk rfl<|knF rfl (by show some (decide _)=some false;rw[decide_eq_false hz]) rfl<|cl rfl aeA rfl<|cl rfl (acb (neg:=false) (m:=v.y.den)) rfl<|?_
 refine cl rfl (aki (a:=v.x.num) (b:=zv false v.y.den) (i:=i) (j:=i) (by omega) (by omega)) rfl<|cl rfl aeA rfl<|cl rfl (acb (neg:=false) (m:=v.x.den)) rfl<|?_
 refine cl rfl (aki (a:=v.y.num) (b:=zv false v.x.den) (i:=i) (j:=i) (by omega) (by omega)) rfl<|cl (fu:=⟨0⟩) rfl (ain (a:=(prX v.x.num v.y.den).natAbs) (b:=(prX v.y.num v.x.den).natAbs) (ia:=i+i) (ib:=i+i) (by omega) (by omega)) rfl<|?_
 refine eqF 34 (.d (dN (acw v))) rfl (by rw[arf]) ?_
 refine gx rfl<|cl rfl (ad9 (a:=(prX v.x.num v.y.den).natAbs) (b:=acw v) (ia:=i+i) (ib:=i+i) hgp (by omega) (by omega)) rfl<|cl rfl (ad9 (a:=(prX v.y.num v.x.den).natAbs) (b:=acw v) (ia:=i+i) (ib:=i+i) hgp (by omega) (by omega)) rfl<|?_
 refine cl rfl (acb (neg:=decide ((prX v.x.num v.y.den)<0)) (m:=(prX v.x.num v.y.den).natAbs/acw v)) rfl<|cl rfl (acb (neg:=decide ((prX v.y.num v.x.den)<0)) (m:=(prX v.y.num v.x.den).natAbs/acw v)) rfl<|?_
 exact rz rfl (by rw[as5 hz,aDX];rfl)
def aot(S:List PtQ)(x:PtQ)(R:List PtQ)(k:Nat):List PtQ:=S.take k++x::(S.drop k++R)
theorem anL{S:List PtQ}{m:Nat}(h:m<S.length): ∃A s B,S=A++s::B∧A.length=m∧S.getD m ⟨0,0⟩=s:=⟨S.take m,S[m],S.drop (m+1),by rw[←List.drop_eq_getElem_cons h,List.take_append_drop],by rw[List.length_take];omega,ac2 h⟩
theorem amh{A:List PtQ}{s:PtQ}{B:List PtQ}{x:PtQ}{R:List PtQ}:aot (A++s::B) x R (A.length+1)=A++s::x::(B++R):=by
 have q1:(A++s::B).take (A.length+1)=A++[s]:=by rw[show A++s::B=(A++[s])++B by simp];exact List.take_left' (by simp)
 have q2:(A++s::B).drop (A.length+1)=B:=by rw[show A++s::B=(A++[s])++B by simp];exact List.drop_left' (by simp)
 unfold aot
 rw[q1,q2];simp
theorem ayP(m:Nat):((((m+1:Nat)):Int)-1).toNat=m:=by omega
theorem aox{S:List PtQ}{x:PtQ}{R:List PtQ}{m:Nat}(h:m<S.length):((aot S x R (m+1)).map eP)[((((m+1:Nat)):Int)-1).toNat]? =some (eP (S.getD m ⟨0,0⟩)):=by
 obtain⟨A,s,B,rfl,rfl,e⟩:=anL h
 rw[ayP,e,amh];simp
theorem au5{S:List PtQ}{x:PtQ}{R:List PtQ}{m:Nat}(h:m<S.length):((aot S x R (m+1)).map eP)[(((m+1:Nat)):Int).toNat]? =some (eP x):=by
 obtain⟨A,s,B,rfl,rfl,e⟩:=anL h
 rw[Int.toNat_natCast,amh];simp
def avH(S:List PtQ)(x:PtQ)(R:List PtQ)(m:Nat):List PtQ:=S.take m++x::x::(S.drop (m+1)++R)
theorem aBq{S:List PtQ}{x:PtQ}{R:List PtQ}{m:Nat}(h:m<S.length):((aot S x R (m+1)).map eP).set ((((m+1:Nat)):Int)-1).toNat (eP x)=(avH S x R m).map eP:=by
 obtain⟨A,s,B,rfl,rfl,e⟩:=anL h
 rw[ayP,amh];unfold avH;simp
theorem azA{S:List PtQ}{x:PtQ}{R:List PtQ}{m:Nat}(h:m<S.length):((avH S x R m).map eP)[(((m+1:Nat)):Int).toNat]? =some (eP x):=by
 obtain⟨A,s,B,rfl,rfl,e⟩:=anL h
 rw[Int.toNat_natCast];unfold avH;simp
theorem aAs{S:List PtQ}{x:PtQ}{R:List PtQ}{m:Nat}(h:m<S.length):((avH S x R m).map eP).set (((m+1:Nat)):Int).toNat (eP (S.getD m ⟨0,0⟩))=(aot S x R m).map eP:=by
 obtain⟨A,s,B,rfl,rfl,e⟩:=anL h
 rw[Int.toNat_natCast,e];unfold aot avH;simp
theorem ahl: ∀(ds o:List PtQ),(ds.foldl amE o).length=o.length+ds.length
 |[],o=>rfl
 |x::ds,o=>by rw[List.foldl_cons,ahl ds,aw9,List.length_cons];omega
theorem aru(ds:List PtQ)(x:PtQ):adu (ds++[x])=amE (adu ds) x:=by unfold adu;rw[List.foldl_append];rfl
theorem atA{ds:List PtQ}{y:PtQ}:y∈adu ds↔y∈ds:=by
 have key: ∀(ds o:List PtQ),y∈ds.foldl amE o↔y∈o∨y∈ds:=fun ds=>by
  induction ds with
  |nil=>intro o;simp
  |cons x ds ih=>
   intro o
   rw[List.foldl_cons,ih,aij,List.mem_cons]
   constructor
   ·rintro ((h|h)|h)
    ·exact .inr (.inl h)
    ·exact .inl h
    ·exact .inr (.inr h)
   ·rintro (h|h|h)
    ·exact .inl (.inr h)
    ·exact .inl (.inl h)
    ·exact .inr h
 unfold adu;rw[key];simp
theorem aBc{S D:List PtQ}{x:PtQ}{i:Nat}(hS:S=adu (D.take i))(hx:D[i]? =some x)(hl:S.length=i):adu (D.take i)++D.drop i=aot S x (D.drop (i+1)) i:=by
 obtain⟨h1,h2⟩:=List.getElem?_eq_some_iff.1 hx
 unfold aot
 rw[←hS,List.take_of_length_le (l:=S) (by omega),List.drop_of_length_le (l:=S) (by omega),List.drop_eq_getElem_cons h1,h2];rfl
theorem aqe{S D:List PtQ}{x:PtQ}{i k:Nat}(hS:S=adu (D.take i))(hx:D[i]? =some x)(hk:k≤i)(hl:S.length=i)(hb:aou S x i=aou S x k)(he:k=0∨ ∃m,k=m+1∧ ¬0<abY (S.getD m ⟨0,0⟩) x):aot S x (D.drop (i+1)) k=adu (D.take (i+1))++D.drop (i+1):=by
 obtain⟨h1,h2⟩:=List.getElem?_eq_some_iff.1 hx
 have hk2:aou S x k=k:=by
  rcases he with rfl|⟨m,rfl,hm⟩
  ·rfl
  ·rw[aou,if_neg hm]
 rw[List.take_add_one,hx,Option.toList_some,aru,←hS]
 unfold amE aot
 rw[hl,hb,hk2];simp
theorem aq3{S D:List PtQ}{x:PtQ}{i k:Nat}(hl:S.length=i)(hi:i<D.length)(hk:k≤i):(aot S x (D.drop (i+1)) k).length=D.length:=by
 unfold aot
 simp only[List.length_append,List.length_cons,List.length_take,List.length_drop];omega
theorem axS{S D:List PtQ}{x:PtQ}{i m:Nat}(hl:S.length=i)(hi:i<D.length)(hk:m+1≤i):(avH S x (D.drop (i+1)) m).length=D.length:=by
 unfold avH
 simp only[List.length_append,List.length_cons,List.length_take,List.length_drop];omega
theorem aqY{E:List PtQ}{k:Nat}(h:k<E.length):(E.map eP)[((k:Nat):Int).toNat]? =some (eP (E.getD k ⟨0,0⟩)):=by
 rw[Int.toNat_natCast,List.getElem?_map,List.getElem?_eq_getElem h,ac2 h];rfl
theorem aHa{C:Ctx}{n:Nat}{Q0:Exit→Act→World→Prop}{fr:FrX}{own:OwX}{c:Code}{K:List Kt}(nm:Nat){b:Option Bk}(h:leO ((nm,b)::own.tail) own)(k:CfS Tryz.prog GB C n Q0 fr ((nm,b)::own.tail) (.code c K)):CfS Tryz.prog GB C n Q0 fr own (.code c K):=
 ⟨fun ρ G ov a w r=>k.run ρ G ov a w (r.mono (fun _ _ h=>h) (aq8 h))⟩
theorem awo{E:List PtQ}{k:Nat}(h:k<E.length):((List.range E.length).drop k).flatMap (aol E)=aol E k++((List.range E.length).drop (k+1)).flatMap (aol E):=by
 rw[List.drop_eq_getElem_cons (by rw[List.length_range];exact h),List.flatMap_cons,List.getElem_range]
theorem awy(E:List PtQ)(k:Nat):(aol E k).length≤1:=by
 unfold aol;split
 ·simp
 ·split<;>simp
theorem amW(E:List PtQ):(aib E).length≤E.length+1:=by
 have key: ∀l:List Nat,(l.flatMap (aol E)).length≤l.length:=fun l=>by
  induction l with
  |nil=>simp
  |cons a l ih=>rw[List.flatMap_cons,List.length_append,List.length_cons];have:=awy E a;omega
 unfold aib
 split
 ·simp
 ·have:=key (List.range E.length);rw[List.length_range] at this;omega
theorem ax9{E vs r:List PtQ}(h:vs++r=aib E):vs.length≤2*E.length+1:=by
 have h1:=congrArg List.length h
 have h2:=amW E
 rw[List.length_append] at h1;omega
theorem al9{v:PtQ}{i:Nat}[hv:BPt v i](h:v.half≠0):BPt (acD v) (i+i+1):=by
 rw[as5 h]
 have hX:=(BN.prx v.x.num v.y.den i i).h
 have hY:=(BN.prx v.y.num v.x.den i i).h
 haveI:BI (zv (decide (prX v.x.num v.y.den<0)) ((prX v.x.num v.y.den).natAbs/acw v)) (i+i):=⟨by rw[aeD];exact Nat.lt_of_le_of_lt (Nat.div_le_self ..) hX⟩
 haveI:BI (zv (decide (prX v.y.num v.x.den<0)) ((prX v.y.num v.x.den).natAbs/acw v)) (i+i):=⟨by rw[aeD];exact Nat.lt_of_le_of_lt (Nat.div_le_self ..) hY⟩
 exact⟨inferInstance,inferInstance⟩
theorem azQ(a b:Nat):Int.tmod ((a:Int)+1) (b:Int)=(((a+1)%b:Nat):Int):=by
 rw[Int.tmod_eq_emod_of_nonneg (by omega)];simp
theorem amg(L:List LnQ)(p:PtQ):(ab4 L p).length≤2*L.length:=by
 unfold ab4
 induction L with
 |nil=>exact Nat.le_refl _
 |cons l L ih=>rw[List.flatMap_cons,List.length_append,List.length_cons];split<;>simp only[List.length_cons,List.length_nil]<;>omega
theorem aop{L:List LnQ}{p:PtQ}{k:Nat}{l:LnQ}(h:L[k]? =some l):ab4 (L.drop k) p=(if Int.sign (l.value p).num=0 then [l.dir,ahT l.dir] else [])++ab4 (L.drop (k+1)) p:=by
 obtain⟨h1,h2⟩:=List.getElem?_eq_some_iff.1 h
 rw[List.drop_eq_getElem_cons h1,h2];rfl
theorem auo{L:List LnQ}(hL: ∀l∈L,LB l){p d:PtQ}(h:d∈ab4 L p):BPt d 97:=by
 obtain⟨l,hl,_,rfl|rfl⟩:=aeI.1 h
 ·haveI:=hL l hl;exact inferInstance
 ·haveI:=hL l hl
  have:=(inferInstance:BPt l.dir 97)
  exact⟨(inferInstance:BQ (-l.dir.x) _),(inferInstance:BQ (-l.dir.y) _)⟩
theorem aCb{L:List LnQ}{p:PtQ}{i0:Nat}[hp:BPt p i0](hc:aAe L)(hL: ∀l∈L,LB l)(hn:L.length≤100000)(hi0:i0≤300000:=by decide):PF GB Tryz.prog 58 [.sl (L.map eL),eP p, .v (.bool false)] (.sl ((af1 L p).map eP)):=by
 have hml:(L.map eL).length=L.length:=List.length_map ..
 refine fn (fu:=⟨16⟩) Tryz.func58 J J Tryz.ntmps58 J J (fun C=>?_)
 refine eqF 17 (.d (vI (L.length:Nat))) rfl (by rw[hml]<;>rfl) ?_
 refine gx rfl<|?_
 refine nr 7 7 58 6 J J J ?_
 refine lp (X:=List PtQ×Nat) (fun⟨acc,k⟩=>[(18, .d (vI (k:Nat))),(7, .rw 7)]) (fun⟨acc,k⟩=>[(7,some (.b 58 6 ((acc).map eP) true))]) (fun⟨acc,k⟩=>acc++ab4 (L.drop k) p=ab4 L p∧k≤L.length) (fun⟨acc,k⟩=>L.length-k) ⟨[],0⟩ rfl ⟨rfl,Nat.zero_le _⟩ (fun _=>rfl) (fun⟨acc,k⟩ hk=>?_)
 try dsimp only at hk⊢
 obtain⟨h1,h2⟩:=hk
 have hal:acc.length≤2*L.length:=by
  have q1:=congrArg List.length h1
  have q2:=amg L p
  rw[List.length_append] at q1;omega
 have ham:(acc.map eP).length=acc.length:=List.length_map ..
 refine br (fu2:=⟨10⟩) J J J (fun hc19=>?_) (fun hc19=>?_)
 ·
  obtain⟨l,hx⟩: ∃l,L[k]? =some l:=⟨_,List.getElem?_eq_getElem (by omega)⟩
  have hll:=hL l (List.mem_of_getElem? hx)
  refine ix _ rfl (aay hx) rfl<|cl rfl (aiO (l:=l) (p:=p) (i:=i0) (by omega)) rfl<|?_
  refine br J J J (fun hc25=>?_) (fun hc25=>?_)
  ·
   refine cl rfl (ajO (l:=l)) rfl<|cl rfl (ajO (l:=l)) rfl<|cl rfl (aCw (p:=l.dir)) rfl<|rf J J<|ap (hv:=by simp only[aai];exact⟨by kernel_rfl,by omega⟩) ((acc++[l.dir,ahT l.dir]).map eP) rfl (by rw[List.map_append]<;>rfl) (afw [l.dir,ahT l.dir]) rfl<|?_
   refine rnE 33 7 rfl ?_
   exact at_ ⟨acc++[l.dir,ahT l.dir],k+1⟩ (by dsimp only;exact⟨⟨by rw[←h1,aop hx,if_pos hc25];simp,by omega⟩,(by omega)⟩)
  ·
   exact at_ ⟨acc,k+1⟩ (by dsimp only;exact⟨⟨by rw[←h1,aop hx,if_neg hc25];rfl,by omega⟩,(by omega)⟩)
 ·
  obtain rfl:k=L.length:=by omega
  obtain⟨D,hD⟩: ∃D,D=ab4 L p:=⟨_,rfl⟩
  have hDl:D.length≤2*L.length:=by rw[hD];exact amg L p
  obtain rfl:D=acc:=by rw[List.drop_length] at h1;rw[hD,←h1];simp[ab4]
  have hmD:(D.map eP).length=D.length:=List.length_map ..
  have hDb: ∀d∈D,BPt d 97:=fun d hd=>auo hL (by rw[←hD];exact hd)
  refine eqF 36 (.d (vI (D.length:Nat))) rfl (by rw[hmD]<;>rfl) ?_
  refine gx rfl<|?_
  refine lp (X:=Nat) (fun i=>[(37, .d (vI (i:Nat))),(7, .rw 7)]) (fun i=>[(7,some (.b 58 6 (((adu (D.take i))++D.drop i).map eP) true))]) (fun i=>i≤D.length) (fun i=>D.length-i) 0 rfl (Nat.zero_le _) (fun _=>rfl) (fun i hk=>?_)
  refine br (fu2:=⟨0⟩) J J J (fun hc38=>?_) (fun hc38=>?_)
  ·
   obtain⟨x,hx⟩: ∃x,D[i]? =some x:=⟨_,List.getElem?_eq_getElem (by omega)⟩
   obtain⟨S,hS⟩: ∃S,S=adu (D.take i):=⟨_,rfl⟩
   have hSl:S.length=i:=by rw[hS];show((D.take i).foldl amE []).length=i;rw[ahl,List.length_nil,List.length_take];omega
   have hSb: ∀d∈S,BPt d 97:=fun d hd=>hDb d (List.mem_of_mem_take ((atA.1 (hS▸hd))))
   haveI hxb:=hDb x (List.mem_of_getElem? hx)
   refine lp (fu:=⟨4⟩) (X:=Nat) (fun k=>[(11, .d (vI (k:Nat))),(7, .rw 7)]) (fun k=>[(7,some (.b 58 6 ((aot S x (D.drop (i+1)) k).map eP) true))]) (fun k=>k≤i∧aou S x i=aou S x k) (fun k=>k) i rfl ⟨Nat.le_refl _,rfl⟩ (fun _=>rfl) (fun k hk=>?_) (hO:=⟨by rw[←aBc hS hx hSl];rfl,rfl,trivial⟩)
   obtain⟨k1,k2⟩:=hk
   have hrl:=aq3 (x:=x) hSl (show i<D.length by omega) k1
   have hrm:((aot S x (D.drop (i+1)) k).map eP).length=D.length:=by rw[List.length_map,hrl]
   refine csS (v2:=fun hg42=>by simp only[aai];exact⟨by kernel_rfl,by omega⟩) J J J J (fun hg42=>?_) (fun hg42=>?_)
   ·
    obtain⟨m,rfl⟩: ∃m,k=m+1:=⟨k-1,by omega⟩
    have hsl2:=axS (x:=x) hSl (show i<D.length by omega) k1
    have hsm2:((avH S x (D.drop (i+1)) m).map eP).length=D.length:=by rw[List.length_map,hsl2]
    have hrl0:=aq3 (x:=x) hSl (show i<D.length by omega) (Nat.le_of_succ_le k1)
    haveI hsb:BPt (S.getD m ⟨0,0⟩) 97:=by rw[ac2 (by omega)];exact hSb _ (List.getElem_mem _)
    refine lb (eP (S.getD m ⟨0,0⟩)) rfl (aox (by omega)) rfl<|lb (eP x) rfl (au5 (by omega)) rfl<|cl rfl (ao3 (u:=S.getD m ⟨0,0⟩) (v:=x)) rfl<|?_
    refine br J J J (fun hc55=>?_) (fun hc55=>?_)
    ·
     refine lb (eP x) rfl (au5 (by omega)) rfl<|lb (eP (S.getD m ⟨0,0⟩)) rfl (aox (by omega)) rfl<|sb (eP (S.getD m ⟨0,0⟩)) ((avH S x (D.drop (i+1)) m).map eP) rfl (aox (by omega)) rfl (aBq (by omega)) rfl<|?_
     refine sb (hv:=by simp only[aai];exact⟨by kernel_rfl,by omega⟩) (eP x) ((aot S x (D.drop (i+1)) m).map eP) rfl (azA (by omega)) rfl (aAs (by omega)) rfl<|?_
     exact at_ m ⟨⟨by omega,by rw[k2,aou,if_pos hc55]⟩,(by omega)⟩
    ·
     exact at_ (i+1) ⟨(by omega),(by omega)⟩ (hO:=⟨by rw[aqe hS hx k1 hSl k2 (.inr ⟨m,rfl,hc55⟩)];rfl,rfl,trivial⟩)
   ·
    exact at_ (i+1) ⟨(by omega),(by omega)⟩ (hO:=⟨by rw[aqe hS hx k1 hSl k2 (.inl (by omega))];rfl,rfl,trivial⟩)
  ·
   obtain rfl:i=D.length:=by omega
   obtain⟨E,hE⟩: ∃E,E=adu D:=⟨_,rfl⟩
   refine aHa 7 (b:=some (.b 58 6 (E.map eP) true)) (by exact⟨by rw[List.take_length,List.drop_length,List.append_nil,←hE];rfl,rfl,trivial⟩) ?_
   obtain⟨sd1,sd2,sd3⟩:=agZ hc p
   rw[←hD,←hE] at sd1 sd2 sd3
   have hvq:af1 L p=aib E:=by unfold af1;rw[←hD,←hE]
   have hmE:(E.map eP).length=E.length:=List.length_map ..
   have hEl:E.length=D.length:=by rw[hE];show(D.foldl amE []).length=_;rw[ahl,List.length_nil,Nat.zero_add]
   have hEb: ∀d∈E,BPt d 97:=fun d hd=>hDb d ((sd3 d).1 hd)
   refine gx (fu:=⟨10⟩) rfl<|?_
   refine eqF 76 (.d (vI (E.length:Nat))) rfl (by rw[hmE]<;>rfl) ?_
   refine gx rfl<|?_
   refine br (fu2:=⟨12⟩) J J J (fun hc77=>?_) (fun hc77=>?_)
   ·
    have hE0:E.length=0:=by omega
    have hv0:aib E=[⟨1,0⟩]:=if_pos hE0
    refine cl rfl (arB (by omega) (by omega)) rfl<|rf J J<|?_
    exact rz rfl (by rw[hvq,hv0];rfl)
   ·
    have hE0: ¬E.length=0:=by omega
    refine eqF 81 (.d (vI (E.length:Nat))) rfl (by rw[hmE]<;>rfl) ?_
    refine gx rfl<|?_
    refine nr 12 12 58 6 J J J ?_
    refine lp (X:=List PtQ×Nat) (fun⟨vs,k⟩=>[(82, .d (vI (k:Nat))),(12, .rw 12)]) (fun⟨vs,k⟩=>[(12,some (.b 58 6 ((vs).map eP) true))]) (fun⟨vs,k⟩=>vs++((List.range E.length).drop k).flatMap (aol E)=aib E∧k≤E.length) (fun⟨vs,k⟩=>E.length-k) ⟨[],0⟩ rfl ⟨(by unfold aib;rw[if_neg hE0];rfl),Nat.zero_le _⟩ (fun _=>rfl) (fun⟨vs,k⟩ hk=>?_)
    try dsimp only at hk⊢
    obtain⟨h1,h2⟩:=hk
    have hvl:vs.length≤2*E.length+1:=ax9 h1
    have hvm:(vs.map eP).length=vs.length:=List.length_map ..
    refine br J J J (fun hc83=>?_) (fun hc83=>?_)
    ·
     have hk3:k<E.length:=by omega
     have hw3:(k+1)%E.length<E.length:=Nat.mod_lt _ (by omega)
     have hu:=sd2.nz E[k] (List.getElem_mem hk3)
     have hw:=sd2.nz E[(k+1)%E.length] (List.getElem_mem hw3)
     rw[←ac2 hk3] at hu
     rw[←ac2 hw3] at hw
     haveI hub:BPt (E.getD k ⟨0,0⟩) 97:=by rw[ac2 hk3];exact hEb _ (List.getElem_mem _)
     haveI hwb:BPt (E.getD ((k+1)%E.length) ⟨0,0⟩) 97:=by rw[ac2 hw3];exact hEb _ (List.getElem_mem _)
     haveI hup:=al9 hu
     haveI hwp:=al9 hw
     have hst:=awo hk3
     refine lb (fu:=⟨9⟩) (eP (E.getD k ⟨0,0⟩)) rfl (aqY hk3) rfl<|?_
     refine kbF 87 rfl ?_
     refine gx (fu:=⟨12⟩) rfl<|?_
     refine eqF 96 (.d (vI (E.length:Nat))) rfl (by rw[hmE]<;>rfl) ?_
     refine gx (fu:=⟨1⟩) rfl<|?_
     refine eqF 97 (.d (vI ((k+1)%E.length:Nat))) rfl (by rw[azQ]<;>rfl) ?_
     refine gx rfl<|lb (eP (E.getD ((k+1)%E.length) ⟨0,0⟩)) rfl (aqY hw3) rfl<|cl rfl (ao3 (u:=(E.getD k ⟨0,0⟩)) (v:=(E.getD ((k+1)%E.length) ⟨0,0⟩))) rfl<|?_
     refine cs 104 J J J (fun hg104=>?_) (fun hg104=>?_)
     ·
      refine br J J J (fun hc108=>?_) (fun hc108=>?_)
      ·
       exact at_ ⟨vs,k+1⟩ (by dsimp only;exact⟨⟨by rw[←h1,hst,show aol E k=[] from if_pos ⟨hg104,by omega⟩];rfl,by omega⟩,(by omega)⟩)
      ·
       refine cl rfl (agm (p:=(E.getD k ⟨0,0⟩)) (q:=(E.getD ((k+1)%E.length) ⟨0,0⟩))) rfl<|cl rfl (q_S (q:=PtQ.cross (E.getD k ⟨0,0⟩) (E.getD ((k+1)%E.length) ⟨0,0⟩))) rfl<|?_
       refine br J J J (fun hc113=>?_) (fun hc113=>?_)
       ·
        refine cl rfl (aic (q:=((E.getD k ⟨0,0⟩)).y)) rfl<|rf J J<|ap (hv:=by simp only[aai];exact⟨by kernel_rfl,by omega⟩) ((vs++[aeq (E.getD k ⟨0,0⟩)]).map eP) rfl (by rw[List.map_append]<;>rfl) (afw [aeq (E.getD k ⟨0,0⟩)]) rfl<|?_
        refine rnE 122 12 rfl ?_
        exact at_ ⟨vs++[aeq (E.getD k ⟨0,0⟩)],k+1⟩ (by dsimp only;exact⟨⟨by rw[←h1,hst,show aol E k=[aeq (E.getD k ⟨0,0⟩)] from(if_neg (fun q=>by omega)).trans (if_pos hc113)];simp,by omega⟩,(by omega)⟩)
       ·
        refine cl rfl (aqC (v:=(E.getD k ⟨0,0⟩)) hu) rfl<|cl rfl (akj (by omega) (by omega)) rfl<|cl rfl (aqC (v:=(E.getD ((k+1)%E.length) ⟨0,0⟩)) hw) rfl<|?_
        refine cl rfl (aj9 (p:=acD (E.getD k ⟨0,0⟩)) (q:=acD (E.getD ((k+1)%E.length) ⟨0,0⟩)) (c:=((1:Int):Rat)) (k:=2)) rfl<|rf J J<|?_
        refine ap (hv:=by simp only[aai];exact⟨by kernel_rfl,by omega⟩) ((vs++[acR (acD (E.getD k ⟨0,0⟩)) (acD (E.getD ((k+1)%E.length) ⟨0,0⟩)) 1]).map eP) rfl (by rw[List.map_append]<;>rfl) (afw [acR (acD (E.getD k ⟨0,0⟩)) (acD (E.getD ((k+1)%E.length) ⟨0,0⟩)) 1]) rfl<|?_
        refine rnE 131 12 rfl ?_
        exact at_ ⟨vs++[acR (acD (E.getD k ⟨0,0⟩)) (acD (E.getD ((k+1)%E.length) ⟨0,0⟩)) 1],k+1⟩ (by dsimp only;exact⟨⟨by rw[←h1,hst,show aol E k=[acR (acD (E.getD k ⟨0,0⟩)) (acD (E.getD ((k+1)%E.length) ⟨0,0⟩)) 1] from(if_neg (fun q=>by omega)).trans (if_neg hc113)];simp,by omega⟩,(by omega)⟩)
     ·
      refine cl rfl (agm (p:=(E.getD k ⟨0,0⟩)) (q:=(E.getD ((k+1)%E.length) ⟨0,0⟩))) rfl<|cl rfl (q_S (q:=PtQ.cross (E.getD k ⟨0,0⟩) (E.getD ((k+1)%E.length) ⟨0,0⟩))) rfl<|?_
      refine br J J J (fun hc113=>?_) (fun hc113=>?_)
      ·
       refine cl rfl (aic (q:=((E.getD k ⟨0,0⟩)).y)) rfl<|rf J J<|ap (hv:=by simp only[aai];exact⟨by kernel_rfl,by omega⟩) ((vs++[aeq (E.getD k ⟨0,0⟩)]).map eP) rfl (by rw[List.map_append]<;>rfl) (afw [aeq (E.getD k ⟨0,0⟩)]) rfl<|?_
       refine rnE 122 12 rfl ?_
       exact at_ ⟨vs++[aeq (E.getD k ⟨0,0⟩)],k+1⟩ (by dsimp only;exact⟨⟨by rw[←h1,hst,show aol E k=[aeq (E.getD k ⟨0,0⟩)] from(if_neg (fun q=>hg104 q.1)).trans (if_pos hc113)];simp,by omega⟩,(by omega)⟩)
      ·
       refine cl rfl (aqC (v:=(E.getD k ⟨0,0⟩)) hu) rfl<|cl rfl (akj (by omega) (by omega)) rfl<|cl rfl (aqC (v:=(E.getD ((k+1)%E.length) ⟨0,0⟩)) hw) rfl<|?_
       refine cl rfl (aj9 (p:=acD (E.getD k ⟨0,0⟩)) (q:=acD (E.getD ((k+1)%E.length) ⟨0,0⟩)) (c:=((1:Int):Rat)) (k:=2)) rfl<|rf J J<|?_
       refine ap (hv:=by simp only[aai];exact⟨by kernel_rfl,by omega⟩) ((vs++[acR (acD (E.getD k ⟨0,0⟩)) (acD (E.getD ((k+1)%E.length) ⟨0,0⟩)) 1]).map eP) rfl (by rw[List.map_append]<;>rfl) (afw [acR (acD (E.getD k ⟨0,0⟩)) (acD (E.getD ((k+1)%E.length) ⟨0,0⟩)) 1]) rfl<|?_
       refine rnE 131 12 rfl ?_
       exact at_ ⟨vs++[acR (acD (E.getD k ⟨0,0⟩)) (acD (E.getD ((k+1)%E.length) ⟨0,0⟩)) 1],k+1⟩ (by dsimp only;exact⟨⟨by rw[←h1,hst,show aol E k=[acR (acD (E.getD k ⟨0,0⟩)) (acD (E.getD ((k+1)%E.length) ⟨0,0⟩)) 1] from(if_neg (fun q=>hg104 q.1)).trans (if_neg hc113)];simp,by omega⟩,(by omega)⟩)
    ·
     obtain rfl:k=E.length:=by omega
     obtain rfl:vs=aib E:=by rw[List.drop_of_length_le (by rw[List.length_range];exact Nat.le_refl _)] at h1;simpa using h1
     refine fzE 12 rfl ?_
     exact rz rfl (by rw[hvq];rfl)
theorem az7{L:List LnQ}(hc:aAe L)(hL: ∀l∈L,LB l){p v:PtQ}(hv:v∈af1 L p):BPt v 500:=by
 obtain⟨h1,h2,h3⟩:=agZ hc p
 have hE: ∀d∈adu (ab4 L p),BPt d 97:=fun d hd=>auo hL ((h3 d).1 hd)
 unfold af1 at hv
 generalize adu (ab4 L p)=E at*
 unfold aib at hv
 split at hv
 ·rw[List.mem_singleton] at hv;subst hv
  exact⟨BQ.mono (k:=2) ⟨by decide,by decide⟩ (by decide),BQ.mono (k:=2) ⟨by decide,by decide⟩ (by decide)⟩
 ·rename_i hn
  obtain⟨i,hi,hs⟩:=List.mem_flatMap.1 hv
  rw[List.mem_range] at hi
  have hj:(i+1)%E.length<E.length:=Nat.mod_lt _ (by omega)
  haveI b1:=hE _ (List.getElem_mem hi)
  haveI b2:=hE _ (List.getElem_mem hj)
  unfold aol at hs
  rw[ac2 hi,ac2 hj] at hs
  split at hs
  ·cases hs
  ·split at hs
   ·rw[List.mem_singleton] at hs;subst hs
    exact⟨(inferInstance:BQ (-(E[i]).y) 97).mono (by decide),(inferInstance:BQ (E[i]).x 97).mono (by decide)⟩
   ·rw[List.mem_singleton] at hs;subst hs
    haveI q1:=al9 (h2.nz _ (List.getElem_mem hi))
    haveI q2:=al9 (h2.nz _ (List.getElem_mem hj))
    haveI q3:BQ (1:Rat) 2:=⟨by decide,by decide⟩
    have:=(inferInstance:BPt (acR (acD E[i]) (acD E[(i+1)%E.length]) 1) _)
    exact⟨this.x.mono (by decide),this.y.mono (by decide)⟩
theorem auq(L:List LnQ)(p:PtQ):(af1 L p).length≤2*L.length+1:=by
 have h1:=amW (adu (ab4 L p))
 have h2:=ahl (ab4 L p) []
 have h3:=amg L p
 unfold af1
 rw[List.length_nil,Nat.zero_add] at h2
 rw[show adu (ab4 L p)=(ab4 L p).foldl amE [] from rfl] at*
 omega
def adl(t:Tr)(p:PtQ):Int:=if avG t p then 2 else if aB5 t p then 1 else 0
def anV(t:Tr)(p:PtQ)(V:List PtQ)(k:Nat):Bool:=(V.take k).any fun v=>(amD t p v).1
def alV(t:Tr)(p:PtQ)(V:List PtQ)(k:Nat):Bool:=(V.take k).all fun v=>(amD t p v).1
theorem awI{t:Tr}{p:PtQ}{V:List PtQ}{k:Nat}{v:PtQ}(h:V[k]? =some v):anV t p V (k+1)=(anV t p V k||(amD t p v).1):=by
 unfold anV;rw[List.take_add_one,h,List.any_append];simp
theorem avO{t:Tr}{p:PtQ}{V:List PtQ}{k:Nat}{v:PtQ}(h:V[k]? =some v):alV t p V (k+1)=(alV t p V k&&(amD t p v).1):=by
 unfold alV;rw[List.take_add_one,h,List.all_append];simp
theorem ad0{t:Tr}{p:PtQ}{i0:Nat}[hp:BPt p i0](hb:t.all LB)(ho:t.all LnQ.ok)(hs:t.size≤90000)(hi0:i0≤200000:=by decide):PF GB Tryz.prog 18 [eT t,eP p] (vI (adl t p)):=by
 have hca:=ajo (adk ho)
 have hLB:=apo (act.1 hb)
 have hdl:(adh t.lns).length≤90000:=by have:=ajm t.lns;rw[adM] at this;omega
 obtain⟨V,hV⟩: ∃V,V=af1 (adh t.lns) p:=⟨_,rfl⟩
 have hVb: ∀v∈V,BPt v 500:=fun v hv=>az7 hca hLB (by rw[←hV];exact hv)
 have hVl:V.length≤300000:=by rw[hV];have:=auq (adh t.lns) p;omega
 have hmV:(V.map eP).length=V.length:=List.length_map ..
 have eA:alV t p V V.length=avG t p:=by unfold alV avG;rw[List.take_length,hV]
 have eS:anV t p V V.length=aB5 t p:=by unfold anV aB5;rw[List.take_length,hV]
 refine fn Tryz.func18 J J Tryz.ntmps18 J J (fun C=>?_)
 refine cl rfl (aAd hb (by omega)) rfl<|cl (fu:=⟨0⟩) rfl (aCb (L:=adh t.lns) (p:=p) (i0:=i0) hca hLB (by omega) (by omega)) rfl<|?_
 refine eqF 14 (.d (.sl (V.map eP))) rfl (by rw[hV]) ?_
 refine gx (fu:=⟨1⟩) rfl<|?_
 refine eqF 15 (.d (vI (V.length:Nat))) rfl (by rw[hmV]<;>rfl) ?_
 refine gx rfl<|?_
 refine dvC 5 _ J J ?_
 refine dvC 6 _ J J ?_
 refine eqF 5 (.d (vB (anV t p V 0))) J J ?_
 refine eqF 6 (.d (vB (alV t p V 0))) J J ?_
 refine lp (X:=Nat) (fun k=>[(16, .d (vI (k:Nat))),(5, .d (vB (anV t p V k))),(6, .d (vB (alV t p V k)))]) (fun k=>[]) (fun k=>k≤V.length) (fun k=>V.length-k) 0 rfl (Nat.zero_le _) (fun _=>rfl) (fun k hk=>?_)
 refine br J J J (fun hc17=>?_) (fun hc17=>?_)
 ·
  obtain⟨v,hz⟩: ∃v,V[k]? =some v:=⟨_,List.getElem?_eq_getElem (by omega)⟩
  haveI hvb:=hVb v (List.mem_of_getElem? hz)
  refine ix _ rfl (aay hz) rfl<|cl (fu:=⟨8⟩) rfl (awj (t:=t) (p:=p) (v:=v) hb (by omega) (by decide)) rfl<|?_
  obtain⟨xa,hxa⟩: ∃x,x=(amD t p v).1:=⟨_,rfl⟩
  refine eqF 9 (.d (vB xa)) rfl (by subst hxa;rfl) ?_
  obtain⟨b5,hanV⟩: ∃x,x=anV t p V k:=⟨_,rfl⟩
  refine eqF 5 (.d (vB b5)) rfl (by subst hanV;rfl) ?_
  obtain⟨b6,halV⟩: ∃x,x=alV t p V k:=⟨_,rfl⟩
  refine eqF 6 (.d (vB b6)) rfl (by subst halV;rfl) ?_
  cases xa<;>cases b5<;>cases b6<;>(first|refine kbT 5 rfl ?_|refine kbF 5 rfl ?_)<;>(first|refine kbT 6 rfl ?_|refine kbF 6 rfl ?_)<;>(first|refine kbT 9 rfl ?_|refine kbF 9 rfl ?_)<;>refine gx rfl ?_<;>refine dvE 5 _ J J ?_<;>refine eqF 5 (.d (vB (anV t p V (k+1)))) rfl (by rw[awI hz,←hanV,←hxa];rfl) ?_<;>refine dvE 6 _ J J ?_<;>refine eqF 6 (.d (vB (alV t p V (k+1)))) rfl (by rw[avO hz,←halV,←hxa];rfl) ?_<;>exact at_ (k+1) ⟨by omega,by omega⟩
 ·
  obtain rfl:k=V.length:=by omega
  rw[eA,eS]
  refine bb J J J (fun hc36=>?_) (fun hc36=>?_)
  ·
   exact rz rfl (by unfold adl;rw[if_pos hc36];rfl)
  ·
   refine bb J J J (fun hc37=>?_) (fun hc37=>?_)
   ·
    exact rz rfl (by unfold adl;rw[if_neg (by rw[hc36];decide),if_pos hc37];rfl)
   ·
    exact rz rfl (by unfold adl;rw[if_neg (by rw[hc36];decide),if_neg (by rw[hc37];decide)];rfl)
theorem asL{a b:Tr}(ha:a.all LnQ.ok)(hb:b.all LnQ.ok):eqR a b=true↔ ∀p,Off (a.lns++b.lns) p→a.val p=b.val p:=by
 rw[←aBG ha hb (R:=fun x y=>x=y)]
 unfold eqR
 rw[List.all_eq_true]
 constructor
 ·intro h p hp;exact eq_of_beq (h p hp)
 ·intro h p hp;rw[h p hp];exact beq_self_eq_true _
theorem aDE{b:Tr}(hb:b.all LnQ.ok):eqR b (.leaf false)=decide (aaW (b.restrict [])=[]):=by
 rw[Bool.eq_iff_iff,decide_eq_true_iff,aBb hb,asL hb (show(Tr.leaf false).all LnQ.ok from trivial)]
 constructor
 ·intro h p hp;exact h p (Off.app.2 ⟨hp,fun l hl=>by cases hl⟩)
 ·intro h p hp;exact h p (Off.app.1 hp).1
theorem aso{a b:Tr}(ha:a.all LnQ.ok)(hb:b.all LnQ.ok):aaW (a.mergeQ 3 b [])=[]↔ ∀p,Off (a.lns++b.lns) p→(a.val p&&!b.val p)=false:=by
 have hu:(a.mergeQ 3 b []).all LnQ.ok:=Tr.mergeQ_all LnQ.ok 3 hb a [] ha
 have hv: ∀p,Off (a.lns++b.lns) p→(a.mergeQ 3 b []).val p=(a.val p&&!b.val p):=fun p hp=>by
  rw[Tr.val_merge 3 b hb a [] p ha aa3.nil (ags p) (Off.app.1 hp).1 (Off.app.1 hp).2];rfl
 constructor
 ·intro h p hp
  rw[←hv p hp]
  exact(an1 hu).1 h p (hp.sub (arv (L:=a.lns++b.lns) (fun l hl=>List.mem_append_left _ hl) (fun l hl=>List.mem_append_right _ hl) []))
 ·intro h
  cases hc:aaW (a.mergeQ 3 b []) with
  |nil=>rfl
  |cons c r=>
   exfalso
   obtain⟨g,hs⟩:=acY hu aa3.nil (adK.1 (by rw[hc];exact List.mem_cons_self))
   obtain⟨q,h1,h2⟩:=atL g (a.lns++b.lns) fun l hl=>(List.mem_append.1 hl).elim (adk ha l) (adk hb l)
   have:=(hs q h1).2
   rw[hv q h2,h q h2] at this
   cases this
theorem aC7{a b:Tr}(ha:a.all LnQ.ok)(hb:b.all LnQ.ok):eqR a b=(decide (aaW (a.mergeQ 3 b [])=[])&&decide (aaW (b.mergeQ 3 a [])=[])):=by
 rw[Bool.eq_iff_iff,Bool.and_eq_true,decide_eq_true_iff,decide_eq_true_iff,aso ha hb,aso hb ha,asL ha hb]
 constructor
 ·intro h
  exact⟨fun p hp=>by rw[h p hp];simp,fun p hp=>by rw[h p (Off.app.2 ⟨(Off.app.1 hp).2,(Off.app.1 hp).1⟩)];simp⟩
 ·rintro ⟨h1,h2⟩ p hp
  have k1:=h1 p hp
  have k2:=h2 p (Off.app.2 ⟨(Off.app.1 hp).2,(Off.app.1 hp).1⟩)
  generalize a.val p=x at k1 k2⊢
  generalize b.val p=y at k1 k2⊢
  revert k1 k2;cases x<;>cases y<;>decide
theorem aGt:dN 0= .sl []:=by unfold dN;rw[agj];rfl
theorem axW:PF GB Tryz.prog 126 [.ag [.v (.bool false), .sl []], .ag [.v (.bool false), .sl []]] (.v (.bool true)):=by
 haveI:BI (0:Int) 1:=⟨by decide⟩
 have:=at7 (GB:=GB) (a:=0) (b:=0) (i:=1) (j:=1) (by decide)
 rw[show eI 0= .ag [.v (.bool false), .sl []] by unfold eI;rw[show(0:Int).natAbs=0 from rfl,aGt];rfl] at this
 exact this
theorem axI:PF GB Tryz.prog 127 [.sl [], .sl []] (.v (.bool true)):=by
 haveI:BN 0 1:=⟨by decide⟩
 have:=aph (GB:=GB) (a:=0) (b:=0) (i:=1) (j:=1) (by decide)
 rw[aGt] at this
 exact this
theorem aqj:PF GB Tryz.prog 56 [.ag [.v (.bool false), .sl [], .sl []], .ag [.v (.bool false), .sl [], .sl []]] (.v (.bool true)):=by
 refine fn Tryz.func56 J J Tryz.ntmps56 J J (fun C=>?_)
 refine cl (fu:=⟨0⟩) rfl axW rfl<|?_
 refine kbT 9 rfl ?_
 refine gx rfl<|cl rfl axI rfl<|?_
 exact rz J J
theorem agW:PF GB Tryz.prog 16 [apZ,apZ] (.v (.bool true)):=by
 refine fn Tryz.func16 J J Tryz.ntmps16 J J (fun C=>?_)
 refine cl (fu:=⟨0⟩) rfl aqj rfl<|?_
 refine kbT 9 rfl ?_
 refine gx rfl<|cl rfl aqj rfl<|?_
 exact rz J J
theorem avB{α:Type}(x y:List α):(∃d r,x=d::r)∨(x=[]∧ ∃d r,y=d::r)∨(x=[]∧y=[]):=by
 cases x with
 |nil=>cases y with
  |nil=>exact .inr (.inr ⟨rfl,rfl⟩)
  |cons d r=>exact .inr (.inl ⟨rfl,d,r,rfl⟩)
 |cons d r=>exact .inl ⟨d,r,rfl⟩
theorem aiJ{ai al ae:Addr}(hE:EGE GB ai al ae){es0:List Int}(hb:es0.length≤1125899906842624):PF GB Tryz.prog 3 [.sl (es0.map vI)] (.v (.bool true)):=by
 obtain⟨es,hee⟩: ∃es,es=es0.take 400:=⟨_,rfl⟩
 have hes:es.length≤400:=by rw[hee];simp;omega
 obtain⟨hA,hB,hab⟩:=av8 (es:=es) (Nat.zero_le es.length)
 obtain⟨A,hAe⟩: ∃A,A=(ad6 es 0).1.1:=⟨_,rfl⟩
 obtain⟨B,hBe⟩: ∃B,B=(ad6 es 0).1.2:=⟨_,rfl⟩
 rw[←hAe] at hA
 rw[←hBe] at hB
 have e0:=aDE hB.ok
 have e1:=aC7 hA.ok hB.ok
 have hM:=TrX.merge (op:=3) hA hB (by decide)
 have hN:=TrX.merge (op:=3) hB hA (by decide)
 have hR:=hB.restrict []
 refine fn Tryz.func3 J J Tryz.ntmps3 J J (fun C=>?_)
 refine cn rfl ((aCH hb hee)) (fun _=>rfl) (fun _=>?_)
 refine cm rfl (fun b=>(aAn hes hAe hBe)) rfl<|cl rfl (ahg hB) rfl<|?_
 rcases h0:aaW (B.restrict []) with _|⟨c,r0⟩
 ·
  have e0':eqR B (.leaf false)=true:=by rw[e0,h0];rfl
  refine cl rfl (azT hE hB (by decide) h0) rfl<|cl rfl (ahg hA) rfl<|cl rfl (ahg hB) rfl<|?_
  rcases(show(∃d r,aaW (A.mergeQ 3 B [])=d::r)∨(aaW (A.mergeQ 3 B [])=[]∧ ∃d r,aaW (B.mergeQ 3 A [])=d::r)∨(aaW (A.mergeQ 3 B [])=[]∧aaW (B.mergeQ 3 A [])=[]) from avB _ _) with⟨d,r1,h1⟩|⟨h1,d,r1,h2⟩|⟨h1,h2⟩
  ·
   have e1':eqR A B=false:=by rw[e1,h1];rfl
   obtain⟨_,hc1,hc2,hc3⟩:=aqW hA.ok hB.ok h1
   obtain⟨hcd,_⟩:=adF hM.lb hM.ok h1
   have hqd:=ada hcd
   have hca:adl A (aaF d)=2:=if_pos hc1
   have hcb:adl B (aaF d)=0:=by unfold adl;rw[hc3,hc2];rfl
   refine cl (fu:=⟨7⟩) rfl (auF hE.toEG hA hB (by decide) h1) rfl<|?_
   refine kbT 8 rfl ?_
   refine gx rfl<|cl rfl abG rfl<|cl (fu:=⟨0⟩) rfl (aco (a:=B) (b:= .leaf false) ⟨hB.gd,(adw false).gd,hB.s,(adw false).s⟩) rfl<|?_
   refine eqF 35 (.d (vB true)) rfl (by rw[e0']) ?_
   refine kbT 35 rfl ?_
   refine gx rfl<|gl rfl hE.ErrEmpty rfl<|cl (fu:=⟨0⟩) rfl aAv rfl<|knF J J J<|cl (fu:=⟨0⟩) rfl agW rfl<|knF J J J<|cl (fu:=⟨0⟩) rfl (aco (a:=A) (b:=B) ⟨hA.gd,hB.gd,hA.s,hB.s⟩) rfl<|?_
   refine eqF 66 (.d (vB false)) rfl (by rw[e1']) ?_
   refine gx (fu:=⟨0⟩) rfl<|knF J J J<|cl rfl (ar9 (p:=aaF d)) rfl<|cl rfl (ad0 (t:=A) (p:=aaF d) hA.lb hA.ok (by have:=hA.s;omega)) rfl<|?_
   refine cl rfl (ar9 (p:=aaF d)) rfl<|cl rfl (ad0 (t:=B) (p:=aaF d) hB.lb hB.ok (by have:=hB.s;omega)) rfl<|?_
   refine eqF 10 (.d (vI 2)) rfl (by rw[hca]) ?_
   refine eqF 11 (.d (vI 0)) rfl (by rw[hcb]) ?_
   refine cl (fu:=⟨0⟩) rfl (aew hE.toEG) rfl<|knT (fu:=⟨1⟩) J J J<|knT (fu:=⟨2⟩) rfl (by show some (decide _)=some true;rw[decide_eq_true (by decide)]) rfl<|knT rfl (by show some (decide _)=some true;rw[decide_eq_true (by decide)]) rfl<|?_
   exact rz J J
  ·
   have e1':eqR A B=false:=by rw[e1,h2];simp
   obtain⟨_,hc1,hc2,hc3⟩:=aqW hB.ok hA.ok h2
   obtain⟨hcd,_⟩:=adF hN.lb hN.ok h2
   have hqd:=ada hcd
   have hcb:adl B (aaF d)=2:=if_pos hc1
   have hca:adl A (aaF d)=0:=by unfold adl;rw[hc3,hc2];rfl
   refine cl (fu:=⟨7⟩) rfl (avx hE.toEG hA hB (by decide) h1 h2) rfl<|?_
   refine kbT 8 rfl ?_
   refine gx rfl<|cl rfl abG rfl<|cl (fu:=⟨0⟩) rfl (aco (a:=B) (b:= .leaf false) ⟨hB.gd,(adw false).gd,hB.s,(adw false).s⟩) rfl<|?_
   refine eqF 35 (.d (vB true)) rfl (by rw[e0']) ?_
   refine kbT 35 rfl ?_
   refine gx rfl<|gl rfl hE.ErrEmpty rfl<|cl (fu:=⟨0⟩) rfl aAv rfl<|knF J J J<|cl (fu:=⟨0⟩) rfl agW rfl<|knF J J J<|cl (fu:=⟨0⟩) rfl (aco (a:=A) (b:=B) ⟨hA.gd,hB.gd,hA.s,hB.s⟩) rfl<|?_
   refine eqF 66 (.d (vB false)) rfl (by rw[e1']) ?_
   refine gx (fu:=⟨0⟩) rfl<|knF J J J<|cl rfl (ar9 (p:=aaF d)) rfl<|cl rfl (ad0 (t:=A) (p:=aaF d) hA.lb hA.ok (by have:=hA.s;omega)) rfl<|?_
   refine cl rfl (ar9 (p:=aaF d)) rfl<|cl rfl (ad0 (t:=B) (p:=aaF d) hB.lb hB.ok (by have:=hB.s;omega)) rfl<|?_
   refine eqF 10 (.d (vI 0)) rfl (by rw[hca]) ?_
   refine eqF 11 (.d (vI 2)) rfl (by rw[hcb]) ?_
   refine cl (fu:=⟨0⟩) rfl (aew hE.toEG) rfl<|knT (fu:=⟨1⟩) J J J<|knF (fu:=⟨6⟩) rfl (by show some (decide _)=some false;rw[decide_eq_false (by decide)]) rfl<|knT (fu:=⟨2⟩) rfl (by show some (decide _)=some true;rw[decide_eq_true (by decide)]) rfl<|?_
   refine knT rfl (by show some (decide _)=some true;rw[decide_eq_true (by decide)]) rfl<|?_
   exact rz J J
  ·
   have e1':eqR A B=true:=by rw[e1,h1,h2];rfl
   refine cl (fu:=⟨7⟩) rfl (auY hE.toEG hA hB (by decide) h1 h2) rfl<|?_
   refine kbF 8 rfl ?_
   refine gx rfl<|cl rfl abG rfl<|cl (fu:=⟨0⟩) rfl (aco (a:=B) (b:= .leaf false) ⟨hB.gd,(adw false).gd,hB.s,(adw false).s⟩) rfl<|?_
   refine eqF 35 (.d (vB true)) rfl (by rw[e0']) ?_
   refine kbT 35 rfl ?_
   refine gx rfl<|gl rfl hE.ErrEmpty rfl<|cl (fu:=⟨0⟩) rfl aAv rfl<|knF J J J<|cl (fu:=⟨0⟩) rfl agW rfl<|knF J J J<|cl (fu:=⟨0⟩) rfl (aco (a:=A) (b:=B) ⟨hA.gd,hB.gd,hA.s,hB.s⟩) rfl<|?_
   refine eqF 66 (.d (vB true)) rfl (by rw[e1']) ?_
   refine gx (fu:=⟨0⟩) rfl<|knF J J J<|cl (fu:=⟨0⟩) rfl (aew hE.toEG) rfl<|knT J J J<|cl rfl agW rfl<|?_
   exact rz J J
 ·
  have e0':eqR B (.leaf false)=false:=by rw[e0,h0];rfl
  obtain⟨hg,hcl⟩:=aDD hB.ok h0
  obtain⟨hco,_⟩:=adF hR.lb hR.ok h0
  have hqb:=ada hco
  have hcq:adl B (aaF c)=2:=if_pos hcl
  refine cl rfl (aBP hE hB (by decide) h0) rfl<|cl rfl (ahg hA) rfl<|cl rfl (ahg hB) rfl<|?_
  rcases(show(∃d r,aaW (A.mergeQ 3 B [])=d::r)∨(aaW (A.mergeQ 3 B [])=[]∧ ∃d r,aaW (B.mergeQ 3 A [])=d::r)∨(aaW (A.mergeQ 3 B [])=[]∧aaW (B.mergeQ 3 A [])=[]) from avB _ _) with⟨d,r1,h1⟩|⟨h1,d,r1,h2⟩|⟨h1,h2⟩
  ·
   have e1':eqR A B=false:=by rw[e1,h1];rfl
   obtain⟨_,hc1,hc2,hc3⟩:=aqW hA.ok hB.ok h1
   obtain⟨hcd,_⟩:=adF hM.lb hM.ok h1
   have hqd:=ada hcd
   have hca:adl A (aaF d)=2:=if_pos hc1
   have hcb:adl B (aaF d)=0:=by unfold adl;rw[hc3,hc2];rfl
   refine cl (fu:=⟨7⟩) rfl (auF hE.toEG hA hB (by decide) h1) rfl<|?_
   refine kbT 8 rfl ?_
   refine gx rfl<|cl rfl abG rfl<|cl (fu:=⟨0⟩) rfl (aco (a:=B) (b:= .leaf false) ⟨hB.gd,(adw false).gd,hB.s,(adw false).s⟩) rfl<|?_
   refine eqF 35 (.d (vB false)) rfl (by rw[e0']) ?_
   refine kbF 35 rfl ?_
   refine gx rfl<|cl (fu:=⟨0⟩) rfl (ajh (p:=aaF c)) rfl<|knF J J J<|cl rfl (ar9 (p:=aaF c)) rfl<|cl (fu:=⟨0⟩) rfl (ad0 (t:=B) (p:=aaF c) hB.lb hB.ok (by have:=hB.s;omega)) rfl<|?_
   refine eqF 57 (.d (vI 2)) rfl (by rw[hcq]) ?_
   refine gx (fu:=⟨0⟩) rfl<|knF rfl (by show some (decide _)=some false;rw[decide_eq_false (by decide)]) rfl<|cl (fu:=⟨0⟩) rfl (aco (a:=A) (b:=B) ⟨hA.gd,hB.gd,hA.s,hB.s⟩) rfl<|?_
   refine eqF 66 (.d (vB false)) rfl (by rw[e1']) ?_
   refine gx (fu:=⟨0⟩) rfl<|knF J J J<|cl rfl (ar9 (p:=aaF d)) rfl<|cl rfl (ad0 (t:=A) (p:=aaF d) hA.lb hA.ok (by have:=hA.s;omega)) rfl<|?_
   refine cl rfl (ar9 (p:=aaF d)) rfl<|cl rfl (ad0 (t:=B) (p:=aaF d) hB.lb hB.ok (by have:=hB.s;omega)) rfl<|?_
   refine eqF 10 (.d (vI 2)) rfl (by rw[hca]) ?_
   refine eqF 11 (.d (vI 0)) rfl (by rw[hcb]) ?_
   refine cl (fu:=⟨0⟩) rfl (aew hE.toEG) rfl<|knT (fu:=⟨1⟩) J J J<|knT (fu:=⟨2⟩) rfl (by show some (decide _)=some true;rw[decide_eq_true (by decide)]) rfl<|knT rfl (by show some (decide _)=some true;rw[decide_eq_true (by decide)]) rfl<|?_
   exact rz J J
  ·
   have e1':eqR A B=false:=by rw[e1,h2];simp
   obtain⟨_,hc1,hc2,hc3⟩:=aqW hB.ok hA.ok h2
   obtain⟨hcd,_⟩:=adF hN.lb hN.ok h2
   have hqd:=ada hcd
   have hcb:adl B (aaF d)=2:=if_pos hc1
   have hca:adl A (aaF d)=0:=by unfold adl;rw[hc3,hc2];rfl
   refine cl (fu:=⟨7⟩) rfl (avx hE.toEG hA hB (by decide) h1 h2) rfl<|?_
   refine kbT 8 rfl ?_
   refine gx rfl<|cl rfl abG rfl<|cl (fu:=⟨0⟩) rfl (aco (a:=B) (b:= .leaf false) ⟨hB.gd,(adw false).gd,hB.s,(adw false).s⟩) rfl<|?_
   refine eqF 35 (.d (vB false)) rfl (by rw[e0']) ?_
   refine kbF 35 rfl ?_
   refine gx rfl<|cl (fu:=⟨0⟩) rfl (ajh (p:=aaF c)) rfl<|knF J J J<|cl rfl (ar9 (p:=aaF c)) rfl<|cl (fu:=⟨0⟩) rfl (ad0 (t:=B) (p:=aaF c) hB.lb hB.ok (by have:=hB.s;omega)) rfl<|?_
   refine eqF 57 (.d (vI 2)) rfl (by rw[hcq]) ?_
   refine gx (fu:=⟨0⟩) rfl<|knF rfl (by show some (decide _)=some false;rw[decide_eq_false (by decide)]) rfl<|cl (fu:=⟨0⟩) rfl (aco (a:=A) (b:=B) ⟨hA.gd,hB.gd,hA.s,hB.s⟩) rfl<|?_
   refine eqF 66 (.d (vB false)) rfl (by rw[e1']) ?_
   refine gx (fu:=⟨0⟩) rfl<|knF J J J<|cl rfl (ar9 (p:=aaF d)) rfl<|cl rfl (ad0 (t:=A) (p:=aaF d) hA.lb hA.ok (by have:=hA.s;omega)) rfl<|?_
   refine cl rfl (ar9 (p:=aaF d)) rfl<|cl rfl (ad0 (t:=B) (p:=aaF d) hB.lb hB.ok (by have:=hB.s;omega)) rfl<|?_
   refine eqF 10 (.d (vI 0)) rfl (by rw[hca]) ?_
   refine eqF 11 (.d (vI 2)) rfl (by rw[hcb]) ?_
   refine cl (fu:=⟨0⟩) rfl (aew hE.toEG) rfl<|knT (fu:=⟨1⟩) J J J<|knF (fu:=⟨6⟩) rfl (by show some (decide _)=some false;rw[decide_eq_false (by decide)]) rfl<|?_
   refine knT (fu:=⟨2⟩) rfl (by show some (decide _)=some true;rw[decide_eq_true (by decide)]) rfl<|knT rfl (by show some (decide _)=some true;rw[decide_eq_true (by decide)]) rfl<|?_
   exact rz J J
  ·
   have e1':eqR A B=true:=by rw[e1,h1,h2];rfl
   refine cl (fu:=⟨7⟩) rfl (auY hE.toEG hA hB (by decide) h1 h2) rfl<|?_
   refine kbF 8 rfl ?_
   refine gx rfl<|cl rfl abG rfl<|cl (fu:=⟨0⟩) rfl (aco (a:=B) (b:= .leaf false) ⟨hB.gd,(adw false).gd,hB.s,(adw false).s⟩) rfl<|?_
   refine eqF 35 (.d (vB false)) rfl (by rw[e0']) ?_
   refine kbF 35 rfl ?_
   refine gx rfl<|cl (fu:=⟨0⟩) rfl (ajh (p:=aaF c)) rfl<|knF J J J<|cl rfl (ar9 (p:=aaF c)) rfl<|cl (fu:=⟨0⟩) rfl (ad0 (t:=B) (p:=aaF c) hB.lb hB.ok (by have:=hB.s;omega)) rfl<|?_
   refine eqF 57 (.d (vI 2)) rfl (by rw[hcq]) ?_
   refine gx (fu:=⟨0⟩) rfl<|knF rfl (by show some (decide _)=some false;rw[decide_eq_false (by decide)]) rfl<|cl (fu:=⟨0⟩) rfl (aco (a:=A) (b:=B) ⟨hA.gd,hB.gd,hA.s,hB.s⟩) rfl<|?_
   refine eqF 66 (.d (vB true)) rfl (by rw[e1']) ?_
   refine gx (fu:=⟨0⟩) rfl<|knF J J J<|cl (fu:=⟨0⟩) rfl (aew hE.toEG) rfl<|knT J J J<|cl rfl agW rfl<|?_
   exact rz J J
end Go.Sx
end
