/-
  Plain laws: points of all faces between the lines of two trees decide how the regions are related. Reference: numbers in order, gaps, points of all faces. The abstract machine: functions that hand back a new row. Reference: the lines of a tree, leaves of points, regions held against each other. The abstract machine: elements of an array of the call's own. Reference: fragments split by a line. Reference: edges, winding numbers, regions of rings. Reference: regions made of rings of package api. Reference: restriction of a tree. Reference: lines and cells around a point, from the tape. Reference: trees written for package api. Reference: the tape, trees that are the same; the program's Reduce over deep values.
-/
import Derived.Test.YtlnphbkcelfboaaGreatDoorMt16
set_option linter.unusedSimpArgs false
set_option linter.unusedVariables false
section
set_option maxRecDepth 100000
namespace Go.Sx
open Go Go.Proofs
theorem insG_mem{α:Type}{c:α→α→Int}(hc: ∀u x,c u x=0→u=x){x y:α}: ∀{xs:List α},y=x∨y∈xs→y∈insG c x xs
 |[],h=>by
  rcases h with rfl|h
  ·rw[insG];exact List.mem_singleton.2 rfl
  ·cases h
 |u::t,h=>by
  rw[insG]
  split
  ·rcases h with rfl|h
   ·exact List.mem_cons_of_mem _ (insG_mem hc (.inl rfl))
   ·rcases List.mem_cons.1 h with rfl|h
    ·exact List.mem_cons_self
    ·exact List.mem_cons_of_mem _ (insG_mem hc (.inr h))
  ·split
   ·rename_i h0
    rcases h with rfl|h
    ·rw[←hc _ _ h0];exact List.mem_cons_self
    ·exact h
   ·rcases h with rfl|h
    ·exact List.mem_cons_self
    ·exact List.mem_cons_of_mem _ h
theorem foldG_mem'{α:Type}{c:α→α→Int}(hc: ∀u x,c u x=0→u=x){y:α}: ∀{l o:List α},y∈l∨y∈o→y∈l.foldl (fun out x=>insG c x out) o
 |[],o,h=>h.elim (fun h=>by cases h) id
 |x::t,o,h=>by
  refine foldG_mem' hc (l:=t) ?_
  rcases h with h|h
  ·rcases List.mem_cons.1 h with rfl|h
   ·exact .inr (insG_mem hc (.inl rfl))
   ·exact .inl h
  ·exact .inr (insG_mem hc (.inr h))
theorem distQ_of{ls:List LnQ}{x:LnQ}(h:x∈ls):x.canon∈distQ ls:=
 foldG_mem' (fun u x e=>(lcmp_zero u x).1 e) (.inl (List.mem_map_of_mem h))
theorem canon_val(l:LnQ)(p:PtQ):l.canon.value p=l.value p∨l.canon.value p= -l.value p:=by
 unfold LnQ.canon
 split
 ·exact .inr (val_rev l p)
 ·exact .inl rfl
theorem off_dist{ls:List LnQ}{p:PtQ}:Off (distQ ls) p↔Off ls p:=by
 constructor
 ·intro h l hl e
  have:=h _ (distQ_of hl)
  rcases canon_val l p with k|k<;>rw[k,e] at this<;>exact this (by simp)
 ·intro h l hl e
  obtain⟨x,hx,rfl⟩:=distQ_mem hl
  have:=h x hx
  rcases canon_val x p with k|k<;>rw[k] at e
  ·exact this e
  ·exact this (by grind)
theorem dist_side{ls:List LnQ}{p q:PtQ}(hp:Off ls p)(hq:Off ls q)(h: ∀l∈distQ ls,0<l.value p↔0<l.value q): ∀l∈ls,0<l.value q↔0<l.value p:=fun l hl=>by
 have h1:=h _ (distQ_of hl)
 have h2:=hp l hl
 have h3:=hq l hl
 unfold LnQ.canon at h1
 split at h1
 ·rw[val_rev,val_rev] at h1
  constructor
  ·intro k
   rcases rat_tri (l.value p) with e|e|e
   ·exact absurd e h2
   ·exact e
   ·have:=h1.1 (by grind);grind
  ·intro k
   rcases rat_tri (l.value q) with e|e|e
   ·exact absurd e h3
   ·exact e
   ·have:=h1.2 (by grind);grind
 ·exact h1.symm
def fcs(a b:Tr):List PtQ:=facesQ (distQ (a.lns++b.lns))
theorem fcs_iff{a b:Tr}(ha:a.all LnQ.ok)(hb:b.all LnQ.ok){R:Bool→Bool→Prop}:(∀p∈fcs a b,R (atQ a p) (atQ b p))↔ ∀p,Off (a.lns++b.lns) p→R (a.val p) (b.val p):=by
 have hok: ∀l∈a.lns++b.lns,l.ok:=fun l hl=>(List.mem_append.1 hl).elim (lns_ok ha l) (lns_ok hb l)
 have hne: ∀l∈distQ (a.lns++b.lns),l.Ne:=fun l hl=>by
  obtain⟨x,hx,rfl⟩:=distQ_mem hl
  exact(canon_ok (hok x hx)).ne
 constructor
 ·intro h p hp
  obtain⟨q,hq,hs⟩:=faces_hit hne (off_dist.2 hp)
  have ho:=off_dist.1 (faces_off hne hq)
  have hsd:=dist_side hp ho hs
  have k:=h q hq
  rw[atQ_val (Off.app.1 ho).1,atQ_val (Off.app.1 ho).2,val_side (t:=a) hsd (fun l hl=>List.mem_append_left _ hl),val_side (t:=b) hsd (fun l hl=>List.mem_append_right _ hl)] at k
  exact k
 ·intro h p hp
  have ho:=off_dist.1 (faces_off hne hp)
  rw[atQ_val (Off.app.1 ho).1,atQ_val (Off.app.1 ho).2]
  exact h p ho
def eqR(a b:Tr):Bool:=(fcs a b).all fun p=>atQ a p==atQ b p
theorem eqR_none{a b:Tr}(ha:a.all LnQ.ok)(hb:b.all LnQ.ok):eqR a b=noneQ 4 a b:=by
 rw[Bool.eq_iff_iff,(Gen.mk0 ha hb).none,eqR,List.all_eq_true,fcs_iff ha hb (R:=fun x y=>(x==y)=true)]
 unfold opB
 simp
def anyR(f:Bool→Bool→Bool)(a b:Tr):Bool:=(fcs a b).any fun p=>f (atQ a p) (atQ b p)
def leafQ(v:Bool)(t:Tr):Bool:=decide ((t.restrict []).isLeaf=true∧(t.restrict []).code=v)
theorem eqR_of{a b:Tr}(ha:a.all LnQ.ok)(hb:b.all LnQ.ok){L:List LnQ}(hL: ∀l∈L,l.ok)(hLa: ∀l∈a.lns,l∈L)(hLb: ∀l∈b.lns,l∈L)(h: ∀p,Off L p→a.val p=b.val p):eqR a b=true:=by
 rw[eqR_none ha hb,(Gen.mk ha hb hL hLa hLb).none]
 intro p hp
 rw[h p hp];unfold opB;simp
end Go.Sx
end

section
set_option maxRecDepth 100000
namespace Go.Sx
open Go Go.Proofs
theorem numsR_G(l:List Rat):numsR l=sortG rcmp l:=by
 unfold numsR sortG
 have key: ∀(l o:List Rat),l.foldl (fun out x=>insR x out) o=l.foldl (fun out x=>insG rcmp x out) o:=by
  intro l
  induction l with
  |nil=>intro o;rfl
  |cons a t ih=>intro o;rw[List.foldl_cons,List.foldl_cons,insR_G,ih]
 exact key l []
theorem numsR_len(l:List Rat):(numsR l).length≤l.length:=by
 have:=foldG_len rcmp l []
 rw[numsR_G];simpa[sortG] using this
theorem gaps_bdk{k:Nat}{l:List Rat}(h: ∀q∈l,BQ q k): ∀g∈gapsR l,BQ g (2*k+100):=fun g hg=>by
 cases l with
 |nil=>
  rw[gapsR,List.mem_singleton] at hg;subst hg
  exact BQ.mono (k:=1) ⟨by decide,by decide⟩ (by omega)
 |cons a t=>
  rw[gapsR] at hg
  rcases List.mem_cons.1 hg with rfl|hg
  ·haveI:=h a List.mem_cons_self
   exact BQ.mono (inferInstance:BQ (a-1) _) (by omega)
  ·rcases List.mem_append.1 hg with hg|hg
   ·obtain⟨c,hc,d,hd,rfl⟩:=mem_mids hg
    haveI:=h c hc
    haveI:=h d hd
    exact BQ.mono (inferInstance:BQ ((c+d)/2) _) (by omega)
   ·rw[List.mem_singleton] at hg
    haveI:=h _ (List.getLast_mem (l:=a::t) (by simp))
    subst hg
    exact BQ.mono (inferInstance:BQ ((a::t).getLast (by simp)+1) _) (by omega)
def mtQ(a:LnQ)(t:List LnQ):List Rat:=t.filterMap fun b=>if crossI a b=0 then none else some (meetP a b).x
theorem xsQ_cons(a:LnQ)(t:List LnQ):xsQ (a::t)=(if a.b=0 then [a.base.x] else [])++(mtQ a t++xsQ t):=rfl
theorem mtQ_len(a:LnQ)(t:List LnQ):(mtQ a t).length≤t.length:=List.length_filterMap_le _ _
theorem xsQ_len: ∀l:List LnQ,(xsQ l).length≤l.length*(l.length+1)
 |[]=>Nat.le_refl _
 |a::t=>by
  have h1:=xsQ_len t
  have h2:=mtQ_len a t
  have h3:(if a.b=0 then [a.base.x] else []).length≤1:=by split<;>simp
  rw[xsQ_cons,List.length_append,List.length_append,List.length_cons]
  have e:(t.length+1)*(t.length+1+1)=t.length*(t.length+1)+2*t.length+2:=by simp only[Nat.add_mul,Nat.mul_add];omega
  rw[e];omega
theorem xsQ_bd: ∀{l:List LnQ},(∀a∈l,LB a)→ ∀x∈xsQ l,BQ x 900
 |[],_,x,h=>by cases h
 |a::t,hl,x,h=>by
  haveI:=hl a List.mem_cons_self
  have ht: ∀b∈t,LB b:=fun b hb=>hl b (List.mem_cons_of_mem _ hb)
  rw[xsQ_cons] at h
  rcases List.mem_append.1 h with h|h
  ·split at h
   ·rw[List.mem_singleton] at h;subst h;infer_instance
   ·cases h
  ·rcases List.mem_append.1 h with h|h
   ·obtain⟨b,hb,e⟩:=List.mem_filterMap.1 h
    haveI:=ht b hb
    split at e
    ·cases e
    ·cases e;exact BQ.mono (inferInstance:BQ (meetP a b).x 772) (by decide)
   ·exact xsQ_bd ht x h
theorem ysQ_len(l:List LnQ)(x:Rat):(ysQ l x).length≤l.length:=List.length_filterMap_le _ _
theorem ysQ_bd{l:List LnQ}(hl: ∀a∈l,LB a){x:Rat}(hx:BQ x 1900): ∀y∈ysQ l x,BQ y 2400:=fun y hy=>by
 obtain⟨a,ha,hb,rfl⟩:=of_ys hy
 haveI:=hl a ha
 unfold yA
 exact BQ.mono (inferInstance:BQ (-(((a.a:Rat)*x+(a.c:Rat))/(a.b:Rat))) _) (by omega)
theorem ysQ_step{l:List LnQ}{k:Nat}{a:LnQ}{x:Rat}(h:l[k]? =some a):ysQ (l.drop k) x=(if a.b=0 then [] else [yA a x])++ysQ (l.drop (k+1)) x:=by
 obtain⟨hk,rfl⟩:=List.getElem?_eq_some_iff.1 h
 rw[List.drop_eq_getElem_cons hk]
 unfold ysQ
 rw[List.filterMap_cons]
 split<;>(rename_i e;split at e<;>simp_all)
theorem mtQ_step{t:List LnQ}{k:Nat}{a b:LnQ}(h:t[k]? =some b):mtQ a (t.drop k)=(if crossI a b=0 then [] else [(meetP a b).x])++mtQ a (t.drop (k+1)):=by
 obtain⟨hk,rfl⟩:=List.getElem?_eq_some_iff.1 h
 rw[List.drop_eq_getElem_cons hk]
 unfold mtQ
 rw[List.filterMap_cons]
 split<;>(rename_i e;split at e<;>simp_all)
theorem xsQ_step{l:List LnQ}{k:Nat}{a:LnQ}(h:l[k]? =some a):xsQ (l.drop k)=(if a.b=0 then [a.base.x] else [])++(mtQ a (l.drop (k+1))++xsQ (l.drop (k+1))):=by
 obtain⟨hk,rfl⟩:=List.getElem?_eq_some_iff.1 h
 rw[List.drop_eq_getElem_cons hk,xsQ_cons]
theorem prefix_len{α:Type}{a b c:List α}(h:a++b=c):a.length≤c.length:=by rw[←h,List.length_append];omega
def colQ(l:List LnQ)(x:Rat):List PtQ:=(gapsR (numsR (ysQ l x))).map fun y=>⟨x,y⟩
theorem facesQ_col(l:List LnQ):facesQ l=(gapsR (numsR (xsQ l))).flatMap (colQ l):=rfl
theorem colQ_len(l:List LnQ)(x:Rat):(colQ l x).length≤l.length+1:=by
 unfold colQ
 rw[List.length_map,gapsR_len]
 have:=numsR_len (ysQ l x)
 have:=ysQ_len l x
 omega
theorem flat_len'{α β:Type}(f:α→List β)(m:Nat): ∀l:List α,(∀x,(f x).length≤m)→(l.flatMap f).length≤l.length*m
 |[],_=>by simp
 |a::t,h=>by
  have:=flat_len' f m t h
  have:=h a
  rw[List.flatMap_cons,List.length_append,List.length_cons,Nat.succ_mul];omega
theorem gapsx_len{l:List LnQ}(h:l.length≤6000):(gapsR (numsR (xsQ l))).length≤36006001:=by
 have h1:=xsQ_len l
 have h2:=numsR_len (xsQ l)
 have h3:l.length*(l.length+1)≤6000*6001:=Nat.mul_le_mul h (by omega)
 rw[gapsR_len];omega
theorem faces_len{l:List LnQ}(h:l.length≤6000):(facesQ l).length≤216072012001:=by
 have h1:=flat_len' (colQ l) 6001 (gapsR (numsR (xsQ l))) (fun x=>by have:=colQ_len l x;omega)
 have h2:(gapsR (numsR (xsQ l))).length*6001≤36006001*6001:=Nat.mul_le_mul_right _ (gapsx_len h)
 rw[facesQ_col];omega
theorem flat_drop{α β:Type}{f:α→List β}{l:List α}{k:Nat}{x:α}(h:l[k]? =some x):(l.drop k).flatMap f=f x++(l.drop (k+1)).flatMap f:=by
 obtain⟨hk,rfl⟩:=List.getElem?_eq_some_iff.1 h
 rw[List.drop_eq_getElem_cons hk,List.flatMap_cons]
theorem map_drop'{α β:Type}{f:α→β}{l:List α}{k:Nat}{x:α}(h:l[k]? =some x):(l.drop k).map f=f x::(l.drop (k+1)).map f:=by
 obtain⟨hk,rfl⟩:=List.getElem?_eq_some_iff.1 h
 rw[List.drop_eq_getElem_cons hk,List.map_cons]
theorem drop_end{α:Type}(l:List α):l.drop l.length=[]:=by simp
set_option maxHeartbeats 4000000 in
theorem q_numbers{GB:Gh}{qs:List Rat}{k:Nat}(hb: ∀q∈qs,BQ q k)(hk:k≤100000)(hn:qs.length≤40000000):PF GB Tryz.prog 132 [.sl (qs.map eQ)] (.sl ((numsR qs).map eQ)):=by
 have hm':=map_len' eQ qs
 refine fn (fu:=⟨15⟩) Tryz.func132 J J Tryz.ntmps132 J J (fun C=>?_)
 refine eqF 8 (.d (vI (qs.length:Nat))) rfl (by rw[hm']<;>rfl) ?_
 refine gx rfl<|?_
 refine nlC 3 rfl ?_
 refine lp (X:=List Rat×Nat) (fun⟨xs,i⟩=>[(9, .d (vI (i:Nat))),(3, .d (.sl (xs.map eQ)))]) (fun⟨xs,i⟩=>[]) (fun⟨xs,i⟩=>xs=sortK rcmp id qs i∧i≤qs.length) (fun⟨xs,i⟩=>qs.length-i) ⟨[],0⟩ rfl ⟨rfl,Nat.zero_le _⟩ (fun _=>rfl) (fun⟨xs,i⟩ hk=>?_)
 try dsimp only at hk⊢
 obtain⟨h1,h2⟩:=hk
 refine br J J J (fun hc10=>?_) (fun hc10=>?_)
 ·
  obtain⟨q,hz⟩: ∃s,qs[i]? =some s:=⟨_,List.getElem?_eq_getElem (by omega)⟩
  haveI hqb:=hb q (List.mem_of_getElem? hz)
  have hxl:=map_len' eQ xs
  have hxn:xs.length≤i:=by rw[h1];exact sortK_len
  have hxb: ∀u∈xs,BQ u k:=fun u hu=>by rw[h1] at hu;obtain⟨z,hz,he⟩:=sortK_mem hu;rw[he];exact hb z hz
  refine ix (fu:=⟨11⟩) _ rfl (map_getS hz) rfl<|?_
  refine mg (fu:=⟨5⟩) (X:=Nat) (fun n=>[(6, .d (vI (n:Nat)))]) (fun n=>[]) (fun n=>idxG rcmp q xs=n) [6] [] rfl ?_ (fun _=>rfl) (fun n hnx=>?_)
  ·
   refine gx rfl<|?_
   refine lp (fu:=⟨6⟩) (X:=Nat) (fun n=>[(6, .d (vI (n:Nat)))]) (fun n=>[]) (fun n=>n≤xs.length∧ ∀j (h:j<xs.length),j<n→rcmp xs[j] q<0) (fun n=>xs.length-n) 0 rfl ⟨Nat.zero_le _,fun j _ hj=>absurd hj (by omega)⟩ (fun _=>rfl) (fun n hk=>?_)
   obtain⟨n1,n2⟩:=hk
   refine csS (v2:=fun hg16=>by simp only[allP];kernel_rfl) J J J J (fun hg16=>?_) (fun hg16=>?_)
   ·
    refine ix _ rfl (map_getN (by omega)) rfl<|cl rfl (q_C (a:=xs[n]'(by omega)) (b:=q) (ha:=hxb _ (List.getElem_mem (by omega))) (hb:=hqb) (by omega) (by omega)) rfl<|?_
    refine br J J J (fun hc25=>?_) (fun hc25=>?_)
    ·
     exact at_ (n+1) ⟨⟨by omega,fun j h hj=>by by_cases q:j=n;(subst q;exact hc25);exact n2 j h (by omega)⟩,(by omega)⟩
    ·
     exact at_ n (idxG_eq rcmp n1 n2 (fun h=>hc25))
   ·
    exact at_ n (idxG_eq rcmp n1 n2 (fun h=>absurd h (by omega)))
  ·
   have hnl:n≤xs.length:=by rw[←hnx];exact idxG_le _ _ _
   refine csS (v1:=fun hg31=>by simp only[allP];kernel_rfl) J J J J (fun hg31=>?_) (fun hg31=>?_)
   ·
    have hnew: ∀h:n<xs.length,rcmp xs[n] q≠0:=fun h=>absurd h (by omega)
    obtain⟨ys,hys⟩: ∃ys,ys=xs.take n++q::xs.drop n:=⟨_,rfl⟩
    have hin:insG rcmp q xs=ys:=by rw[hys];exact insG_new rcmp hnx hnew
    have hyl:ys.length≤xs.length+1:=by rw[hys];simp;omega
    refine s3 n _ J J J J (slOkQ _) (by rw[hxl];exact hnl) rfl<|ro J J<|sc' n xs.length _ J J (by rw[hxl]) rfl (slOkQ _) hnl (by omega) rfl<|?_
    refine ap _ J J (slD slOkQ _ _ _) rfl<|apf (hv:=by simp only[allP];exact⟨by kernel_rfl,by omega⟩) (ho:=fun _=>⟨slT slOkQ _ _,by simp⟩) (ys.map eQ) rfl (by rw[hys,List.map_append,List.map_cons,List.map_take,List.map_drop,List.take_of_length_le (l:=xs.map eQ) (i:=xs.length) (by simp)];rfl) (slI slOkQ _ _ _ _) rfl<|?_
    exact at_ ⟨ys,i+1⟩ (by dsimp only;exact⟨⟨by rw[sortK_succ hz,←h1];exact hin.symm,by omega⟩,(by omega)⟩)
   ·
    refine ix _ rfl (map_getN (by omega)) rfl<|cl rfl (q_C (a:=xs[n]'(by omega)) (b:=q) (ha:=hxb _ (List.getElem_mem (by omega))) (hb:=hqb) (by omega) (by omega)) rfl<|?_
    refine br J J J (fun hc40=>?_) (fun hc40=>?_)
    ·
     have hnew: ∀h:n<xs.length,rcmp xs[n] q≠0:=fun h=>hc40
     obtain⟨ys,hys⟩: ∃ys,ys=xs.take n++q::xs.drop n:=⟨_,rfl⟩
     have hin:insG rcmp q xs=ys:=by rw[hys];exact insG_new rcmp hnx hnew
     have hyl:ys.length≤xs.length+1:=by rw[hys];simp;omega
     refine s3 n _ J J J J (slOkQ _) (by rw[hxl];exact hnl) rfl<|ro J J<|sc' n xs.length _ J J (by rw[hxl]) rfl (slOkQ _) hnl (by omega) rfl<|?_
     refine ap _ J J (slD slOkQ _ _ _) rfl<|apf (hv:=by simp only[allP];exact⟨by kernel_rfl,by omega⟩) (ho:=fun _=>⟨slT slOkQ _ _,by simp⟩) (ys.map eQ) rfl (by rw[hys,List.map_append,List.map_cons,List.map_take,List.map_drop,List.take_of_length_le (l:=xs.map eQ) (i:=xs.length) (by simp)];rfl) (slI slOkQ _ _ _ _) rfl<|?_
     exact at_ ⟨ys,i+1⟩ (by dsimp only;exact⟨⟨by rw[sortK_succ hz,←h1];exact hin.symm,by omega⟩,(by omega)⟩)
    ·
     have hin:insG rcmp q xs=xs:=insG_old rcmp hnx (by omega) (Decidable.not_not.1 hc40)
     exact at_ ⟨xs,i+1⟩ (by dsimp only;exact⟨⟨by rw[sortK_succ hz,←h1];exact hin.symm,by omega⟩,(by omega)⟩)
 ·
  have hfin:numsR qs=xs:=by rw[numsR_G,h1,sortK_all (by omega),List.map_id]
  exact rz rfl (by rw[hfin];rfl)
set_option maxHeartbeats 1000000 in
theorem q_gaps{GB:Gh}{cuts:List Rat}{k:Nat}(hb: ∀q∈cuts,BQ q k)(hk':k≤100000)(hn:cuts.length≤40000000):PF GB Tryz.prog 131 [.sl (cuts.map eQ)] (.sl ((gapsR cuts).map eQ)):=by
 have hm:=map_len' eQ cuts
 refine fn (fu:=⟨10⟩) Tryz.func131 J J Tryz.ntmps131 J J (fun C=>?_)
 refine eqF 6 (.d (vI (cuts.length:Nat))) rfl (by rw[hm]<;>rfl) ?_
 refine gx rfl<|?_
 refine br J J J (fun hc7=>?_) (fun hc7=>?_)
 ·
  obtain rfl:cuts=[]:=List.eq_nil_of_length_eq_zero (by omega)
  refine rf J J<|?_
  exact rz rfl (by rw[gapsR];show DV.sl [_]=DV.sl [_];rw[eQ_zero])
 ·
  obtain⟨a,ct,rfl⟩: ∃a t,cuts=a::t:=by cases cuts with|nil=>exact absurd rfl hc7|cons a t=>exact⟨a,t,rfl⟩
  haveI hab:=hb a List.mem_cons_self
  have hcl:ct.length+1≤40000000:=hn
  refine ix _ J J J<|cl rfl (q_Of (n:=1) (by decide) (by decide)) rfl<|cl (fu:=⟨0⟩) rfl (q_Sub (a:=a) (b:=((1:Int):Rat)) (by omega) (by omega)) rfl<|?_
  refine eqF 14 (.d (eQ (a-1))) J J ?_
  refine gx rfl<|ro J J<|?_
  refine lp (fu:=⟨6⟩) (X:=Nat) (fun i=>[(4, .d (vI ((i+1:Nat):Int))),(3, .rw 15)]) (fun i=>[(15,some (.b 84 3 (((a-1)::midsR ((a::ct).take (i+1))).map eQ) true))]) (fun i=>i≤ct.length) (fun i=>ct.length-i) 0 rfl (Nat.zero_le _) (fun _=>rfl) (fun i hk=>?_)
  have hm2:=map_len' eQ (a::ct)
  have hml:=midsR_len (a::ct.take i)
  rw[List.length_cons,List.length_take] at hml
  have hml2:=midsR_len (a::ct)
  rw[List.length_cons] at hml2
  refine eqF 18 (.d (vI ((ct.length+1:Nat):Int))) rfl (by rw[hm2]<;>rfl) ?_
  refine gx rfl<|?_
  refine br (fu2:=⟨11⟩) J J J (fun hc19=>?_) (fun hc19=>?_)
  ·
   obtain⟨u,hu⟩: ∃s,(a::ct)[i]? =some s:=⟨_,List.getElem?_eq_getElem (by simp;omega)⟩
   obtain⟨w,hw⟩: ∃s,(a::ct)[i+1]? =some s:=⟨_,List.getElem?_eq_getElem (by simp;omega)⟩
   haveI:=hb u (List.mem_of_getElem? hu)
   haveI:=hb w (List.mem_of_getElem? hw)
   refine ix _ rfl (by rw[show((((i+1:Nat):Int))-1).toNat=i by omega,List.getElem?_map,hu];rfl) rfl<|ix _ rfl (by rw[Int.toNat_natCast,List.getElem?_map,hw];rfl) rfl<|?_
   refine cl rfl (q_Mid (a:=u) (b:=w) (by omega) (by omega)) rfl<|rf J J<|ap (hv:=by simp only[allP];exact⟨by kernel_rfl,by omega⟩) (((a-1)::midsR ((a::ct).take (i+1+1))).map eQ) rfl (by rw[mids_snoc hu hw,←List.cons_append,List.map_append];rfl) (slOkQ [(u+w)/2]) rfl<|?_
   refine rnE 34 15 rfl ?_
   exact at_ (i+1) ⟨(by omega),(by omega)⟩
  ·
   obtain rfl:i=ct.length:=by omega
   obtain⟨z,hz⟩: ∃s,(a::ct)[ct.length]? =some s:=⟨_,List.getElem?_eq_getElem (by simp)⟩
   haveI:=hb z (List.mem_of_getElem? hz)
   rw[show(a::ct).take (ct.length+1)=a::ct from List.take_length (l:=a::ct)]
   refine eqF 38 (.d (vI ((ct.length+1:Nat):Int))) rfl (by rw[hm2]<;>rfl) ?_
   refine gx rfl<|ix _ rfl (by rw[show((((ct.length+1:Nat):Int))-1).toNat=ct.length by omega,List.getElem?_map,hz];rfl) rfl<|cl rfl (q_Of (n:=1) (by decide) (by decide)) rfl<|?_
   refine cl rfl (q_Plus (a:=z) (b:=((1:Int):Rat)) (by omega) (by omega)) rfl<|rf J J<|ap ((gapsR (a::ct)).map eQ) rfl (by rw[gaps_cons hz,←List.cons_append,List.map_append];rfl) (slOkQ [z+1]) rfl<|?_
   refine fzE 45 rfl ?_
   exact rz J J
set_option maxHeartbeats 4000000 in
theorem q_Faces{GB:Gh}{l:List LnQ}(hb: ∀a∈l,LB a)(ho: ∀a∈l,a.Ne)(hn:l.length≤6000):PF GB Tryz.prog 74 [.sl (l.map eL)] (.sl ((facesQ l).map eP)):=by
 have hbl:=hb
 have hml:=map_len' eL l
 have htot:=faces_len hn
 have hgl:=gapsx_len hn
 have hxl:=xsQ_len l
 have hxl2:l.length*(l.length+1)≤6000*6001:=Nat.mul_le_mul hn (by omega)
 refine fn (fu:=⟨15⟩) Tryz.func74 J J Tryz.ntmps74 J J (fun C=>?_)
 refine eqF 19 (.d (vI (l.length:Nat))) rfl (by rw[List.length_map]<;>rfl) ?_
 refine gx rfl<|?_
 refine nr 3 3 84 3 J J J ?_
 refine lp (X:=List Rat×Nat) (fun⟨cur,i⟩=>[(20, .d (vI (i:Nat))),(3, .rw 3)]) (fun⟨cur,i⟩=>[(3,some (.b 84 3 (cur.map eQ) true))]) (fun⟨cur,i⟩=>cur++xsQ (l.drop i)=xsQ l∧i≤l.length) (fun⟨cur,i⟩=>l.length-i) ⟨[],0⟩ rfl ⟨by simp,Nat.zero_le _⟩ (fun _=>rfl) (fun⟨cur,i⟩ hk=>?_)
 try dsimp only at hk⊢
 obtain⟨h1,h2⟩:=hk
 have hcl:=prefix_len h1
 have hcm:=map_len' eQ cur
 refine br (fu2:=⟨0⟩) J J J (fun hc21=>?_) (fun hc21=>?_)
 ·
  obtain⟨a,ha⟩: ∃s,l[i]? =some s:=⟨_,List.getElem?_eq_getElem (by omega)⟩
  haveI hab:=hb a (List.mem_of_getElem? ha)
  have hao:=ho a (List.mem_of_getElem? ha)
  refine ix (fu:=⟨7⟩) _ rfl (map_getS ha) rfl<|?_
  refine mg (X:=List Rat) (fun cur1=>[(3, .rw 3)]) (fun cur1=>[(3,some (.b 84 3 (cur1.map eQ) true))]) (fun cur1=>cur1++(mtQ a ((l.drop (i+1)).drop 0)++xsQ (l.drop (i+1)))=xsQ l) [3] [3] rfl ?_ (fun _=>rfl) (fun cur1 hc1=>?_)
  ·
   refine gx rfl<|cl rfl (q_Sign (z:=a.b)) rfl<|?_
   refine br J J J (fun hc28=>?_) (fun hc28=>?_)
   ·
    refine cl rfl (q_Base (l:=a) hao) rfl<|rf J J<|ap ((cur++[a.base.x]).map eQ) rfl (by rw[List.map_append];rfl) (slOkQ [_]) rfl<|?_
    refine rnE 34 3 rfl ?_
    exact at_ (cur++[a.base.x]) (by rw[←h1,xsQ_step ha,if_pos (Int.sign_eq_zero_iff_zero.1 hc28)];simp)
   ·
    exact at_ cur (by rw[←h1,xsQ_step ha,if_neg (fun e=>hc28 (Int.sign_eq_zero_iff_zero.2 e))];simp)
  ·
   have hcl1:=prefix_len hc1
   have hdl:(l.drop (i+1)).length≤6000:=by rw[List.length_drop];omega
   have hcm1:=map_len' eQ cur1
   refine sc' (fu:=⟨1⟩) (i+1) l.length ((l.drop (i+1)).map eL) J J (by rw[hml]) (by rw[List.take_of_length_le (by rw[hml];exact Nat.le_refl _),List.map_drop]) (slOkL l) (by omega) (by rw[hml];exact Nat.le_refl _) rfl<|?_
   refine eqF 39 (.d (vI ((l.drop (i+1)).length:Nat))) rfl (by rw[List.length_map]<;>rfl) ?_
   refine gx rfl<|?_
   refine lp (X:=List Rat×Nat) (fun⟨cur2,j⟩=>[(40, .d (vI (j:Nat))),(3, .rw 3)]) (fun⟨cur2,j⟩=>[(3,some (.b 84 3 (cur2.map eQ) true))]) (fun⟨cur2,j⟩=>cur2++(mtQ a ((l.drop (i+1)).drop j)++xsQ (l.drop (i+1)))=xsQ l∧j≤(l.drop (i+1)).length) (fun⟨cur2,j⟩=>(l.drop (i+1)).length-j) ⟨cur1,0⟩ rfl ⟨hc1,Nat.zero_le _⟩ (fun _=>rfl) (fun⟨cur2,j⟩ hk=>?_)
   try dsimp only at hk⊢
   obtain⟨j1,j2⟩:=hk
   have hcl2:=prefix_len j1
   have hcm2:=map_len' eQ cur2
   refine br J J J (fun hc41=>?_) (fun hc41=>?_)
   ·
    obtain⟨b,hb⟩: ∃s,(l.drop (i+1))[j]? =some s:=⟨_,List.getElem?_eq_getElem (by omega)⟩
    haveI hbb:=hbl b (List.mem_of_mem_drop (List.mem_of_getElem? hb))
    refine ix _ rfl (map_getS hb) rfl<|cl rfl (q_Meet (l:=a) (m:=b)) rfl<|?_
    refine bd J J J (fun hc50=>?_) (fun hc50=>?_)
    ·
     refine rf J J<|ap ((cur2++[(meetP a b).x]).map eQ) rfl (by rw[List.map_append];rfl) (slOkQ [_]) rfl<|?_
     refine rnE 55 3 rfl ?_
     exact at_ ⟨cur2++[(meetP a b).x],j+1⟩ (by dsimp only;exact⟨⟨by rw[←j1,mtQ_step hb,if_neg hc50];simp,by omega⟩,(by omega)⟩)
    ·
     exact at_ ⟨cur2,j+1⟩ (by dsimp only;exact⟨⟨by rw[←j1,mtQ_step hb,if_pos (Decidable.not_not.1 hc50)];simp,by omega⟩,(by omega)⟩)
   ·
    obtain rfl:j=(l.drop (i+1)).length:=by omega
    exact at_ ⟨cur2,i+1⟩ (by dsimp only;exact⟨⟨by rw[drop_end] at j1;exact j1,by omega⟩,(by omega)⟩)
 ·
  obtain rfl:i=l.length:=by omega
  obtain rfl:cur=xsQ l:=by rw[drop_end] at h1;simpa[xsQ] using h1
  refine fzC 3 rfl ?_
  refine gx rfl<|cl rfl (q_numbers (qs:=xsQ l) (k:=900) (xsQ_bd hb) (by decide) (by omega)) rfl<|cl (fu:=⟨1⟩) rfl (q_gaps (cuts:=numsR (xsQ l)) (k:=900) (fun q hq=>xsQ_bd hb q (mem_numsR.1 hq)) (by decide) (by have:=numsR_len (xsQ l);omega)) rfl<|?_
  refine eqF 61 (.d (vI ((gapsR (numsR (xsQ l))).length:Nat))) rfl (by rw[List.length_map]<;>rfl) ?_
  refine gx rfl<|?_
  refine nr 10 10 86 6 J J J ?_
  refine lp (X:=List PtQ×Nat) (fun⟨pts,g⟩=>[(62, .d (vI (g:Nat))),(10, .rw 10)]) (fun⟨pts,g⟩=>[(10,some (.b 86 6 (pts.map eP) true))]) (fun⟨pts,g⟩=>pts++((gapsR (numsR (xsQ l))).drop g).flatMap (colQ l)=facesQ l∧g≤(gapsR (numsR (xsQ l))).length) (fun⟨pts,g⟩=>(gapsR (numsR (xsQ l))).length-g) ⟨[],0⟩ rfl ⟨rfl,Nat.zero_le _⟩ (fun _=>rfl) (fun⟨pts,g⟩ hk=>?_)
  try dsimp only at hk⊢
  obtain⟨g1,g2⟩:=hk
  have hpl:=prefix_len g1
  have hpm:=map_len' eP pts
  refine br J J J (fun hc63=>?_) (fun hc63=>?_)
  ·
   obtain⟨x,hx⟩: ∃s,(gapsR (numsR (xsQ l)))[g]? =some s:=⟨_,List.getElem?_eq_getElem (by omega)⟩
   haveI hxb:BQ x 1900:=gaps_bdk (k:=900) (fun q hq=>xsQ_bd hb q (mem_numsR.1 hq)) x (List.mem_of_getElem? hx)
   refine ix (fu:=⟨15⟩) _ rfl (map_getS hx) rfl<|?_
   refine eqF 67 (.d (vI (l.length:Nat))) rfl (by rw[List.length_map]<;>rfl) ?_
   refine gx rfl<|?_
   refine nr 13 13 84 3 J J J ?_
   refine lp (X:=List Rat×Nat) (fun⟨ys,j⟩=>[(68, .d (vI (j:Nat))),(13, .rw 13)]) (fun⟨ys,j⟩=>[(13,some (.b 84 3 (ys.map eQ) true))]) (fun⟨ys,j⟩=>ys++ysQ (l.drop j) x=ysQ l x∧j≤l.length) (fun⟨ys,j⟩=>l.length-j) ⟨[],0⟩ rfl ⟨rfl,Nat.zero_le _⟩ (fun _=>rfl) (fun⟨ys,j⟩ hk=>?_)
   try dsimp only at hk⊢
   obtain⟨y1,y2⟩:=hk
   have hyl:=prefix_len y1
   have hym:=map_len' eQ ys
   have hyt:=ysQ_len l x
   refine br (fu2:=⟨0⟩) J J J (fun hc69=>?_) (fun hc69=>?_)
   ·
    obtain⟨a,ha⟩: ∃s,l[j]? =some s:=⟨_,List.getElem?_eq_getElem (by omega)⟩
    haveI hala:=hb a (List.mem_of_getElem? ha)
    refine ix _ rfl (map_getS ha) rfl<|cl rfl (q_Sign (z:=a.b)) rfl<|?_
    refine br J J J (fun hc75=>?_) (fun hc75=>?_)
    ·
     have hab: ¬a.b=0:=fun e=>hc75 (Int.sign_eq_zero_iff_zero.2 e)
     have habR:((a.b:Int):Rat)≠0:=fun e=>hab (Rat.intCast_eq_zero_iff.1 e)
     refine cl rfl (q_sq (z:=a.a)) rfl<|cl rfl (q_Times (a:=(a.a:Rat)) (b:=x)) rfl<|cl rfl (q_sq (z:=a.c)) rfl<|cl rfl (q_Plus (a:=(a.a:Rat)*x) (b:=(a.c:Rat))) rfl<|?_
     refine cl rfl (q_sq (z:=a.b)) rfl<|cl rfl (q_Over (a:=(a.a:Rat)*x+(a.c:Rat)) (b:=(a.b:Rat)) habR) rfl<|cl rfl (q_Opp (q:=((a.a:Rat)*x+(a.c:Rat))/(a.b:Rat))) rfl<|?_
     refine rf J J<|ap (hv:=by simp only[allP];exact⟨by kernel_rfl,by omega⟩) ((ys++[yA a x]).map eQ) rfl (by rw[List.map_append];rfl) (slOkQ [_]) rfl<|?_
     refine rnE 92 13 rfl ?_
     exact at_ ⟨ys++[yA a x],j+1⟩ (by dsimp only;exact⟨⟨by rw[←y1,ysQ_step ha,if_neg hab];simp,by omega⟩,(by omega)⟩)
    ·
     have hab:a.b=0:=Int.sign_eq_zero_iff_zero.1 (Decidable.not_not.1 hc75)
     exact at_ ⟨ys,j+1⟩ (by dsimp only;exact⟨⟨by rw[←y1,ysQ_step ha,if_pos hab];simp,by omega⟩,(by omega)⟩)
   ·
    obtain rfl:j=l.length:=by omega
    obtain rfl:ys=ysQ l x:=by rw[drop_end] at y1;simpa[ysQ] using y1
    have hyb:=ysQ_bd hb hxb
    have hgy:(gapsR (numsR (ysQ l x))).length≤6001:=by have:=colQ_len l x;unfold colQ at this;rw[List.length_map] at this;omega
    refine fzC 13 rfl ?_
    refine gx rfl<|cl rfl (q_numbers (qs:=ysQ l x) (k:=2400) hyb (by decide) (by omega)) rfl<|cl (fu:=⟨1⟩) rfl (q_gaps (cuts:=numsR (ysQ l x)) (k:=2400) (fun q hq=>hyb q (mem_numsR.1 hq)) (by decide) (by have:=numsR_len (ysQ l x);omega)) rfl<|?_
    refine eqF 97 (.d (vI ((gapsR (numsR (ysQ l x))).length:Nat))) rfl (by rw[List.length_map]<;>rfl) ?_
    refine gx rfl<|?_
    refine lp (X:=List PtQ×Nat) (fun⟨pts2,j⟩=>[(98, .d (vI (j:Nat))),(10, .rw 10)]) (fun⟨pts2,j⟩=>[(10,some (.b 86 6 (pts2.map eP) true))]) (fun⟨pts2,j⟩=>pts2++(((gapsR (numsR (ysQ l x))).drop j).map (fun y=>(⟨x,y⟩:PtQ))++((gapsR (numsR (xsQ l))).drop (g+1)).flatMap (colQ l))=facesQ l∧j≤(gapsR (numsR (ysQ l x))).length) (fun⟨pts2,j⟩=>(gapsR (numsR (ysQ l x))).length-j) ⟨pts,0⟩ rfl ⟨by rw[flat_drop hx] at g1;exact g1,Nat.zero_le _⟩ (fun _=>rfl) (fun⟨pts2,j⟩ hk=>?_)
    try dsimp only at hk⊢
    obtain⟨w1,w2⟩:=hk
    have hpl2:=prefix_len w1
    have hpm2:=map_len' eP pts2
    refine br J J J (fun hc99=>?_) (fun hc99=>?_)
    ·
     obtain⟨y,hy⟩: ∃s,(gapsR (numsR (ysQ l x)))[j]? =some s:=⟨_,List.getElem?_eq_getElem (by omega)⟩
     refine ix _ rfl (map_getS hy) rfl<|rf J J<|ap ((pts2++[(⟨x,y⟩:PtQ)]).map eP) rfl (by rw[List.map_append];rfl) (slOkP [(⟨x,y⟩:PtQ)]) rfl<|?_
     refine rnE 107 10 rfl ?_
     exact at_ ⟨pts2++[⟨x,y⟩],j+1⟩ (by dsimp only;exact⟨⟨by rw[←w1,map_drop' hy];simp,by omega⟩,(by omega)⟩)
    ·
     obtain rfl:j=(gapsR (numsR (ysQ l x))).length:=by omega
     exact at_ ⟨pts2,g+1⟩ (by dsimp only;exact⟨⟨by rw[drop_end] at w1;exact w1,by omega⟩,(by omega)⟩)
  ·
   obtain rfl:g=(gapsR (numsR (xsQ l))).length:=by omega
   obtain rfl:pts=facesQ l:=by rw[drop_end] at g1;simpa using g1
   refine fzE 10 rfl ?_
   exact rz J J
end Go.Sx
end

section
set_option maxRecDepth 100000
namespace Go.Sx
open Go Go.Proofs
section
variable {GB:Gh} {C:Ctx} {n:Nat} {Q0:Exit→Act→World→Prop} {fr fr':FrX} {own own':OwX} {cf cf':Cf} {vc:List Prop}
def PR(GB:Gh)(P:Program)(f:FuncId)(ds:List DV)(s:Nat)(ty:TypeId)(rows:List DV):Prop:=
 ∀G vs,GLe GB G→IsLs G ds vs→FnO P f vs [] G (fun v own' G'=> ∃w:SV,v= .slice w.a w.n w.c∧BufIs G' ⟨w,s,ty,rows,true⟩ own')
theorem relo_id: ∀(l:List Own),(∀o∈l,o.lo=true)→l.map (relo (flM []))=l
 |[],_=>rfl
 |a::t,h=>by
  have h1:=h a List.mem_cons_self
  rw[List.map_cons,relo_id t fun o ho=>h o (List.mem_cons_of_mem _ ho)]
  congr 1
  cases a
  simp[relo,flM] at*
  exact h1
theorem ok_callR{lk:LK}{bk:BM}{fo:Operand}{args:Array Operand}{tys:Array TypeId}{f:FuncId}{d s:Nat}{ds rows:List DV}{ty ty2:TypeId}{pos:String}{af:Array Edge}{gd:Option (Nat×Bool)}
  (ha:cargs lk fo args=some (f,ds))(hF:PR GB Tryz.prog f ds s ty2 rows):OpR Tryz.prog GB C n lk bk ⟨some d, .call ⟨.value fo,args,tys⟩,ty,pos,af,gd⟩ (.rw d) [(d,some (.b ty2 s rows true))] [d]:=by
 intro hd tl tb K' s1 s2 hf hk
 refine⟨fun ρ G ov a w r Q=>?_⟩
 have r1:=r.mono s1 s2
 obtain⟨h1,h2⟩:=cargs_ok ha
 obtain⟨y,hy,hy'⟩:=r1.ev h1
 rw[(is_v (G:=G)).1 hy'] at hy
 obtain⟨vs,h3,h4⟩:=r1.evDs h2
 refine ch_callO (M:=[]) (rest:=ov) hy h3 (List.Perm.refl _) (hF G vs r.gb h4) hd (fun v own1 G' hG hK a' w' rl=>?_) a w Q ⟨r.h,r.sz,frA_ok a,r.df⟩
 obtain⟨z,rfl,vs',k1,k2,k3,k4⟩:=hK
 rw[relo_id _ (k4 rfl)] at rl
 have rl':Rel C n (Sx.put (frA a) (some d) (.slice z.a z.n z.c)) (own1++ov) G' a' w':=rl
 have hdis:=(List.pairwise_append.1 rl'.h.nd).2.2
 have r3:=r.new' (x:=z) (B':= .b ty2 s rows true) (os:=own1) (ov':=own1++ov) (f:= .rw d) (y:= .slice z.a z.n z.c) hf hG.le rl'.h ⟨vs',by simpa using k1,k2,k3,k4⟩ (fun o ho=>List.mem_append_left _ ho)
  (fun q B0 hq e o ho hbq=>⟨List.mem_append_right _ ho,fun hc=>by
   have hx: ∃o1∈own1,o1.b=o.b:=by
    rcases k1 with⟨_,h,_⟩|⟨b0,rest0,lo0,h,hB,_⟩
    ·rw[show z=_ from h] at hc;cases hc
    ·rw[show z=_ from h] at hc;cases hc;exact⟨⟨_,flatL vs'++rest0,_,lo0⟩,by rw[hB];exact List.mem_cons_self,rfl⟩
   obtain⟨o1,ho1,he1⟩:=hx
   exact hdis o1 ho1 o ho he1⟩) (by simp[IsX]) (putA_rel rl')
 exact hk.run _ G' _ a' w' r3
def calR(fr:FrX)(cf:Cf):Option (FuncId×List DV×Nat):=match opC fr cf with
 |some ⟨some d, .call ⟨.value fo,args,_⟩,_,_,_,_⟩=>match cargs (lkC fr cf) fo args with
  |some (f,ds)=>some (f,ds,d)
  |none=>none
 |_=>none
theorem cr[fu:Fu]{f:FuncId}{d s:Nat}{ds rows:List DV}{ty:TypeId}(ha:calR fr cf=some (f,ds,d))(hF:PR GB Tryz.prog f ds s ty rows)
  (hgo:goA tt n fu.n fr own cf (.rw d) [(d,some (.b ty s rows true))] [d]=⟨vc,fr',own',cf'⟩)(k:CfS Tryz.prog GB C n Q0 fr' own' cf')
  (hv:allP vc:=by first|exact trivial|(simp only[allP];kernel_rfl)|(simp only[allP];omega)|(simp only[allP,List.length_map,List.length_set,List.length_replicate];omega)):CfS Tryz.prog GB C n Q0 fr own cf:=by
 unfold calR at ha
 split at ha<;>try (cases ha;done)
 rename_i hh
 split at ha<;>cases ha
 rename_i h1
 exact us hh (ok_callR h1 hF) hgo hv k
def PRpost(C:Ctx)(s:Nat)(ty:TypeId)(rows:List DV):Ending→World→Prop:=RPostO C (fun v own' G'=> ∃w:SV,v= .slice w.a w.n w.c∧BufIs G' ⟨w,s,ty,rows,true⟩ own')
theorem fnR[fu:Fu]{f:FuncId}{fb:Func}{c:Code}{m s:Nat}{ds rows:List DV}{ty:TypeId}(hf:Tryz.prog.funcs[f]? =some fb)(hb:fb.body=some c)(hn:(fb.name== "runtime.NumGoroutine")=false)(hm:fb.ntmps=m)(hlen:Nat.ble ds.length m=true)
  (hgo:go tt m fu.n [] (args0X 0 ds) [] (.code c [])=⟨vc,fr,own,cf⟩)(k: ∀C:Ctx,C.mb=[]→CfS Tryz.prog GB C m (bodyPost Tryz.prog fb (PRpost C s ty rows)) fr own cf)
  (hv:allP vc:=by first|exact trivial|(simp only[allP];kernel_rfl)|(simp only[allP];omega)|(simp only[allP,List.length_map,List.length_set,List.length_replicate];omega)):PR GB Tryz.prog f ds s ty rows:=by
 intro G vs hg hvs
 refine FnO.intro hf hb hn hm (by rw[hvs.len];exact hlen) fun C _ hmb=>?_
 intro a w rl
 have h:=gx' (GB:=GB) (C:=C) (Q0:=bodyPost Tryz.prog fb (PRpost C s ty rows)) hgo hv (k C (by simpa using hmb))
 exact h.run (fun _=>⟨none,0,0⟩) G [] a w ⟨hg,rl.h,rl.sz,rl.df,(fun k f e=>args_fr hvs rl.fr k f e),(fun nm B e=>by cases e),(fun nm nm' B B' e=>by cases e)⟩
theorem rzR{fb:Func}{t d s:Nat}{ty:TypeId}{rows rws:List DV}(hr:fb.results.toList=[.tmp t])(hl:lookX fr t=some (.rw d))(hw:lookO own d=some (.b ty s rws true))(er:rws=rows):
  CfS Tryz.prog GB C n (bodyPost Tryz.prog fb (PRpost C s ty rows)) fr own (.ex .ret []):=by
 subst er
 refine⟨fun ρ G ov a w r=>?_⟩
 obtain⟨B,g1,g2⟩:=r.bx _ _ hw
 have hB:BufIs G ⟨ρ d,s,ty,rws,true⟩ B:=g1
 obtain⟨rest,hp⟩:=own_rest hB g2
 obtain⟨y,hy,hy'⟩:=r.ev (x:= .tmp t) (f:= .rw d) hl
 cases (show y=_ from hy')
 exact st_doneO (C:=C) (n:=n) (fr:=frA a) (own:=ov) (G:=G) (vs:=[.slice (ρ d).a (ρ d).n (ρ d).c]) (by rw[hr];exact .tmp hy .nil) (B++rest) B hp (List.sublist_append_left _ _) ⟨ρ d,rfl,hB⟩ a w ⟨r.h,r.sz,frA_ok a,r.df⟩
theorem rzR0{fb:Func}{t s:Nat}{ty:TypeId}{rows:List DV}(hr:fb.results.toList=[.tmp t])(hl:lookX fr t=some .nl)(er:rows=[]):
  CfS Tryz.prog GB C n (bodyPost Tryz.prog fb (PRpost C s ty rows)) fr own (.ex .ret []):=by
 subst er
 refine⟨fun ρ G ov a w r=>?_⟩
 obtain⟨y,hy,hy'⟩:=r.ev (x:= .tmp t) (f:= .nl) hl
 cases (show y=_ from hy')
 exact st_doneO (C:=C) (n:=n) (fr:=frA a) (own:=ov) (G:=G) (vs:=[.slice none 0 0]) (by rw[hr];exact .tmp hy .nil) ([]++ov) [] (List.Perm.refl _) (List.nil_sublist _) ⟨⟨none,0,0⟩,rfl,[], .inl ⟨rfl,rfl,rfl⟩,isl_nil.2 rfl,fun v h=>(by cases h),fun _ o h=>(by cases h)⟩ a w ⟨r.h,r.sz,frA_ok a,r.df⟩
end
end Go.Sx
end

section
set_option maxRecDepth 100000
namespace Go.Sx
open Go Go.Proofs
theorem q_lines_leaf{GB:Gh}{b:Bool}:PR GB Tryz.prog 76 [eT (Tr.leaf b)] 6 46 ((Tr.leaf b).lns.map eL):=by
 refine fnR (fu:=⟨11⟩) Tryz.func76 J J Tryz.ntmps76 J J (fun C hmb=>?_)
 refine knT J J J<|?_
 exact rzR0 J J J
theorem q_lines_node{GB:Gh}{l:LnQ}{x y:Tr}(hs:(Tr.node l x y).size≤100000)(ihx:PR GB Tryz.prog 76 [eT x] 6 46 (x.lns.map eL))(ihy:PR GB Tryz.prog 76 [eT y] 6 46 (y.lns.map eL)):PR GB Tryz.prog 76 [eT (Tr.node l x y)] 6 46 ((Tr.node l x y).lns.map eL):=by
 have hsx:=lns_len x
 have hsy:=lns_len y
 have hsz:(Tr.node l x y).size=1+x.size+y.size:=rfl
 refine fnR (fu:=⟨11⟩) Tryz.func76 J J Tryz.ntmps76 J J (fun C hmb=>?_)
 refine knF J J J<|ro J J<|cr rfl ihx rfl<|ap (hbd:=by simp only[List.length_map,List.length_cons,List.length_nil];omega) ((l::x.lns).map eL) rfl (by rw[List.map_cons];rfl) (slOkL _) rfl<|?_
 refine cr rfl ihy rfl<|ap (hbd:=by simp only[List.length_map,List.length_cons,List.length_nil];omega) ((l::(x.lns++y.lns)).map eL) rfl (by rw[List.map_cons,List.map_cons,List.map_append];rfl) (slOkL _) rfl<|?_
 exact rzR J J J J
theorem q_lines{GB:Gh}: ∀{t:Tr},t.size≤100000→PR GB Tryz.prog 76 [eT t] 6 46 (t.lns.map eL)
 | .leaf _,_=>q_lines_leaf
 | .node l x y,h=>q_lines_node h (q_lines (by have:(Tr.node l x y).size=1+x.size+y.size:=rfl;omega)) (q_lines (by have:(Tr.node l x y).size=1+x.size+y.size:=rfl;omega))
def atO:Tr→PtQ→Bool
 | .leaf _,_=>true
 | .node l x y,p=>if(l.value p).num.sign=1 then atO x p else if(l.value p).num.sign= -1 then atO y p else false
set_option maxHeartbeats 1000000 in
theorem q_TAt{GB:Gh}{t:Tr}{p:PtQ}{i:Nat}[hp:BPt p i](hb:t.all LB)(hi:i≤400000:=by decide):PF GB Tryz.prog 77 [eT t,eP p] (.tp [vB (atQ t p),vB (atO t p)]):=by
 refine fn Tryz.func77 J J Tryz.ntmps77 J J (fun C=>?_)
 refine lp (fu:=⟨3⟩) (X:=Tr) (fun s=>[(0, .d (eT s))]) (fun s=>[]) (fun s=>atQ s p=atQ t p∧atO s p=atO t p∧s.all LB) (fun s=>s.size) t rfl ⟨rfl,rfl,hb⟩ (fun _=>rfl) (fun s hk=>?_)
 obtain⟨h1,h2,hb2⟩:=hk
 rcases s with b|⟨l,x,y⟩
 ·
  have hA:atQ t p=b:=h1.symm
  have hO:atO t p=true:=h2.symm
  refine gx (fu:=⟨3⟩) rfl<|knT J J J<|?_
  exact rz rfl (by rw[hA,hO];rfl)
 ·
  have hAn:=h1.symm
  have hOn:=h2.symm
  rw[atQ] at hAn
  rw[atO] at hOn
  haveI:=hb2.1
  refine gx (fu:=⟨3⟩) rfl<|knF J J J<|cl rfl (q_Side (l:=l) (p:=p) (i:=i) hi) rfl<|?_
  refine br J J J (fun hc17=>?_) (fun hc17=>?_)
  ·
   exact at_ x ⟨⟨by rw[hAn,if_pos hc17],by rw[hOn,if_pos hc17],hb2.2.1⟩,(by simp only[Tr.size];omega)⟩
  ·
   refine br J J J (fun hc23=>?_) (fun hc23=>?_)
   ·
    exact at_ y ⟨⟨by rw[hAn,if_neg hc17,if_pos hc23],by rw[hOn,if_neg hc17,if_pos hc23],hb2.2.2⟩,(by simp only[Tr.size];omega)⟩
   ·
    exact rz rfl (by rw[hAn,hOn,if_neg hc17,if_neg hc23,if_neg hc17,if_neg hc23];rfl)
theorem distQ_len(ls:List LnQ):(distQ ls).length≤ls.length:=by
 have:=foldG_len lcmp (ls.map LnQ.canon) []
 unfold distQ sortG
 rw[List.length_map,List.length_nil] at this
 omega
theorem faces_bd{l:List LnQ}(hl: ∀a∈l,LB a): ∀p∈facesQ l,BPt p 4900:=fun p hp=>by
 obtain⟨h1,h2⟩:=mem_faces.1 hp
 have hx:BQ p.x 1900:=gaps_bdk (k:=900) (fun q hq=>xsQ_bd hl q (mem_numsR.1 hq)) _ h1
 have hy:BQ p.y 4900:=gaps_bdk (k:=2400) (fun q hq=>ysQ_bd hl hx q (mem_numsR.1 hq)) _ h2
 exact⟨hx.mono (by decide),hy⟩
theorem dist_lb{ls:List LnQ}(h: ∀l∈ls,LB l): ∀l∈distQ ls,LB l:=fun l hl=>by
 obtain⟨x,hx,rfl⟩:=distQ_mem hl
 haveI:=h x hx
 infer_instance
theorem dist_ne{ls:List LnQ}(h: ∀l∈ls,l.ok): ∀l∈distQ ls,l.Ne:=fun l hl=>by
 obtain⟨x,hx,rfl⟩:=distQ_mem hl
 exact(canon_ok (h x hx)).ne
structure Two (a b:Tr):Prop where
 ga:a.gd
 gb:b.gd
 sa:a.size≤3000
 sb:b.size≤3000
theorem Two.lb{a b:Tr}(h:Two a b): ∀l∈a.lns++b.lns,LB l:=fun l hl=>(List.mem_append.1 hl).elim (lns_all.1 h.ga.lb l) (lns_all.1 h.gb.lb l)
theorem Two.ok{a b:Tr}(h:Two a b): ∀l∈a.lns++b.lns,l.ok:=fun l hl=>(List.mem_append.1 hl).elim (lns_ok h.ga.ok l) (lns_ok h.gb.ok l)
theorem Two.len{a b:Tr}(h:Two a b):(a.lns++b.lns).length≤6000:=by rw[List.length_append,lns_len,lns_len];have:=h.sa;have:=h.sb;omega
theorem Two.fl{a b:Tr}(h:Two a b):(fcs a b).length≤216072012001:=faces_len (Nat.le_trans (distQ_len _) h.len)
theorem Two.fb{a b:Tr}(h:Two a b): ∀p∈fcs a b,BPt p 4900:=faces_bd (dist_lb h.lb)
theorem eqR_no{a b:Tr}{k:Nat}{p:PtQ}(hz:(fcs a b)[k]? =some p)(h:atQ a p≠atQ b p):eqR a b=false:=by
 rw[eqR,List.all_eq_false]
 exact⟨p,List.mem_of_getElem? hz,by simpa using h⟩
theorem eqR_yes{a b:Tr}(h: ∀j p,(fcs a b)[j]? =some p→j<(fcs a b).length→atQ a p=atQ b p):eqR a b=true:=by
 rw[eqR,List.all_eq_true]
 intro p hp
 obtain⟨j,hj,rfl⟩:=List.getElem_of_mem hp
 simpa using h j _ (List.getElem?_eq_getElem hj) hj
set_option maxHeartbeats 2000000 in
theorem q_REqual{GB:Gh}{a b:Tr}(h:Two a b):PF GB Tryz.prog 43 [eT a,eT b] (vB (eqR a b)):=by
 have hsa:=h.sa
 have hsb:=h.sb
 have hll:=h.len
 have hfl:=h.fl
 have hla:=lns_len a
 have hlb:=lns_len b
 refine fn Tryz.func43 J J Tryz.ntmps43 J J (fun C=>?_)
 refine cr rfl (q_lines (t:=a) (by omega)) rfl<|cr rfl (q_lines (t:=b) (by omega)) rfl<|ap (hbd:=by simp only[List.length_map];omega) ((a.lns++b.lns).map eL) rfl (by rw[List.map_append]) (slOkL _) rfl<|?_
 refine fz 15 J J<|cl rfl (q_Distinct (ls:=a.lns++b.lns) h.lb (by omega)) rfl<|cl (fu:=⟨1⟩) rfl (q_Faces (l:=distQ (a.lns++b.lns)) (dist_lb h.lb) (dist_ne h.ok) (Nat.le_trans (distQ_len _) hll)) rfl<|?_
 refine eqF 18 (.d (vI ((fcs a b).length:Nat))) rfl (by rw[List.length_map];rfl) ?_
 refine gx rfl<|?_
 refine lp (X:=Nat) (fun k=>[(19, .d (vI (k:Nat)))]) (fun k=>[]) (fun k=>k≤(fcs a b).length∧ ∀j q,(fcs a b)[j]? =some q→j<k→atQ a q=atQ b q) (fun k=>(fcs a b).length-k) 0 rfl ⟨Nat.zero_le _,fun j q _ hj=>absurd hj (by omega)⟩ (fun _=>rfl) (fun k hk=>?_)
 obtain⟨k1,k2⟩:=hk
 refine br J J J (fun hc20=>?_) (fun hc20=>?_)
 ·
  obtain⟨p,hz⟩: ∃s,(fcs a b)[k]? =some s:=⟨_,List.getElem?_eq_getElem (by omega)⟩
  haveI hpb:=h.fb p (List.mem_of_getElem? hz)
  refine ix _ rfl (map_getS (l:=fcs a b) hz) rfl<|cl rfl (q_TAt (t:=a) (p:=p) (i:=4900) h.ga.lb) rfl<|cl rfl (q_TAt (t:=b) (p:=p) (i:=4900) h.gb.lb) rfl<|?_
  refine bb J J J (fun hc37=>?_) (fun hc37=>?_)
  ·
   exact rz rfl (by rw[eqR_no hz (by simpa using hc37)];rfl)
  ·
   exact at_ (k+1) ⟨⟨by omega,fun j q hq hj=>by by_cases e:j=k;(subst e;rw[hz] at hq;cases hq;simpa using hc37);exact k2 j q hq (by omega)⟩,(by omega)⟩
 ·
  exact rz rfl (by rw[eqR_yes fun j q hq hj=>k2 j q hq (by omega)];rfl)
def f1R(x y:Bool):Bool:=x&&!y
def f2R(x y:Bool):Bool:=y&&!x
def f3R(x y:Bool):Bool:=x&&y
def f4R(x y:Bool):Bool:=!x&&!y
def anK(f:Bool→Bool→Bool)(a b:Tr)(k:Nat):Bool:=((fcs a b).take k).any fun p=>f (atQ a p) (atQ b p)
end Go.Sx
end

section
set_option maxRecDepth 100000
namespace Go.Sx
open Go Go.Proofs
section
variable {GB:Gh} {C:Ctx} {n:Nat} {Q0:Exit→Act→World→Prop} {fr fr':FrX} {own own':OwX} {cf cf':Cf} {vc:List Prop}
theorem ok_ixa{lk:LK}{bk:BM}{dst:Option Nat}{t ty':TypeId}{pos:String}{af:Array Edge}{gd:Option (Nat×Bool)}{x y:Operand}{e len s nm off:Nat}{k:IntKind}{i:Nat}(hu:Tryz.prog.underlying t=some (.array len e))(hs:(Tryz.prog.info? e).map (·.size)=some s)
  (e1:evX lk x=some (.ov nm off))(e2:evX lk y=some (.d (.v (.int k (i:Nat)))))(hi:i<len):OpR Tryz.prog GB C n lk bk ⟨dst, .indexAddr t x y,ty',pos,af,gd⟩ (.ov nm (off+i*s)) [] []:= .yd fun ρ G ov a w r=>by
 obtain⟨p,h1,h2⟩:=r.ev e1
 obtain⟨q,h3,h4⟩:=r.ev e2
 rw[isX_int] at h4;subst h4
 obtain⟨b,hb,rfl⟩:=h2
 refine⟨_,⟨b,hb,rfl⟩,?_⟩
 obtain⟨j,hj,hjs⟩: ∃j,Tryz.prog.info? e=some j∧j.size=s:=by
  cases h:Tryz.prog.info? e with
  |none=>rw[h] at hs;cases hs
  |some j=>rw[h] at hs;exact⟨j,rfl,by simpa using hs⟩
 intro a' w' hf hh
 simp only[execOp,opv_eval hf h1,opv_eval hf h3]
 have:(Instr.indexAt t (.pointer (some ⟨b,off,none⟩)) (.int k (i:Nat))).run Tryz.prog w'= .ok (.pointer (some ⟨b,off+i*s,none⟩)) w':=by
  unfold Instr.indexAt
  show(underlying t>>=_).run Tryz.prog w'=_
  rw[run_ok_bind (run_und hu w')]
  show(underlying t>>=_).run Tryz.prog w'=_
  rw[run_ok_bind (run_und hu w')]
  have h0:0≤((i:Nat):Int):=Int.natCast_nonneg i
  have h1:((i:Nat):Int)<((len:Nat):Int):=by omega
  simp only[h0,h1,and_self,if_true]
  show(sizeOf e>>=_).run Tryz.prog w'=_
  rw[run_ok_bind (run_size hj w'),addr_add,hjs,Int.toNat_natCast]
  rfl
 exact value_of this
def ixaA(fr:FrX)(cf:Cf):Option (TypeId×Nat×Nat×Int):=match opC fr cf with
 |some ⟨_, .indexAddr t x y,_,_,_,_⟩=>match evX (lkC fr cf) x with
  |some (.ov nm off)=>match evX (lkC fr cf) y with
   |some (.d (.v (.int _ i)))=>some (t,nm,off,i)
   |_=>none
  |_=>none
 |_=>none
theorem ixa[fu:Fu](i:Nat){t nm off e len s:Nat}(h:ixaA fr cf=some (t,nm,off,((i:Nat):Int)))(hu:Tryz.prog.underlying t=some (.array len e))(hs:(Tryz.prog.info? e).map (·.size)=some s)(hi:i<len)
  (hgo:goA tt n fu.n fr own cf (.ov nm (off+i*s)) [] []=⟨vc,fr',own',cf'⟩)(k:CfS Tryz.prog GB C n Q0 fr' own' cf')
  (hv:allP vc:=by first|exact trivial|(simp only[allP];kernel_rfl)|(simp only[allP];omega)):CfS Tryz.prog GB C n Q0 fr own cf:=by
 unfold ixaA at h
 split at h<;>try (cases h;done)
 rename_i hh
 split at h<;>try (cases h;done)
 rename_i hx
 split at h<;>cases h
 rename_i hy
 exact us hh (ok_ixa hu hs hx hy hi) hgo hv k
theorem ok_bzp{lk:LK}{bk:BM}{d s:Nat}{e t ty':TypeId}{pos:String}{af:Array Edge}{gd:Option (Nat×Bool)}{ps:List (Nat×Operand)}{fo:List (Nat×Nat×Nat)}{i:TI}{z zx:List FX}{k:Nat}{pre post:List DV}(hi:tiOf Tryz.prog t=some i)(hk:i.k= .st fo)(hz:i.z=some z)
  (hb:bldX lk fo z ps=some zx)(h0:zx[k]? =some .nl)(h1:toDXs (zx.take k)=some pre)(h2:toDXs (zx.drop (k+1))=some post):OpR Tryz.prog GB C n lk bk ⟨some d, .build t ⟨ps⟩,ty',pos,af,gd⟩ (.bx false pre d post) [(d,some (.b e s [] true))] [d]:=by
 intro hd tl tb K' s1 s2 hf hk'
 refine⟨fun ρ G ov a w r Q=>?_⟩
 obtain⟨v,hv,hv'⟩:=ti_zero hi hz
 have:=ti_sty hi hk
 have hsp:zx=zx.take k++ .nl::zx.drop (k+1):=by
  obtain⟨hk1,hk2⟩:=List.getElem?_eq_some_iff.1 h0
  conv=>lhs;rw[←List.take_append_drop k zx,List.drop_eq_getElem_cons hk1,hk2]
 obtain⟨l,h1',h2'⟩:=bldX_bld (r.mono s1 s2) (fo:=fo) ps _ _ _ hb (hv' ρ G)
 rw[hsp] at h2'
 obtain⟨m1,m2',rfl,k1,y,m2,rfl,k2,k3⟩:=isXs_unapp h2'
 cases (show y= .slice none 0 0 from k2)
 have hy:Yd Tryz.prog C (frA a) ov G ⟨some d, .build t ⟨ps⟩,ty',pos,af,gd⟩ (.agg ⟨m1++Value.slice none 0 0::m2⟩):=yd_build h1'
 have r3:=r.new' (x:=⟨none,0,0⟩) (B':= .b e s [] true) (os:=[]) (ov':=ov) (f:= .bx false pre d post) (y:= .agg ⟨m1++Value.slice none 0 0::m2⟩) hf (GLe.refl G) r.h
  ⟨[],by simp only[if_true];exact .inl ⟨rfl,rfl,rfl⟩, .nil,by simp,fun _ o ho=>by cases ho⟩ (fun o ho=>by cases ho) (fun m B _ _ o ho _=>⟨ho,by simp⟩)
  ⟨m1,m2,by simp,toDXs_is k1 h1,toDXs_is k3 h2⟩ (r.putA _ hd)
 exact ch_value (hy a w (frA_ok a) r.h) (hk'.run _ G ov _ w r3)
def bzpA(fr:FrX)(cf:Cf):Option (Nat×List FX):=match opC fr cf with
 |some ⟨some d, .build t ⟨ps⟩,_,_,_,_⟩=>match lookT tt t with
  |some ⟨.st fo,_,some zx,_⟩=>match bldX (lkC fr cf) fo zx ps with
   |some l=>some (d,l)
   |none=>none
  |_=>none
 |_=>none
theorem bzp[fu:Fu]{d:Nat}{zx:List FX}(e s kk:Nat)(pre post:List DV)(h:bzpA fr cf=some (d,zx))(h0:zx[kk]? =some .nl)(h1:toDXs (zx.take kk)=some pre)(h2:toDXs (zx.drop (kk+1))=some post)(hgo:goA tt n fu.n fr own cf (.bx false pre d post) [(d,some (.b e s [] true))] [d]=⟨vc,fr',own',cf'⟩)(k:CfS Tryz.prog GB C n Q0 fr' own' cf')
  (hv:allP vc:=by first|exact trivial|(simp only[allP];kernel_rfl)|(simp only[allP];omega)):CfS Tryz.prog GB C n Q0 fr own cf:=by
 unfold bzpA at h
 split at h<;>try (cases h;done)
 rename_i hh
 split at h<;>try (cases h;done)
 rename_i hT
 split at h<;>cases h
 rename_i hb
 exact us hh (ok_bzp (tt_ok _ _ hT) J J hb h0 h1 h2) hgo hv k
end
end Go.Sx
end

section
set_option maxRecDepth 100000
namespace Go.Sx
open Go Go.Proofs
def sp1(f:FrQ)(m:LnQ)(k:Nat):List FrQ:=if k=0 then [] else splitS f m 1
def sp2(f:FrQ)(m:LnQ)(k:Nat):List FrQ:=if k≤1 then [] else splitS f m (-1)
theorem half_ivb{l m:LnQ}(hl:LB l)(hm:LB m)(hlo:l.ok){side:Int}: ∀v∈halfQ l m side,IvB v:=fun v hv=>⟨(half_bd hl hm hlo v hv).2.1,(half_bd hl hm hlo v hv).2.2⟩
theorem half_len{l m:LnQ}{side:Int}:(halfQ l m side).length≤1:=by
 unfold halfQ;split
 ·split<;>simp
 ·split<;>simp
theorem comb_len(op:Int)(a b:List IvQ):(combQ op a b).length≤2*(a.length+b.length)+1:=by
 unfold combQ fromQ
 refine Nat.le_trans fromN_len ?_
 rw[List.length_map,gapsR_len]
 have:=endsQ_len (a++b);rw[List.length_append] at this;omega
set_option maxHeartbeats 2000000 in
theorem q_Split{GB:Gh}{f:FrQ}{m:LnQ}(h:FOk f)[hm:LB m](hmo:m.ok):PF GB Tryz.prog 174 [eFF f,eL m] (.tp [.sl ((splitS f m 1).map eFF), .sl ((splitS f m (-1)).map eFF)]):=by
 haveI:=h.lb
 refine fn Tryz.func174 J J Tryz.ntmps174 J J (fun C=>?_)
 refine rf (fu:=⟨1⟩) J J<|?_
 refine eqF 14 (.d (vI (2:Nat))) J J ?_
 refine gx rfl<|?_
 refine nro 6 0 60 186 14 J J J J J ?_
 refine nro 6 1 61 186 14 J J J J J ?_
 refine lp (X:=Nat) (fun k=>[(15, .d (vI (k:Nat))),(6, .ov 6 0)]) (fun k=>[(6,some (.o 310 [.rw 60, .rw 61] true)),(60,some (.b 186 14 ((sp1 f m k).map eFF) true)),(61,some (.b 186 14 ((sp2 f m k).map eFF) true))]) (fun k=>k≤2) (fun k=>2-k) 0 rfl (by omega) (fun _=>rfl) (fun k hk=>?_)
 refine br J J J (fun hc16=>?_) (fun hc16=>?_)
 ·
  rcases(show k=0∨k=1 by omega) with rfl|rfl
  ·
   refine ix _ J J J<|cl (fu:=⟨0⟩) rfl (q_half6 (l:=f.l) (m:=m) (side:=1) h.ok hmo (.inl rfl)) rfl<|?_
   obtain⟨cs,hcs⟩: ∃c,c=combQ 2 [f.v] (halfQ f.l m 1):=⟨_,rfl⟩
   have hcl:cs.length≤5:=by rw[hcs];have h1:=comb_len 2 [f.v] (halfQ f.l m 1);have h2:=half_len (l:=f.l) (m:=m) (side:=1);simp only[List.length_singleton] at h1;omega
   refine eqF 25 (.d (.tp [.sl ((halfQ f.l m 1).map eV),vB (onB f.l m)])) J J ?_
   refine gx rfl<|?_
   refine bb J J J (fun hc28=>?_) (fun hc28=>?_)
   ·
    have hon:onB f.l m=true:=hc28
    exact rz rfl (by first|(unfold splitS;rw[if_pos hon,if_pos hon];rfl)|rfl)
   ·
    have hon:onB f.l m=false:=by simpa using hc28
    refine rf J J<|cl (fu:=⟨0⟩) rfl (q_Combine (a:=[f.v]) (b:=halfQ f.l m 1) (fun v hv=>by rw[List.mem_singleton] at hv;subst hv;exact⟨h.lo,h.hi⟩) (half_ivb h.lb hm h.ok) (by show 1≤100;decide) (by have:=half_len (l:=f.l) (m:=m) (side:=1);omega)) rfl<|?_
    refine eqF 33 (.d (.sl (cs.map eV))) rfl (by rw[hcs]) ?_
    refine gx (fu:=⟨1⟩) rfl<|?_
    refine eqF 34 (.d (vI (cs.length:Nat))) rfl (by rw[map_len' eV cs]<;>rfl) ?_
    refine gx rfl<|?_
    refine lp (X:=Nat) (fun j=>[(35, .d (vI (j:Nat)))]) (fun j=>[(60,some (.b 186 14 (((cs.take j).map fun v=>(⟨f.l,v⟩:FrQ)).map eFF) true))]) (fun j=>j≤cs.length) (fun j=>cs.length-j) 0 rfl (Nat.zero_le _) (fun _=>rfl) (fun j hk=>?_)
    have hml:(((cs.take j).map fun v=>(⟨f.l,v⟩:FrQ)).map eFF).length≤j:=by rw[List.length_map,List.length_map,List.length_take];omega
    refine br J J J (fun hc36=>?_) (fun hc36=>?_)
    ·
     obtain⟨z,hz⟩: ∃s,cs[j]? =some s:=⟨_,List.getElem?_eq_getElem (by omega)⟩
     refine ix _ rfl (map_getS hz) rfl<|ixa 0 (e:=177) (len:=2) (s:=1) rfl (by kernel_rfl) (by kernel_rfl) (by decide) rfl<|rf J J<|?_
     refine ap (((cs.take (j+1)).map fun v=>(⟨f.l,v⟩:FrQ)).map eFF) rfl (by rw[←take_map_snoc hz,List.map_append];rfl) (slOkFF [⟨f.l,z⟩]) rfl<|ixa (hv:=by simp only[allP];exact⟨by kernel_rfl,by omega⟩) 0 (e:=177) (len:=2) (s:=1) rfl (by kernel_rfl) (by kernel_rfl) (by decide) rfl<|?_
     refine rnE 48 60 rfl ?_
     exact at_ (j+1) ⟨(by omega),(by omega)⟩
    ·
     obtain rfl:j=cs.length:=by omega
     rw[show(cs.take cs.length).map (fun v=>(⟨f.l,v⟩:FrQ))=splitS f m 1 from by rw[List.take_length];unfold splitS;rw[if_neg (by rw[hon];decide),←hcs]]
     exact at_ (0+1) ⟨(by omega),(by omega)⟩
  ·
   refine ix _ J J J<|cl (fu:=⟨0⟩) rfl (q_half6 (l:=f.l) (m:=m) (side:= -1) h.ok hmo (.inr rfl)) rfl<|?_
   obtain⟨cs,hcs⟩: ∃c,c=combQ 2 [f.v] (halfQ f.l m (-1)):=⟨_,rfl⟩
   have hcl:cs.length≤5:=by rw[hcs];have h1:=comb_len 2 [f.v] (halfQ f.l m (-1));have h2:=half_len (l:=f.l) (m:=m) (side:=(-1));simp only[List.length_singleton] at h1;omega
   refine eqF 25 (.d (.tp [.sl ((halfQ f.l m (-1)).map eV),vB (onB f.l m)])) J J ?_
   refine gx rfl<|?_
   refine bb J J J (fun hc28=>?_) (fun hc28=>?_)
   ·
    have hon:onB f.l m=true:=hc28
    exact rz rfl (by first|(unfold splitS;rw[if_pos hon,if_pos hon];rfl)|rfl)
   ·
    have hon:onB f.l m=false:=by simpa using hc28
    refine rf J J<|cl (fu:=⟨0⟩) rfl (q_Combine (a:=[f.v]) (b:=halfQ f.l m (-1)) (fun v hv=>by rw[List.mem_singleton] at hv;subst hv;exact⟨h.lo,h.hi⟩) (half_ivb h.lb hm h.ok) (by show 1≤100;decide) (by have:=half_len (l:=f.l) (m:=m) (side:=(-1));omega)) rfl<|?_
    refine eqF 33 (.d (.sl (cs.map eV))) rfl (by rw[hcs]) ?_
    refine gx (fu:=⟨1⟩) rfl<|?_
    refine eqF 34 (.d (vI (cs.length:Nat))) rfl (by rw[map_len' eV cs]<;>rfl) ?_
    refine gx rfl<|?_
    refine lp (X:=Nat) (fun j=>[(35, .d (vI (j:Nat)))]) (fun j=>[(61,some (.b 186 14 (((cs.take j).map fun v=>(⟨f.l,v⟩:FrQ)).map eFF) true))]) (fun j=>j≤cs.length) (fun j=>cs.length-j) 0 rfl (Nat.zero_le _) (fun _=>rfl) (fun j hk=>?_)
    have hml:(((cs.take j).map fun v=>(⟨f.l,v⟩:FrQ)).map eFF).length≤j:=by rw[List.length_map,List.length_map,List.length_take];omega
    refine br J J J (fun hc36=>?_) (fun hc36=>?_)
    ·
     obtain⟨z,hz⟩: ∃s,cs[j]? =some s:=⟨_,List.getElem?_eq_getElem (by omega)⟩
     refine ix _ rfl (map_getS hz) rfl<|ixa 1 (e:=177) (len:=2) (s:=1) rfl (by kernel_rfl) (by kernel_rfl) (by decide) rfl<|rf J J<|?_
     refine ap (((cs.take (j+1)).map fun v=>(⟨f.l,v⟩:FrQ)).map eFF) rfl (by rw[←take_map_snoc hz,List.map_append];rfl) (slOkFF [⟨f.l,z⟩]) rfl<|ixa (hv:=by simp only[allP];exact⟨by kernel_rfl,by omega⟩) 1 (e:=177) (len:=2) (s:=1) rfl (by kernel_rfl) (by kernel_rfl) (by decide) rfl<|?_
     refine rnE 48 61 rfl ?_
     exact at_ (j+1) ⟨(by omega),(by omega)⟩
    ·
     obtain rfl:j=cs.length:=by omega
     rw[show(cs.take cs.length).map (fun v=>(⟨f.l,v⟩:FrQ))=splitS f m (-1) from by rw[List.take_length];unfold splitS;rw[if_neg (by rw[hon];decide),←hcs]]
     exact at_ (1+1) ⟨(by omega),(by omega)⟩
 ·
  obtain rfl:k=2:=by omega
  refine ixa 0 (e:=177) (len:=2) (s:=1) rfl (by kernel_rfl) (by kernel_rfl) (by decide) rfl<|ixa 1 (e:=177) (len:=2) (s:=1) rfl (by kernel_rfl) (by kernel_rfl) (by decide) rfl<|?_
  refine fzE 60 rfl ?_
  refine fzE 61 rfl ?_
  exact rz rfl (by first|(unfold splitS;rw[if_pos hon,if_pos hon];rfl)|rfl)
end Go.Sx
end

section
set_option maxRecDepth 100000
namespace Go.Sx
open Go Go.Proofs
def eZp(p:ZP):DV:=eP p.q
def eRg(r:List ZP):DV:= .sl (r.map eZp)
theorem slOkRg(l:List (List ZP)):slOk 1 (l.map eRg):=fun d hd=>by
 obtain⟨u,_,rfl⟩:=List.mem_map.1 hd;exact⟨rfl,rfl⟩
theorem getZ{r:List ZP}{i:Nat}(h:i<r.length):(r.map eZp)[((i:Nat):Int).toNat]? =some (eZp (r.getD i (0,0))):=by
 rw[Int.toNat_natCast,List.getElem?_map,List.getD_eq_getElem?_getD,List.getElem?_eq_getElem h];rfl
theorem getNx{r:List ZP}{i:Nat}(h:i<r.length):(r.map eZp)[(((i+1)%r.length:Nat):Int).toNat]? =some (eZp (nextZ r i)):=getZ (Nat.mod_lt _ (by omega))
theorem wnd_le(v w p:PtQ):(wndQ v w p).natAbs≤1:=by
 unfold wndQ;split<;>split<;>decide
theorem numN_le(r:List ZP)(p:PtQ): ∀k,(numN r p k).natAbs≤k
 |0=>Nat.le_refl _
 |k+1=>by rw[numN];have:=numN_le r p k;have:=wnd_le (r.getD k (0,0)).q (nextZ r k).q p;omega
set_option maxHeartbeats 1000000 in
theorem q_Edges{GB:Gh}{r:List ZP}(h:RingOk r):PF GB Tryz.prog 104 [.sl (r.map eZp)] (.sl ((edgesZ r).map eFF)):=by
 have hm:=map_len' eZp r
 have h3:=h.n3
 have h6:=h.n6
 refine fn (fu:=⟨15⟩) Tryz.func104 J J Tryz.ntmps104 J J (fun C=>?_)
 refine eqF 8 (.d (vI (r.length:Nat))) rfl (by rw[hm]<;>rfl) ?_
 refine gx rfl<|?_
 refine nr 3 3 186 14 J J J ?_
 refine lp (X:=Nat) (fun k=>[(9, .d (vI (k:Nat))),(3, .rw 3)]) (fun k=>[(3,some (.b 186 14 ((edgesN r k).map eFF) true))]) (fun k=>k≤r.length) (fun k=>r.length-k) 0 rfl (Nat.zero_le _) (fun _=>rfl) (fun k hk=>?_)
 have hel:=fun hh=>(edgesN_ok (k:=k) h hh).1
 refine br J J J (fun hc10=>?_) (fun hc10=>?_)
 ·
  have hkr:k<r.length:=by omega
  have hel:=hel (by omega)
  have hem:=map_len' eFF (edgesN r k)
  refine ix (fu:=⟨7⟩) _ rfl (getZ hkr) rfl<|?_
  refine eqF 22 (.d (vI ((k+1)%r.length:Nat))) rfl (by rw[hm]<;>rfl) ?_
  refine gx rfl<|ix _ rfl (getNx hkr) rfl<|cl rfl (q_Segment (v:=r.getD k (0,0)) (w:=nextZ r k) (h.le _ (getD_mem hkr)) (h.le _ (nextZ_mem hkr)) (h.ne k hkr)) rfl<|?_
  refine rf J J<|ap ((edgesN r (k+1)).map eFF) rfl (by rw[edgesN,List.map_append];rfl) (slOkFF [edgeZ (r.getD k (0,0)) (nextZ r k)]) rfl<|?_
  refine rnE 31 3 rfl ?_
  exact at_ (k+1) ⟨(by omega),(by omega)⟩
 ·
  obtain rfl:k=r.length:=by omega
  refine fzE 3 rfl ?_
  exact rz J J
set_option maxHeartbeats 2000000 in
theorem q_Number{GB:Gh}{r:List ZP}{p:PtQ}{i:Nat}[hp:BPt p i](h:RingOk r)(hi:i≤80000:=by decide):PF GB Tryz.prog 220 [.sl (r.map eZp),eP p] (vI (numZ r p)):=by
 have hm:=map_len' eZp r
 have h3:=h.n3
 have h6:=h.n6
 refine fn (fu:=⟨16⟩) Tryz.func220 J J Tryz.ntmps220 J J (fun C=>?_)
 refine eqF 12 (.d (vI (r.length:Nat))) rfl (by rw[hm]<;>rfl) ?_
 refine gx rfl<|?_
 refine lp (X:=Nat×Int) (fun⟨k,c⟩=>[(13, .d (vI (k:Nat))),(5, .d (vI c))]) (fun⟨k,c⟩=>[]) (fun⟨k,c⟩=>c=numN r p k∧k≤r.length) (fun⟨k,c⟩=>r.length-k) (0,0) rfl ⟨rfl,Nat.zero_le _⟩ (fun _=>rfl) (fun⟨k,c⟩ hk=>?_)
 dsimp only at hk⊢
 obtain⟨h1,h2⟩:=hk
 have hcl:c.natAbs≤k:=by rw[h1];exact numN_le r p k
 refine br J J J (fun hc14=>?_) (fun hc14=>?_)
 ·
  have hkr:k<r.length:=by omega
  obtain⟨v,hv⟩: ∃v,v=r.getD k (0,0):=⟨_,rfl⟩
  obtain⟨w,hw⟩: ∃v,v=nextZ r k:=⟨_,rfl⟩
  haveI hvb:BPt v.q 12:=by rw[hv];exact bpZ (h.le _ (getD_mem hkr))
  haveI hwb:BPt w.q 12:=by rw[hw];exact bpZ (h.le _ (nextZ_mem hkr))
  refine ix (fu:=⟨1⟩) _ rfl (getZ hkr) rfl<|?_
  refine eqF 19 (.d (eP v.q)) rfl (by rw[hv];rfl) ?_
  refine gx (fu:=⟨6⟩) rfl<|?_
  refine eqF 25 (.d (vI ((k+1)%r.length:Nat))) rfl (by rw[hm]<;>rfl) ?_
  refine gx rfl<|ix (fu:=⟨1⟩) _ rfl (getNx hkr) rfl<|?_
  refine eqF 27 (.d (eP w.q)) rfl (by rw[hw];rfl) ?_
  refine gx rfl<|cl rfl (q_C (a:=v.q.y) (b:=p.y) (i:=12) (j:=i) (by decide) (by omega)) rfl<|cl (fu:=⟨9⟩) rfl (q_C (a:=w.q.y) (b:=p.y) (i:=12) (j:=i) (by decide) (by omega)) rfl<|?_
  rcases(show(rcmp v.q.y p.y≤0∧rcmp w.q.y p.y≤0)∨(rcmp v.q.y p.y≤0∧ ¬rcmp w.q.y p.y≤0)∨(¬rcmp v.q.y p.y≤0∧rcmp w.q.y p.y≤0)∨(¬rcmp v.q.y p.y≤0∧ ¬rcmp w.q.y p.y≤0) by omega) with⟨ca,cb⟩|⟨ca,cb⟩|⟨ca,cb⟩|⟨ca,cb⟩
  ·
   refine knT (fu:=⟨3⟩) rfl (by show some (decide _)=some true;rw[decide_eq_true (by omega)]) rfl<|knF (fu:=⟨15⟩) rfl (by show some (decide _)=some false;rw[decide_eq_false (by omega)]) rfl<|?_
   refine knF (fu:=⟨20⟩) rfl (by show some (decide _)=some false;rw[decide_eq_false (by omega)]) rfl<|?_
   exact at_ (k+1,c) (by dsimp only;exact⟨⟨by rw[numN,←h1,←hv,←hw];unfold wndQ;split<;>split<;>omega,by omega⟩,(by omega)⟩)
  ·
   refine knT (fu:=⟨3⟩) rfl (by show some (decide _)=some true;rw[decide_eq_true (by omega)]) rfl<|knT rfl (by show some (decide _)=some true;rw[decide_eq_true (by omega)]) rfl<|?_
   refine cl rfl (q_Orient (a:=v.q) (b:=w.q) (c:=p) (i:=12) (j:=12) (k:=i) (by decide) (by decide) hi) rfl<|?_
   refine br (fu1:=⟨10⟩) (fu2:=⟨6⟩) J J J (fun hc51=>?_) (fun hc51=>?_)
   ·
    refine knF rfl (by show some (decide _)=some false;rw[decide_eq_false (by omega)]) rfl<|?_
    exact at_ (k+1,c+1) (by dsimp only;exact⟨⟨by rw[numN,←h1,←hv,←hw];unfold wndQ;split<;>split<;>omega,by omega⟩,(by omega)⟩)
   ·
    refine knF (fu:=⟨20⟩) rfl (by show some (decide _)=some false;rw[decide_eq_false (by omega)]) rfl<|?_
    exact at_ (k+1,c) (by dsimp only;exact⟨⟨by rw[numN,←h1,←hv,←hw];unfold wndQ;split<;>split<;>omega,by omega⟩,(by omega)⟩)
  ·
   refine knF (fu:=⟨19⟩) rfl (by show some (decide _)=some false;rw[decide_eq_false (by omega)]) rfl<|knT (fu:=⟨2⟩) rfl (by show some (decide _)=some true;rw[decide_eq_true (by omega)]) rfl<|?_
   refine knT rfl (by show some (decide _)=some true;rw[decide_eq_true (by omega)]) rfl<|cl rfl (q_Orient (a:=v.q) (b:=w.q) (c:=p) (i:=12) (j:=12) (k:=i) (by decide) (by decide) hi) rfl<|?_
   refine br (fu2:=⟨8⟩) J J J (fun hc65=>?_) (fun hc65=>?_)
   ·
    exact at_ (k+1,c-1) (by dsimp only;exact⟨⟨by rw[numN,←h1,←hv,←hw];unfold wndQ;split<;>split<;>omega,by omega⟩,(by omega)⟩)
   ·
    exact at_ (k+1,c) (by dsimp only;exact⟨⟨by rw[numN,←h1,←hv,←hw];unfold wndQ;split<;>split<;>omega,by omega⟩,(by omega)⟩)
  ·
   refine knF (fu:=⟨19⟩) rfl (by show some (decide _)=some false;rw[decide_eq_false (by omega)]) rfl<|knT (fu:=⟨2⟩) rfl (by show some (decide _)=some true;rw[decide_eq_true (by omega)]) rfl<|?_
   refine knF rfl (by show some (decide _)=some false;rw[decide_eq_false (by omega)]) rfl<|?_
   exact at_ (k+1,c) (by dsimp only;exact⟨⟨by rw[numN,←h1,←hv,←hw];unfold wndQ;split<;>split<;>omega,by omega⟩,(by omega)⟩)
 ·
  obtain rfl:k=r.length:=by omega
  have hfin:numZ r p=c:=h1.symm
  exact rz rfl (by rw[hfin];rfl)
theorem q_Accepts{GB:Gh}{fill n:Int}(hn:n.natAbs≤1000):PF GB Tryz.prog 221 [vI fill,vI n] (vB (accQ fill n)):=by
 refine fn Tryz.func221 J J Tryz.ntmps221 J J (fun C=>?_)
 refine cs 7 J J J (fun hg7=>?_) (fun hg7=>?_)
 ·
  refine cs 12 J J J (fun hg12=>?_) (fun hg12=>?_)
  ·
   exact rz rfl (by show vB _=vB _;unfold accQ;congr 1;simp_all)
  ·
   refine cs 15 J J J (fun hg15=>?_) (fun hg15=>?_)
   ·
    exact rz rfl (by show vB _=vB _;unfold accQ;congr 1;simp_all)
   ·
    exact rz rfl (by show vB _=vB _;unfold accQ;congr 1;simp_all)
 ·
  refine cs 15 J J J (fun hg15=>?_) (fun hg15=>?_)
  ·
   exact rz rfl (by show vB _=vB _;unfold accQ;congr 1;simp_all)
  ·
   exact rz rfl (by show vB _=vB _;unfold accQ;congr 1;simp_all)
def lnsR(rs:List (List ZP)):List LnQ:=(edgesR rs).map FrQ.l
def eRR(rs:List (List ZP))(fill:Int):DV:= .ag [.sl (rs.map eRg), .v (.int .i64 fill), .sl ((distQ (lnsR rs)).map eL)]
theorem inK_le{rs:List (List ZP)}{p:PtQ}(h: ∀r∈rs,RingOk r)(k:Nat):((rs.take k).foldl (fun n r=>n+numZ r p) 0).natAbs≤6*k:=by
 induction k with
 |zero=>rw[List.take_zero];exact Nat.zero_le _
 |succ k ih=>
  rw[List.take_add_one,List.foldl_append]
  cases e:rs[k]? with
  |none=>exact Nat.le_trans ih (by omega)
  |some r=>
   have h1:(numZ r p).natAbs≤r.length:=numN_le r p r.length
   have h2:=(h r (List.mem_of_getElem? e)).n6
   show(List.foldl _ 0 (rs.take k)+numZ r p).natAbs≤_
   omega
set_option maxHeartbeats 1000000 in
theorem q_RIn{GB:Gh}{rs:List (List ZP)}{fill:Int}{p:PtQ}{i:Nat}[hp:BPt p i](h: ∀r∈rs,RingOk r)(hn:rs.length≤100)(hi:i≤80000:=by decide):PF GB Tryz.prog 173 [eRR rs fill,eP p] (vB (inR rs fill p)):=by
 have hm:=map_len' eRg rs
 refine fn (fu:=⟨18⟩) Tryz.func173 J J Tryz.ntmps173 J J (fun C=>?_)
 refine eqF 10 (.d (vI (rs.length:Nat))) rfl (by rw[hm]<;>rfl) ?_
 refine gx rfl<|?_
 refine lp (X:=Nat×Int) (fun⟨k,c⟩=>[(11, .d (vI (k:Nat))),(5, .d (vI c))]) (fun⟨k,c⟩=>[]) (fun⟨k,c⟩=>c=(rs.take k).foldl (fun n r=>n+numZ r p) 0∧k≤rs.length) (fun⟨k,c⟩=>rs.length-k) (0,0) rfl ⟨by rw[List.take_zero];rfl,Nat.zero_le _⟩ (fun _=>rfl) (fun⟨k,c⟩ hk=>?_)
 dsimp only at hk⊢
 obtain⟨h1,h2⟩:=hk
 have hcl:c.natAbs≤6*k:=by rw[h1];exact inK_le h k
 refine br J J J (fun hc12=>?_) (fun hc12=>?_)
 ·
  obtain⟨r,hz⟩: ∃s,rs[k]? =some s:=⟨_,List.getElem?_eq_getElem (by omega)⟩
  have hr:=h r (List.mem_of_getElem? hz)
  have hnz:(numZ r p).natAbs≤6:=Nat.le_trans (numN_le r p r.length) hr.n6
  refine ix _ rfl (map_getS hz) rfl<|cl rfl (q_Number (r:=r) (p:=p) hr hi) rfl<|?_
  exact at_ (k+1,c+numZ r p) (by dsimp only;exact⟨⟨by rw[List.take_add_one,hz,List.foldl_append,←h1];rfl,by omega⟩,(by omega)⟩)
 ·
  obtain rfl:k=rs.length:=by omega
  rw[List.take_length] at h1
  refine cl rfl (q_Accepts (fill:=fill) (n:=c) (by omega)) rfl<|?_
  exact rz rfl (by unfold inR;rw[←h1];rfl)
end Go.Sx
end

section
set_option maxRecDepth 100000
namespace Go.Sx
open Go Go.Proofs
def eAr(r:List ZP):DV:= .sl ((r.map ZP.q).map ePt)
theorem slOkAr(l:List (List ZP)):slOk 1 (l.map eAr):=fun d hd=>by
 obtain⟨u,_,rfl⟩:=List.mem_map.1 hd;exact⟨rfl,rfl⟩
theorem bp1200{r:List ZP}(h: ∀p∈r,ZP.le 100 p): ∀p∈r.map ZP.q,BPt p 1200:=fun p hp=>by
 obtain⟨z,hz,rfl⟩:=List.mem_map.1 hp
 have:=bpZ (h z hz)
 exact⟨BQ.mono this.x (by decide),BQ.mono this.y (by decide)⟩
theorem eRg_eq(r:List ZP):DV.sl ((r.map ZP.q).map eP)=eRg r:=by unfold eRg;rw[List.map_map];rfl
theorem edgesR_snoc{rs:List (List ZP)}{k:Nat}{r:List ZP}(h:rs[k]? =some r):edgesR (rs.take (k+1))=edgesR (rs.take k)++edgesZ r:=by
 unfold edgesR;rw[List.take_add_one,h,List.flatMap_append];simp
theorem edgesR_take{rs:List (List ZP)}(h: ∀r∈rs,RingOk r)(k:Nat):(edgesR (rs.take k)).length≤6*k:=by
 have:=(edgesR_ok (rs:=rs.take k) (fun r hr=>h r (List.mem_of_mem_take hr))).1
 have h2:(rs.take k).length≤k:=by rw[List.length_take];omega
 omega
set_option maxHeartbeats 2000000 in
theorem q_RMake{GB:Gh}{rs:List (List ZP)}{fill:Int}(h: ∀r∈rs,RingOk r)(hn:rs.length≤100):PF GB Tryz.prog 52 [.sl (rs.map eAr), .v (.int .i64 fill)] (eRR rs fill):=by
 have hm:=map_len' eAr rs
 refine fn (fu:=⟨8⟩) Tryz.func52 J J Tryz.ntmps52 J J (fun C=>?_)
 refine bzp (fu:=⟨14⟩) 100 1 0 [] [.v (.int .i64 fill), .sl []] J J J J J<|?_
 refine eqF 15 (.d (vI (rs.length:Nat))) rfl (by rw[hm]<;>rfl) ?_
 refine gx rfl<|?_
 refine nr 6 6 46 6 J J J ?_
 refine lp (X:=Nat) (fun k=>[(16, .d (vI (k:Nat))),(6, .rw 6),(5, .ov 5 0)]) (fun k=>[(5,some (.o 96 [.rw 13, .d (.v (.int .i64 fill)), .d (.sl [])] true)),(13,some (.b 100 1 ((rs.take k).map eRg) true)),(6,some (.b 46 6 (((edgesR (rs.take k)).map FrQ.l).map eL) true))]) (fun k=>k≤rs.length) (fun k=>rs.length-k) 0 rfl (Nat.zero_le _) (fun _=>rfl) (fun k hk=>?_)
 refine br (fu2:=⟨0⟩) J J J (fun hc17=>?_) (fun hc17=>?_)
 ·
  obtain⟨r,hz⟩: ∃s,rs[k]? =some s:=⟨_,List.getElem?_eq_getElem (by omega)⟩
  have hr:=h r (List.mem_of_getElem? hz)
  have hel:(edgesZ r).length≤6:=by have:=(edges_ok hr).1;have:=hr.n6;omega
  have het:=edgesR_take h k
  have hrl:((rs.take k).map eRg).length=k:=by rw[List.length_map,List.length_take];omega
  refine ix _ rfl (map_getS hz) rfl<|cl (fu:=⟨0⟩) rfl (q_Pts (ps:=r.map ZP.q) (bp1200 hr.le) (by rw[List.length_map];have:=hr.n6;omega)) rfl<|?_
  refine eqF 21 (.d (eRg r)) rfl (by rw[eRg_eq]) ?_
  refine gx rfl<|rf J J<|ap ((rs.take (k+1)).map eRg) rfl (take_map_snoc hz) (slOkRg [r]) rfl<|cl (fu:=⟨1⟩) rfl (q_Edges (r:=r) hr) rfl<|?_
  refine eqF 30 (.d (vI ((edgesZ r).length:Nat))) rfl (by rw[map_len' eFF (edgesZ r)]<;>rfl) ?_
  refine gx rfl<|?_
  rw[←List.append_nil (edgesR (rs.take k)),←List.take_zero (l:=edgesZ r)]
  refine lp (X:=Nat) (fun j=>[(31, .d (vI (j:Nat))),(6, .rw 6)]) (fun j=>[(6,some (.b 46 6 (((edgesR (rs.take k)++(edgesZ r).take j).map FrQ.l).map eL) true))]) (fun j=>j≤(edgesZ r).length) (fun j=>(edgesZ r).length-j) 0 rfl (Nat.zero_le _) (fun _=>rfl) (fun j hk=>?_)
  have hml:(((edgesR (rs.take k)++(edgesZ r).take j).map FrQ.l).map eL).length≤6*k+6:=by rw[List.length_map,List.length_map,List.length_append,List.length_take];omega
  refine br J J J (fun hc32=>?_) (fun hc32=>?_)
  ·
   obtain⟨e,he⟩: ∃s,(edgesZ r)[j]? =some s:=⟨_,List.getElem?_eq_getElem (by omega)⟩
   refine ix _ rfl (map_getS he) rfl<|rf J J<|ap (((edgesR (rs.take k)++(edgesZ r).take (j+1)).map FrQ.l).map eL) rfl (by rw[List.take_add_one,he];simp only[List.map_append,List.append_assoc];rfl) (slOkL [e.l]) rfl<|?_
   refine rnE 39 6 rfl ?_
   exact at_ (j+1) ⟨(by omega),(by omega)⟩
  ·
   obtain rfl:j=(edgesZ r).length:=by omega
   rw[List.take_length,←edgesR_snoc hz]
   refine rnE 26 13 rfl ?_
   exact at_ (k+1) ⟨(by omega),(by omega)⟩
 ·
  obtain rfl:k=rs.length:=by omega
  rw[List.take_length]
  refine fzC 6 rfl ?_
  refine fzC 13 rfl ?_
  refine gx rfl<|cl rfl (q_Distinct (ls:=lnsR rs) (fun l hl=>by obtain⟨f,hf,rfl⟩:=List.mem_map.1 hl;exact((edgesR_ok h).2 f hf).lb) (by unfold lnsR;rw[List.length_map];have:=(edgesR_ok h).1;omega)) rfl<|?_
  exact rz J J
set_option maxHeartbeats 1000000 in
theorem q_Api{GB:Gh}{rs:List (List ZP)}(h: ∀r∈rs,RingOk r)(hn:rs.length≤100):PF GB Tryz.prog 53 [.sl (rs.map eRg)] (.sl (rs.map eAr)):=by
 have hm:=map_len' eRg rs
 refine fn (fu:=⟨15⟩) Tryz.func53 J J Tryz.ntmps53 J J (fun C=>?_)
 refine eqF 7 (.d (vI (rs.length:Nat))) rfl (by rw[hm]<;>rfl) ?_
 refine gx rfl<|?_
 refine nr 3 3 181 1 J J J ?_
 refine lp (X:=Nat) (fun k=>[(8, .d (vI (k:Nat))),(3, .rw 3)]) (fun k=>[(3,some (.b 181 1 ((rs.take k).map eAr) true))]) (fun k=>k≤rs.length) (fun k=>rs.length-k) 0 rfl (Nat.zero_le _) (fun _=>rfl) (fun k hk=>?_)
 have hml:((rs.take k).map eAr).length≤k:=by rw[List.length_map,List.length_take];omega
 refine br J J J (fun hc9=>?_) (fun hc9=>?_)
 ·
  obtain⟨r,hz⟩: ∃s,rs[k]? =some s:=⟨_,List.getElem?_eq_getElem (by omega)⟩
  have hr:=h r (List.mem_of_getElem? hz)
  refine ix (fu:=⟨1⟩) _ rfl (map_getS hz) rfl<|?_
  refine eqF 11 (.d (.sl ((r.map ZP.q).map eP))) rfl (by rw[eRg_eq]) ?_
  refine gx rfl<|cl rfl (q_ToPs (ps:=r.map ZP.q) (bp1200 hr.le) (by rw[List.length_map];have:=hr.n6;omega)) rfl<|rf J J<|ap ((rs.take (k+1)).map eAr) rfl (take_map_snoc hz) (slOkAr [r]) rfl<|?_
  refine rnE 16 3 rfl ?_
  exact at_ (k+1) ⟨(by omega),(by omega)⟩
 ·
  obtain rfl:k=rs.length:=by omega
  refine fzE 3 rfl ?_
  exact rz rfl (by rw[List.take_length];rfl)
end Go.Sx
end

section
set_option maxRecDepth 100000
namespace Go.Sx
open Go Go.Proofs
theorem canonIns_len(out:List LnQ)(l:LnQ):(canonIns out l).length≤out.length+1:=by
 unfold canonIns
 split
 ·omega
 ·simp;omega
theorem canonF_len(c:List LnQ): ∀(t out:List LnQ),(canonF c t out).length≤out.length+t.length
 |[],out=>by simp[canonF]
 |l::t,out=>by
  rw[canonF]
  refine Nat.le_trans (canonF_len c t _) ?_
  have:=canonIns_len out l
  split<;>simp<;>omega
theorem canonL_len(c:List LnQ):(canonL c).length≤c.length:=Nat.le_trans (canonF_len c c []) (by simp)
theorem lb_can{c:List LnQ}(h: ∀m∈c,LB m): ∀m∈canonL c,LB m:=fun m hm=>h m (mem_canonL.1 hm).1
theorem ok_can{c:List LnQ}(h: ∀m∈c,m.ok): ∀m∈canonL c,m.ok:=fun m hm=>h m (mem_canonL.1 hm).1
theorem q_with{GB:Gh}{c:List LnQ}{l:LnQ}(hc: ∀m∈c,LB m)(hok: ∀m∈c,m.ok)(hn:c.length≤900)(hl:LB l)(hlo:l.ok):PF GB Tryz.prog 84 [.sl (c.map eL),eL l] (.sl ((canonL (c++[l])).map eL)):=by
 have hcl:=mapL_len c
 refine fn Tryz.func84 J J Tryz.ntmps84 J J (fun C=>?_)
 refine ro0 J J<|ap (c.map eL) J J (slOkL _) rfl<|rf J J<|apf ((c++[l]).map eL) rfl (by rw[List.map_append];rfl) (slOkL [l]) rfl<|?_
 refine cl rfl (q_Canon (c:=c++[l]) (lb_app hc hl) (ok_app hok hlo) (by simp;omega)) rfl<|?_
 exact rz J J
theorem q_join_n{GB:Gh}{l l1:LnQ}{x y u:Tr}:PF GB Tryz.prog 83 [eL l,eT (.node l1 x y),eT u] (eT (.node l (.node l1 x y) u)):=by
 refine fn (fu:=⟨12⟩) Tryz.func83 J J Tryz.ntmps83 J J (fun C=>?_)
 refine knF J J J<|?_
 refine fzE 33 rfl ?_
 exact rz J J
theorem q_join_ln{GB:Gh}{l l1:LnQ}{x y:Tr}{p:Bool}:PF GB Tryz.prog 83 [eL l,eT (.leaf p),eT (.node l1 x y)] (eT (.node l (.leaf p) (.node l1 x y))):=by
 refine fn (fu:=⟨12⟩) Tryz.func83 J J Tryz.ntmps83 J J (fun C=>?_)
 refine knT (fu:=⟨4⟩) J J J<|knF J J J<|?_
 refine fzE 33 rfl ?_
 exact rz J J
theorem q_join_ll{GB:Gh}{l:LnQ}{p q:Bool}:PF GB Tryz.prog 83 [eL l,eT (.leaf p),eT (.leaf q)] (eT (Tr.joinQ l (.leaf p) (.leaf q))):=by
 refine fn (fu:=⟨12⟩) Tryz.func83 J J Tryz.ntmps83 J J (fun C=>?_)
 refine knT (fu:=⟨4⟩) J J J<|knT J J J<|?_
 refine bd J J J (fun hc27=>?_) (fun hc27=>?_)
 ·
  exact rz rfl (by rw[show Tr.joinQ l (.leaf p) (.leaf q)= .leaf p by simp[Tr.joinQ,Tr.isLeaf,Tr.code,hc27]];rfl)
 ·
  refine fzE 33 rfl ?_
  exact rz rfl (by rw[show Tr.joinQ l (.leaf p) (.leaf q)= .node l (.leaf p) (.leaf q) by simp[Tr.joinQ,Tr.isLeaf,Tr.code,hc27]];rfl)
theorem q_join{GB:Gh}{l:LnQ}: ∀{x y:Tr},PF GB Tryz.prog 83 [eL l,eT x,eT y] (eT (Tr.joinQ l x y))
 | .leaf _, .leaf _=>q_join_ll
 | .leaf _, .node .. =>q_join_ln
 | .node ..,_=>q_join_n
theorem q_RRestrict_leaf{GB:Gh}{b:Bool}{c:List LnQ}:PF GB Tryz.prog 81 [eT (.leaf b), .sl (c.map eL)] (eT (Tr.restrictL (.leaf b) c)):=by
 refine fn (fu:=⟨11⟩) Tryz.func81 J J Tryz.ntmps81 J J (fun C=>?_)
 refine knT J J J<|?_
 exact rz J J
theorem q_RRestrict_node{GB:Gh}{l:LnQ}{x y:Tr}{c:List LnQ}(hl:LB l)(hlo:l.ok)(hc: ∀m∈c,LB m)(hok: ∀m∈c,m.ok)(hn:c.length+(Tr.node l x y).depth≤900)(ihx: ∀{c:List LnQ},(∀m∈c,LB m)→(∀m∈c,m.ok)→c.length+x.depth≤900→PF GB Tryz.prog 81 [eT x, .sl (c.map eL)] (eT (Tr.restrictL x c)))(ihy: ∀{c:List LnQ},(∀m∈c,LB m)→(∀m∈c,m.ok)→c.length+y.depth≤900→PF GB Tryz.prog 81 [eT y, .sl (c.map eL)] (eT (Tr.restrictL y c))):PF GB Tryz.prog 81 [eT (.node l x y), .sl (c.map eL)] (eT (Tr.restrictL (.node l x y) c)):=by
 have hdp:(Tr.node l x y).depth=1+Nat.max x.depth y.depth:=rfl
 have hdx:x.depth≤Nat.max x.depth y.depth:=Nat.le_max_left _ _
 have hdy:y.depth≤Nat.max x.depth y.depth:=Nat.le_max_right _ _
 have hca:=canonL_len (c++[l])
 have hcb:=canonL_len (c++[l.rev])
 rw[List.length_append,List.length_singleton] at hca hcb
 refine fn (fu:=⟨11⟩) Tryz.func81 J J Tryz.ntmps81 J J (fun C=>?_)
 refine knF J J J<|cl rfl (q_Place (c:=c) (l:=l) hc hok (by omega) hl hlo) rfl<|?_
 refine br J J J (fun hc16=>?_) (fun hc16=>?_)
 ·
  refine cl rfl (ihx hc hok (by omega)) rfl<|?_
  exact rz rfl (by rw[Tr.restrictL,if_pos hc16];rfl)
 ·
  refine br J J J (fun hc24=>?_) (fun hc24=>?_)
  ·
   refine cl rfl (ihy hc hok (by omega)) rfl<|?_
   exact rz rfl (by rw[Tr.restrictL,if_neg hc16,if_pos hc24];rfl)
  ·
   refine cl rfl (q_with (c:=c) (l:=l) hc hok (by omega) hl hlo) rfl<|cl rfl (ihx (c:=canonL (c++[l])) (lb_can (lb_app hc hl)) (ok_can (ok_app hok hlo)) (by omega)) rfl<|?_
   refine cl rfl (q_sRev (l:=l)) rfl<|cl rfl (q_with (c:=c) (l:=l.rev) hc hok (by omega) hl.rev hlo.rev) rfl<|cl rfl (ihy (c:=canonL (c++[l.rev])) (lb_can (lb_app hc hl.rev)) (ok_can (ok_app hok hlo.rev)) (by omega)) rfl<|?_
   refine cl rfl q_join rfl<|?_
   exact rz rfl (by rw[Tr.restrictL,if_neg hc16,if_neg hc24];rfl)
theorem q_RRestrict{GB:Gh}: ∀{t:Tr} {c:List LnQ},t.all LB→t.all LnQ.ok→(∀m∈c,LB m)→(∀m∈c,m.ok)→c.length+t.depth≤900→PF GB Tryz.prog 81 [eT t, .sl (c.map eL)] (eT (Tr.restrictL t c))
 | .leaf _,_,_,_,_,_,_=>q_RRestrict_leaf
 | .node l x y,c,hb,ho,hc,hok,hn=>q_RRestrict_node hb.1 ho.1 hc hok hn (fun h1 h2 h3=>q_RRestrict hb.2.1 ho.2.1 h1 h2 h3) (fun h1 h2 h3=>q_RRestrict hb.2.2 ho.2.2 h1 h2 h3)
end Go.Sx
end

section
set_option maxRecDepth 100000
namespace Go.Sx
open Go Go.Proofs
def p7:PtQ:=⟨mkRat 1 7,mkRat 1 5⟩
structure LP (l:LnQ):Prop where
 s:LS l
 p:0<l.value p7
def lsR(es:List Int):Nat→Nat→List LnQ×Nat
 |0,a=>([],a)
 |i+1,a=>((lF es a).1::(lsR es i (lF es a).2).1,(lsR es i (lF es a).2).2)
def lsF(es:List Int)(most a:Nat):List LnQ×Nat:=lsR es (nextF es ((most:Int)+1) a).1 (nextF es ((most:Int)+1) a).2
def flip7(l:LnQ):LnQ:=if(l.value p7).num.sign<0 then l.rev else l
def sideR(xs:List LnQ)(i:Nat):List LnQ:=(xs.take i).map flip7++xs.drop i
def sideF(es:List Int)(a:Nat):List LnQ×Nat:=((lsF es 3 a).1.map flip7,(lsF es 3 a).2)
end Go.Sx
end

section
set_option maxRecDepth 100000
namespace Go.Sx
open Go Go.Proofs
theorem eN_get(xs ys:List NQ)(n:NQ):((xs++(n::ys)).map eN)[((xs.length:Nat):Int).toNat]? =some (eN n):=by simp
theorem eN_set(xs ys:List NQ)(n m:NQ)(e:DV)(h:e=eN m):((xs++(n::ys)).map eN).set ((xs.length:Nat):Int).toNat e=(xs++(m::ys)).map eN:=by subst h;simp
theorem q_write_true{GB:Gh}{ns:List NQ}:PB GB Tryz.prog 49 (fun w=>[eT (.leaf true), .v (.slice w.a w.n w.c)]) 8 141 (ns.map eN) (fun w=> .tp [.v (.slice w.a w.n w.c), .v (.int .i64 (Tr.num (.leaf true) ns.length))]) ((ns++Tr.wr (.leaf true) ns.length).map eN):=by
 refine PB.intro Tryz.func49 J J Tryz.ntmps49 (fun _=>rfl) ?_
 intro C w0
 refine sd_bh ((ns++Tr.wr (.leaf true) ns.length).map eN) (by simp[Tr.wr]) ?_
 refine qR<|tA J J<|tA J J<|sd_end<|sd_seq<|qR<|tM J J<|tY (yq_nilT rfl) rfl<|tY (yq_faE J J) rfl<|?_
 refine tY (yq_ldE1 J J) rfl<|sd_end<|sd_condT rfl<|sd_seq<|qR<|tM J J<|tY (yq_nilT rfl) rfl<|tY (yq_faE J J) rfl<|tY (yq_ldE1 J J) rfl<|?_
 refine sd_end<|sd_condT rfl<|qR<|tM J J<|tA J J<|tA J J<|sd_end<|sd_ret<|?_
 exact sd_doneB (w:=w0) (.tmp rfl (.tmp rfl .nil)) rfl (by repeat (first|exact .hd .. |apply BRemD.tl))
theorem q_write_false{GB:Gh}{ns:List NQ}:PB GB Tryz.prog 49 (fun w=>[eT (.leaf false), .v (.slice w.a w.n w.c)]) 8 141 (ns.map eN) (fun w=> .tp [.v (.slice w.a w.n w.c), .v (.int .i64 (Tr.num (.leaf false) ns.length))]) ((ns++Tr.wr (.leaf false) ns.length).map eN):=by
 refine PB.intro Tryz.func49 J J Tryz.ntmps49 (fun _=>rfl) ?_
 intro C w0
 refine sd_bh ((ns++Tr.wr (.leaf false) ns.length).map eN) (by simp[Tr.wr]) ?_
 refine qR<|tA J J<|tA J J<|sd_end<|sd_seq<|qR<|tM J J<|tY (yq_nilT rfl) rfl<|tY (yq_faE J J) rfl<|?_
 refine tY (yq_ldE1 J J) rfl<|sd_end<|sd_condT rfl<|sd_seq<|qR<|tM J J<|tY (yq_nilT rfl) rfl<|tY (yq_faE J J) rfl<|tY (yq_ldE1 J J) rfl<|?_
 refine sd_end<|sd_condF rfl<|sd_skipc<|qR<|tM J J<|tA J J<|tA J J<|sd_end<|sd_ret<|?_
 exact sd_doneB (w:=w0) (.tmp rfl (.tmp rfl .nil)) rfl (by repeat (first|exact .hd .. |apply BRemD.tl))
theorem q_write_node{GB:Gh}{l:LnQ}{s u:Tr}{ns:List NQ}(hl:BL l 96)(hs:ns.length+(1+s.size+u.size)≤1000000)(ihs: ∀{ns:List NQ},ns.length+s.size≤1000000→PB GB Tryz.prog 49 (fun w=>[eT s, .v (.slice w.a w.n w.c)]) 8 141 (ns.map eN) (fun w=> .tp [.v (.slice w.a w.n w.c), .v (.int .i64 (Tr.num s ns.length))]) ((ns++Tr.wr s ns.length).map eN))(ihu: ∀{ns:List NQ},ns.length+u.size≤1000000→PB GB Tryz.prog 49 (fun w=>[eT u, .v (.slice w.a w.n w.c)]) 8 141 (ns.map eN) (fun w=> .tp [.v (.slice w.a w.n w.c), .v (.int .i64 (Tr.num u ns.length))]) ((ns++Tr.wr u ns.length).map eN)):PB GB Tryz.prog 49 (fun w=>[eT (.node l s u), .v (.slice w.a w.n w.c)]) 8 141 (ns.map eN) (fun w=> .tp [.v (.slice w.a w.n w.c), .v (.int .i64 (Tr.num (.node l s u) ns.length))]) ((ns++Tr.wr (.node l s u) ns.length).map eN):=by
 refine PB.intro Tryz.func49 J J Tryz.ntmps49 (fun _=>rfl) ?_
 intro C w0
 refine qR<|tA J J<|tA J J<|sd_end<|sd_seq<|qR<|tM J J<|tY (yq_nilT rfl) rfl<|tY (yq_faE J J) rfl<|?_
 refine tY (yq_ldE1 J J) rfl<|sd_end<|sd_condF rfl<|sd_skipc<|qR<|tM J J<|tY (yq_lenB rfl) rfl<|?_
 refine sd_eq 20 (.d (.v (.int .i64 (ns.length:Nat)))) rfl (by simp) ?_
 refine tA J J<|sd_end<|qR<|tM J J<|tM J J<|tY (yq_nilT rfl) rfl<|tY (yq_faE J J) rfl<|tY (yq_ldE J J) rfl<|?_
 refine tC (td_call J J (q_ToL hl) rfl)<|tY (yq_build rfl) rfl<|tF (tf_row J J J J J J J)<|?_
 intro w1
 refine tF (tf_appendF (w:=w0) rfl (by repeat (first|exact .hd .. |apply BRemD.tl)) (.bf rfl (okRow_spec rfl)) rfl (by simp only[List.length_map,List.length_cons,List.length_nil];omega) J J)<|?_
 intro w2
 refine sd_bh ((ns++[(⟨l,0,0⟩:NQ)]).map eN) (by rw[List.map_append];rfl) ?_
 refine tA J J<|sd_end<|qR<|tA J J<|tA J J<|sd_end<|qR<|tM J J<|tY (yq_nilT rfl) rfl<|?_
 refine tY (yq_faE J J) rfl<|tY (yq_ldE1 J J) rfl<|tM J J<|tF (tf_callB (w:=w2) J J (ihs (ns:=ns++[(⟨l,0,0⟩:NQ)]) (by simp;omega)) (by repeat (first|exact .hd .. |apply BRemD.tl)) rfl)<|?_
 intro w3
 refine tM J J<|tY (yq_ext J J) rfl<|tY (yq_ext J J) rfl<|tA J J<|tA J J<|sd_end<|qR<|tM J J<|?_
 refine tY (yq_nilT rfl) rfl<|tY (yq_faE J J) rfl<|tY (yq_ldE1 J J) rfl<|tM J J<|tF (tf_callB (w:=w3) J J (ihu (ns:=ns++[(⟨l,0,0⟩:NQ)]++s.wr (ns++[(⟨l,0,0⟩:NQ)]).length) (by simp[Tr.wr_len];omega)) (by repeat (first|exact .hd .. |apply BRemD.tl)) rfl)<|?_
 intro w4
 refine sd_bh ((ns++((⟨l,0,0⟩:NQ)::(s.wr (ns.length+1)++u.wr (ns.length+1+s.size)))).map eN) (by simp[Tr.wr_len,Nat.add_assoc,Nat.add_comm 1]) ?_
 refine tM J J<|tY (yq_ext J J) rfl<|tY (yq_ext J J) rfl<|tA J J<|tA J J<|sd_end<|qR<|tM J J<|?_
 refine tM J J<|tM J J<|tM J J<|tM J J<|tM J J<|tY (yq_ixB J J (by omega) (by simp;omega)) rfl<|?_
 refine tY (yq_faB rfl) rfl<|tC (td_storeBs (d:=eN ⟨l,0,0⟩) J J (by repeat (first|exact .hd .. |apply BRemD.tl)) (eN_get ns _ ⟨l,0,0⟩) J J J)<|?_
 refine sd_bh ((ns++((⟨l,s.num (ns.length+1),0⟩:NQ)::(s.wr (ns.length+1)++u.wr (ns.length+1+s.size)))).map eN) (by rw[eN_set _ _ _ ⟨l,s.num (ns.length+1),0⟩ _ (by simp[eN,DV.cells])]) ?_
 refine tY (yq_ixB J J (by omega) (by simp;omega)) rfl<|tY (yq_faB rfl) rfl<|tC (td_storeBs (d:=eN ⟨l,s.num (ns.length+1),0⟩) J J (by repeat (first|exact .hd .. |apply BRemD.tl)) (eN_get ns _ ⟨l,s.num (ns.length+1),0⟩) J J J)<|?_
 refine sd_bh ((ns++Tr.wr (.node l s u) ns.length).map eN) (by rw[eN_set _ _ _ ⟨l,s.num (ns.length+1),u.num (ns.length+1+s.size)⟩ _ (by simp[eN,DV.cells,Tr.wr_len,Nat.add_assoc,Nat.add_comm 1])];simp[Tr.wr]) ?_
 refine sd_end<|qR<|tM J J<|tM J J<|tA J J<|tA J J<|sd_end<|sd_ret<|?_
 exact sd_doneB (w:=w4) (.tmp rfl (.tmp rfl .nil)) rfl (by repeat (first|exact .hd .. |apply BRemD.tl))
theorem q_write{GB:Gh}: ∀{t:Tr} {ns:List NQ},t.all (fun l=>BL l 96)→ns.length+t.size≤1000000→PB GB Tryz.prog 49 (fun w=>[eT t, .v (.slice w.a w.n w.c)]) 8 141 (ns.map eN) (fun w=> .tp [.v (.slice w.a w.n w.c), .v (.int .i64 (Tr.num t ns.length))]) ((ns++Tr.wr t ns.length).map eN)
 | .leaf true,ns,_,_=>q_write_true
 | .leaf false,ns,_,_=>q_write_false
 | .node l s u,ns,hb,hs=>q_write_node hb.1 hs (fun h=>q_write hb.2.1 h) (fun h=>q_write hb.2.2 h)
theorem q_Write{GB:Gh}{t:Tr}(hb:t.all (fun l=>BL l 96))(hs:t.size≤1000000):PF GB Tryz.prog 13 [eT t] (eA t):=by
 refine PF.intro Tryz.func13 J J Tryz.ntmps13 rfl ?_
 intro C
 refine qR<|tF (tf_alloc rfl)<|?_
 intro b1
 refine sd_end<|qR<|tF (tf_alloc rfl)<|?_
 intro b2
 refine sd_end<|qR<|tM J J<|?_
 refine sd_newB 8 141 ?_
 refine tF (tf_callB (w:=⟨none,0,0⟩) J J (q_write (t:=t) (ns:=[]) hb (by simpa using hs)) (by repeat (first|exact .hd .. |apply BRemD.tl)) rfl)<|?_
 intro w3
 refine tM J J<|tY (yq_ext J J) rfl<|tY (yq_ext J J) rfl<|tY (yq_faP rfl) rfl<|?_
 refine sd_freezeB [7] (w:=w3) (by repeat (first|exact .hd .. |apply BRemD.tl)) (by simp only[List.forall_mem_cons,List.not_mem_nil,false_implies,implies_true,and_true];exact rfl) ?_
 refine tC (td_store1 J J (by first|(dsimp only[DV.cells,ovD,zs1,zs2,Nat.reduceAdd,zs3,zs4];done)|exact rfl) (by repeat (first|exact .hd .. |apply OUpdD.tl)) J J J)<|?_
 refine tY (yq_faP rfl) rfl<|tC (td_store1 J J (by first|(dsimp only[DV.cells,ovD,zs1,zs2,Nat.reduceAdd,zs3,zs4];done)|exact rfl) (by repeat (first|exact .hd .. |apply OUpdD.tl)) J J J)<|?_
 refine sd_end<|qR<|tY (yq_ldO J J) rfl<|tC (tdS J J J J J J)<|?_
 refine sd_end<|sd_ret<|?_
 exact sd_done (.agg rfl ii ii rfl .nil) rfl
end Go.Sx
end

section
set_option maxRecDepth 100000
namespace Go.Sx
open Go Go.Proofs
theorem slOkI(ds:List Int):slOk 1 (ds.map vI):=fun d hd=>by
 obtain⟨n,_,rfl⟩:=List.mem_map.1 hd;exact⟨rfl,rfl⟩
theorem take_400(es:List Int):(es.map vI).take (min es.length 400)=(es.take 400).map vI:=by
 rw[List.map_take]
 rcases Nat.le_total es.length 400 with h|h
 ·rw[Nat.min_eq_left h,List.take_of_length_le (by simp),List.take_of_length_le (by simpa using h)]
 ·rw[Nat.min_eq_right h]
theorem q_New{GB:Gh}{es:List Int}(hb:es.length≤1125899906842624):PN GB Tryz.prog 12 [.sl (es.map vI)] 89 Unit (fun _=>[.sl ((es.take 400).map vI), .v (.int .i64 (0:Nat))]):=by
 have hel:(es.map vI).length=es.length:=by simp
 refine fnN Tryz.func12 J J Tryz.ntmps12 J J (fun C hmb=>?_)
 refine sc' 0 (min es.length 400) ((es.take 400).map vI) J J (by rw[hel];show(if _ then _ else _:Int)=_;split<;>omega) (take_400 es) (slOkI _) (by omega) (by omega) rfl<|?_
 exact rzN () J J J J J
theorem q_RReduce{GB:Gh}{t:Tr}(hb:t.all LB)(hok:t.all LnQ.ok)(hd:t.depth≤900):PF GB Tryz.prog 39 [eT t] (eT (t.restrict [])):=by
 refine fn Tryz.func39 J J Tryz.ntmps39 J J (fun C=>?_)
 refine cl rfl (q_RRestrict (t:=t) (c:=[]) hb hok (by simp) (by simp) (by simpa using hd)) rfl<|?_
 exact rz rfl (by rw[←Tr.restrictL_eq t [] [] hok (by simp) GoodC.nil (fun p=>by unfold InD InL;simp)];rfl)
end Go.Sx
end
