/-
  Insertion into an ascending list, as the reference does it; lists taken apart. Reference: numbers and lines written for package api. Reference: lines as they come. Reference: numbers and points of package api; orientation; canonical lines. Reference: sorted points, distinct lines. Reference: spans: classes, probes, ends. Reference: the half of a line, segments. Reference: sets of marked gaps. Reference: the intersection of lists of spans. The abstract machine: elements of an array of the call's own. Reference: fragments split by a line.
-/
import Derived.Test.YtlnphbkcelfboaaGreatDoorMs15
set_option linter.unusedSimpArgs false
set_option linter.unusedVariables false
section
set_option maxRecDepth 100000
namespace Go.Sx
open Go Go.Proofs
section
variable {α:Type} (c:α→α→Int)
def insG(x:α):List α→List α
 |[]=>[x]
 |u::t=>if c u x<0 then u::insG x t else if c u x=0 then u::t else x::u::t
def idxG(x:α)(xs:List α):Nat:=(xs.takeWhile fun u=>decide (c u x<0)).length
theorem idxG_le(x:α)(xs:List α):idxG c x xs≤xs.length:=(List.takeWhile_sublist _).length_le
theorem idxG_eq{x:α}{xs:List α}{n:Nat}(h1:n≤xs.length)(h2: ∀j (h:j<xs.length),j<n→c xs[j] x<0)(h3: ∀h:n<xs.length,¬c xs[n] x<0):idxG c x xs=n:=
 takeWhile_len h1 (fun j h hj=>decide_eq_true (h2 j h hj)) (fun h=>decide_eq_false (h3 h))
theorem insG_old{x:α}: ∀{xs:List α} {n:Nat},idxG c x xs=n→(h:n<xs.length)→c xs[n] x=0→insG c x xs=xs
 |[],n,_,h,_=>by simp at h
 |u::t,n,hn,h,e=>by
  rw[insG]
  unfold idxG at hn
  rw[List.takeWhile_cons] at hn
  by_cases hu:c u x<0
  ·rw[if_pos hu]
   rw[if_pos (by simpa using hu)] at hn
   obtain⟨k,rfl⟩: ∃k,n=k+1:=⟨n-1,by simp at hn;omega⟩
   rw[insG_old (xs:=t) (n:=k) (by unfold idxG;simpa using hn) (by simpa using h) (by simpa using e)]
  ·rw[if_neg (by simpa using hu)] at hn
   simp at hn;subst hn
   rw[if_neg hu,if_pos (by simpa using e)]
theorem insG_new{x:α}: ∀{xs:List α} {n:Nat},idxG c x xs=n→(∀h:n<xs.length,c xs[n] x≠0)→insG c x xs=xs.take n++x::xs.drop n
 |[],n,hn,_=>by simp[idxG] at hn;subst hn;rfl
 |u::t,n,hn,e=>by
  rw[insG]
  unfold idxG at hn
  rw[List.takeWhile_cons] at hn
  by_cases hu:c u x<0
  ·rw[if_pos hu]
   rw[if_pos (by simpa using hu)] at hn
   obtain⟨k,rfl⟩: ∃k,n=k+1:=⟨n-1,by simp at hn;omega⟩
   rw[insG_new (xs:=t) (n:=k) (by unfold idxG;simpa using hn) (fun h=>by have:=e (by simpa using h);simpa using this)]
   simp
  ·rw[if_neg (by simpa using hu)] at hn
   simp at hn;subst hn
   have:=e (by simp)
   rw[if_neg hu,if_neg (by simpa using this)];rfl
theorem insG_len(x:α): ∀(xs:List α),(insG c x xs).length≤xs.length+1
 |[]=>Nat.le_refl _
 |u::t=>by
  have:=insG_len x t
  rw[insG]
  split
  ·simp;omega
  ·split<;>simp
theorem mem_insG{x y:α}: ∀{xs:List α},y∈insG c x xs→y=x∨y∈xs
 |[],h=>by rw[insG,List.mem_singleton] at h;exact .inl h
 |u::t,h=>by
  rw[insG] at h
  split at h
  ·rcases List.mem_cons.1 h with rfl|h
   ·exact .inr List.mem_cons_self
   ·rcases mem_insG h with h|h
    ·exact .inl h
    ·exact .inr (List.mem_cons_of_mem _ h)
  ·split at h
   ·exact .inr h
   ·rcases List.mem_cons.1 h with rfl|h
    ·exact .inl rfl
    ·exact .inr h
def sortG(l:List α):List α:=l.foldl (fun out x=>insG c x out) []
theorem foldG_len: ∀(l o:List α),(l.foldl (fun out x=>insG c x out) o).length≤l.length+o.length
 |[],o=>by simp
 |x::t,o=>by
  have:=foldG_len t (insG c x o)
  have:=insG_len c x o
  simp only[List.foldl_cons,List.length_cons];omega
theorem foldG_mem{y:α}: ∀{l o:List α},y∈l.foldl (fun out x=>insG c x out) o→y∈l∨y∈o
 |[],o,h=> .inr h
 |x::t,o,h=>by
  rcases foldG_mem (l:=t) h with h|h
  ·exact .inl (List.mem_cons_of_mem _ h)
  ·rcases mem_insG c h with rfl|h
   ·exact .inl List.mem_cons_self
   ·exact .inr h
end
theorem insR_G{x:Rat}: ∀{l:List Rat},insR x l=insG rcmp x l
 |[]=>rfl
 |u::t=>by
  have e1:rcmp u x<0↔u<x:=rcmp_neg' u x
  have e2:rcmp u x=0↔u=x:=rcmp_eq u x
  rw[insR,insG,insR_G (l:=t)]
  by_cases h:u<x
  ·rw[if_pos h,if_pos (e1.2 h)]
  ·rw[if_neg h,if_neg (fun e=>h (e1.1 e))]
   by_cases h2:u=x
   ·rw[if_pos h2,if_pos (e2.2 h2)]
   ·rw[if_neg h2,if_neg (fun e=>h2 (e2.1 e))]
theorem take_map_snoc{α β:Type}{f:α→β}{l:List α}{k:Nat}{x:α}(h:l[k]? =some x):(l.take k).map f++[f x]=(l.take (k+1)).map f:=by
 rw[List.take_add_one,h,List.map_append];rfl
end Go.Sx
end

section
set_option maxRecDepth 100000
namespace Go.Sx
open Go Go.Proofs
theorem q_ToN{GB:Gh}{a i:Nat}[ha:BN a i](hi:i≤400000000:=by decide):PF GB Tryz.prog 216 [dN a] (dN a):=by
 have hl:=mapU_len (dg a)
 have hb:=dg_len_le ha.h
 refine fn Tryz.func216 J J Tryz.ntmps216 J J (fun C=>?_)
 refine ro0 J J<|ap ((dg a).map dU) J J (slOkU _) rfl<|?_
 refine fzE 5 rfl ?_
 exact rz J J
theorem q_ToI{GB:Gh}{z:Int}{i:Nat}[hz:BI z i](hi:i≤400000000:=by decide):PF GB Tryz.prog 171 [eI z] (eI z):=by
 refine fn Tryz.func171 J J Tryz.ntmps171 J J (fun C=>?_)
 refine cl rfl (q_ToN (a:=z.natAbs) (i:=i) (ha:=⟨hz.h⟩) hi) rfl<|?_
 exact rz J J
theorem q_ToL{GB:Gh}{l:LnQ}(hl:BL l 96):PF GB Tryz.prog 103 [eL l] (eL l):=by
 haveI h1:BI l.a 96:=⟨hl.a⟩
 haveI h2:BI l.b 96:=⟨hl.b⟩
 haveI h3:BI l.c 96:=⟨hl.c⟩
 refine fn Tryz.func103 J J Tryz.ntmps103 J J (fun C=>?_)
 refine cl rfl (q_ToI (z:=l.a)) rfl<|cl rfl (q_ToI (z:=l.b)) rfl<|cl rfl (q_ToI (z:=l.c)) rfl<|?_
 exact rz J J
end Go.Sx
end

section
set_option maxRecDepth 100000
namespace Go.Sx
open Go Go.Proofs
theorem q_RN{GB:Gh}{ds:List Nat}(hd:DOk ds)(hn:ds.length≤1000000):PF GB Tryz.prog 168 [dLi ds] (dN (dv ds)):=by
 have hm:=mapU_len ds
 refine fn Tryz.func168 J J Tryz.ntmps168 J J (fun C=>?_)
 refine ro0 J J<|ap (ds.map dU) J J (slOkU _) rfl<|fz 5 J J<|cl rfl (q_Trim (ds:=ds) (by omega)) rfl<|?_
 exact rz rfl (by unfold dN;rw[dg_trim hd];rfl)
theorem q_RI{GB:Gh}{neg:Bool}{ds:List Nat}(hd:DOk ds)(hn:ds.length≤1000000):PF GB Tryz.prog 170 [.ag [.v (.bool neg),dLi ds]] (eI (ivalR neg ds)):=by
 refine fn Tryz.func170 J J Tryz.ntmps170 J J (fun C=>?_)
 refine cl rfl (q_RN hd hn) rfl<|cl rfl q_Make rfl<|?_
 exact rz J J
def rlD(r:RL):DV:= .tp [if r.nm then eL r.l else .ag [.v (.bool false), .sl [], .v (.bool false), .sl [], .v (.bool false), .sl []],vB (decide (r.nm∧r.l.ok))]
def smB(n:Int)(ls:List (List Nat)):Bool:=ls.all fun d=>decide ((d.length:Int)≤n)
def RL.smB(n:Int)(r:RL):Bool:=Sx.smB n [r.da,r.db,r.dc]
def rlB(n:Int)(ls:List RL):Bool:=ls.all fun r=>r.smB n
end Go.Sx
end

section
set_option maxRecDepth 100000
namespace Go.Sx
open Go Go.Proofs
theorem q_RNn{GB:Gh}{n i:Nat}[h:BN n i](hi:i≤20000:=by decide):PF GB Tryz.prog 168 [dN n] (dN n):=by
 have hl:=dg_len_le h.h
 have:=q_RN (GB:=GB) (ds:=dg n) (dg_ok n) (by omega)
 rw[dv_dg,←dN_dg] at this;exact this
theorem ivalR_dg(z:Int):ivalR (decide (z<0)) (dg z.natAbs)=z:=by
 unfold ivalR
 rw[dv_dg]
 split<;>(rename_i h;simp at h;omega)
theorem q_RIi{GB:Gh}{z:Int}{i:Nat}[h:BI z i](hi:i≤20000:=by decide):PF GB Tryz.prog 170 [eI z] (eI z):=by
 have hl:=dg_len_le h.h
 have:=q_RI (GB:=GB) (neg:=decide (z<0)) (ds:=dg z.natAbs) (dg_ok _) (by omega)
 rw[ivalR_dg,←dN_dg] at this;exact this
theorem dN_ne{n:Nat}(h:0<n): ¬((((dg n).map dU).length:Nat):Int)=0:=by
 rw[List.length_map]
 have:=dg_len_zero (n:=n)
 omega
instance BQ.m1':BQ (((-1:Int):Int):Rat) 2:=⟨by decide,by decide⟩
instance BQ.m1:BQ (-1:Rat) 2:=⟨by decide,by decide⟩
theorem q_RQ{GB:Gh}{q:Rat}{i:Nat}[h:BQ q i](hi:i≤20000:=by decide):PF GB Tryz.prog 102 [eR q] (eQ q):=by
 have hd:=q.den_pos
 refine fn Tryz.func102 J J Tryz.ntmps102 J J (fun C=>?_)
 refine cl (fu:=⟨8⟩) rfl (q_RNn (n:=q.den) hi) rfl<|knF rfl (by show some (decide _)=some false;rw[decide_eq_false (dN_ne hd)]) rfl<|cl rfl (q_RIi (z:=q.num) hi) rfl<|?_
 refine cl rfl (q_Frac (x:=q.num) (d:=q.den) hd (by omega) (by omega)) rfl<|?_
 exact rz rfl (by rw[Rat.mkRat_self];rfl)
theorem q_RToQ{GB:Gh}{q:Rat}{i:Nat}[h:BQ q i](hi:i≤400000000:=by decide):PF GB Tryz.prog 161 [eQ q] (eR q):=by
 refine fn Tryz.func161 J J Tryz.ntmps161 J J (fun C=>?_)
 refine cl rfl (q_ToI (z:=q.num) hi) rfl<|cl rfl (q_Den (q:=q)) rfl<|cl rfl (q_ToN (a:=q.den) hi) rfl<|?_
 exact rz J J
theorem q_Pt{GB:Gh}{p:PtQ}{i:Nat}[h:BPt p i](hi:i≤20000:=by decide):PF GB Tryz.prog 48 [ePt p] (eP p):=by
 refine fn Tryz.func48 J J Tryz.ntmps48 J J (fun C=>?_)
 refine cl rfl (q_RQ (q:=p.x) hi) rfl<|cl rfl (q_RQ (q:=p.y) hi) rfl<|?_
 exact rz J J
theorem q_ToP{GB:Gh}{p:PtQ}{i:Nat}[h:BPt p i](hi:i≤20000:=by decide):PF GB Tryz.prog 175 [eP p] (ePt p):=by
 refine fn Tryz.func175 J J Tryz.ntmps175 J J (fun C=>?_)
 refine cl rfl (q_RToQ (q:=p.x) (i:=i) (by omega)) rfl<|cl rfl (q_RToQ (q:=p.y) (i:=i) (by omega)) rfl<|?_
 exact rz J J
theorem map_len'{α:Type}(f:α→DV)(l:List α):(l.map f).length=l.length:=List.length_map ..
theorem slOkP(ps:List PtQ):slOk 6 (ps.map eP):=fun d hd=>by
 obtain⟨u,_,rfl⟩:=List.mem_map.1 hd;exact⟨rfl,rfl⟩
theorem slOkPt(ps:List PtQ):slOk 6 (ps.map ePt):=fun d hd=>by
 obtain⟨u,_,rfl⟩:=List.mem_map.1 hd;exact⟨rfl,rfl⟩
theorem q_Pts{GB:Gh}{ps:List PtQ}(hb: ∀p∈ps,BPt p 1200)(hn:ps.length≤1000000):PF GB Tryz.prog 106 [.sl (ps.map ePt)] (.sl (ps.map eP)):=by
 have hm:=map_len' ePt ps
 refine fn (fu:=⟨15⟩) Tryz.func106 J J Tryz.ntmps106 J J (fun C=>?_)
 refine eqF 7 (.d (vI (ps.length:Nat))) rfl (by rw[hm]<;>rfl) ?_
 refine gx rfl<|?_
 refine nr 3 3 86 6 J J J ?_
 refine lp (X:=Nat) (fun k=>[(8, .d (vI (k:Nat))),(3, .rw 3)]) (fun k=>[(3,some (.b 86 6 ((ps.take k).map eP) true))]) (fun k=>k≤ps.length) (fun k=>ps.length-k) 0 rfl (Nat.zero_le _) (fun _=>rfl) (fun k hk=>?_)
 have hml:=map_len' eP (ps.take k)
 rw[List.length_take] at hml
 refine br J J J (fun hc9=>?_) (fun hc9=>?_)
 ·
  obtain⟨z,hz⟩: ∃s,ps[k]? =some s:=⟨_,List.getElem?_eq_getElem (by omega)⟩
  have hzm:=List.mem_of_getElem? hz
  refine ix _ rfl (map_getS hz) rfl<|cl rfl (q_Pt (p:=z) (h:=hb z hzm)) rfl<|rf J J<|ap ((ps.take (k+1)).map eP) rfl (take_map_snoc hz) (slOkP [z]) rfl<|?_
  refine rnE 16 3 rfl ?_
  exact at_ (k+1) ⟨(by omega),(by omega)⟩
 ·
  obtain rfl:k=ps.length:=by omega
  refine fzE 3 rfl ?_
  exact rz rfl (by rw[List.take_length];rfl)
theorem q_ToPs{GB:Gh}{ps:List PtQ}(hb: ∀p∈ps,BPt p 1200)(hn:ps.length≤1000000):PF GB Tryz.prog 107 [.sl (ps.map eP)] (.sl (ps.map ePt)):=by
 have hm:=map_len' eP ps
 refine fn (fu:=⟨15⟩) Tryz.func107 J J Tryz.ntmps107 J J (fun C=>?_)
 refine eqF 7 (.d (vI (ps.length:Nat))) rfl (by rw[hm]<;>rfl) ?_
 refine gx rfl<|?_
 refine nr 3 3 73 6 J J J ?_
 refine lp (X:=Nat) (fun k=>[(8, .d (vI (k:Nat))),(3, .rw 3)]) (fun k=>[(3,some (.b 73 6 ((ps.take k).map ePt) true))]) (fun k=>k≤ps.length) (fun k=>ps.length-k) 0 rfl (Nat.zero_le _) (fun _=>rfl) (fun k hk=>?_)
 have hml:=map_len' ePt (ps.take k)
 rw[List.length_take] at hml
 refine br J J J (fun hc9=>?_) (fun hc9=>?_)
 ·
  obtain⟨z,hz⟩: ∃s,ps[k]? =some s:=⟨_,List.getElem?_eq_getElem (by omega)⟩
  have hzm:=List.mem_of_getElem? hz
  refine ix _ rfl (map_getS hz) rfl<|cl rfl (q_ToP (p:=z) (h:=hb z hzm)) rfl<|rf J J<|ap ((ps.take (k+1)).map ePt) rfl (take_map_snoc hz) (slOkPt [z]) rfl<|?_
  refine rnE 16 3 rfl ?_
  exact at_ (k+1) ⟨(by omega),(by omega)⟩
 ·
  obtain rfl:k=ps.length:=by omega
  refine fzE 3 rfl ?_
  exact rz rfl (by rw[List.take_length];rfl)
theorem q_PSub{GB:Gh}{p q:PtQ}{i j:Nat}[hp:BPt p i][hq:BPt q j](hi:i≤100000:=by decide)(hj:j≤100000:=by decide):PF GB Tryz.prog 116 [eP p,eP q] (eP (movQ p q (-1))):=by
 refine fn Tryz.func116 J J Tryz.ntmps116 J J (fun C=>?_)
 refine cl rfl (q_Of (n:= -1) (by decide) (by decide)) rfl<|cl rfl (q_PAdd (p:=p) (q:=q) (c:=((-1:Int):Rat)) (i:=i) (j:=j) (k:=2) (by omega) (by omega)) rfl<|?_
 exact rz rfl (by rw[show((-1:Int):Rat)= -1 from rfl];rfl)
theorem q_Orient{GB:Gh}{a b c:PtQ}{i j k:Nat}[ha:BPt a i][hb:BPt b j][hc:BPt c k](hi:i≤80000:=by decide)(hj:j≤80000:=by decide)(hk:k≤80000:=by decide):PF GB Tryz.prog 176 [eP a,eP b,eP c] (vI (orientQ a b c)):=by
 refine fn Tryz.func176 J J Tryz.ntmps176 J J (fun C=>?_)
 refine cl rfl (q_PSub (p:=b) (q:=a) (i:=j) (j:=i) (by omega) (by omega)) rfl<|cl rfl (q_PSub (p:=c) (q:=a) (i:=k) (j:=i) (by omega) (by omega)) rfl<|?_
 refine cl rfl (q_Cross (p:=movQ b a (-1)) (q:=movQ c a (-1)) (by omega) (by omega)) rfl<|cl rfl (q_S (q:=(movQ b a (-1)).cross (movQ c a (-1)))) rfl<|?_
 exact rz J J
def cmpP(p q:PtQ):Int:=if rcmp p.x q.x≠0 then rcmp p.x q.x else rcmp p.y q.y
theorem q_PCompare{GB:Gh}{p q:PtQ}{i j:Nat}[hp:BPt p i][hq:BPt q j](hi:i≤100000:=by decide)(hj:j≤100000:=by decide):PF GB Tryz.prog 244 [eP p,eP q] (vI (cmpP p q)):=by
 refine fn Tryz.func244 J J Tryz.ntmps244 J J (fun C=>?_)
 refine cl rfl (q_C (a:=p.x) (b:=q.x) (by omega) (by omega)) rfl<|?_
 refine br J J J (fun hc12=>?_) (fun hc12=>?_)
 ·
  exact rz rfl (by unfold cmpP;rw[if_pos hc12];rfl)
 ·
  refine cl rfl (q_C (a:=p.y) (b:=q.y) (by omega) (by omega)) rfl<|?_
  exact rz rfl (by unfold cmpP;rw[if_neg hc12];rfl)
def revB(l:LnQ):Bool:=decide (l.a<0∨(l.a=0∧l.b<0))
def LnQ.canon(l:LnQ):LnQ:=if revB l then l.rev else l
theorem sgnI_neg(a:Int):a.sign<0↔a<0:=by
 rcases Int.lt_trichotomy a 0 with h|h|h
 ·rw[Int.sign_eq_neg_one_of_neg h];omega
 ·subst h;simp
 ·rw[Int.sign_eq_one_of_pos h];omega
theorem sgnI_zero(a:Int):a.sign=0↔a=0:=Int.sign_eq_zero_iff_zero
theorem canonT{l:LnQ}(h:l.a<0∨(l.a=0∧l.b<0)):DV.tp [eL l.canon,vB (revB l)]= .tp [eL l.rev,vB true]:=by
 unfold LnQ.canon revB;rw[decide_eq_true h];rfl
theorem canonF'{l:LnQ}(h: ¬(l.a<0∨(l.a=0∧l.b<0))):DV.tp [eL l.canon,vB (revB l)]= .tp [eL l,vB false]:=by
 unfold LnQ.canon revB;rw[decide_eq_false h];rfl
theorem q_LCanon{GB:Gh}{l:LnQ}[hl:LB l]:PF GB Tryz.prog 135 [eL l] (.tp [eL l.canon,vB (revB l)]):=by
 refine fn Tryz.func135 J J Tryz.ntmps135 J J (fun C=>?_)
 refine cl rfl (q_Sign (z:=l.a)) rfl<|?_
 refine cs 10 J J J (fun hg10=>?_) (fun hg10=>?_)
 ·
  refine cl rfl (q_sRev (l:=l)) rfl<|?_
  exact rz rfl (by rw[canonT (.inl ((sgnI_neg _).1 hg10))];rfl)
 ·
  refine cs 13 J J J (fun hg13=>?_) (fun hg13=>?_)
  ·
   refine cl rfl (q_Sign (z:=l.b)) rfl<|?_
   refine br J J J (fun hc19=>?_) (fun hc19=>?_)
   ·
    refine cl rfl (q_sRev (l:=l)) rfl<|?_
    exact rz rfl (by rw[canonT (.inr ⟨(sgnI_zero _).1 hg13,(sgnI_neg _).1 hc19⟩)];rfl)
   ·
    exact rz rfl (by rw[canonF' (fun e=>e.elim (fun e=>hg10 ((sgnI_neg _).2 e)) (fun e=>hc19 ((sgnI_neg _).2 e.2)))];rfl)
  ·
   exact rz rfl (by rw[canonF' (fun e=>e.elim (fun e=>hg10 ((sgnI_neg _).2 e)) (fun e=>hg13 ((sgnI_zero _).2 e.1)))];rfl)
instance LB.canon (l:LnQ) [h:LB l]:LB l.canon:=by unfold LnQ.canon;split;exact LB.rev h;exact h
theorem canon_ok{l:LnQ}(h:l.ok):l.canon.ok:=by unfold LnQ.canon;split;exact h.rev;exact h
end Go.Sx
end

section
set_option maxRecDepth 100000
namespace Go.Sx
open Go Go.Proofs
def sortK{α β:Type}(c:β→β→Int)(g:α→β)(l:List α)(k:Nat):List β:=sortG c ((l.take k).map g)
section
variable {α β:Type} {c:β→β→Int} {g:α→β} {l:List α} {k:Nat}
theorem sortK_succ{x:α}(h:l[k]? =some x):sortK c g l (k+1)=insG c (g x) (sortK c g l k):=by
 unfold sortK sortG
 rw[List.take_add_one,h,Option.toList_some,List.map_append,List.foldl_append];rfl
theorem sortK_all(h:k=l.length):sortK c g l k=sortG c (l.map g):=by unfold sortK;rw[h,List.take_length]
theorem sortK_len:(sortK c g l k).length≤k:=by
 have:=foldG_len c ((l.take k).map g) []
 have h2:((l.take k).map g).length≤k:=by rw[List.length_map,List.length_take];omega
 rw[List.length_nil] at this
 unfold sortK sortG
 omega
theorem sortK_mem{y:β}(h:y∈sortK c g l k): ∃x∈l,y=g x:=by
 rcases foldG_mem c h with h|h
 ·obtain⟨x,hx,rfl⟩:=List.mem_map.1 h
  exact⟨x,List.mem_of_mem_take hx,rfl⟩
 ·cases h
end
theorem slT{α:Type}{f:α→DV}{s:Nat}(ok: ∀l:List α,slOk s (l.map f))(xs:List α)(n:Nat):slOk s ((xs.map f).take n):=fun d hd=>ok xs d (List.mem_of_mem_take hd)
theorem slD{α:Type}{f:α→DV}{s:Nat}(ok: ∀l:List α,slOk s (l.map f))(xs:List α)(n m:Nat):slOk s (((xs.map f).take n).drop m):=fun d hd=>ok xs d (List.mem_of_mem_take (List.mem_of_mem_drop hd))
theorem slI{α:Type}{f:α→DV}{s:Nat}(ok: ∀l:List α,slOk s (l.map f))(xs:List α)(n m:Nat)(x:α):slOk s ([f x]++((xs.map f).take n).drop m):=fun d hd=>by
 rcases List.mem_append.1 hd with h|h
 ·exact ok [x] d h
 ·exact slD ok xs n m d h
theorem map_getN{α:Type}{f:α→DV}{l:List α}{i:Nat}(h:i<l.length):(l.map f)[(i:Int).toNat]? =some (f l[i]):=by
 rw[Int.toNat_natCast,List.getElem?_map,List.getElem?_eq_getElem h];rfl
set_option maxHeartbeats 4000000 in
theorem q_Sorted{GB:Gh}{ps:List PtQ}(hb: ∀p∈ps,BPt p 1200)(hn:ps.length≤100000):PF GB Tryz.prog 202 [.sl (ps.map eP)] (.sl ((sortG cmpP ps).map eP)):=by
 have hm':=map_len' eP ps
 refine fn (fu:=⟨15⟩) Tryz.func202 J J Tryz.ntmps202 J J (fun C=>?_)
 refine eqF 8 (.d (vI (ps.length:Nat))) rfl (by rw[hm'];rfl) ?_
 refine gx rfl<|?_
 refine nlC 3 rfl ?_
 refine lp (X:=List PtQ×Nat) (fun⟨xs,k⟩=>[(9, .d (vI (k:Nat))),(8, .d (vI (ps.length:Nat))),(7, .d (.sl (ps.map eP))),(0, .d (.sl (ps.map eP))),(3, .d (.sl (xs.map eP)))]) (fun⟨xs,k⟩=>[]) (fun⟨xs,k⟩=>xs=sortK cmpP id ps k∧k≤ps.length) (fun⟨xs,k⟩=>ps.length-k) ⟨[],0⟩ rfl ⟨rfl,Nat.zero_le _⟩ (fun _=>rfl) (fun⟨xs,k⟩ hk=>?_)
 try dsimp only at hk⊢
 obtain⟨hS,hkl⟩:=hk
 refine br J J J (fun hc10=>?_) (fun hc10=>?_)
 ·
  have hk:k<ps.length:=by omega
  obtain⟨m,hm⟩: ∃m,m=ps[k]:=⟨_,rfl⟩
  have hz:ps[k]? =some m:=by rw[hm];exact List.getElem?_eq_getElem hk
  haveI hmb:BPt m 1200:=hm▸hb _ (List.getElem_mem hk)
  have hxl:=map_len' eP xs
  have hxn:xs.length≤k:=by rw[hS];exact sortK_len
  have hxb: ∀q∈xs,BPt q 1200:=fun q hq=>by rw[hS] at hq;obtain⟨z,hz,he⟩:=sortK_mem hq;rw[he];exact hb z hz
  refine ix (fu:=⟨1⟩) _ rfl (map_getN hk) rfl<|?_
  refine eqF 12 (.d (eP m)) rfl (by rw[hm];rfl) ?_
  refine gx (fu:=⟨10⟩) rfl<|?_
  refine mg (fu:=⟨5⟩) (X:=Unit) (fun _=>[(9, .d (vI (k:Nat))),(8, .d (vI (ps.length:Nat))),(7, .d (.sl (ps.map eP))),(0, .d (.sl (ps.map eP))),(3, .d (.sl (xs.map eP))),(5, .ov 5 0),(6, .d (vI (idxG cmpP m xs:Nat)))]) (fun _=>[(5,some (.o 86 [.d ((.v (.bool (decide (m.x.num<0))))), .d (dN m.x.num.natAbs), .d (dD m.x.den), .d ((.v (.bool (decide (m.y.num<0))))), .d (dN m.y.num.natAbs), .d (dD m.y.den)] true))]) (fun _=>True) [9,8,7,0,3,5,6] [5] rfl ?_ (fun _=>rfl) (fun _ _=>?_)
  ·
   refine gx rfl<|?_
   refine lp (fu:=⟨6⟩) (X:=Nat) (fun n=>[(9, .d (vI (k:Nat))),(8, .d (vI (ps.length:Nat))),(7, .d (.sl (ps.map eP))),(0, .d (.sl (ps.map eP))),(3, .d (.sl (xs.map eP))),(5, .ov 5 0),(6, .d (vI (n:Nat)))]) (fun n=>[(5,some (.o 86 [.d ((.v (.bool (decide (m.x.num<0))))), .d (dN m.x.num.natAbs), .d (dD m.x.den), .d ((.v (.bool (decide (m.y.num<0))))), .d (dN m.y.num.natAbs), .d (dD m.y.den)] true))]) (fun n=>n≤xs.length∧ ∀j (h:j<xs.length),j<n→cmpP xs[j] m<0) (fun n=>xs.length-n) 0 rfl ⟨Nat.zero_le _,fun j _ hj=>absurd hj (by omega)⟩ (fun _=>rfl) (fun n hk=>?_)
   obtain⟨n1,n2⟩:=hk
   refine csS (v2:=fun hg16=>by simp only[allP];kernel_rfl) J J J J (fun hg16=>?_) (fun hg16=>?_)
   ·
    refine ix _ rfl (map_getN (by omega)) rfl<|cl rfl (q_PCompare (p:=xs[n]'(by omega)) (q:=m) (hp:=hxb _ (List.getElem_mem (by omega))) (hq:=hmb)) rfl<|?_
    refine br J J J (fun hc25=>?_) (fun hc25=>?_)
    ·
     exact at_ (n+1) ⟨⟨by omega,fun j h hj=>by by_cases q:j=n;(subst q;exact hc25);exact n2 j h (by omega)⟩,(by omega)⟩
    ·
     have hidx:idxG cmpP m xs=n:=idxG_eq cmpP n1 n2 (fun h=>hc25)
     exact at_ () trivial
   ·
    have hidx:idxG cmpP m xs=n:=idxG_eq cmpP n1 n2 (fun h=>absurd h (by omega))
    exact at_ () trivial
  ·
   obtain⟨n,hnx⟩: ∃n,idxG cmpP m xs=n:=⟨_,rfl⟩
   rw[hnx]
   have hnl:n≤xs.length:=by rw[←hnx];exact idxG_le _ _ _
   refine csS (v1:=fun hg31=>by simp only[allP];kernel_rfl) J J J J (fun hg31=>?_) (fun hg31=>?_)
   ·
    have hnew: ∀h:n<xs.length,cmpP xs[n] m≠0:=fun h=>absurd h (by omega)
    obtain⟨ys,hys⟩: ∃ys,ys=xs.take n++m::xs.drop n:=⟨_,rfl⟩
    have hin:insG cmpP m xs=ys:=by rw[hys];exact insG_new cmpP hnx hnew
    have hyl:ys.length≤xs.length+1:=by rw[hys];simp;omega
    refine s3 n _ J J J J (slOkP _) (by rw[hxl];exact hnl) rfl<|ro J J<|sc' n xs.length _ J J (by rw[hxl]) rfl (slOkP _) hnl (by omega) rfl<|?_
    refine ap _ J J (slD slOkP _ _ _) rfl<|apf (hv:=by simp only[allP];exact⟨by kernel_rfl,by omega⟩) (ho:=fun _=>⟨slT slOkP _ _,by simp⟩) (ys.map eP) rfl (by rw[hys,List.map_append,List.map_cons,List.map_take,List.map_drop,List.take_of_length_le (l:=xs.map eP) (i:=xs.length) (by simp)];rfl) (slI slOkP _ _ _ _) rfl<|?_
    exact at_ ⟨ys,k+1⟩ (by dsimp only;exact⟨⟨by rw[sortK_succ hz,←hS];exact hin.symm,by omega⟩,(by omega)⟩)
   ·
    refine ix _ rfl (map_getN (by omega)) rfl<|cl rfl (q_PCompare (p:=xs[n]'(by omega)) (q:=m) (hp:=hxb _ (List.getElem_mem (by omega))) (hq:=hmb)) rfl<|?_
    refine br J J J (fun hc40=>?_) (fun hc40=>?_)
    ·
     have hnew: ∀h:n<xs.length,cmpP xs[n] m≠0:=fun h=>hc40
     obtain⟨ys,hys⟩: ∃ys,ys=xs.take n++m::xs.drop n:=⟨_,rfl⟩
     have hin:insG cmpP m xs=ys:=by rw[hys];exact insG_new cmpP hnx hnew
     have hyl:ys.length≤xs.length+1:=by rw[hys];simp;omega
     refine s3 n _ J J J J (slOkP _) (by rw[hxl];exact hnl) rfl<|ro J J<|sc' n xs.length _ J J (by rw[hxl]) rfl (slOkP _) hnl (by omega) rfl<|?_
     refine ap _ J J (slD slOkP _ _ _) rfl<|apf (hv:=by simp only[allP];exact⟨by kernel_rfl,by omega⟩) (ho:=fun _=>⟨slT slOkP _ _,by simp⟩) (ys.map eP) rfl (by rw[hys,List.map_append,List.map_cons,List.map_take,List.map_drop,List.take_of_length_le (l:=xs.map eP) (i:=xs.length) (by simp)];rfl) (slI slOkP _ _ _ _) rfl<|?_
     exact at_ ⟨ys,k+1⟩ (by dsimp only;exact⟨⟨by rw[sortK_succ hz,←hS];exact hin.symm,by omega⟩,(by omega)⟩)
    ·
     have hin:insG cmpP m xs=xs:=insG_old cmpP hnx (by omega) (Decidable.not_not.1 hc40)
     exact at_ ⟨xs,k+1⟩ (by dsimp only;exact⟨⟨by rw[sortK_succ hz,←hS];exact hin.symm,by omega⟩,(by omega)⟩)
 ·
  have hfin:sortG cmpP ps=xs:=by rw[hS,sortK_all (by omega),List.map_id]
  exact rz rfl (by rw[hfin];rfl)
def distQ(ls:List LnQ):List LnQ:=sortG lcmp (ls.map LnQ.canon)
theorem distQ_mem{ls:List LnQ}{y:LnQ}(h:y∈distQ ls): ∃x∈ls,y=x.canon:=by
 rcases foldG_mem lcmp h with h|h
 ·obtain⟨x,hx,rfl⟩:=List.mem_map.1 h;exact⟨x,hx,rfl⟩
 ·cases h
set_option maxHeartbeats 4000000 in
theorem q_Distinct{GB:Gh}{ls:List LnQ}(hb: ∀p∈ls,LB p)(hn:ls.length≤100000):PF GB Tryz.prog 75 [.sl (ls.map eL)] (.sl ((distQ ls).map eL)):=by
 have hm':=map_len' eL ls
 refine fn (fu:=⟨15⟩) Tryz.func75 J J Tryz.ntmps75 J J (fun C=>?_)
 refine eqF 8 (.d (vI (ls.length:Nat))) rfl (by rw[hm'];rfl) ?_
 refine gx rfl<|?_
 refine nlC 3 rfl ?_
 refine lp (X:=List LnQ×Nat) (fun⟨xs,k⟩=>[(9, .d (vI (k:Nat))),(8, .d (vI (ls.length:Nat))),(7, .d (.sl (ls.map eL))),(0, .d (.sl (ls.map eL))),(3, .d (.sl (xs.map eL)))]) (fun⟨xs,k⟩=>[]) (fun⟨xs,k⟩=>xs=sortK lcmp LnQ.canon ls k∧k≤ls.length) (fun⟨xs,k⟩=>ls.length-k) ⟨[],0⟩ rfl ⟨rfl,Nat.zero_le _⟩ (fun _=>rfl) (fun⟨xs,k⟩ hk=>?_)
 try dsimp only at hk⊢
 obtain⟨hS,hkl⟩:=hk
 refine br J J J (fun hc10=>?_) (fun hc10=>?_)
 ·
  have hk:k<ls.length:=by omega
  obtain⟨z,hm⟩: ∃m,m=ls[k]:=⟨_,rfl⟩
  have hz:ls[k]? =some z:=by rw[hm];exact List.getElem?_eq_getElem hk
  haveI hzb:LB z:=hm▸hb _ (List.getElem_mem hk)
  obtain⟨m,hmc⟩: ∃m,m=z.canon:=⟨_,rfl⟩
  haveI hmb:LB m:=by rw[hmc];infer_instance
  have hxl:=map_len' eL xs
  have hxn:xs.length≤k:=by rw[hS];exact sortK_len
  have hxb: ∀q∈xs,LB q:=fun q hq=>by rw[hS] at hq;obtain⟨z,hz,rfl⟩:=sortK_mem hq;haveI:=hb z hz;infer_instance
  refine ix (fu:=⟨1⟩) _ rfl (map_getN hk) rfl<|?_
  refine eqF 12 (.d (eL z)) rfl (by rw[hm];rfl) ?_
  refine gx rfl<|cl (fu:=⟨2⟩) rfl (q_LCanon (l:=z)) rfl<|?_
  refine eqF 16 (.d (eL m)) rfl (by rw[hmc]) ?_
  refine gx (fu:=⟨10⟩) rfl<|?_
  refine mg (fu:=⟨5⟩) (X:=Unit) (fun _=>[(9, .d (vI (k:Nat))),(8, .d (vI (ls.length:Nat))),(7, .d (.sl (ls.map eL))),(0, .d (.sl (ls.map eL))),(3, .d (.sl (xs.map eL))),(5, .ov 5 0),(6, .d (vI (idxG lcmp m xs:Nat)))]) (fun _=>[(5,some (.o 46 [.d ((.v (.bool (decide (m.a<0))))), .d (dN m.a.natAbs), .d ((.v (.bool (decide (m.b<0))))), .d (dN m.b.natAbs), .d ((.v (.bool (decide (m.c<0))))), .d (dN m.c.natAbs)] true))]) (fun _=>True) [9,8,7,0,3,5,6] [5] rfl ?_ (fun _=>rfl) (fun _ _=>?_)
  ·
   refine gx rfl<|?_
   refine lp (fu:=⟨6⟩) (X:=Nat) (fun n=>[(9, .d (vI (k:Nat))),(8, .d (vI (ls.length:Nat))),(7, .d (.sl (ls.map eL))),(0, .d (.sl (ls.map eL))),(3, .d (.sl (xs.map eL))),(5, .ov 5 0),(6, .d (vI (n:Nat)))]) (fun n=>[(5,some (.o 46 [.d ((.v (.bool (decide (m.a<0))))), .d (dN m.a.natAbs), .d ((.v (.bool (decide (m.b<0))))), .d (dN m.b.natAbs), .d ((.v (.bool (decide (m.c<0))))), .d (dN m.c.natAbs)] true))]) (fun n=>n≤xs.length∧ ∀j (h:j<xs.length),j<n→lcmp xs[j] m<0) (fun n=>xs.length-n) 0 rfl ⟨Nat.zero_le _,fun j _ hj=>absurd hj (by omega)⟩ (fun _=>rfl) (fun n hk=>?_)
   obtain⟨n1,n2⟩:=hk
   refine csS (v2:=fun hg21=>by simp only[allP];kernel_rfl) J J J J (fun hg21=>?_) (fun hg21=>?_)
   ·
    refine ix _ rfl (map_getN (by omega)) rfl<|cl rfl (q_LCmp (l:=xs[n]'(by omega)) (m:=m) (hl:=hxb _ (List.getElem_mem (by omega))) (hm:=hmb)) rfl<|?_
    refine br J J J (fun hc30=>?_) (fun hc30=>?_)
    ·
     exact at_ (n+1) ⟨⟨by omega,fun j h hj=>by by_cases q:j=n;(subst q;exact hc30);exact n2 j h (by omega)⟩,(by omega)⟩
    ·
     have hidx:idxG lcmp m xs=n:=idxG_eq lcmp n1 n2 (fun h=>hc30)
     exact at_ () trivial
   ·
    have hidx:idxG lcmp m xs=n:=idxG_eq lcmp n1 n2 (fun h=>absurd h (by omega))
    exact at_ () trivial
  ·
   obtain⟨n,hnx⟩: ∃n,idxG lcmp m xs=n:=⟨_,rfl⟩
   rw[hnx]
   have hnl:n≤xs.length:=by rw[←hnx];exact idxG_le _ _ _
   refine csS (v1:=fun hg36=>by simp only[allP];kernel_rfl) J J J J (fun hg36=>?_) (fun hg36=>?_)
   ·
    have hnew: ∀h:n<xs.length,lcmp xs[n] m≠0:=fun h=>absurd h (by omega)
    obtain⟨ys,hys⟩: ∃ys,ys=xs.take n++m::xs.drop n:=⟨_,rfl⟩
    have hin:insG lcmp m xs=ys:=by rw[hys];exact insG_new lcmp hnx hnew
    have hyl:ys.length≤xs.length+1:=by rw[hys];simp;omega
    refine s3 n _ J J J J (slOkL _) (by rw[hxl];exact hnl) rfl<|ro J J<|sc' n xs.length _ J J (by rw[hxl]) rfl (slOkL _) hnl (by omega) rfl<|?_
    refine ap _ J J (slD slOkL _ _ _) rfl<|apf (hv:=by simp only[allP];exact⟨by kernel_rfl,by omega⟩) (ho:=fun _=>⟨slT slOkL _ _,by simp⟩) (ys.map eL) rfl (by rw[hys,List.map_append,List.map_cons,List.map_take,List.map_drop,List.take_of_length_le (l:=xs.map eL) (i:=xs.length) (by simp)];rfl) (slI slOkL _ _ _ _) rfl<|?_
    exact at_ ⟨ys,k+1⟩ (by dsimp only;exact⟨⟨by rw[sortK_succ hz,←hS,←hmc];exact hin.symm,by omega⟩,(by omega)⟩)
   ·
    refine ix _ rfl (map_getN (by omega)) rfl<|cl rfl (q_LCmp (l:=xs[n]'(by omega)) (m:=m) (hl:=hxb _ (List.getElem_mem (by omega))) (hm:=hmb)) rfl<|?_
    refine br J J J (fun hc45=>?_) (fun hc45=>?_)
    ·
     have hnew: ∀h:n<xs.length,lcmp xs[n] m≠0:=fun h=>hc45
     obtain⟨ys,hys⟩: ∃ys,ys=xs.take n++m::xs.drop n:=⟨_,rfl⟩
     have hin:insG lcmp m xs=ys:=by rw[hys];exact insG_new lcmp hnx hnew
     have hyl:ys.length≤xs.length+1:=by rw[hys];simp;omega
     refine s3 n _ J J J J (slOkL _) (by rw[hxl];exact hnl) rfl<|ro J J<|sc' n xs.length _ J J (by rw[hxl]) rfl (slOkL _) hnl (by omega) rfl<|?_
     refine ap _ J J (slD slOkL _ _ _) rfl<|apf (hv:=by simp only[allP];exact⟨by kernel_rfl,by omega⟩) (ho:=fun _=>⟨slT slOkL _ _,by simp⟩) (ys.map eL) rfl (by rw[hys,List.map_append,List.map_cons,List.map_take,List.map_drop,List.take_of_length_le (l:=xs.map eL) (i:=xs.length) (by simp)];rfl) (slI slOkL _ _ _ _) rfl<|?_
     exact at_ ⟨ys,k+1⟩ (by dsimp only;exact⟨⟨by rw[sortK_succ hz,←hS,←hmc];exact hin.symm,by omega⟩,(by omega)⟩)
    ·
     have hin:insG lcmp m xs=xs:=insG_old lcmp hnx (by omega) (Decidable.not_not.1 hc45)
     exact at_ ⟨xs,k+1⟩ (by dsimp only;exact⟨⟨by rw[sortK_succ hz,←hS,←hmc];exact hin.symm,by omega⟩,(by omega)⟩)
 ·
  have hfin:distQ ls=xs:=by rw[hS,sortK_all (by omega)];rfl
  exact rz rfl (by rw[hfin];rfl)
end Go.Sx
end

section
set_option maxRecDepth 100000
namespace Go.Sx
open Go Go.Proofs
theorem slOkV(vs:List IvQ):slOk 8 (vs.map eV):=fun d hd=>by
 obtain⟨u,_,rfl⟩:=List.mem_map.1 hd;exact⟨rfl,rfl⟩
theorem slOkQ(qs:List Rat):slOk 3 (qs.map eQ):=fun d hd=>by
 obtain⟨u,_,rfl⟩:=List.mem_map.1 hd;exact⟨rfl,rfl⟩
theorem slOkB(bs:List Bool):slOk 1 (bs.map vB):=fun d hd=>by
 obtain⟨u,_,rfl⟩:=List.mem_map.1 hd;exact⟨rfl,rfl⟩
theorem cls_step{l:List IvQ}{k:Nat}{v:IvQ}{t:Rat}{a b:Int}(h:l[k]? =some v)(ha:a=if v.nl then 1 else rcmp t v.lo)(hb:b=if v.nh then-1 else rcmp t v.hi):
  clsQ (l.drop k) t=if 0<a∧b<0 then 2 else if(a=0∧b≤0)∨(b=0∧0≤a) then 1 else clsQ (l.drop (k+1)) t:=by
 obtain⟨hk,rfl⟩:=List.getElem?_eq_some_iff.1 h
 rw[List.drop_eq_getElem_cons hk,clsQ,ha,hb]
structure IvB (v:IvQ):Prop where
 lo:BQ v.lo 1200
 hi:BQ v.hi 1200
set_option maxHeartbeats 1000000 in
theorem q_FClass{GB:Gh}{l:List IvQ}{t:Rat}{i:Nat}[ht:BQ t i](hb: ∀v∈l,IvB v)(hn:l.length≤100000)(hi:i≤20000:=by decide):PF GB Tryz.prog 286 [.sl (l.map eV),eQ t] (vI (clsQ l t)):=by
 have hm:=map_len' eV l
 refine fn (fu:=⟨11⟩) Tryz.func286 J J Tryz.ntmps286 J J (fun C=>?_)
 refine eqF 10 (.d (vI (l.length:Nat))) rfl (by rw[hm]<;>rfl) ?_
 refine gx rfl<|?_
 refine lp (X:=Nat) (fun k=>[(11, .d (vI (k:Nat)))]) (fun k=>[]) (fun k=>k≤l.length∧clsQ (l.drop k) t=clsQ l t) (fun k=>l.length-k) 0 rfl ⟨Nat.zero_le _,rfl⟩ (fun _=>rfl) (fun k hk=>?_)
 obtain⟨h1,h2⟩:=hk
 refine br J J J (fun hc12=>?_) (fun hc12=>?_)
 ·
  obtain⟨v,hz⟩: ∃s,l[k]? =some s:=⟨_,List.getElem?_eq_getElem (by omega)⟩
  have hv:=hb v (List.mem_of_getElem? hz)
  haveI:=hv.lo
  haveI:=hv.hi
  refine ix (fu:=⟨12⟩) _ rfl (map_getS hz) rfl<|?_
  refine mg (fu:=⟨1⟩) (X:=Int) (fun a=>[(7, .d (vI a))]) (fun a=>[]) (fun a=>a=if v.nl then 1 else rcmp t v.lo) [7] [] rfl ?_ (fun _=>rfl) (fun a ha=>?_)
  ·
   refine gx rfl<|?_
   refine bb J J J (fun hc17=>?_) (fun hc17=>?_)
   ·
    refine cl rfl (q_C (a:=t) (b:=v.lo) (i:=i) (by omega)) rfl<|?_
    exact at_ (rcmp t v.lo) (by rw[if_neg (by simpa using hc17)])
   ·
    exact at_ 1 (by rw[if_pos (by simpa using hc17)])
  ·
   refine mg (X:=Int) (fun b=>[(8, .d (vI b))]) (fun b=>[]) (fun b=>b=if v.nh then-1 else rcmp t v.hi) [8] [] rfl ?_ (fun _=>rfl) (fun b hb'=>?_)
   ·
    refine gx rfl<|?_
    refine bb J J J (fun hc24=>?_) (fun hc24=>?_)
    ·
     refine cl rfl (q_C (a:=t) (b:=v.hi) (i:=i) (by omega)) rfl<|?_
     exact at_ (rcmp t v.hi) (by rw[if_neg (by simpa using hc24)])
    ·
     exact at_ (-1) (by rw[if_pos (by simpa using hc24)])
   ·
    have hst:=cls_step hz ha hb'
    refine cs 31 J J J (fun hg31=>?_) (fun hg31=>?_)
    ·
     refine br J J J (fun hc34=>?_) (fun hc34=>?_)
     ·
      exact rz rfl (by first|(rw[←h2,List.drop_length];rfl)|(rw[←h2,hst,if_pos (by omega)];rfl)|(rw[←h2,hst,if_neg (by omega),if_pos (by omega)];rfl))
     ·
      refine cs 37 J J J (fun hg37=>?_) (fun hg37=>?_)
      ·
       refine cs 41 J J J (fun hg41=>?_) (fun hg41=>?_)
       ·
        exact rz rfl (by first|(rw[←h2,List.drop_length];rfl)|(rw[←h2,hst,if_pos (by omega)];rfl)|(rw[←h2,hst,if_neg (by omega),if_pos (by omega)];rfl))
       ·
        refine cs 44 J J J (fun hg44=>?_) (fun hg44=>?_)
        ·
         refine br J J J (fun hc48=>?_) (fun hc48=>?_)
         ·
          exact rz rfl (by first|(rw[←h2,List.drop_length];rfl)|(rw[←h2,hst,if_pos (by omega)];rfl)|(rw[←h2,hst,if_neg (by omega),if_pos (by omega)];rfl))
         ·
          exact at_ (k+1) ⟨⟨by omega,by rw[←h2,hst,if_neg (by omega),if_neg (by omega)]⟩,(by omega)⟩
        ·
         exact at_ (k+1) ⟨⟨by omega,by rw[←h2,hst,if_neg (by omega),if_neg (by omega)]⟩,(by omega)⟩
      ·
       refine cs 44 J J J (fun hg44=>?_) (fun hg44=>?_)
       ·
        refine br J J J (fun hc48=>?_) (fun hc48=>?_)
        ·
         exact rz rfl (by first|(rw[←h2,List.drop_length];rfl)|(rw[←h2,hst,if_pos (by omega)];rfl)|(rw[←h2,hst,if_neg (by omega),if_pos (by omega)];rfl))
        ·
         exact at_ (k+1) ⟨⟨by omega,by rw[←h2,hst,if_neg (by omega),if_neg (by omega)]⟩,(by omega)⟩
       ·
        exact at_ (k+1) ⟨⟨by omega,by rw[←h2,hst,if_neg (by omega),if_neg (by omega)]⟩,(by omega)⟩
    ·
     refine cs 37 J J J (fun hg37=>?_) (fun hg37=>?_)
     ·
      refine cs 41 J J J (fun hg41=>?_) (fun hg41=>?_)
      ·
       exact rz rfl (by first|(rw[←h2,List.drop_length];rfl)|(rw[←h2,hst,if_pos (by omega)];rfl)|(rw[←h2,hst,if_neg (by omega),if_pos (by omega)];rfl))
      ·
       refine cs 44 J J J (fun hg44=>?_) (fun hg44=>?_)
       ·
        refine br J J J (fun hc48=>?_) (fun hc48=>?_)
        ·
         exact rz rfl (by first|(rw[←h2,List.drop_length];rfl)|(rw[←h2,hst,if_pos (by omega)];rfl)|(rw[←h2,hst,if_neg (by omega),if_pos (by omega)];rfl))
        ·
         exact at_ (k+1) ⟨⟨by omega,by rw[←h2,hst,if_neg (by omega),if_neg (by omega)]⟩,(by omega)⟩
       ·
        exact at_ (k+1) ⟨⟨by omega,by rw[←h2,hst,if_neg (by omega),if_neg (by omega)]⟩,(by omega)⟩
     ·
      refine cs 44 J J J (fun hg44=>?_) (fun hg44=>?_)
      ·
       refine br J J J (fun hc48=>?_) (fun hc48=>?_)
       ·
        exact rz rfl (by first|(rw[←h2,List.drop_length];rfl)|(rw[←h2,hst,if_pos (by omega)];rfl)|(rw[←h2,hst,if_neg (by omega),if_pos (by omega)];rfl))
       ·
        exact at_ (k+1) ⟨⟨by omega,by rw[←h2,hst,if_neg (by omega),if_neg (by omega)]⟩,(by omega)⟩
      ·
       exact at_ (k+1) ⟨⟨by omega,by rw[←h2,hst,if_neg (by omega),if_neg (by omega)]⟩,(by omega)⟩
 ·
  obtain rfl:k=l.length:=by omega
  exact rz rfl (by first|(rw[←h2,List.drop_length];rfl)|(rw[←h2,hst,if_pos (by omega)];rfl)|(rw[←h2,hst,if_neg (by omega),if_pos (by omega)];rfl))
theorem q_Fin{GB:Gh}{l:List IvQ}{t:Rat}{i:Nat}[ht:BQ t i](hb: ∀v∈l,IvB v)(hn:l.length≤100000)(hi:i≤20000:=by decide):PF GB Tryz.prog 260 [.sl (l.map eV),eQ t] (vB (insQ2 l t)):=by
 refine fn Tryz.func260 J J Tryz.ntmps260 J J (fun C=>?_)
 refine cl rfl (q_FClass (l:=l) (t:=t) hb hn hi) rfl<|?_
 exact rz J J
theorem mids_snoc: ∀{l:List Rat} {i:Nat} {a b:Rat},l[i]? =some a→l[i+1]? =some b→midsR (l.take (i+2))=midsR (l.take (i+1))++[(a+b)/2]
 |[],i,a,b,h,_=>by simp at h
 |[_],i,a,b,h,k=>by simp at k
 |c::d::t,0,a,b,h,k=>by
  simp at h k;subst h;subst k
  simp[midsR]
 |c::d::t,i+1,a,b,h,k=>by
  have:=mids_snoc (l:=d::t) (i:=i) (by simpa using h) (by simpa using k)
  rw[show(c::d::t).take (i+1+2)=c::d::t.take (i+1) by simp,show(c::d::t).take (i+1+1)=c::d::t.take i by simp,midsR,midsR,List.cons_append]
  congr 1
theorem midsR_len: ∀l:List Rat,(midsR l).length≤l.length
 |[]=>Nat.le_refl _
 |[_]=>Nat.zero_le _
 |a::b::t=>by rw[midsR,List.length_cons,List.length_cons];exact Nat.succ_le_succ (midsR_len (b::t))
theorem gaps_cons{a:Rat}{t:List Rat}{z:Rat}(h:(a::t)[t.length]? =some z):gapsR (a::t)=(a-1)::(midsR (a::t)++[z+1]):=by
 rw[gapsR]
 have:(a::t).getLast (by simp)=z:=by
  rw[List.getLast_eq_getElem]
  have:=List.getElem?_eq_some_iff.1 h
  obtain⟨h1,h2⟩:=this
  rw[←h2];congr 1
 rw[this]
set_option maxHeartbeats 1000000 in
theorem q_Probes{GB:Gh}{cuts:List Rat}(hb: ∀q∈cuts,BQ q 1200)(hn:cuts.length≤100000):PF GB Tryz.prog 259 [.sl (cuts.map eQ)] (.sl ((gapsR cuts).map eQ)):=by
 have hm:=map_len' eQ cuts
 refine fn (fu:=⟨10⟩) Tryz.func259 J J Tryz.ntmps259 J J (fun C=>?_)
 refine eqF 6 (.d (vI (cuts.length:Nat))) rfl (by rw[hm]<;>rfl) ?_
 refine gx rfl<|?_
 refine br J J J (fun hc7=>?_) (fun hc7=>?_)
 ·
  obtain rfl:cuts=[]:=List.eq_nil_of_length_eq_zero (by omega)
  refine rf J J<|?_
  exact rz rfl (by rw[gapsR];show DV.sl [_]=DV.sl [_];rw[eQ_zero])
 ·
  obtain⟨a,ct,rfl⟩: ∃a t,cuts=a::t:=by cases cuts with|nil=>exact absurd rfl hc7|cons a t=>exact⟨a,t,rfl⟩
  haveI hab:=hb a List.mem_cons_self
  have hcl:ct.length+1≤100000:=hn
  refine ix _ J J J<|cl rfl (q_Of (n:=1) (by decide) (by decide)) rfl<|cl (fu:=⟨0⟩) rfl (q_Sub (a:=a) (b:=((1:Int):Rat))) rfl<|?_
  refine eqF 14 (.d (eQ (a-1))) J J ?_
  refine gx rfl<|ro J J<|?_
  refine lp (fu:=⟨6⟩) (X:=Nat) (fun i=>[(4, .d (vI ((i+1:Nat):Int))),(3, .rw 15)]) (fun i=>[(15,some (.b 84 3 (((a-1)::midsR ((a::ct).take (i+1))).map eQ) true))]) (fun i=>i≤ct.length) (fun i=>ct.length-i) 0 rfl (Nat.zero_le _) (fun _=>rfl) (fun i hk=>?_)
  have hm2:=map_len' eQ (a::ct)
  have hml:=midsR_len (a::ct.take i)
  rw[List.length_cons,List.length_take] at hml
  have hml2:=midsR_len (a::ct)
  rw[List.length_cons] at hml2
  refine eqF 18 (.d (vI ((ct.length+1:Nat):Int))) rfl (by rw[hm2]<;>rfl) ?_
  refine gx rfl<|?_
  refine br (fu2:=⟨11⟩) J J J (fun hc19=>?_) (fun hc19=>?_)
  ·
   obtain⟨u,hu⟩: ∃s,(a::ct)[i]? =some s:=⟨_,List.getElem?_eq_getElem (by simp;omega)⟩
   obtain⟨w,hw⟩: ∃s,(a::ct)[i+1]? =some s:=⟨_,List.getElem?_eq_getElem (by simp;omega)⟩
   haveI:=hb u (List.mem_of_getElem? hu)
   haveI:=hb w (List.mem_of_getElem? hw)
   refine ix _ rfl (by rw[show((((i+1:Nat):Int))-1).toNat=i by omega,List.getElem?_map,hu];rfl) rfl<|ix _ rfl (by rw[Int.toNat_natCast,List.getElem?_map,hw];rfl) rfl<|?_
   refine cl rfl (q_Mid (a:=u) (b:=w)) rfl<|rf J J<|ap (hv:=by simp only[allP];exact⟨by kernel_rfl,by omega⟩) (((a-1)::midsR ((a::ct).take (i+1+1))).map eQ) rfl (by rw[mids_snoc hu hw,←List.cons_append,List.map_append];rfl) (slOkQ [(u+w)/2]) rfl<|?_
   refine rnE 34 15 rfl ?_
   exact at_ (i+1) ⟨(by omega),(by omega)⟩
  ·
   obtain rfl:i=ct.length:=by omega
   obtain⟨z,hz⟩: ∃s,(a::ct)[ct.length]? =some s:=⟨_,List.getElem?_eq_getElem (by simp)⟩
   haveI:=hb z (List.mem_of_getElem? hz)
   rw[show(a::ct).take (ct.length+1)=a::ct from List.take_length (l:=a::ct)]
   refine eqF 38 (.d (vI ((ct.length+1:Nat):Int))) rfl (by rw[hm2]<;>rfl) ?_
   refine gx rfl<|ix _ rfl (by rw[show((((ct.length+1:Nat):Int))-1).toNat=ct.length by omega,List.getElem?_map,hz];rfl) rfl<|cl rfl (q_Of (n:=1) (by decide) (by decide)) rfl<|?_
   refine cl rfl (q_Plus (a:=z) (b:=((1:Int):Rat))) rfl<|rf J J<|ap ((gapsR (a::ct)).map eQ) rfl (by rw[gaps_cons hz,←List.cons_append,List.map_append];rfl) (slOkQ [z+1]) rfl<|?_
   refine fzE 45 rfl ?_
   exact rz J J
theorem endS_len(o:List Rat)(s:IvQ):(endS o s).length≤o.length+2:=by
 unfold endS
 have h:=fun(x:Rat) (l:List Rat)=>insR_G (x:=x) (l:=l)▸insG_len rcmp x l
 have h1:=h s.lo o
 have h2:=h s.hi o
 have h3:=h s.hi (insR s.lo o)
 split<;>split<;>omega
def endsK(l:List IvQ)(k:Nat):List Rat:=endsQ (l.take k)
theorem endsK_succ{l:List IvQ}{k:Nat}{v:IvQ}(h:l[k]? =some v):endsK l (k+1)=endS (endsK l k) v:=by
 unfold endsK endsQ;rw[List.take_add_one,h,List.foldl_append];rfl
theorem endsK_len(l:List IvQ): ∀k,(endsK l k).length≤2*k
 |0=>Nat.le_refl _
 |k+1=>by
  cases h:l[k]? with
  |none=>
   have:=endsK_len l k
   unfold endsK at*
   rw[List.take_add_one,h];simp;omega
  |some v=>rw[endsK_succ h];have:=endsK_len l k;have:=endS_len (endsK l k) v;omega
theorem endsK_bd{l:List IvQ}(hb: ∀v∈l,IvB v){k:Nat}: ∀y∈endsK l k,BQ y 1200:=fun y hy=>by
 obtain⟨s,hs,h⟩:=(endsQ_spec _).2 y hy
 have:=hb s (List.mem_of_mem_take hs)
 rcases h with⟨_,rfl⟩|⟨_,rfl⟩
 ·exact this.lo
 ·exact this.hi
def endJ(o:List Rat)(v:IvQ)(j:Nat):List Rat:=if j=0 then o else if j=1 then(if v.nl then o else insR v.lo o) else endS o v
def endX(v:IvQ)(j:Nat):Rat:=if j=0 then v.lo else v.hi
def endP(v:IvQ)(j:Nat):Bool:=if j=0 then v.nl else v.nh
theorem endJ_succ{o:List Rat}{v:IvQ}{j:Nat}(hj:j<2):endJ o v (j+1)=if endP v j then endJ o v j else insG rcmp (endX v j) (endJ o v j):=by
 have:j=0∨j=1:=by omega
 rcases this with rfl|rfl
 ·simp[endJ,endP,endX,insR_G]
 ·simp[endJ,endP,endX,endS,insR_G]
theorem endJ_len{o:List Rat}{v:IvQ}{j:Nat}(hj:j≤2):(endJ o v j).length≤o.length+2:=by
 unfold endJ
 have:=endS_len o v
 have h:=insR_G (x:=v.lo) (l:=o)▸insG_len rcmp v.lo o
 split
 ·omega
 ·split
  ·split<;>omega
  ·exact this
theorem endJ_bd{o:List Rat}(ho: ∀q∈o,BQ q 1200){v:IvQ}(hv:IvB v){j:Nat}(hj:j≤2): ∀q∈endJ o v j,BQ q 1200:=fun q hq=>by
 unfold endJ endS at hq
 have lo:=hv.lo
 have hi:=hv.hi
 split at hq
 ·exact ho q hq
 ·split at hq
  ·split at hq
   ·exact ho q hq
   ·rcases mem_insR.1 hq with rfl|hq
    ·exact lo
    ·exact ho q hq
  ·split at hq
   ·split at hq
    ·exact ho q hq
    ·rcases mem_insR.1 hq with rfl|hq
     ·exact lo
     ·exact ho q hq
   ·rcases mem_insR.1 hq with rfl|hq
    ·exact hi
    ·split at hq
     ·exact ho q hq
     ·rcases mem_insR.1 hq with rfl|hq
      ·exact lo
      ·exact ho q hq
set_option maxHeartbeats 4000000 in
theorem q_ends{GB:Gh}{l:List IvQ}(hb: ∀v∈l,IvB v)(hn:l.length≤10000):PF GB Tryz.prog 258 [.sl (l.map eV)] (.sl ((endsQ l).map eQ)):=by
 have hm:=map_len' eV l
 refine fn (fu:=⟨15⟩) Tryz.func258 J J Tryz.ntmps258 J J (fun C=>?_)
 refine eqF 10 (.d (vI (l.length:Nat))) rfl (by rw[hm]<;>rfl) ?_
 refine gx rfl<|?_
 refine nlC 3 rfl ?_
 refine lp (X:=List Rat×Nat) (fun⟨o,k⟩=>[(11, .d (vI (k:Nat))),(3, .d (.sl (o.map eQ)))]) (fun⟨o,k⟩=>[]) (fun⟨o,k⟩=>o=endsK l k∧k≤l.length) (fun⟨o,k⟩=>l.length-k) ([],0) rfl ⟨rfl,Nat.zero_le _⟩ (fun _=>rfl) (fun⟨o,k⟩ hk=>?_)
 dsimp only at hk⊢
 obtain⟨h1,h2⟩:=hk
 refine br J J J (fun hc12=>?_) (fun hc12=>?_)
 ·
  obtain⟨v,hz⟩: ∃s,l[k]? =some s:=⟨_,List.getElem?_eq_getElem (by omega)⟩
  have hv:=hb v (List.mem_of_getElem? hz)
  haveI:=hv.lo
  haveI:=hv.hi
  have hob:=endsK_bd hb (k:=k)
  have hol:=endsK_len l k
  rw[←h1] at hob hol
  refine ix _ rfl (map_getS hz) rfl<|rf J J<|?_
  refine lp (X:=List Rat×Nat) (fun⟨xs,j⟩=>[(21, .d (vI (j:Nat))),(3, .d (.sl (xs.map eQ)))]) (fun⟨xs,j⟩=>[]) (fun⟨xs,j⟩=>xs=endJ o v j∧j≤2) (fun⟨xs,j⟩=>2-j) (o,0) rfl ⟨rfl,by omega⟩ (fun _=>rfl) (fun⟨xs,j⟩ hk=>?_)
  dsimp only at hk⊢
  obtain⟨g1,g2⟩:=hk
  refine br J J J (fun hc22=>?_) (fun hc22=>?_)
  ·
   have hj2:j<2:=by have:=hc22;simp only[List.length_cons,List.length_nil] at this;omega
   obtain⟨m,hm2⟩: ∃m,m=endX v j:=⟨_,rfl⟩
   haveI hmb:BQ m 1200:=by rw[hm2];unfold endX;split;exact hv.lo;exact hv.hi
   have hxl:=map_len' eQ xs
   have hxn:xs.length≤2*k+2:=by rw[g1];have:=endJ_len (o:=o) (v:=v) (j:=j) g2;omega
   have hxb: ∀q∈xs,BQ q 1200:=by rw[g1];exact endJ_bd hob hv g2
   refine ix (fu:=⟨10⟩) _ rfl (by rw[Int.toNat_natCast];exact(show([v.lo,v.hi].map eQ)[j]? =some (eQ m) by rw[hm2];have:j=0∨j=1:=(by omega);rcases this with rfl|rfl<;>rfl)) rfl<|?_
   rcases(show j=0∨j=1 by omega) with rfl|rfl
   ·
    refine knT J J J<|?_
    refine csb (fu2:=⟨1⟩) 32 J J J (fun hg32=>?_) (fun hg32=>?_)
    ·
     exact at_ (xs,0+1) (by dsimp only;exact⟨⟨by rw[endJ_succ (by decide),if_pos (by simpa[endP] using hg32),←g1],by omega⟩,(by omega)⟩)
    ·
     refine knF (fu:=⟨16⟩) J J J<|?_
     refine mg (fu:=⟨5⟩) (X:=Nat) (fun n=>[(8, .d (vI (n:Nat)))]) (fun n=>[]) (fun n=>idxG rcmp m xs=n) [8] [] rfl ?_ (fun _=>rfl) (fun n hnx=>?_)
     ·
      refine gx rfl<|?_
      refine lp (fu:=⟨6⟩) (X:=Nat) (fun n=>[(8, .d (vI (n:Nat)))]) (fun n=>[]) (fun n=>n≤xs.length∧ ∀j (h:j<xs.length),j<n→rcmp xs[j] m<0) (fun n=>xs.length-n) 0 rfl ⟨Nat.zero_le _,fun j _ hj=>absurd hj (by omega)⟩ (fun _=>rfl) (fun n hk=>?_)
      obtain⟨n1,n2⟩:=hk
      refine csS (v2:=fun hg43=>by simp only[allP];kernel_rfl) J J J J (fun hg43=>?_) (fun hg43=>?_)
      ·
       refine ix _ rfl (map_getN (by omega)) rfl<|cl rfl (q_C (a:=xs[n]'(by omega)) (b:=m) (ha:=hxb _ (List.getElem_mem (by omega))) (hb:=hmb)) rfl<|?_
       refine br J J J (fun hc52=>?_) (fun hc52=>?_)
       ·
        exact at_ (n+1) ⟨⟨by omega,fun j h hj=>by by_cases q:j=n;(subst q;exact hc52);exact n2 j h (by omega)⟩,(by omega)⟩
       ·
        exact at_ n (idxG_eq rcmp n1 n2 (fun h=>hc52))
      ·
       exact at_ n (idxG_eq rcmp n1 n2 (fun h=>absurd h (by omega)))
     ·
      have hnl:n≤xs.length:=by rw[←hnx];exact idxG_le _ _ _
      refine csS (v1:=fun hg58=>by simp only[allP];kernel_rfl) J J J J (fun hg58=>?_) (fun hg58=>?_)
      ·
       have hnew: ∀h:n<xs.length,rcmp xs[n] m≠0:=fun h=>absurd h (by omega)
       obtain⟨ys,hys⟩: ∃ys,ys=xs.take n++m::xs.drop n:=⟨_,rfl⟩
       have hin:insG rcmp m xs=ys:=by rw[hys];exact insG_new rcmp hnx hnew
       have hyl:ys.length≤xs.length+1:=by rw[hys];simp;omega
       refine s3 n _ J J J J (slOkQ _) (by rw[hxl];exact hnl) rfl<|ro J J<|sc' n xs.length _ J J (by rw[hxl]) rfl (slOkQ _) hnl (by omega) rfl<|?_
       refine ap _ J J (slD slOkQ _ _ _) rfl<|apf (hv:=by simp only[allP];exact⟨by kernel_rfl,by omega⟩) (ho:=fun _=>⟨slT slOkQ _ _,by simp⟩) (ys.map eQ) rfl (by rw[hys,List.map_append,List.map_cons,List.map_take,List.map_drop,List.take_of_length_le (l:=xs.map eQ) (i:=xs.length) (by simp)];rfl) (slI slOkQ _ _ _ _) rfl<|?_
       exact at_ (ys,0+1) (by dsimp only;exact⟨⟨by rw[endJ_succ (by decide),if_neg (by simpa[endP] using hg32),←g1,←hm2,hin],by omega⟩,(by omega)⟩)
      ·
       refine ix _ rfl (map_getN (by omega)) rfl<|cl rfl (q_C (a:=xs[n]'(by omega)) (b:=m) (ha:=hxb _ (List.getElem_mem (by omega))) (hb:=hmb)) rfl<|?_
       refine br (fu2:=⟨7⟩) J J J (fun hc67=>?_) (fun hc67=>?_)
       ·
        have hnew: ∀h:n<xs.length,rcmp xs[n] m≠0:=fun h=>hc67
        obtain⟨ys,hys⟩: ∃ys,ys=xs.take n++m::xs.drop n:=⟨_,rfl⟩
        have hin:insG rcmp m xs=ys:=by rw[hys];exact insG_new rcmp hnx hnew
        have hyl:ys.length≤xs.length+1:=by rw[hys];simp;omega
        refine s3 n _ J J J J (slOkQ _) (by rw[hxl];exact hnl) rfl<|ro J J<|sc' n xs.length _ J J (by rw[hxl]) rfl (slOkQ _) hnl (by omega) rfl<|?_
        refine ap _ J J (slD slOkQ _ _ _) rfl<|apf (hv:=by simp only[allP];exact⟨by kernel_rfl,by omega⟩) (ho:=fun _=>⟨slT slOkQ _ _,by simp⟩) (ys.map eQ) rfl (by rw[hys,List.map_append,List.map_cons,List.map_take,List.map_drop,List.take_of_length_le (l:=xs.map eQ) (i:=xs.length) (by simp)];rfl) (slI slOkQ _ _ _ _) rfl<|?_
        exact at_ (ys,0+1) (by dsimp only;exact⟨⟨by rw[endJ_succ (by decide),if_neg (by simpa[endP] using hg32),←g1,←hm2,hin],by omega⟩,(by omega)⟩)
       ·
        have hin:insG rcmp m xs=xs:=insG_old rcmp hnx (by omega) (Decidable.not_not.1 hc67)
        exact at_ (xs,0+1) (by dsimp only;exact⟨⟨by rw[endJ_succ (by decide),if_neg (by simpa[endP] using hg32),←g1,←hm2,hin],by omega⟩,(by omega)⟩)
   ·
    refine knF (fu:=⟨6⟩) J J J<|knT J J J<|?_
    refine bb (fu2:=⟨8⟩) J J J (fun hc39=>?_) (fun hc39=>?_)
    ·
     exact at_ (xs,1+1) (by dsimp only;exact⟨⟨by rw[endJ_succ (by decide),if_pos (by simpa[endP] using hc39),←g1],by omega⟩,(by omega)⟩)
    ·
     refine mg (fu:=⟨5⟩) (X:=Nat) (fun n=>[(8, .d (vI (n:Nat)))]) (fun n=>[]) (fun n=>idxG rcmp m xs=n) [8] [] rfl ?_ (fun _=>rfl) (fun n hnx=>?_)
     ·
      refine gx rfl<|?_
      refine lp (fu:=⟨6⟩) (X:=Nat) (fun n=>[(8, .d (vI (n:Nat)))]) (fun n=>[]) (fun n=>n≤xs.length∧ ∀j (h:j<xs.length),j<n→rcmp xs[j] m<0) (fun n=>xs.length-n) 0 rfl ⟨Nat.zero_le _,fun j _ hj=>absurd hj (by omega)⟩ (fun _=>rfl) (fun n hk=>?_)
      obtain⟨n1,n2⟩:=hk
      refine csS (v2:=fun hg43=>by simp only[allP];kernel_rfl) J J J J (fun hg43=>?_) (fun hg43=>?_)
      ·
       refine ix _ rfl (map_getN (by omega)) rfl<|cl rfl (q_C (a:=xs[n]'(by omega)) (b:=m) (ha:=hxb _ (List.getElem_mem (by omega))) (hb:=hmb)) rfl<|?_
       refine br J J J (fun hc52=>?_) (fun hc52=>?_)
       ·
        exact at_ (n+1) ⟨⟨by omega,fun j h hj=>by by_cases q:j=n;(subst q;exact hc52);exact n2 j h (by omega)⟩,(by omega)⟩
       ·
        exact at_ n (idxG_eq rcmp n1 n2 (fun h=>hc52))
      ·
       exact at_ n (idxG_eq rcmp n1 n2 (fun h=>absurd h (by omega)))
     ·
      have hnl:n≤xs.length:=by rw[←hnx];exact idxG_le _ _ _
      refine csS (v1:=fun hg58=>by simp only[allP];kernel_rfl) J J J J (fun hg58=>?_) (fun hg58=>?_)
      ·
       have hnew: ∀h:n<xs.length,rcmp xs[n] m≠0:=fun h=>absurd h (by omega)
       obtain⟨ys,hys⟩: ∃ys,ys=xs.take n++m::xs.drop n:=⟨_,rfl⟩
       have hin:insG rcmp m xs=ys:=by rw[hys];exact insG_new rcmp hnx hnew
       have hyl:ys.length≤xs.length+1:=by rw[hys];simp;omega
       refine s3 n _ J J J J (slOkQ _) (by rw[hxl];exact hnl) rfl<|ro J J<|sc' n xs.length _ J J (by rw[hxl]) rfl (slOkQ _) hnl (by omega) rfl<|?_
       refine ap _ J J (slD slOkQ _ _ _) rfl<|apf (hv:=by simp only[allP];exact⟨by kernel_rfl,by omega⟩) (ho:=fun _=>⟨slT slOkQ _ _,by simp⟩) (ys.map eQ) rfl (by rw[hys,List.map_append,List.map_cons,List.map_take,List.map_drop,List.take_of_length_le (l:=xs.map eQ) (i:=xs.length) (by simp)];rfl) (slI slOkQ _ _ _ _) rfl<|?_
       exact at_ (ys,1+1) (by dsimp only;exact⟨⟨by rw[endJ_succ (by decide),if_neg (by simpa[endP] using hc39),←g1,←hm2,hin],by omega⟩,(by omega)⟩)
      ·
       refine ix _ rfl (map_getN (by omega)) rfl<|cl rfl (q_C (a:=xs[n]'(by omega)) (b:=m) (ha:=hxb _ (List.getElem_mem (by omega))) (hb:=hmb)) rfl<|?_
       refine br J J J (fun hc67=>?_) (fun hc67=>?_)
       ·
        have hnew: ∀h:n<xs.length,rcmp xs[n] m≠0:=fun h=>hc67
        obtain⟨ys,hys⟩: ∃ys,ys=xs.take n++m::xs.drop n:=⟨_,rfl⟩
        have hin:insG rcmp m xs=ys:=by rw[hys];exact insG_new rcmp hnx hnew
        have hyl:ys.length≤xs.length+1:=by rw[hys];simp;omega
        refine s3 n _ J J J J (slOkQ _) (by rw[hxl];exact hnl) rfl<|ro J J<|sc' n xs.length _ J J (by rw[hxl]) rfl (slOkQ _) hnl (by omega) rfl<|?_
        refine ap _ J J (slD slOkQ _ _ _) rfl<|apf (hv:=by simp only[allP];exact⟨by kernel_rfl,by omega⟩) (ho:=fun _=>⟨slT slOkQ _ _,by simp⟩) (ys.map eQ) rfl (by rw[hys,List.map_append,List.map_cons,List.map_take,List.map_drop,List.take_of_length_le (l:=xs.map eQ) (i:=xs.length) (by simp)];rfl) (slI slOkQ _ _ _ _) rfl<|?_
        exact at_ (ys,1+1) (by dsimp only;exact⟨⟨by rw[endJ_succ (by decide),if_neg (by simpa[endP] using hc39),←g1,←hm2,hin],by omega⟩,(by omega)⟩)
       ·
        have hin:insG rcmp m xs=xs:=insG_old rcmp hnx (by omega) (Decidable.not_not.1 hc67)
        exact at_ (xs,1+1) (by dsimp only;exact⟨⟨by rw[endJ_succ (by decide),if_neg (by simpa[endP] using hc39),←g1,←hm2,hin],by omega⟩,(by omega)⟩)
  ·
   have hj2: ¬j<2:=by have:=hc22;simp only[List.length_cons,List.length_nil] at this;omega
   exact at_ (xs,k+1) (by dsimp only;exact⟨⟨by rw[endsK_succ hz,←h1,g1,show j=2 by omega];rfl,by omega⟩,(by omega)⟩)
 ·
  have hfin:endsQ l=o:=by rw[h1,show k=l.length by omega];unfold endsK;rw[List.take_length]
  exact rz rfl (by rw[hfin];rfl)
end Go.Sx
end

section
set_option maxRecDepth 100000
namespace Go.Sx
open Go Go.Proofs
theorem eV_half1(t:Rat):eV ⟨t,0,false,true⟩= .ag [.v (.bool (decide (t.num<0))),dN t.num.natAbs,dD t.den, .v (.bool false), .sl [], .sl [], .v (.bool false), .v (.bool true)]:=by
 unfold eV dD
 simp only[show(0:Rat).num=0 from rfl,show(0:Rat).den=1 from rfl,Int.natAbs_zero,dN_zero];rfl
theorem eV_half2(t:Rat):eV ⟨0,t,true,false⟩= .ag [.v (.bool false), .sl [], .sl [], .v (.bool (decide (t.num<0))),dN t.num.natAbs,dD t.den, .v (.bool true), .v (.bool false)]:=by
 unfold eV dD
 simp only[show(0:Rat).num=0 from rfl,show(0:Rat).den=1 from rfl,Int.natAbs_zero,dN_zero];rfl
def halfD(l m:LnQ)(side:Int):DV:= .tp [.sl ((halfQ l m side).map eV),vB (onB l m)]
theorem onB_cross{l m:LnQ}(h:crossI l m≠0):onB l m=false:=by unfold onB;rw[decide_eq_false];exact fun e=>h e.1
theorem onB_par{l m:LnQ}(h:crossI l m=0):onB l m=decide ((m.value l.base).num.sign=0):=by unfold onB;simp[h]
set_option maxHeartbeats 1000000 in
theorem q_half6{GB:Gh}{l m:LnQ}{side:Int}[hl:LB l][hm:LB m](hlo:l.ok)(hmo:m.ok)(hs:side=1∨side= -1):PF GB Tryz.prog 222 [eL l,eL m,vI side] (halfD l m side):=by
 refine fn Tryz.func222 J J Tryz.ntmps222 J J (fun C=>?_)
 refine cl rfl (q_Meet (l:=l) (m:=m)) rfl<|?_
 refine bb J J J (fun hc19=>?_) (fun hc19=>?_)
 ·
  have hc:crossI l m=0:=by simpa using hc19
  refine cl rfl (q_Base hlo.ne) rfl<|cl rfl (q_Side (l:=m) (p:=l.base)) rfl<|?_
  refine br J J J (fun hc26=>?_) (fun hc26=>?_)
  ·
   refine cl rfl q_Full rfl<|rf J J<|?_
   exact rz rfl (by unfold halfD halfQ;rw[if_pos hc,if_pos hc26,onB_par hc];rfl)
  ·
   exact rz rfl (by unfold halfD halfQ;rw[if_pos hc,if_neg hc26,onB_par hc];rfl)
 ·
  have hc:crossI l m≠0:=by simpa using hc19
  haveI hpb:=param_bd (l:=l) (m:=m) hlo.ne hc
  obtain⟨t,ht⟩: ∃t,t=paramQ l (meetP l m):=⟨_,rfl⟩
  refine cl (fu:=⟨0⟩) rfl (q_Param (l:=l) (p:=meetP l m) hlo.ne) rfl<|?_
  refine eqF 35 (.d (eQ t)) rfl (by rw[ht]) ?_
  rw[←ht] at hpb
  refine gx rfl<|cl rfl (q_Of (n:=1) (by decide) (by decide)) rfl<|cl rfl (q_Plus (a:=t) (b:=((1:Int):Rat))) rfl<|cl rfl (q_At (l:=l) (t:=t+((1:Int):Rat)) hlo.ne) rfl<|?_
  refine cl rfl (q_Side (l:=m) (p:=l.at (t+((1:Int):Rat)))) rfl<|?_
  refine br J J J (fun hc44=>?_) (fun hc44=>?_)
  ·
   refine rf J J<|?_
   exact rz rfl (by unfold halfD halfQ;rw[if_neg hc,←ht,if_pos (show(m.value (l.at (t+1))).num.sign=side from hc44),onB_cross hc,List.map_cons,eV_half1];rfl)
  ·
   refine rf J J<|?_
   exact rz rfl (by unfold halfD halfQ;rw[if_neg hc,←ht,if_neg (show¬(m.value (l.at (t+1))).num.sign=side from hc44),onB_cross hc,List.map_cons,eV_half2];rfl)
def eFF(f:FrQ):DV:= .ag [.v (.bool (decide (f.l.a<0))),dN f.l.a.natAbs, .v (.bool (decide (f.l.b<0))),dN f.l.b.natAbs, .v (.bool (decide (f.l.c<0))),dN f.l.c.natAbs, .v (.bool (decide (f.v.lo.num<0))),dN f.v.lo.num.natAbs,dD f.v.lo.den, .v (.bool (decide (f.v.hi.num<0))),dN f.v.hi.num.natAbs,dD f.v.hi.den, .v (.bool f.v.nl), .v (.bool f.v.nh)]
theorem slOkFF(fs:List FrQ):slOk 14 (fs.map eFF):=fun d hd=>by
 obtain⟨u,_,rfl⟩:=List.mem_map.1 hd;exact⟨rfl,rfl⟩
theorem bpZ{p:ZP}(h:ZP.le 100 p):BPt p.q 12:=by
 haveI:BI p.1 11:=biC (by have:=h.1;omega) (by decide)
 haveI:BI p.2 11:=biC (by have:=h.2;omega) (by decide)
 exact(inferInstance:BPt (iP p.1 p.2) 12)
set_option maxHeartbeats 1000000 in
theorem q_Segment{GB:Gh}{v w:ZP}(hv:ZP.le 100 v)(hw:ZP.le 100 w)(h:v≠w):PF GB Tryz.prog 172 [eP v.q,eP w.q] (.tp [eFF (edgeZ v w),vB true]):=by
 have hne: ¬(w.1=v.1∧w.2=v.2):=fun e=>h (Prod.ext e.1.symm e.2.symm)
 obtain⟨hlb,hlo⟩:=thr_LB (m:=v.1) (n:=v.2) (p:=w.1) (q:=w.2) (by have:=hv.1;omega) (by have:=hv.2;omega) (by have:=hw.1;omega) (by have:=hw.2;omega) hne
 haveI:=hlb
 haveI:=bpZ hv
 haveI:=bpZ hw
 refine fn Tryz.func172 J J Tryz.ntmps172 J J (fun C=>?_)
 refine cl (fu:=⟨3⟩) rfl (q_Through (m:=v.1) (n:=v.2) (m':=w.1) (n':=w.2) (by have:=hv.1;omega) (by have:=hv.2;omega) (by have:=hw.1;omega) (by have:=hw.2;omega) (fun e=>hne ⟨e.1.symm,e.2.symm⟩)) rfl<|?_
 refine kbT 13 rfl ?_
 refine gx rfl<|cl rfl (q_Param (l:=thrL v.1 v.2 w.1 w.2) (p:=v.q) hlo.ne) rfl<|cl rfl (q_Param (l:=thrL v.1 v.2 w.1 w.2) (p:=w.q) hlo.ne) rfl<|?_
 exact rz J J
end Go.Sx
end

section
set_option maxRecDepth 100000
namespace Go.Sx
open Go Go.Proofs
theorem eV_00(a b:Bool):eV ⟨0,0,a,b⟩= .ag [.v (.bool false), .sl [], .sl [], .v (.bool false), .sl [], .sl [], .v (.bool a), .v (.bool b)]:=by
 unfold eV dD
 simp only[show(0:Rat).num=0 from rfl,show(0:Rat).den=1 from rfl,Int.natAbs_zero,dN_zero];rfl
theorem eV_l0(t:Rat)(a b:Bool):eV ⟨t,0,a,b⟩= .ag [.v (.bool (decide (t.num<0))),dN t.num.natAbs,dD t.den, .v (.bool false), .sl [], .sl [], .v (.bool a), .v (.bool b)]:=by
 unfold eV dD
 simp only[show(0:Rat).num=0 from rfl,show(0:Rat).den=1 from rfl,Int.natAbs_zero,dN_zero];rfl
theorem eV_0l(t:Rat)(a b:Bool):eV ⟨0,t,a,b⟩= .ag [.v (.bool false), .sl [], .sl [], .v (.bool (decide (t.num<0))),dN t.num.natAbs,dD t.den, .v (.bool a), .v (.bool b)]:=by
 unfold eV dD
 simp only[show(0:Rat).num=0 from rfl,show(0:Rat).den=1 from rfl,Int.natAbs_zero,dN_zero];rfl
theorem gapI_00{cuts:List Rat}{i:Nat}(h:i=0)(k: ¬i<cuts.length):gapI cuts i=⟨0,0,decide (i=0),decide (i=cuts.length)⟩:=by unfold gapI;rw[if_pos h,if_neg k]
theorem gapI_0l{cuts:List Rat}{i:Nat}{y:Rat}(h:i=0)(k:cuts[i]? =some y):gapI cuts i=⟨0,y,decide (i=0),decide (i=cuts.length)⟩:=by
 unfold gapI;rw[if_pos h,if_pos (List.getElem?_eq_some_iff.1 k).1,List.getD_eq_getElem?_getD,k];rfl
theorem gapI_l0{cuts:List Rat}{i:Nat}{x:Rat}(h: ¬i=0)(k:cuts[i-1]? =some x)(k2: ¬i<cuts.length):gapI cuts i=⟨x,0,decide (i=0),decide (i=cuts.length)⟩:=by
 unfold gapI;rw[if_neg h,if_neg k2,List.getD_eq_getElem?_getD,k];rfl
theorem gapI_ll{cuts:List Rat}{i:Nat}{x y:Rat}(h: ¬i=0)(k:cuts[i-1]? =some x)(k2:cuts[i]? =some y):gapI cuts i=⟨x,y,decide (i=0),decide (i=cuts.length)⟩:=by
 unfold gapI;rw[if_neg h,if_pos (List.getElem?_eq_some_iff.1 k2).1,List.getD_eq_getElem?_getD,k,List.getD_eq_getElem?_getD,k2];rfl
theorem fromN_no{cuts:List Rat}{marks:List Bool}{k:Nat}(h:marks[k]? =some false):fromN cuts marks (k+1)=fromN cuts marks k:=by
 rw[fromN,List.getD_eq_getElem?_getD,h];rfl
theorem fromN_new{cuts:List Rat}{marks:List Bool}{k:Nat}(h:marks[k]? =some true)(hp: ¬(0<k∧marks[k-1]? =some true)):fromN cuts marks (k+1)=fromN cuts marks k++[gapI cuts k]:=by
 rw[fromN,List.getD_eq_getElem?_getD,h]
 show(if 0<k∧_ then _ else _)=_
 rw[if_neg]
 rintro ⟨h1,h2⟩
 rw[List.getD_eq_getElem?_getD] at h2
 cases e:marks[k-1]? with
 |none=>rw[e] at h2;cases h2
 |some b=>rw[e] at h2;exact hp ⟨h1,by rw[e];simp at h2;rw[h2]⟩
theorem fromN_ne{cuts:List Rat}{marks:List Bool}{k:Nat}(h:marks[k]? =some true):fromN cuts marks (k+1)≠[]:=by
 rw[fromN,List.getD_eq_getElem?_getD,h]
 show(if 0<k∧_ then _ else _)≠[]
 split
 ·split<;>simp
 ·simp
theorem fromN_join{cuts:List Rat}{marks:List Bool}{k:Nat}{xs:List IvQ}{v:IvQ}(hk:0<k)(h:marks[k]? =some true)(hp:marks[k-1]? =some true)(hx:fromN cuts marks k=xs)(hv:xs[xs.length-1]? =some v):fromN cuts marks (k+1)=xs.set (xs.length-1) (setHi v (gapI cuts k)):=by
 rw[fromN,List.getD_eq_getElem?_getD,h]
 show(if 0<k∧_ then _ else _)=_
 rw[if_pos ⟨hk,by rw[List.getD_eq_getElem?_getD,hp];rfl⟩,hx,List.getLast?_eq_getElem?,hv]
 have hn:0<xs.length:=by
  have:=(List.getElem?_eq_some_iff.1 hv).1;omega
 show xs.dropLast++[_]=_
 apply List.ext_getElem?
 intro i
 rw[List.getElem?_set]
 by_cases hi:i<xs.length-1
 ·rw[List.getElem?_append_left (by rw[List.length_dropLast];exact hi),List.getElem?_dropLast,if_pos hi,if_neg (by omega)]
 ·by_cases hi2:i=xs.length-1
  ·subst hi2
   rw[List.getElem?_append_right (by rw[List.length_dropLast];exact Nat.le_refl _),List.length_dropLast,Nat.sub_self,if_pos rfl,if_pos (by omega)];rfl
  ·rw[List.getElem?_eq_none (by rw[List.length_append,List.length_dropLast];simp;omega),if_neg (by omega),List.getElem?_eq_none (by omega)]
theorem map_getP{α:Type}{f:α→DV}{l:List α}{k:Nat}{x:α}(hk:0<k)(h:l[k-1]? =some x):(l.map f)[(((k:Nat):Int)-1).toNat]? =some (f x):=by
 rw[show(((k:Nat):Int)-1).toNat=k-1 by omega,List.getElem?_map,h];rfl
theorem decK{k n:Nat}:decide (k=n)=decide (((k:Nat):Int)=((n:Nat):Int)):=decide_eq_decide.2 (by omega)
def setH1(v w:IvQ):IvQ:=⟨v.lo,w.hi,v.nl,v.nh⟩
set_option maxHeartbeats 4000000 in
theorem q_From{GB:Gh}{cuts:List Rat}{marks:List Bool}(hn:cuts.length≤100000)(hmk:marks.length≤cuts.length+1):PF GB Tryz.prog 261 [.sl (cuts.map eQ), .sl (marks.map vB)] (.sl ((fromQ cuts marks).map eV)):=by
 have hm:=map_len' vB marks
 have hmc:=map_len' eQ cuts
 refine fn (fu:=⟨15⟩) Tryz.func261 J J Tryz.ntmps261 J J (fun C=>?_)
 refine eqF 11 (.d (vI (marks.length:Nat))) rfl (by rw[hm]<;>rfl) ?_
 refine gx rfl<|?_
 refine nr 5 5 184 8 J J J ?_
 refine lp (X:=List IvQ×Nat) (fun⟨xs,k⟩=>[(12, .d (vI (k:Nat))),(5, .rw 5)]) (fun⟨xs,k⟩=>[(5,some (.b 184 8 (xs.map eV) true))]) (fun⟨xs,k⟩=>xs=fromN cuts marks k∧k≤marks.length) (fun⟨xs,k⟩=>marks.length-k) ([],0) rfl ⟨rfl,Nat.zero_le _⟩ (fun _=>rfl) (fun⟨xs,k⟩ hk=>?_)
 dsimp only at hk⊢
 obtain⟨h1,h2⟩:=hk
 have hml:=map_len' eV xs
 have hxl:xs.length≤k:=by rw[h1];exact fromN_len
 refine br J J J (fun hc13=>?_) (fun hc13=>?_)
 ·
  obtain⟨b,hz⟩: ∃s,marks[k]? =some s:=⟨_,List.getElem?_eq_getElem (by omega)⟩
  refine ix (fu:=⟨8⟩) _ rfl (map_getS hz) rfl<|?_
  cases b
  ·
   refine knF (fu:=⟨12⟩) J J J<|?_
   exact at_ (xs,k+1) (by dsimp only;exact⟨⟨by rw[fromN_no hz,←h1],by omega⟩,(by omega)⟩)
  ·
   refine knT (fu:=⟨13⟩) J J J<|?_
   rcases(show(k=0∧k<cuts.length)∨(k=0∧ ¬k<cuts.length)∨(0<k∧k<cuts.length)∨(0<k∧ ¬k<cuts.length) by omega) with⟨c1,c2⟩|⟨c1,c2⟩|⟨c1,c2⟩|⟨c1,c2⟩
   ·
    obtain⟨y,hy⟩: ∃s,cuts[k]? =some s:=⟨_,List.getElem?_eq_getElem (by omega)⟩
    have hgap:=gapI_0l (cuts:=cuts) (i:=k) c1 hy
    have hnp: ¬(0<k∧marks[k-1]? =some true):=fun e=>by omega
    refine eqF 23 (.d (vI (cuts.length:Nat))) rfl (by rw[hmc]<;>rfl) ?_
    refine gx (fu:=⟨10⟩) rfl<|knF (fu:=⟨11⟩) rfl (by show some (decide _)=some false;rw[decide_eq_false (by omega)]) rfl<|?_
    refine eqF 36 (.d (vI (cuts.length:Nat))) rfl (by rw[hmc]<;>rfl) ?_
    refine gx (fu:=⟨0⟩) rfl<|knT rfl (by show some (decide _)=some true;rw[decide_eq_true (by omega)]) rfl<|ix (fu:=⟨10⟩) _ rfl (map_getS hy) rfl<|?_
    refine eqF 44 (.d (vI (xs.length:Nat))) rfl (by rw[hml]<;>rfl) ?_
    refine gx (fu:=⟨6⟩) rfl<|knF (fu:=⟨19⟩) rfl (by show some (decide _)=some false;rw[decide_eq_false (by omega)]) rfl<|?_
    refine eqF 73 (.d (eV (gapI cuts k))) rfl (by rw[hgap,eV_0l,decK (k:=k) (n:=0),decK (k:=k) (n:=cuts.length)]<;>rfl) ?_
    refine gx rfl<|rf J J<|ap (fu:=⟨12⟩) ((xs++[gapI cuts k]).map eV) rfl (by rw[List.map_append];rfl) (slOkV [gapI cuts k]) rfl<|?_
    refine rnE 75 5 rfl ?_
    exact at_ (xs++[gapI cuts k],k+1) (by dsimp only;exact⟨⟨by rw[fromN_new hz hnp,←h1],by omega⟩,(by omega)⟩)
   ·
    have hgap:=gapI_00 (cuts:=cuts) (i:=k) c1 c2
    have hnp: ¬(0<k∧marks[k-1]? =some true):=fun e=>by omega
    refine eqF 23 (.d (vI (cuts.length:Nat))) rfl (by rw[hmc]<;>rfl) ?_
    refine gx (fu:=⟨10⟩) rfl<|knF (fu:=⟨11⟩) rfl (by show some (decide _)=some false;rw[decide_eq_false (by omega)]) rfl<|?_
    refine eqF 36 (.d (vI (cuts.length:Nat))) rfl (by rw[hmc]<;>rfl) ?_
    refine gx (fu:=⟨0⟩) rfl<|knF (fu:=⟨10⟩) rfl (by show some (decide _)=some false;rw[decide_eq_false (by omega)]) rfl<|?_
    refine eqF 44 (.d (vI (xs.length:Nat))) rfl (by rw[hml]<;>rfl) ?_
    refine gx (fu:=⟨6⟩) rfl<|knF (fu:=⟨19⟩) rfl (by show some (decide _)=some false;rw[decide_eq_false (by omega)]) rfl<|?_
    refine eqF 73 (.d (eV (gapI cuts k))) rfl (by rw[hgap,eV_00,decK (k:=k) (n:=0),decK (k:=k) (n:=cuts.length)]<;>rfl) ?_
    refine gx rfl<|rf J J<|ap (fu:=⟨12⟩) ((xs++[gapI cuts k]).map eV) rfl (by rw[List.map_append];rfl) (slOkV [gapI cuts k]) rfl<|?_
    refine rnE 75 5 rfl ?_
    exact at_ (xs++[gapI cuts k],k+1) (by dsimp only;exact⟨⟨by rw[fromN_new hz hnp,←h1],by omega⟩,(by omega)⟩)
   ·
    obtain⟨x,hx⟩: ∃s,cuts[k-1]? =some s:=⟨_,List.getElem?_eq_getElem (by omega)⟩
    obtain⟨pb,hpb⟩: ∃s,marks[k-1]? =some s:=⟨_,List.getElem?_eq_getElem (by omega)⟩
    obtain⟨y,hy⟩: ∃s,cuts[k]? =some s:=⟨_,List.getElem?_eq_getElem (by omega)⟩
    have hgap:=gapI_ll (cuts:=cuts) (i:=k) (by omega) hx hy
    refine eqF 23 (.d (vI (cuts.length:Nat))) rfl (by rw[hmc]<;>rfl) ?_
    refine gx (fu:=⟨10⟩) rfl<|knT rfl (by show some (decide _)=some true;rw[decide_eq_true (by omega)]) rfl<|ix (fu:=⟨11⟩) _ rfl (map_getP (by omega) hx) rfl<|?_
    refine eqF 36 (.d (vI (cuts.length:Nat))) rfl (by rw[hmc]<;>rfl) ?_
    refine gx (fu:=⟨0⟩) rfl<|knT rfl (by show some (decide _)=some true;rw[decide_eq_true (by omega)]) rfl<|ix (fu:=⟨10⟩) _ rfl (map_getS hy) rfl<|?_
    refine eqF 44 (.d (vI (xs.length:Nat))) rfl (by rw[hml]<;>rfl) ?_
    refine gx (fu:=⟨6⟩) rfl<|knT rfl (by show some (decide _)=some true;rw[decide_eq_true (by omega)]) rfl<|ix _ rfl (map_getP (by omega) hpb) rfl<|?_
    refine csb (fu1:=⟨1⟩) (fu2:=⟨11⟩) 54 J J J (fun hg54=>?_) (fun hg54=>?_)
    ·
     have hpb':marks[k-1]? =some true:=by rw[hpb];congr 1
     have hxn:0<xs.length:=by rw[h1];have:=fromN_ne (cuts:=cuts) hpb';rw[show k-1+1=k by omega] at this;exact List.length_pos_iff.2 this
     obtain⟨w,hw⟩: ∃s,xs[xs.length-1]? =some s:=⟨_,List.getElem?_eq_getElem (by omega)⟩
     refine knT rfl (by show some (decide _)=some true;rw[decide_eq_true (by omega)]) rfl<|sb (eV w) ((xs.set (xs.length-1) (⟨w.lo,y,w.nl,w.nh⟩:IvQ)).map eV) rfl (map_getP hxn hw) rfl (by rw[show(((xs.length:Nat):Int)-1).toNat=xs.length-1 by omega,List.map_set];rfl) rfl<|?_
     refine sb (hv:=by simp only[allP];exact⟨by kernel_rfl,by omega⟩) (eV (⟨w.lo,y,w.nl,w.nh⟩:IvQ)) ((xs.set (xs.length-1) (setHi w (gapI cuts k))).map eV) rfl (by rw[show(((xs.length:Nat):Int)-1).toNat=xs.length-1 by omega,List.map_set,List.getElem?_set_self (by rw[hml];omega)]) rfl (by rw[show(((xs.length:Nat):Int)-1).toNat=xs.length-1 by omega,List.map_set,List.set_set,List.map_set,hgap];unfold setHi;dsimp only;rw[decK (k:=k) (n:=cuts.length)]<;>rfl) rfl<|?_
     exact at_ (xs.set (xs.length-1) (setHi w (gapI cuts k)),k+1) (by dsimp only;exact⟨⟨(fromN_join (by omega) hz hpb' h1.symm hw).symm,by omega⟩,(by omega)⟩)
    ·
     have hnp: ¬(0<k∧marks[k-1]? =some true):=fun e=>by rw[hpb,hg54] at e;simpa using e.2
     refine eqF 73 (.d (eV (gapI cuts k))) rfl (by rw[hgap];unfold eV;dsimp only;rw[decK (k:=k) (n:=0),decK (k:=k) (n:=cuts.length)]<;>rfl) ?_
     refine gx rfl<|rf J J<|ap (fu:=⟨12⟩) ((xs++[gapI cuts k]).map eV) rfl (by rw[List.map_append];rfl) (slOkV [gapI cuts k]) rfl<|?_
     refine rnE 75 5 rfl ?_
     exact at_ (xs++[gapI cuts k],k+1) (by dsimp only;exact⟨⟨by rw[fromN_new hz hnp,←h1],by omega⟩,(by omega)⟩)
   ·
    obtain⟨x,hx⟩: ∃s,cuts[k-1]? =some s:=⟨_,List.getElem?_eq_getElem (by omega)⟩
    obtain⟨pb,hpb⟩: ∃s,marks[k-1]? =some s:=⟨_,List.getElem?_eq_getElem (by omega)⟩
    have hgap:=gapI_l0 (cuts:=cuts) (i:=k) (by omega) hx c2
    refine eqF 23 (.d (vI (cuts.length:Nat))) rfl (by rw[hmc]<;>rfl) ?_
    refine gx (fu:=⟨10⟩) rfl<|knT rfl (by show some (decide _)=some true;rw[decide_eq_true (by omega)]) rfl<|ix (fu:=⟨11⟩) _ rfl (map_getP (by omega) hx) rfl<|?_
    refine eqF 36 (.d (vI (cuts.length:Nat))) rfl (by rw[hmc]<;>rfl) ?_
    refine gx (fu:=⟨0⟩) rfl<|knF (fu:=⟨10⟩) rfl (by show some (decide _)=some false;rw[decide_eq_false (by omega)]) rfl<|?_
    refine eqF 44 (.d (vI (xs.length:Nat))) rfl (by rw[hml]<;>rfl) ?_
    refine gx (fu:=⟨6⟩) rfl<|knT rfl (by show some (decide _)=some true;rw[decide_eq_true (by omega)]) rfl<|ix _ rfl (map_getP (by omega) hpb) rfl<|?_
    refine csb (fu1:=⟨1⟩) (fu2:=⟨11⟩) 54 J J J (fun hg54=>?_) (fun hg54=>?_)
    ·
     have hpb':marks[k-1]? =some true:=by rw[hpb];congr 1
     have hxn:0<xs.length:=by rw[h1];have:=fromN_ne (cuts:=cuts) hpb';rw[show k-1+1=k by omega] at this;exact List.length_pos_iff.2 this
     obtain⟨w,hw⟩: ∃s,xs[xs.length-1]? =some s:=⟨_,List.getElem?_eq_getElem (by omega)⟩
     refine knT rfl (by show some (decide _)=some true;rw[decide_eq_true (by omega)]) rfl<|sb (eV w) ((xs.set (xs.length-1) (⟨w.lo,0,w.nl,w.nh⟩:IvQ)).map eV) rfl (map_getP hxn hw) rfl (by rw[show(((xs.length:Nat):Int)-1).toNat=xs.length-1 by omega,List.map_set,eV_l0];rfl) rfl<|?_
     refine sb (hv:=by simp only[allP];exact⟨by kernel_rfl,by omega⟩) (eV (⟨w.lo,0,w.nl,w.nh⟩:IvQ)) ((xs.set (xs.length-1) (setHi w (gapI cuts k))).map eV) rfl (by rw[show(((xs.length:Nat):Int)-1).toNat=xs.length-1 by omega,List.map_set,List.getElem?_set_self (by rw[hml];omega)]) rfl (by rw[show(((xs.length:Nat):Int)-1).toNat=xs.length-1 by omega,List.map_set,List.set_set,List.map_set,hgap];unfold setHi;dsimp only;rw[decK (k:=k) (n:=cuts.length)]<;>rfl) rfl<|?_
     exact at_ (xs.set (xs.length-1) (setHi w (gapI cuts k)),k+1) (by dsimp only;exact⟨⟨(fromN_join (by omega) hz hpb' h1.symm hw).symm,by omega⟩,(by omega)⟩)
    ·
     have hnp: ¬(0<k∧marks[k-1]? =some true):=fun e=>by rw[hpb,hg54] at e;simpa using e.2
     refine eqF 73 (.d (eV (gapI cuts k))) rfl (by rw[hgap,eV_l0,decK (k:=k) (n:=0),decK (k:=k) (n:=cuts.length)]<;>rfl) ?_
     refine gx rfl<|rf J J<|ap ((xs++[gapI cuts k]).map eV) rfl (by rw[List.map_append];rfl) (slOkV [gapI cuts k]) rfl<|?_
     refine rnE 75 5 rfl ?_
     exact at_ (xs++[gapI cuts k],k+1) (by dsimp only;exact⟨⟨by rw[fromN_new hz hnp,←h1],by omega⟩,(by omega)⟩)
 ·
  have hfin:fromQ cuts marks=xs:=by rw[h1,fromQ,show k=marks.length by omega]
  refine fzE 5 rfl ?_
  exact rz rfl (by rw[hfin];rfl)
end Go.Sx
end

section
set_option maxRecDepth 100000
namespace Go.Sx
open Go Go.Proofs
theorem mem_mids{g:Rat}: ∀{l:List Rat},g∈midsR l→ ∃a∈l,∃b∈l,g=(a+b)/2
 |[],h=>by cases h
 |[_],h=>by cases h
 |a::b::t,h=>by
  rw[midsR] at h
  rcases List.mem_cons.1 h with rfl|h
  ·exact⟨a,List.mem_cons_self,b,List.mem_cons_of_mem _ List.mem_cons_self,rfl⟩
  ·obtain⟨c,hc,d,hd,e⟩:=mem_mids h
   exact⟨c,List.mem_cons_of_mem _ hc,d,List.mem_cons_of_mem _ hd,e⟩
theorem gaps_bd{l:List Rat}(h: ∀q∈l,BQ q 1200): ∀g∈gapsR l,BQ g 2500:=fun g hg=>by
 cases l with
 |nil=>
  rw[gapsR,List.mem_singleton] at hg;subst hg
  exact BQ.mono (k:=1) ⟨by decide,by decide⟩ (by decide)
 |cons a t=>
  rw[gapsR] at hg
  rcases List.mem_cons.1 hg with rfl|hg
  ·haveI:=h a List.mem_cons_self
   exact BQ.mono (inferInstance:BQ (a-1) _) (by omega)
  ·rcases List.mem_append.1 hg with hg|hg
   ·obtain⟨c,hc,d,hd,rfl⟩:=mem_mids hg
    haveI:=h c hc
    haveI:=h d hd
    exact BQ.mono (inferInstance:BQ ((c+d)/2) _) (by omega)
   ·rw[List.mem_singleton] at hg
    haveI:=h _ (List.getLast_mem (l:=a::t) (by simp))
    subst hg
    exact BQ.mono (inferInstance:BQ ((a::t).getLast (by simp)+1) _) (by omega)
theorem endsK_ends(l:List IvQ):endsK l l.length=endsQ l:=by unfold endsK;rw[List.take_length]
theorem endsQ_bd{l:List IvQ}(h: ∀v∈l,IvB v): ∀y∈endsQ l,BQ y 1200:=by rw[←endsK_ends];exact endsK_bd h
theorem endsQ_len(l:List IvQ):(endsQ l).length≤2*l.length:=by rw[←endsK_ends];exact endsK_len l _
theorem IvB.app{a b:List IvQ}(ha: ∀v∈a,IvB v)(hb: ∀v∈b,IvB v): ∀v∈a++b,IvB v:=fun v hv=>(List.mem_append.1 hv).elim (ha v) (hb v)
set_option maxHeartbeats 4000000 in
theorem q_Combine{GB:Gh}{a b:List IvQ}(ha: ∀v∈a,IvB v)(hb: ∀v∈b,IvB v)(hna:a.length≤100)(hnb:b.length≤100):PF GB Tryz.prog 223 [vI 2, .sl (a.map eV), .sl (b.map eV)] (.sl ((combQ 2 a b).map eV)):=by
 obtain⟨cuts,hcu⟩: ∃c,c=endsQ (a++b):=⟨_,rfl⟩
 have hab:=IvB.app ha hb
 have hcb: ∀q∈cuts,BQ q 1200:=by rw[hcu];exact endsQ_bd hab
 have hcl:cuts.length≤2*(a.length+b.length):=by rw[hcu];have:=endsQ_len (a++b);rw[List.length_append] at this;exact this
 have hgb:=gaps_bd hcb
 have hgl:=gapsR_len (l:=cuts)
 have hmp:=map_len' eQ (gapsR cuts)
 refine fn Tryz.func223 J J Tryz.ntmps223 J J (fun C=>?_)
 refine ro0 J J<|ap (a.map eV) J J (slOkV _) rfl<|apf ((a++b).map eV) rfl (by rw[List.map_append]) (slOkV b) rfl<|cl (fu:=⟨0⟩) rfl (q_ends (l:=a++b) hab (by rw[List.length_append];omega)) rfl<|?_
 refine eqF 19 (.d (.sl (cuts.map eQ))) rfl (by rw[hcu]) ?_
 refine gx rfl<|cl (fu:=⟨1⟩) rfl (q_Probes (cuts:=cuts) hcb (by omega)) rfl<|?_
 refine eqF 22 (.d (vI ((cuts.length+1:Nat):Int))) rfl (by rw[hmp,hgl]<;>rfl) ?_
 refine gx rfl<|?_
 refine nr 8 8 4 1 J J J ?_
 refine lp (X:=Nat) (fun k=>[(23, .d (vI (k:Nat))),(8, .rw 8)]) (fun k=>[(8,some (.b 4 1 ((((gapsR cuts).map (fun t=>markQ 2 (insQ2 a t) (insQ2 b t))).take k).map vB) true))]) (fun k=>k≤cuts.length+1) (fun k=>cuts.length+1-k) 0 rfl (Nat.zero_le _) (fun _=>rfl) (fun k hk=>?_)
 have hml:(((((gapsR cuts).map (fun t=>markQ 2 (insQ2 a t) (insQ2 b t))).take k).map vB)).length=k:=by rw[List.length_map,List.length_take,List.length_map,hgl];omega
 refine br (fu2:=⟨0⟩) J J J (fun hc24=>?_) (fun hc24=>?_)
 ·
  obtain⟨t,hz⟩: ∃s,(gapsR cuts)[k]? =some s:=⟨_,List.getElem?_eq_getElem (by omega)⟩
  haveI:=hgb t (List.mem_of_getElem? hz)
  have hz2:((gapsR cuts).map (fun t=>markQ 2 (insQ2 a t) (insQ2 b t)))[k]? =some (markQ 2 (insQ2 a t) (insQ2 b t)):=by rw[List.getElem?_map,hz];rfl
  refine ix _ rfl (map_getS hz) rfl<|cl rfl (q_Fin (l:=a) (t:=t) ha (by omega)) rfl<|cl (fu:=⟨6⟩) rfl (q_Fin (l:=b) (t:=t) hb (by omega)) rfl<|?_
  cases hx:insQ2 a t
  ·
   refine knF (fu:=⟨15⟩) J J J<|knT (fu:=⟨5⟩) J J J<|knF J J J<|rf J J<|ap (fu:=⟨8⟩) ((((gapsR cuts).map (fun t=>markQ 2 (insQ2 a t) (insQ2 b t))).take (k+1)).map vB) rfl (by rw[←take_map_snoc hz2,hx];rfl) (slOkB [false]) rfl<|?_
   refine rnE 59 8 rfl ?_
   exact at_ (k+1) ⟨(by omega),(by omega)⟩
  ·
   refine knT (fu:=⟨15⟩) J J J<|knT (fu:=⟨5⟩) J J J<|knT J J J<|rf J J<|ap ((((gapsR cuts).map (fun t=>markQ 2 (insQ2 a t) (insQ2 b t))).take (k+1)).map vB) rfl (by rw[←take_map_snoc hz2,hx];rfl) (slOkB [_]) rfl<|?_
   refine rnE 59 8 rfl ?_
   exact at_ (k+1) ⟨(by omega),(by omega)⟩
 ·
  obtain rfl:k=cuts.length+1:=by omega
  have htk:((gapsR cuts).map (fun t=>markQ 2 (insQ2 a t) (insQ2 b t))).take (cuts.length+1)=(gapsR cuts).map (fun t=>markQ 2 (insQ2 a t) (insQ2 b t)):=List.take_of_length_le (by rw[List.length_map,hgl];exact Nat.le_refl _)
  rw[htk]
  refine fzC 8 rfl ?_
  refine gx rfl<|cl rfl (q_From (cuts:=cuts) (marks:=(gapsR cuts).map (fun t=>markQ 2 (insQ2 a t) (insQ2 b t))) (by omega) (by rw[List.length_map,hgl];exact Nat.le_refl _)) rfl<|?_
  exact rz rfl (by unfold combQ;rw[←hcu];rfl)
end Go.Sx
end

section
set_option maxRecDepth 100000
namespace Go.Sx
open Go Go.Proofs
section
variable {GB:Gh} {C:Ctx} {n:Nat} {Q0:Exit→Act→World→Prop} {fr fr':FrX} {own own':OwX} {cf cf':Cf} {vc:List Prop}
theorem ok_ixa{lk:LK}{bk:BM}{dst:Option Nat}{t ty':TypeId}{pos:String}{af:Array Edge}{gd:Option (Nat×Bool)}{x y:Operand}{e len s nm off:Nat}{k:IntKind}{i:Nat}(hu:Tryz.prog.underlying t=some (.array len e))(hs:(Tryz.prog.info? e).map (·.size)=some s)
  (e1:evX lk x=some (.ov nm off))(e2:evX lk y=some (.d (.v (.int k (i:Nat)))))(hi:i<len):OpR Tryz.prog GB C n lk bk ⟨dst, .indexAddr t x y,ty',pos,af,gd⟩ (.ov nm (off+i*s)) [] []:= .yd fun ρ G ov a w r=>by
 obtain⟨p,h1,h2⟩:=r.ev e1
 obtain⟨q,h3,h4⟩:=r.ev e2
 rw[isX_int] at h4;subst h4
 obtain⟨b,hb,rfl⟩:=h2
 refine⟨_,⟨b,hb,rfl⟩,?_⟩
 obtain⟨j,hj,hjs⟩: ∃j,Tryz.prog.info? e=some j∧j.size=s:=by
  cases h:Tryz.prog.info? e with
  |none=>rw[h] at hs;cases hs
  |some j=>rw[h] at hs;exact⟨j,rfl,by simpa using hs⟩
 intro a' w' hf hh
 simp only[execOp,opv_eval hf h1,opv_eval hf h3]
 have:(Instr.indexAt t (.pointer (some ⟨b,off,none⟩)) (.int k (i:Nat))).run Tryz.prog w'= .ok (.pointer (some ⟨b,off+i*s,none⟩)) w':=by
  unfold Instr.indexAt
  show(underlying t>>=_).run Tryz.prog w'=_
  rw[run_ok_bind (run_und hu w')]
  show(underlying t>>=_).run Tryz.prog w'=_
  rw[run_ok_bind (run_und hu w')]
  have h0:0≤((i:Nat):Int):=Int.natCast_nonneg i
  have h1:((i:Nat):Int)<((len:Nat):Int):=by omega
  simp only[h0,h1,and_self,if_true]
  show(sizeOf e>>=_).run Tryz.prog w'=_
  rw[run_ok_bind (run_size hj w'),addr_add,hjs,Int.toNat_natCast]
  rfl
 exact value_of this
def ixaA(fr:FrX)(cf:Cf):Option (TypeId×Nat×Nat×Int):=match opC fr cf with
 |some ⟨_, .indexAddr t x y,_,_,_,_⟩=>match evX (lkC fr cf) x with
  |some (.ov nm off)=>match evX (lkC fr cf) y with
   |some (.d (.v (.int _ i)))=>some (t,nm,off,i)
   |_=>none
  |_=>none
 |_=>none
theorem ixa[fu:Fu](i:Nat){t nm off e len s:Nat}(h:ixaA fr cf=some (t,nm,off,((i:Nat):Int)))(hu:Tryz.prog.underlying t=some (.array len e))(hs:(Tryz.prog.info? e).map (·.size)=some s)(hi:i<len)
  (hgo:goA tt n fu.n fr own cf (.ov nm (off+i*s)) [] []=⟨vc,fr',own',cf'⟩)(k:CfS Tryz.prog GB C n Q0 fr' own' cf')
  (hv:allP vc:=by first|exact trivial|(simp only[allP];kernel_rfl)|(simp only[allP];omega)):CfS Tryz.prog GB C n Q0 fr own cf:=by
 unfold ixaA at h
 split at h<;>try (cases h;done)
 rename_i hh
 split at h<;>try (cases h;done)
 rename_i hx
 split at h<;>cases h
 rename_i hy
 exact us hh (ok_ixa hu hs hx hy hi) hgo hv k
theorem ok_bzp{lk:LK}{bk:BM}{d s:Nat}{e t ty':TypeId}{pos:String}{af:Array Edge}{gd:Option (Nat×Bool)}{ps:List (Nat×Operand)}{fo:List (Nat×Nat×Nat)}{i:TI}{z zx:List FX}{k:Nat}{pre post:List DV}(hi:tiOf Tryz.prog t=some i)(hk:i.k= .st fo)(hz:i.z=some z)
  (hb:bldX lk fo z ps=some zx)(h0:zx[k]? =some .nl)(h1:toDXs (zx.take k)=some pre)(h2:toDXs (zx.drop (k+1))=some post):OpR Tryz.prog GB C n lk bk ⟨some d, .build t ⟨ps⟩,ty',pos,af,gd⟩ (.bx false pre d post) [(d,some (.b e s [] true))] [d]:=by
 intro hd tl tb K' s1 s2 hf hk'
 refine⟨fun ρ G ov a w r Q=>?_⟩
 obtain⟨v,hv,hv'⟩:=ti_zero hi hz
 have:=ti_sty hi hk
 have hsp:zx=zx.take k++ .nl::zx.drop (k+1):=by
  obtain⟨hk1,hk2⟩:=List.getElem?_eq_some_iff.1 h0
  conv=>lhs;rw[←List.take_append_drop k zx,List.drop_eq_getElem_cons hk1,hk2]
 obtain⟨l,h1',h2'⟩:=bldX_bld (r.mono s1 s2) (fo:=fo) ps _ _ _ hb (hv' ρ G)
 rw[hsp] at h2'
 obtain⟨m1,m2',rfl,k1,y,m2,rfl,k2,k3⟩:=isXs_unapp h2'
 cases (show y= .slice none 0 0 from k2)
 have hy:Yd Tryz.prog C (frA a) ov G ⟨some d, .build t ⟨ps⟩,ty',pos,af,gd⟩ (.agg ⟨m1++Value.slice none 0 0::m2⟩):=yd_build h1'
 have r3:=r.new' (x:=⟨none,0,0⟩) (B':= .b e s [] true) (os:=[]) (ov':=ov) (f:= .bx false pre d post) (y:= .agg ⟨m1++Value.slice none 0 0::m2⟩) hf (GLe.refl G) r.h
  ⟨[],by simp only[if_true];exact .inl ⟨rfl,rfl,rfl⟩, .nil,by simp,fun _ o ho=>by cases ho⟩ (fun o ho=>by cases ho) (fun m B _ _ o ho _=>⟨ho,by simp⟩)
  ⟨m1,m2,by simp,toDXs_is k1 h1,toDXs_is k3 h2⟩ (r.putA _ hd)
 exact ch_value (hy a w (frA_ok a) r.h) (hk'.run _ G ov _ w r3)
def bzpA(fr:FrX)(cf:Cf):Option (Nat×List FX):=match opC fr cf with
 |some ⟨some d, .build t ⟨ps⟩,_,_,_,_⟩=>match lookT tt t with
  |some ⟨.st fo,_,some zx,_⟩=>match bldX (lkC fr cf) fo zx ps with
   |some l=>some (d,l)
   |none=>none
  |_=>none
 |_=>none
theorem bzp[fu:Fu]{d:Nat}{zx:List FX}(e s kk:Nat)(pre post:List DV)(h:bzpA fr cf=some (d,zx))(h0:zx[kk]? =some .nl)(h1:toDXs (zx.take kk)=some pre)(h2:toDXs (zx.drop (kk+1))=some post)(hgo:goA tt n fu.n fr own cf (.bx false pre d post) [(d,some (.b e s [] true))] [d]=⟨vc,fr',own',cf'⟩)(k:CfS Tryz.prog GB C n Q0 fr' own' cf')
  (hv:allP vc:=by first|exact trivial|(simp only[allP];kernel_rfl)|(simp only[allP];omega)):CfS Tryz.prog GB C n Q0 fr own cf:=by
 unfold bzpA at h
 split at h<;>try (cases h;done)
 rename_i hh
 split at h<;>try (cases h;done)
 rename_i hT
 split at h<;>cases h
 rename_i hb
 exact us hh (ok_bzp (tt_ok _ _ hT) J J hb h0 h1 h2) hgo hv k
end
end Go.Sx
end

section
set_option maxRecDepth 100000
namespace Go.Sx
open Go Go.Proofs
def sp1(f:FrQ)(m:LnQ)(k:Nat):List FrQ:=if k=0 then [] else splitS f m 1
def sp2(f:FrQ)(m:LnQ)(k:Nat):List FrQ:=if k≤1 then [] else splitS f m (-1)
theorem half_ivb{l m:LnQ}(hl:LB l)(hm:LB m)(hlo:l.ok){side:Int}: ∀v∈halfQ l m side,IvB v:=fun v hv=>⟨(half_bd hl hm hlo v hv).2.1,(half_bd hl hm hlo v hv).2.2⟩
theorem half_len{l m:LnQ}{side:Int}:(halfQ l m side).length≤1:=by
 unfold halfQ;split
 ·split<;>simp
 ·split<;>simp
theorem comb_len(op:Int)(a b:List IvQ):(combQ op a b).length≤2*(a.length+b.length)+1:=by
 unfold combQ fromQ
 refine Nat.le_trans fromN_len ?_
 rw[List.length_map,gapsR_len]
 have:=endsQ_len (a++b);rw[List.length_append] at this;omega
set_option maxHeartbeats 2000000 in
theorem q_Split{GB:Gh}{f:FrQ}{m:LnQ}(h:FOk f)[hm:LB m](hmo:m.ok):PF GB Tryz.prog 174 [eFF f,eL m] (.tp [.sl ((splitS f m 1).map eFF), .sl ((splitS f m (-1)).map eFF)]):=by
 haveI:=h.lb
 refine fn Tryz.func174 J J Tryz.ntmps174 J J (fun C=>?_)
 refine rf (fu:=⟨1⟩) J J<|?_
 refine eqF 14 (.d (vI (2:Nat))) J J ?_
 refine gx rfl<|?_
 refine nro 6 0 60 186 14 J J J J J ?_
 refine nro 6 1 61 186 14 J J J J J ?_
 refine lp (X:=Nat) (fun k=>[(15, .d (vI (k:Nat))),(6, .ov 6 0)]) (fun k=>[(6,some (.o 310 [.rw 60, .rw 61] true)),(60,some (.b 186 14 ((sp1 f m k).map eFF) true)),(61,some (.b 186 14 ((sp2 f m k).map eFF) true))]) (fun k=>k≤2) (fun k=>2-k) 0 rfl (by omega) (fun _=>rfl) (fun k hk=>?_)
 refine br J J J (fun hc16=>?_) (fun hc16=>?_)
 ·
  rcases(show k=0∨k=1 by omega) with rfl|rfl
  ·
   refine ix _ J J J<|cl (fu:=⟨0⟩) rfl (q_half6 (l:=f.l) (m:=m) (side:=1) h.ok hmo (.inl rfl)) rfl<|?_
   obtain⟨cs,hcs⟩: ∃c,c=combQ 2 [f.v] (halfQ f.l m 1):=⟨_,rfl⟩
   have hcl:cs.length≤5:=by rw[hcs];have h1:=comb_len 2 [f.v] (halfQ f.l m 1);have h2:=half_len (l:=f.l) (m:=m) (side:=1);simp only[List.length_singleton] at h1;omega
   refine eqF 25 (.d (.tp [.sl ((halfQ f.l m 1).map eV),vB (onB f.l m)])) J J ?_
   refine gx rfl<|?_
   refine bb J J J (fun hc28=>?_) (fun hc28=>?_)
   ·
    have hon:onB f.l m=true:=hc28
    exact rz rfl (by first|(unfold splitS;rw[if_pos hon,if_pos hon];rfl)|rfl)
   ·
    have hon:onB f.l m=false:=by simpa using hc28
    refine rf J J<|cl (fu:=⟨0⟩) rfl (q_Combine (a:=[f.v]) (b:=halfQ f.l m 1) (fun v hv=>by rw[List.mem_singleton] at hv;subst hv;exact⟨h.lo,h.hi⟩) (half_ivb h.lb hm h.ok) (by show 1≤100;decide) (by have:=half_len (l:=f.l) (m:=m) (side:=1);omega)) rfl<|?_
    refine eqF 33 (.d (.sl (cs.map eV))) rfl (by rw[hcs]) ?_
    refine gx (fu:=⟨1⟩) rfl<|?_
    refine eqF 34 (.d (vI (cs.length:Nat))) rfl (by rw[map_len' eV cs]<;>rfl) ?_
    refine gx rfl<|?_
    refine lp (X:=Nat) (fun j=>[(35, .d (vI (j:Nat)))]) (fun j=>[(60,some (.b 186 14 (((cs.take j).map fun v=>(⟨f.l,v⟩:FrQ)).map eFF) true))]) (fun j=>j≤cs.length) (fun j=>cs.length-j) 0 rfl (Nat.zero_le _) (fun _=>rfl) (fun j hk=>?_)
    have hml:(((cs.take j).map fun v=>(⟨f.l,v⟩:FrQ)).map eFF).length≤j:=by rw[List.length_map,List.length_map,List.length_take];omega
    refine br J J J (fun hc36=>?_) (fun hc36=>?_)
    ·
     obtain⟨z,hz⟩: ∃s,cs[j]? =some s:=⟨_,List.getElem?_eq_getElem (by omega)⟩
     refine ix _ rfl (map_getS hz) rfl<|ixa 0 (e:=177) (len:=2) (s:=1) rfl (by kernel_rfl) (by kernel_rfl) (by decide) rfl<|rf J J<|?_
     refine ap (((cs.take (j+1)).map fun v=>(⟨f.l,v⟩:FrQ)).map eFF) rfl (by rw[←take_map_snoc hz,List.map_append];rfl) (slOkFF [⟨f.l,z⟩]) rfl<|ixa (hv:=by simp only[allP];exact⟨by kernel_rfl,by omega⟩) 0 (e:=177) (len:=2) (s:=1) rfl (by kernel_rfl) (by kernel_rfl) (by decide) rfl<|?_
     refine rnE 48 60 rfl ?_
     exact at_ (j+1) ⟨(by omega),(by omega)⟩
    ·
     obtain rfl:j=cs.length:=by omega
     rw[show(cs.take cs.length).map (fun v=>(⟨f.l,v⟩:FrQ))=splitS f m 1 from by rw[List.take_length];unfold splitS;rw[if_neg (by rw[hon];decide),←hcs]]
     exact at_ (0+1) ⟨(by omega),(by omega)⟩
  ·
   refine ix _ J J J<|cl (fu:=⟨0⟩) rfl (q_half6 (l:=f.l) (m:=m) (side:= -1) h.ok hmo (.inr rfl)) rfl<|?_
   obtain⟨cs,hcs⟩: ∃c,c=combQ 2 [f.v] (halfQ f.l m (-1)):=⟨_,rfl⟩
   have hcl:cs.length≤5:=by rw[hcs];have h1:=comb_len 2 [f.v] (halfQ f.l m (-1));have h2:=half_len (l:=f.l) (m:=m) (side:=(-1));simp only[List.length_singleton] at h1;omega
   refine eqF 25 (.d (.tp [.sl ((halfQ f.l m (-1)).map eV),vB (onB f.l m)])) J J ?_
   refine gx rfl<|?_
   refine bb J J J (fun hc28=>?_) (fun hc28=>?_)
   ·
    have hon:onB f.l m=true:=hc28
    exact rz rfl (by first|(unfold splitS;rw[if_pos hon,if_pos hon];rfl)|rfl)
   ·
    have hon:onB f.l m=false:=by simpa using hc28
    refine rf J J<|cl (fu:=⟨0⟩) rfl (q_Combine (a:=[f.v]) (b:=halfQ f.l m (-1)) (fun v hv=>by rw[List.mem_singleton] at hv;subst hv;exact⟨h.lo,h.hi⟩) (half_ivb h.lb hm h.ok) (by show 1≤100;decide) (by have:=half_len (l:=f.l) (m:=m) (side:=(-1));omega)) rfl<|?_
    refine eqF 33 (.d (.sl (cs.map eV))) rfl (by rw[hcs]) ?_
    refine gx (fu:=⟨1⟩) rfl<|?_
    refine eqF 34 (.d (vI (cs.length:Nat))) rfl (by rw[map_len' eV cs]<;>rfl) ?_
    refine gx rfl<|?_
    refine lp (X:=Nat) (fun j=>[(35, .d (vI (j:Nat)))]) (fun j=>[(61,some (.b 186 14 (((cs.take j).map fun v=>(⟨f.l,v⟩:FrQ)).map eFF) true))]) (fun j=>j≤cs.length) (fun j=>cs.length-j) 0 rfl (Nat.zero_le _) (fun _=>rfl) (fun j hk=>?_)
    have hml:(((cs.take j).map fun v=>(⟨f.l,v⟩:FrQ)).map eFF).length≤j:=by rw[List.length_map,List.length_map,List.length_take];omega
    refine br J J J (fun hc36=>?_) (fun hc36=>?_)
    ·
     obtain⟨z,hz⟩: ∃s,cs[j]? =some s:=⟨_,List.getElem?_eq_getElem (by omega)⟩
     refine ix _ rfl (map_getS hz) rfl<|ixa 1 (e:=177) (len:=2) (s:=1) rfl (by kernel_rfl) (by kernel_rfl) (by decide) rfl<|rf J J<|?_
     refine ap (((cs.take (j+1)).map fun v=>(⟨f.l,v⟩:FrQ)).map eFF) rfl (by rw[←take_map_snoc hz,List.map_append];rfl) (slOkFF [⟨f.l,z⟩]) rfl<|ixa (hv:=by simp only[allP];exact⟨by kernel_rfl,by omega⟩) 1 (e:=177) (len:=2) (s:=1) rfl (by kernel_rfl) (by kernel_rfl) (by decide) rfl<|?_
     refine rnE 48 61 rfl ?_
     exact at_ (j+1) ⟨(by omega),(by omega)⟩
    ·
     obtain rfl:j=cs.length:=by omega
     rw[show(cs.take cs.length).map (fun v=>(⟨f.l,v⟩:FrQ))=splitS f m (-1) from by rw[List.take_length];unfold splitS;rw[if_neg (by rw[hon];decide),←hcs]]
     exact at_ (1+1) ⟨(by omega),(by omega)⟩
 ·
  obtain rfl:k=2:=by omega
  refine ixa 0 (e:=177) (len:=2) (s:=1) rfl (by kernel_rfl) (by kernel_rfl) (by decide) rfl<|ixa 1 (e:=177) (len:=2) (s:=1) rfl (by kernel_rfl) (by kernel_rfl) (by decide) rfl<|?_
  refine fzE 60 rfl ?_
  refine fzE 61 rfl ?_
  exact rz rfl (by first|(unfold splitS;rw[if_pos hon,if_pos hon];rfl)|rfl)
end Go.Sx
end
