/-
  Package bsp: Of, for any list of nodes. Package bsp: trees written for package api (over deep values). Package bsp: Each with any visitor; Size. Reading a tree as a function; what is read is sound. errors.Is, for what the laws hand it: an error and itself, no error. (After the worked contracts of the kit's example Sentry.) The abstract machine: what a named variable holds. Operations on regions. Plain geometry: what a tree says of the points that lie on none of its lines; restriction, merging and complement by points. Plain geometry: a reduced tree has few nodes: on each line at most one more than other lines cross it. Plain geometry: the reference merges as the code does; relations of regions by points.
-/
import Derived.Test.YtlnphbkcelfboaaGreatDoorMs13
import Derived.WalkKit
import Derived.LaidEql
import Derived.Stop.Asserts
import Derived.RowKitTokens
set_option linter.unusedSimpArgs false
set_option linter.unusedVariables false
section
set_option maxRecDepth 100000
namespace Go.Sx
open Go Go.Proofs
def seenF(n:Nat)(f:Nat→Bool):List Value:=(List.range n).map fun j=> .bool (f j)
def setF(f:Nat→Bool)(i:Nat):Nat→Bool:=fun j=>f j||Nat.beq j i
theorem seenF_len(n:Nat)(f:Nat→Bool):(seenF n f).length=n:=by simp[seenF]
theorem seenF_get{n i:Nat}{f:Nat→Bool}{b:Bool}(h:i<n)(hf:f i=b):(seenF n f)[i]? =some (.bool b):=by simp[seenF,h,hf]
theorem setF_ne{f:Nat→Bool}{i j:Nat}(e:j≠i):setF f i j=f j:=by
 unfold setF
 cases hb:Nat.beq j i with
 |false=>rw[Bool.or_false]
 |true=>exact absurd (Nat.eq_of_beq_eq_true hb) e
theorem setF_eq{f:Nat→Bool}{i:Nat}:setF f i i=true:=by
 unfold setF;rw[Nat.beq_refl,Bool.or_true]
theorem seenF_set(n i:Nat)(f:Nat→Bool):(seenF n f).set i (.bool true)=seenF n (setF f i):=by
 apply List.ext_getElem?
 intro j
 rw[List.getElem?_set]
 simp only[seenF,List.length_map,List.length_range,List.getElem?_map]
 by_cases hj:j<n
 ·rw[List.getElem?_range hj]
  simp only[Option.map_some]
  by_cases e:i=j
  ·subst e;simp[hj,setF_eq]
  ·rw[setF_ne (fun h=>e h.symm)];simp[e]
 ·rw[List.getElem?_eq_none (by simpa using hj)]
  by_cases e:i=j
  ·subst e;simp[hj]
  ·simp[e]
theorem zeros_seenF(n:Nat):zeros (.bool false) n=seenF n (fun _=>false):=by
 apply List.ext_getElem?
 intro j
 by_cases hj:j<n
 ·rw[seenF_get hj rfl]
  unfold zeros
  rw[flat_rep_get (cellsL (.bool false)) n j (by simpa[cellsL] using hj)]
  simp[cellsL,Nat.mod_one]
 ·rw[List.getElem?_eq_none (by rw[zeros_len];simp[cellsL];omega),List.getElem?_eq_none (by rw[seenF_len];omega)]
structure RN where
 g:RL
 l:Int
 r:Int
def RN.d(n:RN):DV:= .ag [.v (.bool n.g.na),dLi n.g.da, .v (.bool n.g.nb),dLi n.g.db, .v (.bool n.g.nc),dLi n.g.dc, .v (.int .i64 n.l), .v (.int .i64 n.r)]
structure RS where
 f:Nat→Bool
 c:Nat
 b:Bool
inductive RR (ns:List RN):Int→RS→Tr→RS→Prop where
 |leaf (b:Bool) (s:RS):RR ns (leafCode b) s (.leaf b) s
 |bad (rt:Int) (s:RS) (h1:rt≠ -1) (h2:rt≠ -2) (h:rt<0∨(ns.length:Int)≤rt∨(∃k:Nat,rt=k∧k<ns.length∧s.f k=true)):RR ns rt s (.leaf false) ⟨s.f,s.c,true⟩
 |line (k:Nat) (n:RN) (s:RS) (h:ns[k]? =some n) (hf:s.f k=false) (hl:n.g.ln=none):RR ns (k:Int) s (.leaf false) ⟨setF s.f k,s.c+1,true⟩
 |node (k:Nat) (n:RN) (l:LnQ) (s s2 s3:RS) (x y:Tr) (h:ns[k]? =some n) (hf:s.f k=false) (hl:n.g.ln=some l) (h1:RR ns n.l ⟨setF s.f k,s.c+1,s.b⟩ x s2) (h2:RR ns n.r s2 y s3):RR ns (k:Int) s (.node l x y) s3
theorem RR.mono{ns:List RN}{rt:Int}{s s':RS}{t:Tr}(h:RR ns rt s t s'):s.c≤s'.c:=by
 induction h with
 |leaf=>exact Nat.le_refl _
 |bad=>exact Nat.le_refl _
 |line=>exact Nat.le_succ _
 |node k n l s s2 s3 x y h hf hl h1 h2 i1 i2=>simp only at i1;omega
theorem fp_ptr{G:Gh}{q:Rat}{v:Value}(h:Is G (fp_ q) v): ∃p,v= .pointer p:=by
 rcases is_op.1 h with⟨_,h⟩|⟨_,h⟩
 ·exact⟨_,h⟩
 ·obtain⟨b,m,h,_⟩:=is_pt.1 h;exact⟨_,h⟩
theorem eLn_of{G:Gh}{l:LnQ}{v:Value}(h:Is G (eLn l) v): ∃n1 d1 p1 n2 d2 p2 n3 d3 p3,v= .agg ⟨[.int .i64 n1, .int .i64 d1, .pointer p1, .int .i64 n2, .int .i64 d2, .pointer p2, .int .i64 n3, .int .i64 d3, .pointer p3]⟩:=by
 obtain⟨m,rfl,g⟩:=is_ag.1 h
 clear h
 obtain⟨v1,m,rfl,h1,h⟩:=isl_cons.1 g
 obtain⟨v2,m,rfl,h2,h⟩:=isl_cons.1 h
 obtain⟨v3,m,rfl,h3,h⟩:=isl_cons.1 h
 obtain⟨v4,m,rfl,h4,h⟩:=isl_cons.1 h
 obtain⟨v5,m,rfl,h5,h⟩:=isl_cons.1 h
 obtain⟨v6,m,rfl,h6,h⟩:=isl_cons.1 h
 obtain⟨v7,m,rfl,h7,h⟩:=isl_cons.1 h
 obtain⟨v8,m,rfl,h8,h⟩:=isl_cons.1 h
 obtain⟨v9,m,rfl,h9,h⟩:=isl_cons.1 h
 rw[isl_nil] at h;subst h
 obtain⟨_,rfl⟩:=fp_ptr h3
 obtain⟨_,rfl⟩:=fp_ptr h6
 obtain⟨_,rfl⟩:=fp_ptr h9
 rw[is_v.1 h1,is_v.1 h2,is_v.1 h4,is_v.1 h5,is_v.1 h7,is_v.1 h8]
 exact⟨_,_,_,_,_,_,_,_,_,rfl⟩
theorem lnR_of{G:Gh}{o:Option LnQ}{v:Value}(h:Is G (lnR o) v): ∃n1 d1 p1 n2 d2 p2 n3 d3 p3,v= .tuple #[.agg ⟨[.int .i64 n1, .int .i64 d1, .pointer p1, .int .i64 n2, .int .i64 d2, .pointer p2, .int .i64 n3, .int .i64 d3, .pointer p3]⟩, .bool o.isSome]∧
  ∀l,o=some l→Is G (eLn l) (.agg ⟨[.int .i64 n1, .int .i64 d1, .pointer p1, .int .i64 n2, .int .i64 d2, .pointer p2, .int .i64 n3, .int .i64 d3, .pointer p3]⟩):=by
 cases o with
 |some l=>
  obtain⟨m,rfl,g⟩:=is_tp.1 h
  obtain⟨v1,m,rfl,h1,h⟩:=isl_cons.1 g
  obtain⟨v2,m,rfl,h2,h⟩:=isl_cons.1 h
  rw[isl_nil] at h;subst h
  obtain⟨n1,d1,p1,n2,d2,p2,n3,d3,p3,rfl⟩:=eLn_of h1
  rw[is_v.1 h2]
  exact⟨n1,d1,p1,n2,d2,p2,n3,d3,p3,rfl,fun k e=>by cases e;exact h1⟩
 |none=>
  obtain⟨m,rfl,g⟩:=is_tp.1 h
  obtain⟨v1,m,rfl,h1,h⟩:=isl_cons.1 g
  obtain⟨v2,m,rfl,h2,h⟩:=isl_cons.1 h
  rw[isl_nil] at h;subst h
  clear g h
  obtain⟨m,rfl,g⟩:=is_ag.1 h1
  obtain⟨w1,m,rfl,k1,h⟩:=isl_cons.1 g
  obtain⟨w2,m,rfl,k2,h⟩:=isl_cons.1 h
  obtain⟨w3,m,rfl,k3,h⟩:=isl_cons.1 h
  obtain⟨w4,m,rfl,k4,h⟩:=isl_cons.1 h
  obtain⟨w5,m,rfl,k5,h⟩:=isl_cons.1 h
  obtain⟨w6,m,rfl,k6,h⟩:=isl_cons.1 h
  obtain⟨w7,m,rfl,k7,h⟩:=isl_cons.1 h
  obtain⟨w8,m,rfl,k8,h⟩:=isl_cons.1 h
  obtain⟨w9,m,rfl,k9,h⟩:=isl_cons.1 h
  rw[isl_nil] at h;subst h
  rw[is_v.1 k1,is_v.1 k2,is_v.1 k3,is_v.1 k4,is_v.1 k5,is_v.1 k6,is_v.1 k7,is_v.1 k8,is_v.1 k9]
  rw[is_v.1 h2]
  exact⟨_,_,_,_,_,_,_,_,_,rfl,fun k e=>by cases e⟩
theorem RN_of{G:Gh}{n:RN}{v:Value}(h:Is G n.d v): ∃x1 x2 x3:SV,v= .agg ⟨[.bool n.g.na, .slice x1.a x1.n x1.c, .bool n.g.nb, .slice x2.a x2.n x2.c, .bool n.g.nc, .slice x3.a x3.n x3.c, .int .i64 n.l, .int .i64 n.r]⟩∧
  Is G n.g.d (.agg ⟨[.bool n.g.na, .slice x1.a x1.n x1.c, .bool n.g.nb, .slice x2.a x2.n x2.c, .bool n.g.nc, .slice x3.a x3.n x3.c]⟩):=by
 obtain⟨m,rfl,g⟩:=is_ag.1 h
 clear h
 obtain⟨v1,m,rfl,h1,h⟩:=isl_cons.1 g
 obtain⟨v2,m,rfl,h2,h⟩:=isl_cons.1 h
 obtain⟨v3,m,rfl,h3,h⟩:=isl_cons.1 h
 obtain⟨v4,m,rfl,h4,h⟩:=isl_cons.1 h
 obtain⟨v5,m,rfl,h5,h⟩:=isl_cons.1 h
 obtain⟨v6,m,rfl,h6,h⟩:=isl_cons.1 h
 obtain⟨v7,m,rfl,h7,h⟩:=isl_cons.1 h
 obtain⟨v8,m,rfl,h8,h⟩:=isl_cons.1 h
 rw[isl_nil] at h;subst h
 obtain⟨_,x1,_,rfl,_,_⟩:=is_sl.1 (id h2)
 obtain⟨_,x2,_,rfl,_,_⟩:=is_sl.1 (id h4)
 obtain⟨_,x3,_,rfl,_,_⟩:=is_sl.1 (id h6)
 cases is_v.1 h1;cases is_v.1 h3;cases is_v.1 h5;cases is_v.1 h7;cases is_v.1 h8
 exact⟨x1,x2,x3,rfl,is_ag.2 ⟨_,rfl, .cons h1 (.cons h2 (.cons h3 (.cons h4 (.cons h5 (.cons h6 .nil)))))⟩⟩
theorem eU_ptr{G:Gh}{t:Tr}{v:Value}(h:Is G (eU t) v): ∃p,v= .pointer p:=by
 obtain⟨b,m,h,_⟩:=is_pt.1 h;exact⟨_,h⟩
theorem PF.fn0{P:Program}{f:FuncId}{ds:List DV}{r:DV}(h: ∀{GB:Gh},PF GB P f ds r){G:Gh}{vs:List Value}(hv:IsLs G ds vs):Fn P f vs G (fun v G'=>Is G' r v):=h (GB:=G) G vs (GLe.refl G) hv
abbrev NRow (x:SV) (ns:List RN) (A:Gh):Prop:= ∃es,IsSl A 8 x es∧IsLs A (ns.map RN.d) es
set_option maxHeartbeats 2000000 in
theorem rd_part{A:Gh}{ns:List RN}{x:SV}(hx:NRow x ns A)(hs: ∀n∈ns,n.g.sm)(hn:ns.length≤1000000){rt:Int}{s s':RS}{t:Tr}(h:RR ns rt s t s'): ∀{G:Gh} {rb sb:Nat} {lo lo2:Bool},[GL A G]→s'.c≤1000000→
  FnM Tryz.prog 109 [.pointer (some ⟨rb,0,none⟩), .int .i64 rt] [⟨rb,[.slice x.a x.n x.c, .slice (some ⟨sb,0,none⟩) ns.length ns.length, .int .i64 s.c, .bool s.b],192,lo⟩,⟨sb,seenF ns.length s.f,4,lo2⟩] G
   (fun v css G'=> ∃p,v= .pointer p∧Is G' (eU t) (.pointer p)∧css=[[.slice x.a x.n x.c, .slice (some ⟨sb,0,none⟩) ns.length ns.length, .int .i64 s'.c, .bool s'.b],seenF ns.length s'.f]):=by
 obtain⟨es,hx,hes⟩:=hx
 have hel:=hes.len
 rw[List.length_map] at hel
 have hlen:=hx.len
 rw[hel] at hlen
 obtain⟨xa,xn,xc⟩:=x
 simp only[] at hlen
 subst hlen
 induction h with
 |leaf bb s=>
  intro G rb sb lo lo2 _ hc
  refine FnM.intro Tryz.func109 J J Tryz.ntmps109 rfl ?_
  intro C _ _
  show St C _ _ [⟨rb,_,_,false⟩,⟨sb,_,_,false⟩] _ _
  cases bb
  case true=>
   refine sR<|sa J J<|zE<|st_seq<|st_block<|sR<|sm J J<|sy (yd_eql J J) rfl<|sm J J<|ss J J J J<|ss J J J J<|?_
   refine sy (yd_pickT J J) rfl<|sa J J<|zE<|st_condT rfl<|sR<|sm J J<|sy (yd_eql J J) rfl<|?_
   refine sc (zC J J (PF.fn0 (p_Leaf (b:=true)) (.cons (is_v.2 rfl) .nil)) rfl ?_)
   rintro _ G1 _ hp
   obtain⟨p,rfl⟩:=eU_ptr hp
   refine sa J J<|zE<|st_ret<|?_
   exact st_doneM (css:=[_,_]) (.tmp rfl .nil) rfl _ (List.Perm.refl _) (List.Sublist.refl _) ⟨p,rfl,hp,rfl⟩
  refine sR<|sa J J<|zE<|st_seq<|st_block<|sR<|sm J J<|sy (yd_eql J J) rfl<|sm J J<|syg J J (yd_move rfl) rfl<|syg J J (yd_eql J J) rfl<|?_
  refine sy (yd_pickF J J) rfl<|sa J J<|zE<|st_condT rfl<|sR<|sm J J<|sy (yd_eql J J) rfl<|?_
  refine sc (zC J J (PF.fn0 (p_Leaf (b:=false)) (.cons (is_v.2 rfl) .nil)) rfl ?_)
  rintro _ G1 _ hp
  obtain⟨p,rfl⟩:=eU_ptr hp
  refine sa J J<|zE<|st_ret<|?_
  exact st_doneM (css:=[_,_]) (.tmp rfl .nil) rfl _ (List.Perm.refl _) (List.Sublist.refl _) ⟨p,rfl,hp,rfl⟩
 |bad rt s h1 h2 h=>
  intro G rb sb lo lo2 _ hc
  refine FnM.intro Tryz.func109 J J Tryz.ntmps109 rfl ?_
  intro C _ _
  show St C _ [(0, .pointer (some ⟨rb,0,none⟩)),(1, .int .i64 rt)] [⟨rb,[.slice xa ns.length xc, .slice (some ⟨sb,0,none⟩) ns.length ns.length, .int .i64 s.c, .bool s.b],_,false⟩,⟨sb,seenF ns.length s.f,_,false⟩] _ _
  refine sR<|sa J J<|zE<|st_seq<|st_block<|sR<|sm J J<|sy (yd_eql J J) rfl<|sm J J<|?_
  refine st_caseP 12 rfl (fun hg=>absurd hg (by omega)) (fun hg=>?_)
  refine syg J J (yd_move rfl) rfl<|syg J J (yd_eql J J) rfl<|sy (yd_pickF J J) rfl<|sa J J<|zE<|?_
  refine st_condP rfl (fun hc=>absurd hc (by omega)) (fun _=>?_)
  refine sR<|sm J J<|sy (yd_lss J J) rfl<|sm J J<|?_
  refine st_caseP 22 rfl (fun hg=>?_) (fun hg=>?_)
  ·refine ss J J J J<|ss J J J J<|ss J J J J<|ss J J J J<|ss J J J J<|ss J J J J<|ss J J J J<|sy (yd_pickT J J) rfl<|sm J J<|ss J J J J<|ss J J J J<|?_
   refine ss J J J J<|ss J J J J<|ss J J J J<|ss J J J J<|ss J J J J<|sy (yd_pickT J J) rfl<|sa J J<|zE<|st_condT rfl<|st_seq<|?_
   refine st_region<|sm J J<|sn J J<|sf J J<|?_
   refine sc (ch_storeN1 J J J (.hd ..) (nb rfl) J J ?_)
   refine zE<|sR<|?_
   refine sc (zC J J (PF.fn0 (p_Leaf (b:=false)) (.cons (is_v.2 rfl) .nil)) rfl ?_)
   rintro _ G1 _ hp
   obtain⟨p,rfl⟩:=eU_ptr hp
   refine sa J J<|zE<|st_ret<|?_
   exact st_doneM (css:=[_,_]) (.tmp rfl .nil) rfl _ (List.Perm.refl _) (List.Sublist.refl _) ⟨p,rfl,hp,rfl⟩
  refine syg J J (yd_move rfl) rfl<|syg J J (yd_move rfl) rfl<|syg J J (yd_nilCheck rfl) rfl<|syg J J (yd_fieldAddr rfl) rfl<|syg J J (yd_load_own1 J J) rfl<|syg J J (yd_len rfl) rfl<|syg J J (yd_geq J J) rfl<|sy (yd_pickF J J) rfl<|sm J J<|?_
  refine st_caseP 31 rfl (fun hg=>?_) (fun hg=>?_)
  ·refine ss J J J J<|ss J J J J<|ss J J J J<|ss J J J J<|ss J J J J<|ss J J J J<|ss J J J J<|?_
   refine sy (yd_pickT J J) rfl<|sa J J<|zE<|st_condT rfl<|sR<|sm J J<|sn J J<|sf J J<|?_
   refine sc (ch_storeN1 J J J (.hd ..) (nb rfl) J J ?_)
   refine zE<|sR<|?_
   refine sc (zC J J (PF.fn0 (p_Leaf (b:=false)) (.cons (is_v.2 rfl) .nil)) rfl ?_)
   rintro _ G1 _ hp
   obtain⟨p,rfl⟩:=eU_ptr hp
   refine sa J J<|zE<|st_ret<|?_
   exact st_doneM (css:=[_,_]) (.tmp rfl .nil) rfl _ (List.Perm.refl _) (List.Sublist.refl _) ⟨p,rfl,hp,rfl⟩
  obtain⟨k,rfl,hk,hf⟩: ∃k:Nat,rt=k∧k<ns.length∧s.f k=true:=by
   rcases h with h|h|h
   ·omega
   ·exact absurd h hg
   ·exact h
  refine syg J J (yd_move rfl) rfl<|syg J J (yd_nilCheck rfl) rfl<|syg J J (yd_fieldAddr rfl) rfl<|syg J J (yd_load_own1 J J) rfl<|syg J J (yd_move rfl) rfl<|syg J J (yd_ixO J J (by omega) (by omega)) rfl<|?_
  refine syg J J (yd_load_own1 (v:= .bool true) rfl (by rw[Int.toNat_natCast,Nat.mul_one];exact seenF_get hk hf)) rfl<|sy (yd_pickF J J) rfl<|sa J J<|zE<|st_condT rfl<|?_
  refine sR<|sm J J<|sn J J<|sf J J<|?_
  refine sc (ch_storeN1 J J J (.hd ..) (nb rfl) J J ?_)
  refine zE<|sR<|?_
  refine sc (zC J J (PF.fn0 (p_Leaf (b:=false)) (.cons (is_v.2 rfl) .nil)) rfl ?_)
  rintro _ G1 _ hp
  obtain⟨p,rfl⟩:=eU_ptr hp
  refine sa J J<|zE<|st_ret<|?_
  exact st_doneM (css:=[_,_]) (.tmp rfl .nil) rfl _ (List.Perm.refl _) (List.Sublist.refl _) ⟨p,rfl,hp,rfl⟩
 |line base n s h0 hfb hl=>
  intro G rb sb lo lo2 _ hc
  have hbn:base<ns.length:=(List.getElem?_eq_some_iff.1 h0).1
  simp only at hc
  obtain⟨z,hzi,hz⟩:=hes.get (i:=base) (d:=n.d) (by rw[List.getElem?_map,h0];rfl)
  obtain⟨x1,x2,x3,rfl,hzg⟩:=RN_of hz
  refine FnM.intro Tryz.func109 J J Tryz.ntmps109 rfl ?_
  intro C _ _
  show St C _ [(0, .pointer (some ⟨rb,0,none⟩)),(1, .int .i64 (base:Int))] [⟨rb,[.slice xa ns.length xc, .slice (some ⟨sb,0,none⟩) ns.length ns.length, .int .i64 s.c, .bool s.b],_,false⟩,⟨sb,seenF ns.length s.f,_,false⟩] _ _
  refine sR<|sa J J<|zE<|st_seq<|st_block<|sR<|sm J J<|sy (yd_eql J J) rfl<|sm J J<|?_
  refine st_caseP 12 rfl (fun hg=>absurd hg (by omega)) (fun hg=>?_)
  refine syg J J (yd_move rfl) rfl<|syg J J (yd_eql J J) rfl<|sy (yd_pickF J J) rfl<|sa J J<|zE<|?_
  refine st_condP rfl (fun hc=>absurd hc (by omega)) (fun _=>?_)
  refine sR<|sm J J<|sy (yd_lss J J) rfl<|sm J J<|?_
  refine st_caseP 22 rfl (fun hg=>absurd hg (by omega)) (fun hg=>?_)
  refine syg J J (yd_move rfl) rfl<|syg J J (yd_move rfl) rfl<|syg J J (yd_nilCheck rfl) rfl<|syg J J (yd_fieldAddr rfl) rfl<|syg J J (yd_load_own1 J J) rfl<|syg J J (yd_len rfl) rfl<|syg J J (yd_geq J J) rfl<|sy (yd_pickF J J) rfl<|sm J J<|?_
  refine st_caseP 31 rfl (fun hg=>absurd hg (by omega)) (fun hg=>?_)
  refine syg J J (yd_move rfl) rfl<|syg J J (yd_nilCheck rfl) rfl<|syg J J (yd_fieldAddr rfl) rfl<|syg J J (yd_load_own1 J J) rfl<|syg J J (yd_move rfl) rfl<|syg J J (yd_ixO J J (by omega) (by omega)) rfl<|?_
  refine syg J J (yd_load_own1 (v:= .bool false) rfl (by rw[Int.toNat_natCast,Nat.mul_one];exact seenF_get hbn hfb)) rfl<|sy (yd_pickF J J) rfl<|sa J J<|zE<|st_condF rfl<|zK<|?_
  refine sR<|sm J J<|sn J J<|sf J J<|slo1 J J J<|sm J J<|sy (yd_ixO J J (by omega) (by omega)) rfl<|?_
  refine sc (ch_store1 J J (.tl _ _ _ _ _ _ _ _ (.hd ..)) (by rw[seenF_len,Int.toNat_natCast,Nat.mul_one];exact hbn) J J ?_)
  rw[Int.toNat_natCast,Nat.mul_one,seenF_set]
  refine zE<|sR<|sm J J<|sn J J<|sf J J<|slo1 J J J<|sy (yd_add64 J J) rfl<|sn J J<|sf J J<|?_
  refine sc (ch_storeN1 J J J (by repeat (first|exact .hd .. |apply OUpd.tl)) (nb rfl) J J ?_)
  rw[show(s.c:Int)+1=((s.c+1:Nat):Int) by omega]
  refine zE<|sR<|sm J J<|sn J J<|sf J J<|slo1 J J J<|sm J J<|sy (yd_ix (z:=⟨xa,ns.length,xc⟩) hx J J (by omega) (by show(base:Int)<(ns.length:Int);omega)) rfl<|?_
  rw[Int.toNat_natCast]
  refine sy (yd_ldA (i:=base) hx rfl (by rw[hel];exact hbn) hzi) rfl<|?_
  refine sc (ch_alloc rfl ?_)
  intro b5
  refine sc (ch_storeN J J J (by repeat (first|exact .hd .. |apply OUpd.tl)) rfl (nb rfl) J J ?_)
  refine zE<|sR<|sf J J<|slo J J J<|?_
  refine sc (zC J J (PF.fn0 (p_LnOfR (hs n (List.mem_of_getElem? h0))) (.cons (hzg.up GL.le) .nil)) rfl ?_)
  rintro _ G6 _ hw
  rw[hl] at hw
  obtain⟨n1,d1,p1,n2,d2,p2,n3,d3,p3,rfl,hw⟩:=lnR_of hw
  refine sm J J<|sx J J J<|sx J J J<|?_
  refine sc (ch_alloc rfl ?_)
  intro b6
  refine sc (ch_storeN J J J (by repeat (first|exact .hd .. |apply OUpd.tl)) rfl (nb rfl) J J ?_)
  refine sa J J<|zE<|st_seq<|sR<|sm J J<|sy (yd_not rfl) rfl<|zE<|st_condT rfl<|?_
  refine sR<|sm J J<|sn J J<|sf J J<|?_
  refine sc (ch_storeN1 J J J (by repeat (first|exact .hd .. |apply OUpd.tl)) (nb rfl) J J ?_)
  refine zE<|sR<|?_
  refine sc (zC J J (PF.fn0 (p_Leaf (b:=false)) (.cons (is_v.2 rfl) .nil)) rfl ?_)
  rintro _ G7 _ hp
  obtain⟨p,rfl⟩:=eU_ptr hp
  refine sa J J<|zE<|st_ret<|?_
  exact st_doneM (css:=[_,_]) (.tmp rfl .nil) rfl _ (List.perm_append_comm (l₁:=[_,_]) (l₂:=[_,_])) (.cons_cons _ (.cons_cons _ (List.nil_sublist _))) ⟨p,rfl,hp,rfl⟩
 |node base n l s s2 s3 tx ty h0 hfb hl h1 h2 ih1 ih2=>
  intro G rb sb lo lo2 _ hc
  have hbn:base<ns.length:=(List.getElem?_eq_some_iff.1 h0).1
  have hm1:=h1.mono
  have hm2:=h2.mono
  simp only at hm1
  obtain⟨z,hzi,hz⟩:=hes.get (i:=base) (d:=n.d) (by rw[List.getElem?_map,h0];rfl)
  obtain⟨x1,x2,x3,rfl,hzg⟩:=RN_of hz
  refine FnM.intro Tryz.func109 J J Tryz.ntmps109 rfl ?_
  intro C _ _
  show St C _ [(0, .pointer (some ⟨rb,0,none⟩)),(1, .int .i64 (base:Int))] [⟨rb,[.slice xa ns.length xc, .slice (some ⟨sb,0,none⟩) ns.length ns.length, .int .i64 s.c, .bool s.b],_,false⟩,⟨sb,seenF ns.length s.f,_,false⟩] _ _
  refine sR<|sa J J<|zE<|st_seq<|st_block<|sR<|sm J J<|sy (yd_eql J J) rfl<|sm J J<|?_
  refine st_caseP 12 rfl (fun hg=>absurd hg (by omega)) (fun hg=>?_)
  refine syg J J (yd_move rfl) rfl<|syg J J (yd_eql J J) rfl<|sy (yd_pickF J J) rfl<|sa J J<|zE<|?_
  refine st_condP rfl (fun hc=>absurd hc (by omega)) (fun _=>?_)
  refine sR<|sm J J<|sy (yd_lss J J) rfl<|sm J J<|?_
  refine st_caseP 22 rfl (fun hg=>absurd hg (by omega)) (fun hg=>?_)
  refine syg J J (yd_move rfl) rfl<|syg J J (yd_move rfl) rfl<|syg J J (yd_nilCheck rfl) rfl<|syg J J (yd_fieldAddr rfl) rfl<|syg J J (yd_load_own1 J J) rfl<|syg J J (yd_len rfl) rfl<|syg J J (yd_geq J J) rfl<|sy (yd_pickF J J) rfl<|sm J J<|?_
  refine st_caseP 31 rfl (fun hg=>absurd hg (by omega)) (fun hg=>?_)
  refine syg J J (yd_move rfl) rfl<|syg J J (yd_nilCheck rfl) rfl<|syg J J (yd_fieldAddr rfl) rfl<|syg J J (yd_load_own1 J J) rfl<|syg J J (yd_move rfl) rfl<|syg J J (yd_ixO J J (by omega) (by omega)) rfl<|?_
  refine syg J J (yd_load_own1 (v:= .bool false) rfl (by rw[Int.toNat_natCast,Nat.mul_one];exact seenF_get hbn hfb)) rfl<|sy (yd_pickF J J) rfl<|sa J J<|zE<|st_condF rfl<|zK<|?_
  refine sR<|sm J J<|sn J J<|sf J J<|slo1 J J J<|sm J J<|sy (yd_ixO J J (by omega) (by omega)) rfl<|?_
  refine sc (ch_store1 J J (.tl _ _ _ _ _ _ _ _ (.hd ..)) (by rw[seenF_len,Int.toNat_natCast,Nat.mul_one];exact hbn) J J ?_)
  rw[Int.toNat_natCast,Nat.mul_one,seenF_set]
  refine zE<|sR<|sm J J<|sn J J<|sf J J<|slo1 J J J<|sy (yd_add64 J J) rfl<|sn J J<|sf J J<|?_
  refine sc (ch_storeN1 J J J (by repeat (first|exact .hd .. |apply OUpd.tl)) (nb rfl) J J ?_)
  rw[show(s.c:Int)+1=((s.c+1:Nat):Int) by omega]
  refine zE<|sR<|sm J J<|sn J J<|sf J J<|slo1 J J J<|sm J J<|sy (yd_ix (z:=⟨xa,ns.length,xc⟩) hx J J (by omega) (by show(base:Int)<(ns.length:Int);omega)) rfl<|?_
  rw[Int.toNat_natCast]
  refine sy (yd_ldA (i:=base) hx rfl (by rw[hel];exact hbn) hzi) rfl<|?_
  refine sc (ch_alloc rfl ?_)
  intro b5
  refine sc (ch_storeN J J J (by repeat (first|exact .hd .. |apply OUpd.tl)) rfl (nb rfl) J J ?_)
  refine zE<|sR<|sf J J<|slo J J J<|?_
  refine sc (zC J J (PF.fn0 (p_LnOfR (hs n (List.mem_of_getElem? h0))) (.cons (hzg.up GL.le) .nil)) rfl ?_)
  rintro _ G6 _ hw
  rw[hl] at hw
  obtain⟨n1,d1,p1,n2,d2,p2,n3,d3,p3,rfl,hw'⟩:=lnR_of hw
  replace hw:=hw' l rfl
  refine sm J J<|sx J J J<|sx J J J<|?_
  refine sc (ch_alloc rfl ?_)
  intro b6
  refine sc (ch_storeN J J J (by repeat (first|exact .hd .. |apply OUpd.tl)) rfl (nb rfl) J J ?_)
  refine sa J J<|zE<|st_seq<|sR<|sm J J<|sy (yd_not rfl) rfl<|zE<|st_condF rfl<|zK<|?_
  refine sR<|sm J J<|sf J J<|slo1 J J J<|?_
  have hrp:=ih1 (G:=G6) (rb:=rb) (sb:=sb) (lo:=false) (lo2:=false) (by omega)
  refine sc (ch_callM J J (List.perm_append_comm (l₁:=[_,_]) (l₂:=[_,_])) hrp rfl ?_)
  rintro _ css G7 _ _ ⟨q1,rfl,hp1,rfl⟩
  show St C _ _ [⟨rb,[.slice xa ns.length xc, .slice (some ⟨sb,0,none⟩) ns.length ns.length, .int .i64 s2.c, .bool s2.b],192,false⟩,⟨sb,seenF ns.length s2.f,4,false⟩,⟨b6,[.int .i64 n1, .int .i64 d1, .pointer p1, .int .i64 n2, .int .i64 d2, .pointer p2, .int .i64 n3, .int .i64 d3, .pointer p3],130,true⟩,⟨b5,[.bool n.g.na, .slice x1.a x1.n x1.c, .bool n.g.nb, .slice x2.a x2.n x2.c, .bool n.g.nc, .slice x3.a x3.n x3.c, .int .i64 n.l, .int .i64 n.r],141,true⟩] _ _
  refine sa J J<|zE<|st_seq<|?_
  refine drS [⟨b6,[.int .i64 n1, .int .i64 d1, .pointer p1, .int .i64 n2, .int .i64 d2, .pointer p2, .int .i64 n3, .int .i64 d3, .pointer p3],130,true⟩,⟨b5,[.bool n.g.na, .slice x1.a x1.n x1.c, .bool n.g.nb, .slice x2.a x2.n x2.c, .bool n.g.nc, .slice x3.a x3.n x3.c, .int .i64 n.l, .int .i64 n.r],141,true⟩] (fun _=>false) [(0,true),(1,true),(2,true),(3,true),(4,true),(5,false),(6,false),(7,true)] follows (by kernel_rfl)<|?_
  refine dL J J J J<|dM J J J<|dM J J J<|dF J J J<|dL1 J J J J<|?_
  have hrp:=ih2 (G:=G7) (rb:=rb) (sb:=sb) (lo:=false) (lo2:=false) hc
  refine dc J J (ch_callM J J (M:=[_,_]) (rest:=[_,_]) (List.Perm.refl _) hrp rfl ?_)
  rintro _ css G8 _ _ ⟨q2,rfl,hp2,rfl⟩
  show St C _ _ [⟨rb,[.slice xa ns.length xc, .slice (some ⟨sb,0,none⟩) ns.length ns.length, .int .i64 s3.c, .bool s3.b],192,false⟩,⟨sb,seenF ns.length s3.f,4,false⟩,⟨b6,[.int .i64 n1, .int .i64 d1, .pointer p1, .int .i64 n2, .int .i64 d2, .pointer p2, .int .i64 n3, .int .i64 d3, .pointer p3],130,true⟩,⟨b5,[.bool n.g.na, .slice x1.a x1.n x1.c, .bool n.g.nb, .slice x2.a x2.n x2.c, .bool n.g.nc, .slice x3.a x3.n x3.c, .int .i64 n.l, .int .i64 n.r],141,true⟩] _ _
  refine dr_s<|?_
  refine dc J J (zC J J (PF.fn0 (p_New (l:=l) (x:=tx) (y:=ty)) (.cons (hw.up GL.le) (.cons (hp1.up GL.le) (.cons hp2 .nil)))) rfl ?_)
  rintro _ G9 _ hp
  obtain⟨p,rfl⟩:=eU_ptr hp
  refine dr_s<|dA J J J<|dn<|st_ret<|?_
  exact st_doneM (css:=[_,_]) (.tmp rfl .nil) rfl _ (List.Perm.refl _) (.cons_cons _ (.cons_cons _ (List.nil_sublist _))) ⟨p,rfl,hp,rfl⟩
def rs0:RS:=⟨fun _=>false,0,false⟩
def ofD(ns:List RN)(t:Tr)(s:RS):DV:=if s.b=false∧s.c=ns.length then .tp [eU t,vB true] else .tp [.v (.pointer none),vB false]
def eRT(rt:Int)(ns:List RN):DV:= .ag [vI rt, .sl (ns.map RN.d)]
set_option maxHeartbeats 1000000 in
theorem p_Of{GB:Gh}{ns:List RN}{rt:Int}{t:Tr}{s:RS}(hs: ∀n∈ns,n.g.sm)(hn:ns.length≤65536)(h:RR ns rt rs0 t s)(hc:s.c≤1000000):PF GB Tryz.prog 55 [eRT rt ns] (ofD ns t s):=by
 intro G vs _ hv
 obtain⟨v0,m,rfl,h0,hm⟩:=isl_cons.1 hv
 rw[isl_nil] at hm;subst hm
 obtain⟨m,rfl,g⟩:=is_ag.1 h0
 obtain⟨v1,m,rfl,h1,hm⟩:=isl_cons.1 g
 obtain⟨v2,m,rfl,h2,hm⟩:=isl_cons.1 hm
 rw[isl_nil] at hm;subst hm
 obtain⟨s0,x,es,rfl,hsl,hes⟩:=is_sl.1 h2
 rw[is_v.1 h1]
 have hel:=hes.len
 rw[List.length_map] at hel
 have hlen:=hsl.len
 rw[hel] at hlen
 have hx:NRow x ns G:=by
  refine⟨es,?_,hes⟩
  rcases sl_stride (s:=8) hsl hes (fun d hd=>by obtain⟨n,_,rfl⟩:=List.mem_map.1 hd;exact⟨rfl,rfl⟩) with e|e
  ·exact⟨hsl.len,hsl.cap, .inl e⟩
  ·rw[e] at hsl;exact hsl
 obtain⟨xa,xn,xc⟩:=x
 simp only[] at hlen
 subst hlen
 show Fn _ _ [.agg ⟨[.int .i64 rt, .slice xa ns.length xc]⟩] _ _
 refine Fn.intro Tryz.func55 J J Tryz.ntmps55 rfl ?_
 intro C _ _
 refine sR<|?_
 refine sc (ch_box J J ?_)
 intro b1
 refine sa J J<|sa J J<|zE<|st_seq<|sR<|sf J J<|slo1 J J J<|slen J J<|sy (yd_gtr J J) rfl<|zE<|?_
 refine st_condP rfl (fun hc=>absurd hc (by omega)) (fun _=>?_)
 refine zK<|st_seq<|dr (fun _=>false) [(0,true),(1,true),(2,true),(3,true),(4,true),(5,false),(6,true),(7,false),(8,true)] follows (by kernel_rfl)<|dF J J J<|?_
 refine dL1 J J J J<|dF J J J<|dL1 J J J J<|dy rfl (fun _=>yd_len rfl) J J<|?_
 refine dc J J (ch_make J J (by omega) (by omega) (by omega) (by rfl) rfl ?_)
 intro b2
 rw[Int.toNat_natCast,zeros_seenF]
 refine dr_s<|dy rfl (fun _=>yd_build rfl) J J<|?_
 refine dc J J (ch_box J J ?_)
 intro b3
 refine dr_s<|dA J J J<|dn<|sR<|sm J J<|sf J J<|slo1 J J J<|?_
 have hrp:=rd_part hx hs (by omega) h (G:=G) (rb:=b3) (sb:=b2) (lo:=true) (lo2:=true) hc
 refine sc (ch_callM J J (M:=[_,_]) (rest:=[_]) (List.Perm.refl _) hrp rfl ?_)
 rintro _ css G4 _ _ ⟨p,rfl,hp,rfl⟩
 show St C _ _ [⟨b3,[.slice xa ns.length xc, .slice (some ⟨b2,0,none⟩) ns.length ns.length, .int .i64 s.c, .bool s.b],192,true⟩,⟨b2,seenF ns.length s.f,4,true⟩,⟨b1,[.int .i64 rt, .slice xa ns.length xc],27,true⟩] _ _
 refine sa J J<|zE<|st_seq<|st_seq<|dr (fun _=>false) [(0,true),(1,true),(2,true),(3,true),(4,true),(5,true),(6,true),(7,true),(8,true),(9,true),(10,true),(11,true),(12,true),(13,true)] follows (by kernel_rfl)<|?_
 obtain⟨sf_,sc_,sb_⟩:=s
 cases sb_
 case true=>
  refine dM J J J<|dy rfl (fun _=>yd_nilCheck rfl) J J<|dF J J J<|dL1 J J J J<|dM J J J<|?_
  refine dys J J J J J J<|dys J J J J J J<|dys J J J J J J<|dys J J J J J J<|dys J J J J J J<|dys J J J J J J<|?_
  refine dys J J J J J J<|dys J J J J J J<|dy rfl (fun _=>yd_pickT J J) J J<|dn<|st_condT rfl<|?_
  refine sR<|sa J J<|sa J J<|zE<|st_ret<|?_
  refine zD (.tmp rfl (.tmp rfl .nil)) ?_
  rw[ofD,if_neg (fun e=>by cases e.1)]
  exact is_tp.2 ⟨_,rfl, .cons (is_v.2 rfl) (.cons (is_v.2 rfl) .nil)⟩
 refine dM J J J<|dy rfl (fun _=>yd_nilCheck rfl) J J<|dF J J J<|dL1 J J J J<|dM J J J<|?_
 refine dyg J J J J (fun _=>yd_move rfl) rfl<|dyg J J J J (fun _=>yd_nilCheck rfl) rfl<|dyg J J J J (fun _=>yd_fieldAddr rfl) rfl<|dyg J J J J (fun _=>yd_load_own1 J J) rfl<|?_
 refine dyg J J J J (fun _=>yd_fieldAddr rfl) rfl<|dyg J J J J (fun _=>yd_load_own1 J J) rfl<|dyg J J J J (fun _=>yd_len rfl) rfl<|dyg J J J J (fun _=>yd_neq J J) rfl<|?_
 refine dy rfl (fun _=>yd_pickF J J) J J<|dn<|?_
 refine st_condP rfl (fun hc=>?_) (fun hc=>?_) -- slot 35
 ·refine sR<|sa J J<|sa J J<|zE<|st_ret<|?_
  refine zD (.tmp rfl (.tmp rfl .nil)) ?_
  rw[ofD,if_neg (fun e=>hc (by have:=e.2;simp only at this;omega))]
  exact is_tp.2 ⟨_,rfl, .cons (is_v.2 rfl) (.cons (is_v.2 rfl) .nil)⟩
 refine zK<|sR<|sm J J<|sa J J<|sa J J<|zE<|st_ret<|?_
 refine zD (.tmp rfl (.tmp rfl .nil)) ?_
 rw[ofD,if_pos ⟨rfl,by have h9:=hc;simp at h9;show sc_=_;omega⟩]
 exact is_tp.2 ⟨_,rfl, .cons hp (.cons (is_v.2 rfl) .nil)⟩
end Go.Sx
end

section
set_option maxRecDepth 100000
namespace Go.Sx
open Go Go.Proofs
theorem cU_node{G:Gh}{l:LnQ}{x y:Tr}{m:List Value}(h:IsLs G (cU (.node l x y)) m): ∃n1 d1 p1 n2 d2 p2 n3 d3 p3 q r,m=[.int .i64 n1, .int .i64 d1, .pointer p1, .int .i64 n2, .int .i64 d2, .pointer p2, .int .i64 n3, .int .i64 d3, .pointer p3, .pointer q, .pointer r, .bool false]∧
  Is G (eLn l) (.agg ⟨[.int .i64 n1, .int .i64 d1, .pointer p1, .int .i64 n2, .int .i64 d2, .pointer p2, .int .i64 n3, .int .i64 d3, .pointer p3]⟩)∧Is G (eU x) (.pointer q)∧Is G (eU y) (.pointer r):=by
 obtain⟨v1,m,rfl,h1,h⟩:=isl_cons.1 h
 obtain⟨v2,m,rfl,h2,h⟩:=isl_cons.1 h
 obtain⟨v3,m,rfl,h3,h⟩:=isl_cons.1 h
 obtain⟨v4,m,rfl,h4,h⟩:=isl_cons.1 h
 obtain⟨v5,m,rfl,h5,h⟩:=isl_cons.1 h
 obtain⟨v6,m,rfl,h6,h⟩:=isl_cons.1 h
 obtain⟨v7,m,rfl,h7,h⟩:=isl_cons.1 h
 obtain⟨v8,m,rfl,h8,h⟩:=isl_cons.1 h
 obtain⟨v9,m,rfl,h9,h⟩:=isl_cons.1 h
 obtain⟨va,m,rfl,ha,h⟩:=isl_cons.1 h
 obtain⟨vb,m,rfl,hb,h⟩:=isl_cons.1 h
 obtain⟨vc,m,rfl,hc,h⟩:=isl_cons.1 h
 rw[isl_nil] at h;subst h
 obtain⟨_,rfl⟩:=fp_ptr h3
 obtain⟨_,rfl⟩:=fp_ptr h6
 obtain⟨_,rfl⟩:=fp_ptr h9
 obtain⟨_,rfl⟩:=eU_ptr ha
 obtain⟨_,rfl⟩:=eU_ptr hb
 cases is_v.1 h1;cases is_v.1 h2;cases is_v.1 h4;cases is_v.1 h5;cases is_v.1 h7;cases is_v.1 h8;cases is_v.1 hc
 exact⟨_,_,_,_,_,_,_,_,_,_,_,rfl,is_ag.2 ⟨_,rfl, .cons h1 (.cons h2 (.cons h3 (.cons h4 (.cons h5 (.cons h6 (.cons h7 (.cons h8 (.cons h9 .nil))))))))⟩,ha,hb⟩
end Go.Sx
end

section
set_option maxRecDepth 100000
namespace Go.Sx
open Go Go.Proofs
def Tr.pre:Tr→List Tr
 | .leaf b=>[.leaf b]
 | .node l x y=> .node l x y::(x.pre++y.pre)
structure Vis (f:FuncId) (c2:List Value) (σ:Type) (step:σ→Tr→σ) (ok:σ→Tr→Prop) (Inv:σ→List Own→Gh→Prop):Prop where
 up: ∀{s B G G'},GLe G G'→Inv s B G→Inv s B G'
 re: ∀{s B G} (fl:Nat→Bool),Inv s B G→Inv s (B.map (relo fl)) G
 go: ∀{s t p B G},ok s t→Inv s B G→Is G (eU t) (.pointer p)→FnO Tryz.prog f (.pointer p::c2) B G (fun _ B' G'=>Inv (step s t) B' G')
section
variable {P:Program} {C:Ctx} {n:Nat} {fr:Fr} {own:List Own} {G:Gh}
theorem st_doneON{fn:Func}{K:Value→List Own→Gh→Prop}{vs:List Value}(hr:RVs P fr own fn.results.toList vs)(own2 own3:List Own)(hp:own.Perm own2)(hs:own3.Sublist own2)(hk:K (tupled vs) own3 G):St C n fr own G (bodyPost P fn (RPostO C K) .normal):=
 fun a w rl=>⟨rl.df,_,run_results hr rl.fr rl.h,_,own3,G,rfl,(rl.h.perm hp).drop hs,hk⟩
end
def okFold{σ:Type}(step:σ→Tr→σ)(ok:σ→Tr→Prop):σ→List Tr→Prop
 |_,[]=>True
 |s,t::ts=>ok s t∧okFold step ok (step s t) ts
structure EX (σ:Type) where
 ts:List Tr
 vs:List Value
 rest:List Value
 b:Nat
 cap:Nat
 lo:Bool
 s:σ
 B:List Own
def tsz(t:Tr):Nat:=2*t.size+1
theorem tsz_len(ts:List Tr):ts.length≤(ts.map tsz).sum:=by
 induction ts with
 |nil=>exact Nat.le_refl _
 |cons t ts ih=>simp only[List.length_cons,List.map_cons,List.sum_cons,tsz];omega
def stk(ts:List Tr):List Tr:=ts.reverse.flatMap Tr.pre
structure EI (A:Gh) {σ:Type} (step:σ→Tr→σ) (ok:σ→Tr→Prop) (Inv:σ→List Own→Gh→Prop) (N:Nat) (fin:σ) (x:EX σ) (G:Gh):Prop where
 rel:All2 (fun v t=> ∃p,v= .pointer p∧Is A (eU t) (.pointer p)) x.vs x.ts
 cap:x.vs.length+x.rest.length=x.cap
 inv:Inv x.s x.B G
 mu:(x.ts.map tsz).sum≤N
 okf:okFold step ok x.s (stk x.ts)
 fin:(stk x.ts).foldl step x.s=fin
theorem all2_concat{α β:Type}{R:α→β→Prop}{v:α}{t:β}: ∀{vs:List α} {ts:List β},All2 R (vs++[v]) (ts++[t])→All2 R vs ts∧R v t
 |[],[], .cons h .nil=>⟨.nil,h⟩
 |[],_::b, .cons _ h=>by cases b<;>cases h
 |_::a,[], .cons _ h=>by cases a<;>cases h
 |_::_,_::_, .cons h k=>⟨.cons h (all2_concat k).1,(all2_concat k).2⟩
set_option maxHeartbeats 1000000 in
theorem t_Each{f:FuncId}{c2:List Value}{σ:Type}{step:σ→Tr→σ}{ok:σ→Tr→Prop}{Inv:σ→List Own→Gh→Prop}(V:Vis f c2 σ step ok Inv){t:Tr}{p:Option Addr}{s:σ}{B:List Own}{G:Gh}
  (h:Is G (eU t) (.pointer p))(hI:Inv s B G)(hok:okFold step ok s t.pre)(hs:t.size≤1000000000000):
  FnO Tryz.prog 230 [.pointer p, .func (.func f) #[] ⟨c2⟩] B G (fun _ B' G'=>Inv (t.pre.foldl step s) B' G'):=by
 refine FnO.intro Tryz.func230 J J Tryz.ntmps230 rfl ?_
 intro C _ _
 refine sR<|sm J J<|?_
 refine sc (ch_slice1 rfl (by rfl) (by rfl) (by decide) (by decide) rfl ?_)
 intro b1
 refine sa J J<|zE<|st_block<|?_
 refine st_loop (X:=EX σ) (fun x=>[(4, .slice (some ⟨x.b,0,none⟩) x.vs.length x.cap),(1, .func (.func f) #[] ⟨c2⟩)]) (fun x=>⟨x.b,x.vs++x.rest,102,x.lo⟩::x.B) (EI G step ok Inv (tsz t) (t.pre.foldl step s)) (fun x=>(x.ts.map tsz).sum)
  ⟨[t],[.pointer p],[],b1,1,true,s,asB B⟩ ⟨.cons ⟨p,rfl,h⟩ .nil,rfl,V.re (fun _=>false) hI,by simp,by simpa[stk] using hok,by simp[stk]⟩ (.cons rfl (.cons rfl .nil)) rfl ?_
 rintro ⟨ts,vs,rest,b,cap,lo,s1,B1⟩ Gx _ ⟨hrel,hcap,hinv,hmu,hokf,hfin⟩
 simp only at hrel hcap hinv hmu hokf hfin
 have hln:=hrel.len
 have hlt:=tsz_len ts
 unfold tsz at hmu hlt
 refine st_seq<|sR<|sm J J<|slen J J<|sy (yd_gtr J J) rfl<|zE<|?_
 refine st_condE rfl (fun hc=>?_) (fun hc=>?_)
 ·refine st_exit<|st_te<|st_te<|st_inBlock_eq<|?_
  refine st_doneON .nil _ _ (List.Perm.refl _) (List.sublist_cons_self _ _) ?_
  obtain rfl:ts=[]:=by
   cases ts with
   |nil=>rfl
   |cons a l=>simp only[List.length_cons] at hln;exfalso;apply hc;show(0:Int)<(vs.length:Int);omega
  have:s1=t.pre.foldl step s:=hfin
  rw[←this]
  exact hinv
 refine zK<|?_
 obtain⟨vs,v,rfl⟩: ∃vs' v',vs=vs'++[v']:=by
  rcases List.eq_nil_or_concat vs with e|⟨a,b,e⟩
  ·subst e;simp at hc
  ·exact⟨a,b,by rw[e,List.concat_eq_append]⟩
 obtain⟨ts,u,rfl⟩: ∃vs' v',ts=vs'++[v']:=by
  rcases List.eq_nil_or_concat ts with e|⟨a,b,e⟩
  ·subst e;simp at hln
  ·exact⟨a,b,by rw[e,List.concat_eq_append]⟩
 obtain⟨hrel1,q,rfl,hq⟩:=all2_concat hrel
 have hl1:(vs++[Value.pointer q]).length=vs.length+1:=by simp
 have hst:stk (ts++[u])=u.pre++stk ts:=by simp[stk]
 rw[hst] at hokf hfin
 simp only[List.map_append,List.sum_append,List.map_cons,List.map_nil,List.sum_cons,List.sum_nil,Nat.add_zero,List.length_append,List.length_singleton] at hmu hlt hln hcap
 refine st_frame [(4,Value.slice (some ⟨b,0,none⟩) (vs.length+1:Nat) cap),(1, .func (.func f) #[] ⟨c2⟩)] (.cons (by show some (Value.slice _ (vs++[Value.pointer q]).length _)=_;rw[hl1]) (.cons rfl .nil)) ?_
 refine st_block<|sR<|sm J J<|slen J J<|sy (yd_sub64 J J) rfl<|sa J J<|zE<|sR<|sm J J<|?_
 rw[show((vs.length+1:Nat):Int)-1=(vs.length:Nat) by omega]
 refine sm J J<|sy (yd_ixO J J (by omega) (by omega)) rfl<|?_
 refine sy (yd_load_own1 (v:=Value.pointer q) rfl (by rw[Int.toNat_natCast,Nat.mul_one,List.append_assoc,List.getElem?_append_right (Nat.le_refl _),Nat.sub_self];rfl)) rfl<|sa J J<|zE<|sR<|sm J J<|sm J J<|sy (yd_slice_hi J J (by omega) (by omega)) rfl<|?_
 rw[Int.toNat_natCast]
 refine sa J J<|zE<|sR<|sm J J<|sm J J<|?_
 have hokq:ok s1 u∧okFold step ok (step s1 u) (u.pre.tail++stk ts):=by cases u<;>exact hokf
 refine sc (ch_callcO' (c1:=[]) (M:=B1) (rest:=[⟨b,vs++[Value.pointer q]++rest,102,lo⟩]) J J (List.perm_append_comm (l₁:=[_])) (V.go hokq.1 hinv (hq.up GL.le)) rfl ?_)
 rintro _ B2 G2 fl _ _ _ hinv2
 replace hinv2:=V.re fl hinv2
 refine st_perm (⟨b,vs++Value.pointer q::rest,102,lo⟩::B2.map (relo fl)) (by rw[List.append_assoc];exact(List.perm_append_comm (l₂:=[_]))) ?_
 generalize B2.map (relo fl)=B2 at*
 refine zE<|sR<|sm J J<|?_
 cases u with
 |leaf bb=>
  refine sc (zC J J (PF.fn0 p_IsLeafL (.cons (hq.up GL.le) .nil)) rfl ?_)
  rintro _ G3 _ hv
  cases is_v.1 hv
  refine sy (yd_not rfl) rfl<|zE<|st_condF rfl<|zK<|?_
  exact st_again ⟨ts,vs,Value.pointer q::rest,b,cap,lo,step s1 (.leaf bb),B2⟩ ⟨hrel1,by simp only[List.length_cons];omega,V.up GL.le hinv2,by simp only;unfold tsz;omega,hokq.2,hfin⟩ (by simp only[List.map_append,List.sum_append,List.map_cons,List.map_nil,List.sum_cons,List.sum_nil];unfold tsz;omega) (.cons rfl (.cons rfl .nil)) rfl
 |node l x y=>
  obtain⟨nbk,m,e,hg,hm⟩:=is_pt.1 (id hq)
  cases e
  obtain⟨n1,d1,p1,n2,d2,p2,n3,d3,p3,q1,q2,rfl,_,hx,hy⟩:=cU_node hm
  have hgg:GHas G nbk _:=⟨hg⟩
  refine sc (zC J J (PF.fn0 p_IsLeafN (.cons (hq.up GL.le) .nil)) rfl ?_)
  rintro _ G3 _ hv
  cases is_v.1 hv
  refine sy (yd_not rfl) rfl<|zE<|st_condT rfl<|?_
  refine drS [] (fun _=>false) [(0,true),(1,true),(2,true),(3,true),(4,true),(5,true),(6,true),(7,true),(8,true),(9,false),(10,false),(11,true)] follows (by kernel_rfl)<|dM J J J<|?_
  refine dM J J J<|dy rfl (fun _=>yd_nilCheck rfl) J J<|dF J J J<|dy rfl (fun _=>yd_load_gh1 rfl ghi rfl) J J<|?_
  refine dM J J J<|dy rfl (fun _=>yd_nilCheck rfl) J J<|dF J J J<|dy rfl (fun _=>yd_load_gh1 rfl ghi rfl) J J<|?_
  refine dc J J (ch_slice (by rfl) (by rfl) (by rfl) (by rfl) rfl ?_)
  intro b3
  refine dr_s<|?_
  refine dc J J (ch_append_any (m:=2) (xs:=vs) (ys:=[Value.pointer q2,Value.pointer q1]) (rest:=Value.pointer (some ⟨nbk,0,none⟩)::rest) J J (.tl _ _ _ _ (.hd ..)) (by omega) (by simp only[List.length_cons];omega) (by omega) (src_own inferInstance rfl) rfl (by simp[Sx.flat]) (by decide) (by omega) (by rfl) rfl ?_)
  intro b4 lo4 cap4 rest4 h1 h2
  refine dr_s<|dA J J J<|dn<|?_
  have hsz:(Tr.node l x y).size=1+x.size+y.size:=rfl
  refine st_drop (⟨b4,vs++[Value.pointer q2,Value.pointer q1]++rest4,102,lo4⟩::B2) (.cons_cons _ (List.sublist_cons_self _ _)) ?_
  have hs2:stk (ts++[y,x])=x.pre++y.pre++stk ts:=by simp[stk]
  refine st_again ⟨ts++[y,x],vs++[Value.pointer q2,Value.pointer q1],rest4,b4,cap4,lo4,step s1 (.node l x y),B2⟩ ⟨hrel1.app (.cons ⟨_,rfl,hy⟩ (.cons ⟨_,rfl,hx⟩ .nil)),by simp only[List.length_append,List.length_cons,List.length_nil];omega,V.up GL.le hinv2,?_,?_,?_⟩ ?_ (.cons (by show some (Value.slice _ (vs.length+2) _)=some (Value.slice _ (vs++[_,_]).length _);rw[List.length_append];rfl) (.cons rfl .nil)) rfl
  ·simp only[List.map_append,List.sum_append,List.map_cons,List.map_nil,List.sum_cons,List.sum_nil];unfold tsz;omega
  ·simp only;rw[hs2];exact hokq.2
  ·simp only;rw[hs2];exact hfin
  ·simp only[List.map_append,List.sum_append,List.map_cons,List.map_nil,List.sum_cons,List.sum_nil];unfold tsz;omega
/-! ### Size -/
theorem ch_callO'{P:Program}{C:Ctx}{n:Nat}{fr:Fr}{own:List Own}{G:Gh}{Φ:Act→World→Prop}{dst:Option Nat}{ty':TypeId}{pos:String}{af:Array Edge}{gd:Option (Nat×Bool)}{f:FuncId}{fo:Operand}{args:Array Operand}{tys:Array TypeId}{vs:List Value}{M rest:List Own}{K:Value→List Own→Gh→Prop}(ho:opv fr fo=some (.func (.func f) #[] #[]))(hv:opvs fr args.toList=some vs)
  (hp:own.Perm (M++rest))(hF:FnO P f vs M G K)(hd:dstOk n dst=true)
  (h: ∀v own1 (G':Gh) (fl:Nat→Bool),[GE G G']→(∀m∈M,m.lo=false→fl m.b=false)→((∀m∈M,m.lo=true)→ ∀b,fl b=true)→K v own1 G'→St C n (put fr dst v) (own1.map (relo fl)++rest) G' Φ):
  Ch P C n fr own G ⟨dst, .call ⟨.value fo,args,tys⟩,ty',pos,af,gd⟩ Φ:=
 ch_callcO' (c1:=[]) (c2:=[]) ho hv hp (by simpa using hF) hd h
def szI(nbk:Nat)(s:Nat)(B:List Own)(_:Gh):Prop:= ∃lo,B=[⟨nbk,[.int .i64 s],3,lo⟩]
def szS(s:Nat):Tr→Nat
 | .leaf _=>s
 | .node .. =>s+1
theorem vis_Size(nbk:Nat):Vis 231 [.pointer (some ⟨nbk,0,none⟩)] Nat szS (fun s _=>s<1000000000000) (szI nbk) where
 up:=fun _ h=>h
 re:=fun{s B G} fl h=>by obtain⟨lo,rfl⟩:=h;exact⟨_,rfl⟩
 go:=by
  intro s t p B G hs hI ht
  obtain⟨lo,rfl⟩:=hI
  refine FnO.intro Tryz.func231 J J Tryz.ntmps231 rfl ?_
  intro C _ _
  show St C _ _ [⟨nbk,_,_,false⟩] _ _
  cases t with
  |node l x y=>
   refine sR<|sm J J<|?_
   refine sc (zC J J (PF.fn0 p_IsLeafN (.cons ht .nil)) rfl ?_)
   rintro _ G1 _ hv
   cases is_v.1 hv
   refine sy (yd_not rfl) rfl<|zE<|st_condT rfl<|st_region<|slo1 J J J<|sy (yd_add64 J J) rfl<|?_
   refine sc (ch_storeN1 J J J (.hd ..) (nb rfl) J J ?_)
   refine zE<|?_
   exact st_doneON .nil _ _ (List.Perm.refl _) (List.Sublist.refl _) ⟨false,by show [_]=[_];rfl⟩
  |leaf b=>
   refine sR<|sm J J<|?_
   refine sc (zC J J (PF.fn0 p_IsLeafL (.cons ht .nil)) rfl ?_)
   rintro _ G1 _ hv
   cases is_v.1 hv
   refine sy (yd_not rfl) rfl<|zE<|st_condF rfl<|zK<|?_
   exact st_doneON .nil _ _ (List.Perm.refl _) (List.Sublist.refl _) ⟨false,rfl⟩
theorem szS_fold: ∀(t:Tr) (s:Nat),t.pre.foldl szS s=s+t.size
 | .leaf _,s=>rfl
 | .node l x y,s=>by
  simp only[Tr.pre,List.foldl_cons,List.foldl_append,szS,szS_fold x,szS_fold y,Tr.size]
  omega
theorem szS_ok: ∀(t:Tr) (s:Nat) (L:List Tr),s+t.size<1000000000000→(∀s',s'=s+t.size→okFold szS (fun s _=>s<1000000000000) s' L)→okFold szS (fun s _=>s<1000000000000) s (t.pre++L)
 | .leaf _,s,L,h,k=>⟨by simp only[Tr.size] at h;omega,k _ rfl⟩
 | .node l x y,s,L,h,k=>by
  simp only[Tr.size] at h k
  simp only[Tr.pre,List.cons_append,List.append_assoc]
  exact⟨by omega,szS_ok x _ _ (by simp only[szS];omega) fun s1 e1=>szS_ok y _ _ (by subst e1;simp only[szS];omega) fun s2 e2=>k _ (by subst e1 e2;simp only[szS];omega)⟩
theorem p_Size{GB:Gh}{t:Tr}(hs:t.size<1000000000000):PF GB Tryz.prog 179 [eU t] (vI (t.size:Nat)):=by
 intro G vs _ hv
 obtain⟨v0,m,rfl,h,hm⟩:=isl_cons.1 hv
 rw[isl_nil] at hm;subst hm
 obtain⟨p,rfl⟩:=eU_ptr h
 refine Fn.intro Tryz.func179 J J Tryz.ntmps179 rfl ?_
 intro C _ _
 refine sR<|sa J J<|zE<|sR<|?_
 refine sc (ch_alloc rfl ?_)
 intro b1
 refine sc (ch_storeN1 J J J (.hd ..) (nb rfl) J J ?_)
 refine zE<|sR<|sm J J<|sy (yd_makeFunc J J) rfl<|?_
 have hok:okFold szS (fun s _=>s<1000000000000) 0 t.pre:=by
  have:=szS_ok t 0 [] (by omega) (fun _ _=>trivial)
  rwa [List.append_nil] at this
 refine sc (ch_callO' (M:=[⟨b1,[.int .i64 0],3,true⟩]) (rest:=[]) J J (List.Perm.refl _) (t_Each (vis_Size b1) h ⟨true,rfl⟩ hok (by omega)) rfl ?_)
 rintro _ B G2 fl _ _ _ ⟨lo,rfl⟩
 rw[szS_fold,Nat.zero_add]
 show St C _ _ [⟨b1,[.int .i64 t.size],3,_⟩] _ _
 refine zE<|sR<|slo1 J J J<|sa J J<|zE<|st_ret<|?_
 exact zD (.tmp rfl .nil) (is_v.2 rfl)
end Go.Sx
end

section
set_option maxRecDepth 100000
namespace Go.Sx
open Go Go.Proofs
def unseen(n:Nat)(f:Nat→Bool):Nat:=((List.range n).filter fun j=>!f j).length
theorem unseen_set{n k:Nat}{f:Nat→Bool}(hk:k<n)(hf:f k=false):unseen n (setF f k)+1=unseen n f:=by
 unfold unseen
 have key: ∀l:List Nat,l.Nodup→((l.filter fun j=>!setF f k j).length+(if k∈l then 1 else 0)=(l.filter fun j=>!f j).length):=fun l=>by
  induction l with
  |nil=>intro _;rfl
  |cons a l ih=>
   intro hn
   obtain⟨h1,h2⟩:=List.nodup_cons.1 hn
   have:=ih h2
   by_cases e:a=k
   ·subst e
    simp only[List.filter_cons,setF_eq,hf,List.mem_cons,true_or,if_true] at this⊢
    rw[if_neg h1] at this
    simp at this⊢
    omega
   ·have e': ¬k=a:=fun h=>e h.symm
    simp only[List.filter_cons,setF_ne e,List.mem_cons,e',false_or] at this⊢
    cases f a<;>simp at this⊢ <;>omega
 have:=key (List.range n) List.nodup_range
 rwa [if_pos (List.mem_range.2 hk)] at this
def rdF(ns:List RN):Nat→Int→RS→Tr×RS
 |0,_,s=>(.leaf false,s)
 |m+1,rt,s=>
  if rt= -1 then(.leaf false,s) else if rt= -2 then(.leaf true,s) else
  match ns[rt.toNat]? with
  |none=>(.leaf false,⟨s.f,s.c,true⟩)
  |some n=>if rt<0∨s.f rt.toNat=true then(.leaf false,⟨s.f,s.c,true⟩) else
   match n.g.ln with
   |none=>(.leaf false,⟨setF s.f rt.toNat,s.c+1,true⟩)
   |some l=>let a:=rdF ns m n.l ⟨setF s.f rt.toNat,s.c+1,s.b⟩;let b:=rdF ns m n.r a.2;(.node l a.1 b.1,b.2)
theorem rdF_ok{ns:List RN}: ∀{m:Nat} {rt:Int} {s:RS},unseen ns.length s.f<m→RR ns rt s (rdF ns m rt s).1 (rdF ns m rt s).2∧(rdF ns m rt s).2.c+unseen ns.length (rdF ns m rt s).2.f=s.c+unseen ns.length s.f
 |0,_,_,h=>absurd h (Nat.not_lt_zero _)
 |m+1,rt,s,h=>by
  rw[rdF]
  split
  ·rename_i e;subst e;exact⟨.leaf false s,rfl⟩
  rename_i e1
  split
  ·rename_i e;subst e;exact⟨.leaf true s,rfl⟩
  rename_i e2
  split
  ·rename_i hn
   have:=List.getElem?_eq_none_iff.1 hn
   exact⟨.bad rt s e1 e2 (by omega),rfl⟩
  rename_i n hn
  have hlt:=(List.getElem?_eq_some_iff.1 hn).1
  split
  ·rename_i hb
   refine⟨.bad rt s e1 e2 ?_,rfl⟩
   rcases hb with hb|hb
   ·exact .inl hb
   ·by_cases h0:rt<0
    ·exact .inl h0
    ·exact .inr (.inr ⟨rt.toNat,by omega,hlt,hb⟩)
  rename_i hb
  obtain⟨k,rfl⟩: ∃k:Nat,rt=k:=⟨rt.toNat,by omega⟩
  rw[Int.toNat_natCast] at hn hlt hb⊢
  have hf:s.f k=false:=by
   cases hh:s.f k with
   |false=>rfl
   |true=>exact absurd (Or.inr hh) hb
  have hu:=unseen_set hlt hf
  split
  ·rename_i hl;exact⟨.line k n s hn hf hl,by simp only;omega⟩
  rename_i l hl
  have h1:=rdF_ok (ns:=ns) (m:=m) (rt:=n.l) (s:=⟨setF s.f k,s.c+1,s.b⟩) (by simp only;omega)
  have hc:=h1.1.mono
  simp only at h1 hc
  have h2:=rdF_ok (ns:=ns) (m:=m) (rt:=n.r) (s:=(rdF ns m n.l ⟨setF s.f k,s.c+1,s.b⟩).2) (by omega)
  exact⟨.node k n l s _ _ _ _ hn hf hl h1.1 h2.1,by have:=h1.2;have:=h2.2;dsimp only;omega⟩
def ofQ(ns:List RN)(rt:Int):Option Tr:=
 let r:=rdF ns (ns.length+1) rt rs0
 if r.2.b=false∧r.2.c=ns.length then some r.1 else none
def ofR:Option Tr→DV
 |some t=> .tp [eU t,vB true]
 |none=> .tp [.v (.pointer none),vB false]
theorem unseen_le(n:Nat)(f:Nat→Bool):unseen n f≤n:=by
 unfold unseen
 refine Nat.le_trans (List.length_filter_le _ _) ?_
 rw[List.length_range];exact Nat.le_refl _
theorem p_OfQ{GB:Gh}{ns:List RN}{rt:Int}(hs: ∀n∈ns,n.g.sm)(hn:ns.length≤65536):PF GB Tryz.prog 55 [eRT rt ns] (ofR (ofQ ns rt)):=by
 have h:=rdF_ok (ns:=ns) (m:=ns.length+1) (rt:=rt) (s:=rs0) (by have:=unseen_le ns.length rs0.f;omega)
 have hu:=unseen_le ns.length rs0.f
 have h0:rs0.c=0:=rfl
 have h2:=p_Of (GB:=GB) hs hn h.1 (by have:=h.2;omega)
 unfold ofD at h2
 unfold ofQ
 simp only
 split
 ·rename_i e;rw[if_pos e] at h2;exact h2
 ·rename_i e;rw[if_neg e] at h2;exact h2
end Go.Sx
end

section
set_option maxRecDepth 100000
namespace Go.Sx
open Go Go.Proofs Go.RowKit Go.Extern.Stop Go.Stop Go.Extern
def cmpF:TypeId→Sem Value:=fun t=>do Go.Extern.Rtype.noPackHeld "Comparable" t;pure (.bool (←typeInfo t).comparable)
def eErr(a:Addr):DV:= .v (.iface 374 (.pointer (some a)))
end Go.Sx
end

section
set_option maxRecDepth 100000
namespace Go.Sx
open Go Go.Proofs
section
variable {GB:Gh} {C:Ctx} {n:Nat} {Q0:Exit→Act→World→Prop} {fr fr':FrX} {own own':OwX} {cf cf':Cf} {vc:List Prop}
def glA(fr:FrX)(cf:Cf):Option Nat:=match opC fr cf with
 |some ⟨_, .load t (.global g),_,_,_,_⟩=>(match lookT tt t with
  |some i=>match i.ag with
   |some none=>some g
   |_=>none
  |none=>none)
 |_=>none
theorem gl[fu:Fu]{g:Nat}{v:Value}(h:glA fr cf=some g)(hg:GB g=some [v])(hgo:goA tt n fu.n fr own cf (.d (.v v)) [] []=⟨vc,fr',own',cf'⟩)(k:CfS Tryz.prog GB C n Q0 fr' own' cf')
  (hv:allP vc:=by first|exact trivial|(simp only[allP];kernel_rfl)|(simp only[allP];omega)):CfS Tryz.prog GB C n Q0 fr own cf:=by
 unfold glA at h
 split at h<;>try (cases h;done)
 rename_i hh
 split at h<;>try (cases h;done)
 rename_i i hT
 split at h<;>cases h
 rename_i ha
 haveI:=ti_agS (tt_ok _ _ hT) ha
 refine us (f:= .d (.v v)) hh (OpR.yd fun ρ G ov a w r=>⟨v,(is_v (G:=G)).2 rfl,?_⟩) hgo hv k
 haveI:GHas G g [v]:=⟨r.gb _ _ hg⟩
 exact yd_load_gh1 (b:=g) (off:=0) rfl ghi rfl
theorem toDX_look{d:Nat}{f:FX}{x:DV}(hl:lookX fr d=some f)(e:toDX f=some x){Φ:Act→World→Prop}(h:SX GB C n (lookX ((d, .d x)::fr)) (lookO own) Φ):SX GB C n (lookX fr) (lookO own) Φ:=lookX_same (g:= .d x) hl (fun _ _ _ k=>toDX_is k e) h
theorem dvE(d:Nat){f:FX}(x:DV){e:Exit}{K:List Kt}(hl:lookX fr d=some f)(e1:toDX f=some x)(k:CfS Tryz.prog GB C n Q0 ((d, .d x)::fr) own (.ex e K)):CfS Tryz.prog GB C n Q0 fr own (.ex e K):=toDX_look hl e1 k
theorem dvC(d:Nat){f:FX}(x:DV){c:Code}{K:List Kt}(hl:lookX fr d=some f)(e1:toDX f=some x)(k:CfS Tryz.prog GB C n Q0 ((d, .d x)::fr) own (.code c K)):CfS Tryz.prog GB C n Q0 fr own (.code c K):=toDX_look hl e1 k
theorem upB_o{nm0 nm:Nat}{B1 B2:Option Bk}:lookO (setO (setO own nm0 B1) nm B2)=upB (upB (lookO own) [(nm0,B1)]) [(nm,B2)]:=by
 funext j;rw[lookO_set];simp only[upB];rw[lookO_set]
theorem lookO_nl{nm0 nm k:Nat}{ty0:TypeId}{cs:List FX}{lo:Bool}(hb:lookO own nm0=some (.o ty0 cs lo))(hk:cs[k]? =some .nl)(hne:nm0≠nm){Φ:Act→World→Prop}{ty s:Nat}(hf:FreshX [nm] none (lookX fr) (lookO own))
  (h:SX GB C n (lookX fr) (lookO (setO (setO own nm0 (some (.o ty0 (cs.set k (.rw nm)) lo))) nm (some (.b ty s [] true)))) Φ):SX GB C n (lookX fr) (lookO own) Φ:=by
 refine⟨fun ρ G ov a w r=>?_⟩
 obtain⟨f1,f2⟩:=hf nm List.mem_cons_self
 rw[upB_o] at h
 refine h.run (fun k=>if k=nm then⟨none,0,0⟩ else ρ k) G ov a w ⟨r.gb,r.h,r.sz,r.df,fun k f e=>?_,fun m B e=>?_,fun m m' B B' e e' hne=>?_⟩
 ·obtain⟨v,h1,h2⟩:=r.fx k f e
  exact⟨v,h1,h2.ren fun m hm=>neN _ fun hc=>f1 k f (by simp) e (by rw[hm,hc])⟩
 ·simp only[upB] at e
  by_cases hm:m=nm
  ·subst hm;simp only[if_true] at e;cases e
   exact⟨[],⟨[],by simp only[if_true];exact .inl ⟨rfl,rfl,rfl⟩, .nil,by simp,fun _ o ho=>by cases ho⟩,fun o ho=>by cases ho⟩
  ·simp only[hm,if_false] at e
   by_cases hm0:m=nm0
   ·subst hm0;simp only[if_true] at e;cases e
    obtain⟨os,h1,h2⟩:=r.bx m _ hb
    have h1':BkIs (fun k=>if k=nm then⟨none,0,0⟩ else ρ k) G m (.o ty0 cs lo) os:=h1.ren (if_neg hm) fun q hq=>neN _ fun hc=>f2 m _ hm hb (by rw[←hc];exact hq)
    obtain⟨b,ms,k1,k2,k3⟩:=h1'
    refine⟨os,⟨b,ms,k1,k2,?_⟩,h2⟩
    obtain⟨y,e1,e2⟩:=k3.get hk
    have:=k3.set (f:= .rw nm) (y:=y) k (by show y=_;simp only[if_true];exact e2)
    rwa [show ms.set k y=ms by apply List.ext_getElem?;intro j;rw[List.getElem?_set];split<;>(try rfl);rename_i hj;subst hj;split<;>simp_all] at this
   ·simp only[hm0,if_false] at e
    obtain⟨os,h1,h2⟩:=r.bx m B e
    exact⟨os,h1.ren (if_neg hm) fun q hq=>neN _ fun hc=>f2 m B hm e (by rw[←hc];exact hq),h2⟩
 ·intro b hbb hb'
  have key: ∀q B,upB (upB (lookO own) [(nm0,some (.o ty0 (cs.set k (.rw nm)) lo))]) [(nm,some (.b ty s [] true))] q=some B→q≠nm→ ∃B0,lookO own q=some B0:=fun q B eq hq=>by
   simp only[upB,hq,if_false] at eq
   by_cases hq0:q=nm0
   ·subst hq0;exact⟨_,hb⟩
   ·simp only[hq0,if_false] at eq;exact⟨_,eq⟩
  by_cases hm:m=nm
  ·simp[hm] at hbb
  ·by_cases hm':m'=nm
   ·simp[hm'] at hb'
   ·obtain⟨B0,g0⟩:=key m B e hm
    obtain⟨B1,g1⟩:=key m' B' e' hm'
    simp only[hm,hm',if_false] at hbb hb'
    exact r.dj m m' B0 B1 g0 g1 hne b hbb hb'
theorem nro(nm0 k nm ty s:Nat){ty0:TypeId}{cs:List FX}{lo:Bool}{own1:OwX}{c:Code}{K:List Kt}(hb:lookO own nm0=some (.o ty0 cs lo))(hk:cs[k]? =some .nl)(hf:freshL [nm] none fr own=true)(hne:Nat.beq nm0 nm=false)
  (ho:setO (setO own nm0 (some (.o ty0 (cs.set k (.rw nm)) lo))) nm (some (.b ty s [] true))=own1)(h:CfS Tryz.prog GB C n Q0 fr own1 (.code c K)):CfS Tryz.prog GB C n Q0 fr own (.code c K):=by
 subst ho
 exact lookO_nl hb hk (fun e=>by subst e;rw[Nat.beq_refl] at hne;cases hne) (freshL_ok hf) h
theorem isXs_unapp{ρ:NE}{G:Gh}: ∀{a b:List FX} {m:List Value},IsXs ρ G (a++b) m→ ∃m1 m2,m=m1++m2∧IsXs ρ G a m1∧IsXs ρ G b m2
 |[],b,m,h=>⟨[],m,rfl,rfl,h⟩
 |f::t,b,m,⟨y,n,e,h1,h2⟩=>by
  obtain⟨m1,m2,rfl,k1,k2⟩:=isXs_unapp h2
  exact⟨y::m1,m2,e,⟨y,m1,rfl,h1,k1⟩,k2⟩
def bzA(fr:FrX)(cf:Cf):Option (Nat×List FX):=match opC fr cf with
 |some ⟨some d, .build t ⟨[]⟩,_,_,_,_⟩=>match lookT tt t with
  |some ⟨.st _,_,some zx,_⟩=>some (d,zx)
  |_=>none
 |_=>none
end
end Go.Sx
end

section
set_option maxRecDepth 100000
namespace Go.Sx
open Go Go.Proofs
structure EG (GB:Gh) (ai al ae:Addr):Prop where
 ErrInvalid:GB 0=some [.iface 374 (.pointer (some ai))]
 ErrLimit:GB 2=some [.iface 374 (.pointer (some al))]
structure EGE (GB:Gh) (ai al ae:Addr):Prop extends EG GB ai al ae where
 ErrEmpty:GB 1=some [.iface 374 (.pointer (some ae))]
structure Tr.gd (t:Tr):Prop where
 lb:t.all LB
 ok:t.all LnQ.ok
theorem Tr.restrict_size: ∀(t:Tr) (c:CellQ),(t.restrict c).size≤t.size
 | .leaf _,_=>Nat.le_refl _
 | .node l x y,c=>by
  rw[Tr.restrict]
  have hx:=fun c=>x.restrict_size c
  have hy:=fun c=>y.restrict_size c
  split
  ·have:=hx c;simp only[Tr.size];omega
  ·split
   ·have:=hy c;simp only[Tr.size];omega
   ·have h1:=hx (clipC c l)
    have h2:=hy (clipC c l.rev)
    rcases Tr.joinQ_cases l (x.restrict (clipC c l)) (y.restrict (clipC c l.rev)) with⟨h,_⟩|⟨h,_⟩<;>rw[h]<;>(try simp only[Tr.size])<;>omega
theorem Tr.compl_size: ∀t:Tr,t.compl.size=t.size
 | .leaf _=>rfl
 | .node l x y=>by simp only[Tr.compl,Tr.size,x.compl_size,y.compl_size]
theorem Tr.compl_all(p:LnQ→Prop): ∀t:Tr,t.all p→t.compl.all p
 | .leaf _,h=>h
 | .node l x y,⟨h0,h1,h2⟩=>⟨h0,x.compl_all p h1,y.compl_all p h2⟩
theorem Tr.compl_depth: ∀t:Tr,t.compl.depth=t.depth
 | .leaf _=>rfl
 | .node l x y=>by simp only[Tr.compl,Tr.depth,x.compl_depth,y.compl_depth]
theorem Tr.chooseQ_all(p:LnQ→Prop)(op:Int)(b:Bool)(t:Tr)(c:CellQ)(h:t.all p):(t.chooseQ op b c).all p:=by
 have:=t.restrict_all p c h
 unfold chooseQ
 split
 ·split
  ·trivial
  ·exact this
 ·split
  ·trivial
  ·split
   ·exact(t.restrict c).compl_all p this
   ·exact this
theorem Tr.chooseQ_size(op:Int)(b:Bool)(t:Tr)(c:CellQ):(t.chooseQ op b c).size≤t.size:=by
 have:=t.restrict_size c
 unfold chooseQ
 split
 ·split
  ·exact Nat.zero_le _
  ·exact this
 ·split
  ·exact Nat.zero_le _
  ·split
   ·rw[(t.restrict c).compl_size];exact this
   ·exact this
theorem Tr.mergeQ_all(p:LnQ→Prop)(op:Int){u:Tr}(hu:u.all p): ∀(t:Tr) (c:CellQ),t.all p→(t.mergeQ op u c).all p
 | .leaf b,c,_=>u.chooseQ_all p op b c hu
 | .node l x y,c,⟨h0,h1,h2⟩=>by
  rw[Tr.mergeQ]
  split
  ·exact Tr.mergeQ_all p op hu x c h1
  ·split
   ·exact Tr.mergeQ_all p op hu y c h2
   ·rcases Tr.joinQ_cases l (x.mergeQ op u (clipC c l)) (y.mergeQ op u (clipC c l.rev)) with⟨h,_⟩|⟨h,_⟩
    ·rw[h];exact Tr.mergeQ_all p op hu x _ h1
    ·rw[h];exact⟨h0,Tr.mergeQ_all p op hu x _ h1,Tr.mergeQ_all p op hu y _ h2⟩
theorem Tr.mergeQ_size(op:Int)(u:Tr): ∀(t:Tr) (c:CellQ),(t.mergeQ op u c).size+1≤(t.size+1)*(u.size+1)
 | .leaf b,c=>by
  have:=u.chooseQ_size op b c
  show(u.chooseQ op b c).size+1≤(0+1)*(u.size+1)
  omega
 | .node l x y,c=>by
  have hx:=fun c=>Tr.mergeQ_size op u x c
  have hy:=fun c=>Tr.mergeQ_size op u y c
  have e:((Tr.node l x y).size+1)*(u.size+1)=(x.size+1)*(u.size+1)+(y.size+1)*(u.size+1):=by
   rw[←Nat.add_mul];congr 1;simp only[Tr.size];omega
  rw[e,Tr.mergeQ]
  split
  ·have:=hx c;omega
  ·split
   ·have:=hy c;omega
   ·have h1:=hx (clipC c l)
    have h2:=hy (clipC c l.rev)
    rcases Tr.joinQ_cases l (x.mergeQ op u (clipC c l)) (y.mergeQ op u (clipC c l.rev)) with⟨h,_⟩|⟨h,_⟩<;>rw[h]<;>(try simp only[Tr.size])<;>omega
theorem Tr.depth_size: ∀t:Tr,t.depth≤t.size
 | .leaf _=>Nat.le_refl _
 | .node l x y=>by
  have h1:=x.depth_size
  have h2:=y.depth_size
  simp only[Tr.depth,Tr.size]
  omega
def limQ(op:Int)(a b:Tr):Option Tr:=if 1024<a.depth+b.depth then none else if 65536<(a.mergeQ op b []).size then none else some (a.mergeQ op b [])
def limD(al:Addr):Option Tr→DV
 |some t=> .tp [eU t, .v .nilIface]
 |none=> .tp [.v (.pointer none),eErr al]
theorem p_limited{GB:Gh}{ai al ae:Addr}(hE:EG GB ai al ae){op:Int}{a b:Tr}(ha:a.gd)(hb:b.gd)(hsa:a.size≤65536)(hsb:b.size≤65536):PF GB Tryz.prog 110 [vI op,eU a,eU b] (limD al (limQ op a b)):=by
 have hda:=a.depth_size
 have hdb:=b.depth_size
 have hms:=Tr.mergeQ_size op b a []
 have hmm:(a.size+1)*(b.size+1)≤65537*65537:=Nat.mul_le_mul (by omega) (by omega)
 refine fn Tryz.func110 J J Tryz.ntmps110 J J (fun C=>?_)
 refine cl rfl (p_Depth (t:=a) (by omega)) rfl<|cl rfl (p_Depth (t:=b) (by omega)) rfl<|?_
 refine br J J J (fun hc14=>?_) (fun hc14=>?_)
 ·
  refine gl rfl hE.ErrLimit rfl<|?_
  exact rz rfl (by unfold limQ;rw[if_pos (by omega)];rfl)
 ·
  refine cl rfl (p_Merge (op:=op) (t:=a) (u:=b) (c:=[]) hb.lb hb.ok ha.lb ha.ok (fun s h=>by cases h) (by simp only[List.length_nil];omega)) rfl<|cl rfl (p_Size (t:=a.mergeQ op b []) (by omega)) rfl<|?_
  refine br J J J (fun hc22=>?_) (fun hc22=>?_)
  ·
   refine gl rfl hE.ErrLimit rfl<|?_
   exact rz rfl (by unfold limQ;rw[if_neg (by omega),if_pos (by omega)];rfl)
  ·
   exact rz rfl (by unfold limQ;rw[if_neg (by omega),if_neg (by omega)];rfl)
theorem p_limS{GB:Gh}{ai al ae:Addr}(hE:EG GB ai al ae){op:Int}{a b t:Tr}(ha:a.gd)(hb:b.gd)(hsa:a.size≤65536)(hsb:b.size≤65536)(h:limQ op a b=some t):PF GB Tryz.prog 110 [vI op,eU a,eU b] (.tp [eU t, .v .nilIface]):=by
 have:=p_limited hE (op:=op) ha hb hsa hsb;rw[h] at this;exact this
theorem p_TwoS{GB:Gh}{ai al ae:Addr}(hE:EG GB ai al ae){op:Int}{a b t:Tr}(ha:a.gd)(hb:b.gd)(hsa:a.size≤65536)(hsb:b.size≤65536)(h:limQ op a b=some t):PF GB Tryz.prog 57 [vI op,eU a,eU b] (.tp [eU t, .v .nilIface]):=by
 refine fn Tryz.func57 J J Tryz.ntmps57 J J (fun C=>?_)
 refine cl rfl (p_limS hE ha hb hsa hsb h) rfl<|?_
 exact rz J J
def allQ(op:Int):Tr→List Tr→Option Tr
 |t,[]=>some t
 |t,u::us=>match limQ op t u with
  |none=>none
  |some r=>allQ op r us
theorem restrict_gd{t:Tr}(h:t.gd)(c:CellQ):(t.restrict c).gd:=⟨t.restrict_all LB c h.lb,t.restrict_all LnQ.ok c h.ok⟩
theorem p_OfS{GB:Gh}{ns:List RN}{rt:Int}{t:Tr}(hs: ∀n∈ns,n.g.sm)(hn:ns.length≤65536)(h:ofQ ns rt=some t):PF GB Tryz.prog 55 [eRT rt ns] (.tp [eU t,vB true]):=by
 have:=p_OfQ (GB:=GB) (rt:=rt) hs hn;rw[h] at this;exact this
def trZ:DV:= .ag [vI 0, .sl []]
def resD:Tr ⊕ Addr→DV
 | .inl t=> .tp [eA t, .v .nilIface]
 | .inr e=> .tp [trZ,eErr e]
def compX(ai:Addr):Option Tr→Tr ⊕ Addr
 |some t=> .inl t.compl
 |none=> .inr ai
def limX(al:Addr):Option Tr→Tr ⊕ Addr
 |some t=> .inl t
 |none=> .inr al
def mergeX(ai al:Addr)(op:Int):Option Tr→Option Tr→Tr ⊕ Addr
 |some a,some b=>if 1≤op∧op≤4 then limX al (limQ op a b) else .inr ai
 |_,_=> .inr ai
theorem compl_gd{t:Tr}(h:t.gd):t.compl.gd:=⟨t.compl_all LB h.lb,t.compl_all LnQ.ok h.ok⟩
abbrev TIn:=Int×List RN
def TIn.d(x:TIn):DV:=eRT x.1 x.2
def TIn.q(x:TIn):Option Tr:=ofQ x.2 x.1
def ofP:Option Tr→DV
 |some t=>eU t
 |none=> .v (.pointer none)
def goodK(op:Int)(ts:List TIn):Bool:=decide (1≤op∧op≤4)&&ts.all fun x=>x.q.isSome
def allX(ai al ae:Addr)(op:Int)(ts:List TIn):Tr ⊕ Addr:=
 if goodK op ts then(match ts.filterMap TIn.q with
  |[]=> .inr ae
  |a::us=>if 1024<a.depth then .inr al else limX al (allQ op (a.restrict []) us)) else .inr ai
def ofPs(ts:List TIn):List DV:=ts.map fun x=>ofP x.q
structure TIn.ok (x:TIn):Prop where
 s: ∀n∈x.2,n.g.sm
 n:x.2.length≤65536
end Go.Sx
end

section
set_option maxRecDepth 100000
namespace Go.Sx
open Go Go.Proofs
def Tr.val:Tr→PtQ→Bool
 | .leaf b,_=>b
 | .node l x y,p=>if 0<l.value p then x.val p else y.val p
def Tr.lns:Tr→List LnQ
 | .leaf _=>[]
 | .node l x y=>l::(x.lns++y.lns)
theorem lns_all{P:LnQ→Prop}: ∀{t:Tr},t.all P↔ ∀l∈t.lns,P l
 | .leaf _=>⟨fun _ l hl=>(by cases hl),fun _=>trivial⟩
 | .node l x y=>by
  show(P l∧x.all P∧y.all P)↔ ∀m∈l::(x.lns++y.lns),P m
  rw[lns_all (t:=x),lns_all (t:=y)]
  constructor
  ·rintro ⟨h0,h1,h2⟩ m hm
   rcases List.mem_cons.1 hm with rfl|hm
   ·exact h0
   ·rcases List.mem_append.1 hm with hm|hm
    ·exact h1 m hm
    ·exact h2 m hm
  ·intro h
   exact⟨h l List.mem_cons_self,fun m hm=>h m (List.mem_cons_of_mem _ (List.mem_append_left _ hm)),fun m hm=>h m (List.mem_cons_of_mem _ (List.mem_append_right _ hm))⟩
theorem lns_ok{t:Tr}(h:t.all LnQ.ok): ∀l∈t.lns,l.ok:=lns_all.1 h
def Off(L:List LnQ)(p:PtQ):Prop:= ∀l∈L,l.value p≠0
theorem Off.sub{L M:List LnQ}{p:PtQ}(h:Off L p)(k: ∀l∈M,l∈L):Off M p:=fun l hl=>h l (k l hl)
theorem Off.l{l:LnQ}{x y:Tr}{p:PtQ}(h:Off (Tr.node l x y).lns p):l.value p≠0:=h l List.mem_cons_self
theorem Off.x{l:LnQ}{x y:Tr}{p:PtQ}(h:Off (Tr.node l x y).lns p):Off x.lns p:=h.sub fun m hm=>List.mem_cons_of_mem _ (List.mem_append_left _ hm)
theorem Off.y{l:LnQ}{x y:Tr}{p:PtQ}(h:Off (Tr.node l x y).lns p):Off y.lns p:=h.sub fun m hm=>List.mem_cons_of_mem _ (List.mem_append_right _ hm)
theorem Off.app{L M:List LnQ}{p:PtQ}:Off (L++M) p↔Off L p∧Off M p:=by
 unfold Off
 constructor
 ·intro h;exact⟨fun l hl=>h l (List.mem_append_left _ hl),fun l hl=>h l (List.mem_append_right _ hl)⟩
 ·rintro ⟨h1,h2⟩ l hl;rcases List.mem_append.1 hl with h|h;exact h1 l h;exact h2 l h
def opB(op:Int)(a b:Bool):Bool:=if op=1 then a||b else if op=2 then a&&b else if op=3 then a&&!b else a !=b
theorem Tr.val_join(l:LnQ)(X Y:Tr)(p:PtQ):(Tr.joinQ l X Y).val p=(Tr.node l X Y).val p:=by
 unfold Tr.joinQ
 split
 ·rename_i h
  cases X<;>cases Y<;>simp[Tr.isLeaf,Tr.code] at h
  subst h
  simp[Tr.val]
 ·rfl
theorem Tr.val_pos{l:LnQ}{x y:Tr}{p:PtQ}(h:0<l.value p):(Tr.node l x y).val p=x.val p:=by rw[Tr.val,if_pos h]
theorem Tr.val_neg{l:LnQ}{x y:Tr}{p:PtQ}(h: ¬0<l.value p):(Tr.node l x y).val p=y.val p:=by rw[Tr.val,if_neg h]
theorem Tr.val_compl: ∀(t:Tr) (p:PtQ),t.compl.val p=!t.val p
 | .leaf b,p=>rfl
 | .node l x y,p=>by
  rw[Tr.compl]
  by_cases h:0<l.value p
  ·rw[Tr.val_pos h,Tr.val_pos h,x.val_compl]
  ·rw[Tr.val_neg h,Tr.val_neg h,y.val_compl]
theorem side_pos{c:CellQ}{l:LnQ}(hc:GoodC c)(hl:l.ok)(hb:clipB c l.rev=false){p:PtQ}(hp:InD c p)(h0:l.value p≠0):0<l.value p:=by
 by_cases h:0<l.value p
 ·exact h
 ·exfalso
  have:clipB c l.rev=true:=(clip_iff hc hl.rev).2 ⟨p,hp,by rw[val_rev];grind⟩
  rw[hb] at this;cases this
theorem side_neg{c:CellQ}{l:LnQ}(hc:GoodC c)(hl:l.ok)(hb:clipB c l=false){p:PtQ}(hp:InD c p): ¬0<l.value p:=fun h=>by
 have:clipB c l=true:=(clip_iff hc hl).2 ⟨p,hp,h⟩
 rw[hb] at this;cases this
theorem Tr.val_restrict: ∀(t:Tr) (c:CellQ) (p:PtQ),t.all LnQ.ok→GoodC c→InD c p→Off t.lns p→(t.restrict c).val p=t.val p
 | .leaf _,_,_,_,_,_,_=>rfl
 | .node l x y,c,p,⟨hl,hx,hy⟩,hc,hp,ho=>by
  cases hb:clipB c l.rev with
  |false=>rw[Tr.restrict_A _ _ hb,x.val_restrict c p hx hc hp ho.x,Tr.val_pos (side_pos hc hl hb hp ho.l)]
  |true=>
   cases hb2:clipB c l with
   |false=>rw[Tr.restrict_B _ _ hb hb2,y.val_restrict c p hy hc hp ho.y,Tr.val_neg (side_neg hc hl hb2 hp)]
   |true=>
    rw[Tr.restrict_C _ _ hb hb2,Tr.val_join]
    obtain⟨g1,i1⟩:=clip_good hc hl hb2
    obtain⟨g2,i2⟩:=clip_good hc hl.rev hb
    by_cases h:0<l.value p
    ·rw[Tr.val_pos h,Tr.val_pos h,x.val_restrict _ p hx g1 ((i1 p).2 ⟨hp,h⟩) ho.x]
    ·rw[Tr.val_neg h,Tr.val_neg h,y.val_restrict _ p hy g2 ((i2 p).2 ⟨hp,by rw[val_rev];have:=ho.l;grind⟩) ho.y]
theorem Tr.val_choose(op:Int)(b:Bool)(t:Tr)(c:CellQ)(p:PtQ)(ht:t.all LnQ.ok)(hc:GoodC c)(hp:InD c p)(ho:Off t.lns p):(t.chooseQ op b c).val p=opB op b (t.val p):=by
 have hr:=t.val_restrict c p ht hc hp ho
 unfold Tr.chooseQ opB
 by_cases h1:op=1
 ·subst h1;cases b<;>simp[hr,Tr.val]
 ·by_cases h2:op=2
  ·subst h2;cases b<;>simp[hr,Tr.val]
  ·by_cases h3:op=3
   ·subst h3;cases b<;>simp[hr,Tr.val,Tr.val_compl]
   ·cases b<;>simp[h1,h2,h3,hr,Tr.val_compl]
theorem Tr.val_merge(op:Int)(u:Tr)(hu:u.all LnQ.ok): ∀(t:Tr) (c:CellQ) (p:PtQ),t.all LnQ.ok→GoodC c→InD c p→Off t.lns p→Off u.lns p→(t.mergeQ op u c).val p=opB op (t.val p) (u.val p)
 | .leaf b,c,p,_,hc,hp,_,ho=>u.val_choose op b c p hu hc hp ho
 | .node l x y,c,p,⟨hl,hx,hy⟩,hc,hp,ho,hou=>by
  rw[Tr.mergeQ]
  cases hb:clipB c l.rev with
  |false=>
   rw[if_pos (show(!false)=true from rfl),Tr.val_merge op u hu x c p hx hc hp ho.x hou,Tr.val_pos (side_pos hc hl hb hp ho.l)]
  |true=>
   rw[if_neg (by decide)]
   cases hb2:clipB c l with
   |false=>rw[if_pos (show(!false)=true from rfl),Tr.val_merge op u hu y c p hy hc hp ho.y hou,Tr.val_neg (side_neg hc hl hb2 hp)]
   |true=>
    rw[if_neg (by decide),Tr.val_join]
    obtain⟨g1,i1⟩:=clip_good hc hl hb2
    obtain⟨g2,i2⟩:=clip_good hc hl.rev hb
    by_cases h:0<l.value p
    ·rw[Tr.val_pos h,Tr.val_pos h,Tr.val_merge op u hu x _ p hx g1 ((i1 p).2 ⟨hp,h⟩) ho.x hou]
    ·rw[Tr.val_neg h,Tr.val_neg h,Tr.val_merge op u hu y _ p hy g2 ((i2 p).2 ⟨hp,by rw[val_rev];have:=ho.l;grind⟩) ho.y hou]
theorem off_open: ∀(L:List LnQ) (u:PtQ) (p:PtQ),Off L p→ ∃e:Rat,0<e∧ ∀d,0≤d→d≤e→Off L (movQ p u d)
 |[],u,p,_=>⟨1,by decide,fun d _ _ l hl=>by cases hl⟩
 |l::L,u,p,h=>by
  obtain⟨e,he,hm⟩:=off_open L u p (h.sub fun m hm=>List.mem_cons_of_mem _ hm)
  have h0:=h l List.mem_cons_self
  have key: ∃f:Rat,0<f∧ ∀d,0≤d→d≤f→l.value (movQ p u d)≠0:=by
   by_cases hk:l.nor.dot u=0
   ·exact⟨1,by decide,fun d _ _=>by rw[val_mov,hk];grind⟩
   ·generalize hA:l.value p=A at*
    generalize hB:l.nor.dot u=B at*
    rcases rat_tri A with h|h|h
    ·exact absurd h h0
    ·rcases rat_tri B with k|k|k
     ·exact absurd k hk
     ·exact⟨1,by decide,fun d hd _=>by rw[val_mov,hA,hB];have:=rat_mul_nonneg hd (Rat.le_of_lt k);grind⟩
     ·refine⟨A/(-B)/2,?_,fun d hd h2=>?_⟩
      ·have:0<A/(-B):=by
        have e1:A/(-B)*(-B)=A:=by grind
        exact(rat_mul_pos_iff (k:= -B) (by grind)).1 (by rw[e1];exact h)
       grind
      ·rw[val_mov,hA,hB]
       have e1:A/(-B)*(-B)=A:=by grind
       generalize A/(-B)=q at*
       have h4:=rat_mul_nonneg (a:=q/2-d) (b:= -B) (by grind) (by grind)
       grind
    ·rcases rat_tri B with k|k|k
     ·exact absurd k hk
     ·refine⟨(-A)/B/2,?_,fun d hd h2=>?_⟩
      ·have:0<(-A)/B:=by
        have e1:(-A)/B*B= -A:=by grind
        exact(rat_mul_pos_iff (k:=B) k).1 (by rw[e1];grind)
       grind
      ·rw[val_mov,hA,hB]
       have e1:(-A)/B*B= -A:=by grind
       generalize (-A)/B=q at*
       have h4:=rat_mul_nonneg (a:=q/2-d) (b:=B) (by grind) (by grind)
       grind
     ·exact⟨1,by decide,fun d hd _=>by rw[val_mov,hA,hB];have:=rat_mul_nonneg hd (b:= -B) (by grind);grind⟩
  obtain⟨f,hf,hk⟩:=key
  refine⟨if e≤f then e else f,by split<;>assumption,fun d hd hde m hm'=>?_⟩
  have h1:d≤e∧d≤f:=by split at hde<;>grind
  rcases List.mem_cons.1 hm' with rfl|hm'
  ·exact hk d hd h1.2
  ·exact hm d hd h1.1 m hm'
theorem off_near{c:CellQ}{p:PtQ}(hp:InD c p): ∀(L:List LnQ),(∀l∈L,l.ok)→ ∃q,InD c q∧Off L q
 |[],_=>⟨p,hp,fun l hl=>by cases hl⟩
 |l::L,h=>by
  obtain⟨q,hq,ho⟩:=off_near hp L fun m hm=>h m (List.mem_cons_of_mem _ hm)
  by_cases h0:l.value q=0
  ·have hn:=nn_pos (h l List.mem_cons_self).ne
   obtain⟨e,he,hm⟩:=hq.open l.nor
   obtain⟨f,hf,hk⟩:=off_open L l.nor q ho
   refine⟨movQ q l.nor (if e≤f then e else f),hm _ (by split<;>grind) (by split<;>grind),fun m hm'=>?_⟩
   rcases List.mem_cons.1 hm' with rfl|hm'
   ·rw[val_mov,h0]
    have:=rat_mul_pos (a:=if e≤f then e else f) (b:=m.nor.dot m.nor) (by split<;>assumption) hn
    grind
   ·exact hk _ (by split<;>grind) (by split<;>grind) m hm'
  ·exact⟨q,hq,fun m hm=>by rcases List.mem_cons.1 hm with rfl|hm;exact h0;exact ho m hm⟩
theorem off_ex{c:CellQ}(hc:GoodC c)(L:List LnQ)(h: ∀l∈L,l.ok): ∃q,InD c q∧Off L q:=by
 obtain⟨p,hp⟩:=hc.ne
 exact off_near hp L h
def Tr.Red:Tr→CellQ→Prop
 | .leaf _,_=>True
 | .node l x y,c=>clipB c l=true∧clipB c l.rev=true∧x.Red (clipC c l)∧y.Red (clipC c l.rev)∧ ¬(x.isLeaf=true∧y.isLeaf=true∧x.code=y.code)
theorem Tr.red_leaf{t:Tr}(h:t.isLeaf=true)(c:CellQ):t.Red c:=by
 cases t with
 |leaf b=>trivial
 |node l x y=>cases h
theorem Tr.join_red{l:LnQ}{x y:Tr}{c:CellQ}(h1:clipB c l=true)(h2:clipB c l.rev=true)(hx:x.Red (clipC c l))(hy:y.Red (clipC c l.rev)):(Tr.joinQ l x y).Red c:=by
 rcases Tr.joinQ_cases l x y with⟨e,h⟩|⟨e,h⟩
 ·rw[e];exact Tr.red_leaf h c
 ·rw[e];exact⟨h1,h2,hx,hy,h⟩
theorem Tr.restrict_red: ∀(t:Tr) (c:CellQ),(t.restrict c).Red c
 | .leaf _,_=>trivial
 | .node l x y,c=>by
  cases hb:clipB c l.rev with
  |false=>rw[Tr.restrict_A _ _ hb];exact x.restrict_red c
  |true=>
   cases hb2:clipB c l with
   |false=>rw[Tr.restrict_B _ _ hb hb2];exact y.restrict_red c
   |true=>rw[Tr.restrict_C _ _ hb hb2];exact Tr.join_red hb2 hb (x.restrict_red _) (y.restrict_red _)
theorem Tr.compl_leaf{t:Tr}:t.compl.isLeaf=t.isLeaf:=by cases t<;>rfl
theorem Tr.compl_code{t:Tr}(h:t.isLeaf=true):t.compl.code=!t.code:=by
 cases t with
 |leaf b=>rfl
 |node l x y=>cases h
theorem Tr.compl_red: ∀{t:Tr} {c:CellQ},t.Red c→t.compl.Red c
 | .leaf _,_,_=>trivial
 | .node l x y,c,⟨h1,h2,h3,h4,h5⟩=>by
  refine⟨h1,h2,Tr.compl_red h3,Tr.compl_red h4,fun⟨a,b,e⟩=>?_⟩
  rw[Tr.compl_leaf] at a b
  rw[Tr.compl_code a,Tr.compl_code b] at e
  exact h5 ⟨a,b,by simpa using e⟩
theorem Tr.choose_red(op:Int)(b:Bool)(t:Tr)(c:CellQ):(t.chooseQ op b c).Red c:=by
 have h:=t.restrict_red c
 unfold Tr.chooseQ
 split
 ·split
  ·trivial
  ·exact h
 ·split
  ·trivial
  ·split
   ·exact Tr.compl_red h
   ·exact h
theorem Tr.merge_red(op:Int)(u:Tr): ∀(t:Tr) (c:CellQ),(t.mergeQ op u c).Red c
 | .leaf b,c=>u.choose_red op b c
 | .node l x y,c=>by
  rw[Tr.mergeQ]
  cases hb:clipB c l.rev with
  |false=>rw[if_pos (show(!false)=true from rfl)];exact Tr.merge_red op u x c
  |true=>
   rw[if_neg (by decide)]
   cases hb2:clipB c l with
   |false=>rw[if_pos (show(!false)=true from rfl)];exact Tr.merge_red op u y c
   |true=>rw[if_neg (by decide)];exact Tr.join_red hb2 hb (Tr.merge_red op u x _) (Tr.merge_red op u y _)
theorem Tr.red_const{L:List LnQ}(hL: ∀l∈L,l.ok){v:Bool}: ∀{t:Tr} {c:CellQ},t.Red c→t.all LnQ.ok→GoodC c→(∀p,InD c p→Off L p→t.val p=v)→t= .leaf v
 | .leaf b,c,_,_,hc,h=>by
  obtain⟨q,h1,h2⟩:=off_ex hc L hL
  have:=h q h1 h2
  rw[Tr.val] at this;rw[this]
 | .node l x y,c,⟨h1,h2,h3,h4,h5⟩,⟨hl,hx,hy⟩,hc,h=>by
  obtain⟨g1,i1⟩:=clip_good hc hl h1
  obtain⟨g2,i2⟩:=clip_good hc hl.rev h2
  have ex:=Tr.red_const hL (v:=v) h3 hx g1 (fun p hp ho=>by
   have k:=(i1 p).1 hp
   rw[←h p k.1 ho,Tr.val_pos k.2])
  have ey:=Tr.red_const hL (v:=v) h4 hy g2 (fun p hp ho=>by
   have k:=(i2 p).1 hp
   rw[val_rev] at k
   rw[←h p k.1 ho,Tr.val_neg (by have:=k.2;grind)])
  subst ex;subst ey
  exact absurd ⟨rfl,rfl,rfl⟩ h5
theorem inD_nil(p:PtQ):InD [] p:=fun s hs=>(by cases hs)
theorem Tr.merge_leaf{op:Int}{a b:Tr}(ha:a.all LnQ.ok)(hb:b.all LnQ.ok){L:List LnQ}(hL: ∀l∈L,l.ok)(hLa: ∀l∈a.lns,l∈L)(hLb: ∀l∈b.lns,l∈L){v:Bool}:a.mergeQ op b []= .leaf v↔ ∀p,Off L p→opB op (a.val p) (b.val p)=v:=by
 constructor
 ·intro h p hp
  rw[←Tr.val_merge op b hb a [] p ha GoodC.nil (inD_nil p) (hp.sub hLa) (hp.sub hLb),h];rfl
 ·intro h
  refine Tr.red_const hL (Tr.merge_red op b a []) (Tr.mergeQ_all LnQ.ok op hb a [] ha) GoodC.nil (fun p _ hp=>?_)
  rw[Tr.val_merge op b hb a [] p ha GoodC.nil (inD_nil p) (hp.sub hLa) (hp.sub hLb)]
  exact h p hp
theorem Tr.restrict_leaf{a:Tr}(ha:a.all LnQ.ok){L:List LnQ}(hL: ∀l∈L,l.ok)(hLa: ∀l∈a.lns,l∈L){v:Bool}:a.restrict []= .leaf v↔ ∀p,Off L p→a.val p=v:=by
 constructor
 ·intro h p hp
  rw[←Tr.val_restrict a [] p ha GoodC.nil (inD_nil p) (hp.sub hLa),h];rfl
 ·intro h
  refine Tr.red_const hL (Tr.restrict_red a []) (Tr.restrict_all LnQ.ok a [] ha) GoodC.nil (fun p _ hp=>?_)
  rw[Tr.val_restrict a [] p ha GoodC.nil (inD_nil p) (hp.sub hLa)]
  exact h p hp
end Go.Sx
end

section
set_option maxRecDepth 100000
namespace Go.Sx
open Go Go.Proofs
def LnQ.same(l m:LnQ):Prop:=m=l∨m=l.rev
instance (l m:LnQ):Decidable (l.same m):=inferInstanceAs (Decidable (_∨_))
def Tr.cnt(l:LnQ):Tr→Nat
 | .leaf _=>0
 | .node m x y=>(if l.same m then 1 else 0)+(x.cnt l+y.cnt l)
theorem val_same{l m:LnQ}(h:l.same m){p:PtQ}(hp:l.value p=0):m.value p=0:=by
 rcases h with rfl|rfl
 ·exact hp
 ·rw[val_rev,hp];rfl
def Meets(l:LnQ)(c:CellQ):Prop:= ∃p,InD c p∧l.value p=0
theorem Tr.cnt_zero{l:LnQ}: ∀{t:Tr} {c:CellQ},t.Red c→t.all LnQ.ok→GoodC c→ ¬Meets l c→t.cnt l=0
 | .leaf _,_,_,_,_,_=>rfl
 | .node m x y,c,⟨h1,h2,h3,h4,_⟩,⟨hm,hx,hy⟩,hc,hn=>by
  obtain⟨g1,i1⟩:=clip_good hc hm h1
  obtain⟨g2,i2⟩:=clip_good hc hm.rev h2
  have e1:=Tr.cnt_zero (l:=l) h3 hx g1 (fun⟨p,hp,h0⟩=>hn ⟨p,((i1 p).1 hp).1,h0⟩)
  have e2:=Tr.cnt_zero (l:=l) h4 hy g2 (fun⟨p,hp,h0⟩=>hn ⟨p,((i2 p).1 hp).1,h0⟩)
  rw[Tr.cnt,e1,e2]
  by_cases hs:l.same m
  ·exfalso
   -- m crosses the cell
   obtain⟨p,hp,k1⟩:=(clip_iff hc hm).1 h1
   obtain⟨q,hq,k2⟩:=(clip_iff hc hm.rev).1 h2
   rw[val_rev] at k2
   generalize hA:m.value p=A at*
   generalize hB:m.value q=B at*
   have hAB:0<A-B:=by grind
   have e:A/(A-B)*(A-B)=A:=by grind
   generalize A/(A-B)=r at*
   have r0:0≤r:=(rat_mul_nonneg_iff hAB).1 (by rw[e];exact Rat.le_of_lt k1)
   have r1:r≤1:=by
    have:=(rat_mul_nonneg_iff (s:=1-r) hAB).1 (by grind)
    grind
   have hz:=hp.seg hq r0 r1
   have hv:m.value (segQ p q r)=0:=by rw[val_seg,hA,hB];grind
   refine hn ⟨_,hz,?_⟩
   rcases hs with rfl|rfl
   ·exact hv
   ·rw[val_rev] at hv;grind
  ·rw[if_neg hs]
def inB(c:CellQ)(p:PtQ):Bool:=c.all fun s=>decide (0<s.l.value p)
theorem inB_iff{c:CellQ}{p:PtQ}:inB c p=true↔InD c p:=by
 unfold inB InD;rw[List.all_eq_true];simp
def Covers(P:List PtQ)(l:LnQ)(t:Tr):Prop:=t.all fun m=>l.same m∨ ∀p,l.value p=0→m.value p=0→p∈P
theorem count_two{α:Type}{p q r:α→Bool}: ∀(P:List α),(∀x∈P,q x=true→p x=true)→(∀x∈P,r x=true→p x=true)→(∀x∈P,¬(q x=true∧r x=true))→P.countP q+P.countP r≤P.countP p
 |[],_,_,_=>Nat.le_refl _
 |x::P,h1,h2,h3=>by
  have ih:=count_two (p:=p) (q:=q) (r:=r) P (fun y hy=>h1 y (List.mem_cons_of_mem _ hy)) (fun y hy=>h2 y (List.mem_cons_of_mem _ hy)) (fun y hy=>h3 y (List.mem_cons_of_mem _ hy))
  have a:=h1 x List.mem_cons_self
  have b:=h2 x List.mem_cons_self
  have c:=h3 x List.mem_cons_self
  rw[List.countP_cons,List.countP_cons,List.countP_cons]
  cases hq:q x<;>cases hr:r x<;>simp_all<;>omega
theorem count_three{α:Type}{p q r:α→Bool}: ∀(P:List α),(∀x∈P,q x=true→p x=true)→(∀x∈P,r x=true→p x=true)→(∀x∈P,¬(q x=true∧r x=true))→(∃x∈P,p x=true∧q x=false∧r x=false)→P.countP q+P.countP r+1≤P.countP p
 |[],_,_,_,⟨x,hx,_⟩=>by cases hx
 |x::P,h1,h2,h3,h4=>by
  have i2:=count_two (p:=p) (q:=q) (r:=r) P (fun y hy=>h1 y (List.mem_cons_of_mem _ hy)) (fun y hy=>h2 y (List.mem_cons_of_mem _ hy)) (fun y hy=>h3 y (List.mem_cons_of_mem _ hy))
  have a:=h1 x List.mem_cons_self
  have b:=h2 x List.mem_cons_self
  have c:=h3 x List.mem_cons_self
  rw[List.countP_cons,List.countP_cons,List.countP_cons]
  obtain⟨z,hz,k1,k2,k3⟩:=h4
  rcases List.mem_cons.1 hz with rfl|hz
  ·simp only[k1,k2,k3];simp;omega
  ·have ih:=count_three (p:=p) (q:=q) (r:=r) P (fun y hy=>h1 y (List.mem_cons_of_mem _ hy)) (fun y hy=>h2 y (List.mem_cons_of_mem _ hy)) (fun y hy=>h3 y (List.mem_cons_of_mem _ hy)) ⟨z,hz,k1,k2,k3⟩
   cases hq:q x<;>cases hr:r x<;>simp_all<;>omega
theorem Tr.cnt_le{l:LnQ}(hl:l.ok){P:List PtQ}: ∀{t:Tr} {c:CellQ},t.Red c→t.all LnQ.ok→GoodC c→Covers P l t→t.cnt l≤1+P.countP (inB c)
 | .leaf _,_,_,_,_,_=>Nat.zero_le _
 | .node m x y,c,⟨h1,h2,h3,h4,_⟩,⟨hm,hx,hy⟩,hc,⟨v0,v1,v2⟩=>by
  obtain⟨g1,i1⟩:=clip_good hc hm h1
  obtain⟨g2,i2⟩:=clip_good hc hm.rev h2
  have q1: ∀p∈P,inB (clipC c m) p=true→inB c p=true:=fun p _ h=>inB_iff.2 ((i1 p).1 (inB_iff.1 h)).1
  have q2: ∀p∈P,inB (clipC c m.rev) p=true→inB c p=true:=fun p _ h=>inB_iff.2 ((i2 p).1 (inB_iff.1 h)).1
  have q3: ∀p∈P,¬(inB (clipC c m) p=true∧inB (clipC c m.rev) p=true):=fun p _ ⟨a,b⟩=>by
   have a:=((i1 p).1 (inB_iff.1 a)).2
   have b:=((i2 p).1 (inB_iff.1 b)).2
   rw[val_rev] at b;grind
  have ct:=count_two P q1 q2 q3
  rw[Tr.cnt]
  by_cases hs:l.same m
  ·have e1:=Tr.cnt_zero (l:=l) h3 hx g1 (fun⟨p,hp,h0⟩=>by have:=((i1 p).1 hp).2;rw[val_same hs h0] at this;grind)
   have e2:=Tr.cnt_zero (l:=l) h4 hy g2 (fun⟨p,hp,h0⟩=>by have:=((i2 p).1 hp).2;rw[val_rev,val_same hs h0] at this;grind)
   rw[e1,e2,if_pos hs];omega
  ·rw[if_neg hs]
   have b1:=Tr.cnt_le hl h3 hx g1 v1
   have b2:=Tr.cnt_le hl h4 hy g2 v2
   by_cases w1:Meets l (clipC c m)
   ·by_cases w2:Meets l (clipC c m.rev)
    ·-- the crossing lies in the cell
     obtain⟨p,hp,k1⟩:=w1
     obtain⟨q,hq,k2⟩:=w2
     obtain⟨hp,ap⟩:=(i1 p).1 hp
     obtain⟨hq,aq⟩:=(i2 q).1 hq
     rw[val_rev] at aq
     generalize hA:m.value p=A at*
     generalize hB:m.value q=B at*
     have hAB:0<A-B:=by grind
     have e:A/(A-B)*(A-B)=A:=by grind
     generalize A/(A-B)=r at*
     have r0:0≤r:=(rat_mul_nonneg_iff hAB).1 (by rw[e];exact Rat.le_of_lt ap)
     have r1:r≤1:=by
      have:=(rat_mul_nonneg_iff (s:=1-r) hAB).1 (by grind)
      grind
     have hz:=hp.seg hq r0 r1
     have hv:m.value (segQ p q r)=0:=by rw[val_seg,hA,hB];grind
     have hv2:l.value (segQ p q r)=0:=by rw[val_seg,k1,k2];grind
     have hmem:segQ p q r∈P:=by
      rcases v0 with h|h
      ·exact absurd h hs
      ·exact h _ hv2 hv
     have c3:=count_three P q1 q2 q3 ⟨_,hmem,inB_iff.2 hz,by
      rw[←Bool.not_eq_true,inB_iff,i1];rintro ⟨_,h⟩;rw[hv] at h;grind,by
      rw[←Bool.not_eq_true,inB_iff,i2];rintro ⟨_,h⟩;rw[val_rev,hv] at h;grind⟩
     omega
    ·rw[Tr.cnt_zero h4 hy g2 w2];omega
   ·rw[Tr.cnt_zero h3 hx g1 w1];omega
theorem rev_rev(l:LnQ):l.rev.rev=l:=by cases l;simp[LnQ.rev]
theorem LnQ.same.symm{l m:LnQ}(h:l.same m):m.same l:=by
 rcases h with rfl|rfl
 ·exact .inl rfl
 ·exact .inr (rev_rev l).symm
theorem LnQ.same.trans{l m n:LnQ}(h:l.same m)(k:m.same n):l.same n:=by
 rcases h with rfl|rfl
 ·exact k
 ·rcases k with rfl|rfl
  ·exact .inr rfl
  ·exact .inl (rev_rev l)
def Among(K:List LnQ)(t:Tr):Prop:=t.all fun n=> ∃m∈K,m.same n
def cross1(l m:LnQ):PtQ:=l.at (-(l.cutC m/l.cutK m))
theorem cross1_spec{l m:LnQ}(hl:l.ok)(hm:m.ok){p:PtQ}(h1:l.value p=0)(h2:m.value p=0):l.same m∨p=cross1 l m:=by
 obtain⟨t,rfl⟩:=on_at hl.ne h1
 rw[val_at] at h2
 by_cases hk:l.cutK m=0
 ·left
  have hc:l.cutC m=0:=by rw[hk] at h2;grind
  rcases same_line hm hl (fun s=>by rw[val_at,hk,hc];grind) with h|h
  ·exact .inl h
  ·exact .inr h
 ·right
  unfold cross1
  congr 1
  grind
theorem Among.covers{K:List LnQ}(hK: ∀m∈K,m.ok){l:LnQ}(hl:l.ok): ∀{t:Tr},Among K t→Covers (K.map (cross1 l)) l t
 | .leaf _,_=>trivial
 | .node n x y,⟨⟨m,hm,hs⟩,h1,h2⟩=>by
  refine⟨?_,Among.covers hK hl h1,Among.covers hK hl h2⟩
  by_cases h:l.same n
  ·exact .inl h
  ·right
   intro p k1 k2
   rcases cross1_spec hl (hK m hm) k1 (val_same hs.symm k2) with h3|h3
   ·exact absurd (h3.trans hs) h
   ·rw[h3];exact List.mem_map_of_mem hm
def Kc(t:Tr):List LnQ→Nat
 |[]=>0
 |l::K=>t.cnt l+Kc t K
def Ks(n:LnQ):List LnQ→Nat
 |[]=>0
 |l::K=>(if l.same n then 1 else 0)+Ks n K
theorem Kc_node{n:LnQ}{x y:Tr}: ∀K,Kc (.node n x y) K=Ks n K+(Kc x K+Kc y K)
 |[]=>rfl
 |l::K=>by
  have:=Kc_node (n:=n) (x:=x) (y:=y) K
  show(Tr.node n x y).cnt l+Kc (.node n x y) K=_
  rw[this,Tr.cnt]
  show _=(if l.same n then 1 else 0)+Ks n K+(x.cnt l+Kc x K+(y.cnt l+Kc y K))
  omega
theorem Ks_pos{n m:LnQ}(hs:m.same n): ∀{K:List LnQ},m∈K→1≤Ks n K
 |[],h=>by cases h
 |l::K,h=>by
  show 1≤(if l.same n then 1 else 0)+Ks n K
  rcases List.mem_cons.1 h with rfl|h
  ·rw[if_pos hs];omega
  ·have:=Ks_pos hs h;omega
theorem size_Kc{K:List LnQ}: ∀{t:Tr},Among K t→t.size≤Kc t K
 | .leaf _,_=>Nat.zero_le _
 | .node n x y,⟨⟨m,hm,hs⟩,h1,h2⟩=>by
  have a:=size_Kc h1
  have b:=size_Kc h2
  have c:=Ks_pos hs hm
  rw[Kc_node,Tr.size];omega
theorem Kc_le{t:Tr}{B:Nat}: ∀{K:List LnQ},(∀l∈K,t.cnt l≤B)→Kc t K≤K.length*B
 |[],_=>Nat.zero_le _
 |l::K,h=>by
  have:=Kc_le (t:=t) (B:=B) (K:=K) fun m hm=>h m (List.mem_cons_of_mem _ hm)
  have:=h l List.mem_cons_self
  show t.cnt l+Kc t K≤(K.length+1)*B
  rw[Nat.succ_mul];omega
theorem Tr.size_le{K:List LnQ}(hK: ∀m∈K,m.ok){t:Tr}{c:CellQ}(hr:t.Red c)(ht:t.all LnQ.ok)(hc:GoodC c)(h:Among K t):t.size≤K.length*(1+K.length):=by
 refine Nat.le_trans (size_Kc h) (Kc_le fun l hl=>?_)
 refine Nat.le_trans (Tr.cnt_le (hK l hl) hr ht hc (h.covers hK (hK l hl))) ?_
 have:=List.countP_le_length (p:=inB c) (l:=K.map (cross1 l))
 rw[List.length_map] at this
 omega
theorem among_of{K:List LnQ}{t:Tr}(h: ∀l∈t.lns,l∈K):Among K t:=lns_all.2 fun l hl=>⟨l,h l hl, .inl rfl⟩
theorem Among.mono{K M:List LnQ}{t:Tr}(h:Among K t)(k: ∀l∈K,∃m∈M,m.same l):Among M t:=lns_all.2 fun l hl=>by
 obtain⟨m,hm,hs⟩:=lns_all.1 h l hl
 obtain⟨n,hn,hs2⟩:=k m hm
 exact⟨n,hn,hs2.trans hs⟩
theorem Among.restrict{K:List LnQ}{t:Tr}(h:Among K t)(c:CellQ):Among K (t.restrict c):=t.restrict_all _ c h
theorem Among.compl{K:List LnQ}{t:Tr}(h:Among K t):Among K t.compl:=t.compl_all _ h
theorem Among.merge{K:List LnQ}{op:Int}{t u:Tr}(h:Among K t)(hu:Among K u)(c:CellQ):Among K (t.mergeQ op u c):=Tr.mergeQ_all _ op hu t c h
theorem Tr.merge_size{K:List LnQ}(hK: ∀m∈K,m.ok){op:Int}{a b:Tr}(ha:a.all LnQ.ok)(hb:b.all LnQ.ok)(ka:Among K a)(kb:Among K b):(a.mergeQ op b []).size≤K.length*(1+K.length):=
 Tr.size_le hK (Tr.merge_red op b a []) (Tr.mergeQ_all LnQ.ok op hb a [] ha) GoodC.nil (ka.merge kb [])
end Go.Sx
end

section
set_option maxRecDepth 100000
namespace Go.Sx
open Go Go.Proofs
def Tr.chooseL(op:Int)(b:Bool)(t:Tr)(c:List LnQ):Tr:=
 if op=1∧b=true then .leaf true
 else if(op=2∨op=3)∧b=false then .leaf false
 else if(op=3∨op=4)∧b=true then(t.restrictL c).compl else t.restrictL c
def Tr.mergeL(op:Int):Tr→Tr→List LnQ→Tr
 | .leaf b,u,c=>u.chooseL op b c
 | .node l x y,u,c=>if placeL c l=1 then x.mergeL op u c else if placeL c l= -1 then y.mergeL op u c else joinQ l (x.mergeL op u (canonL (c++[l]))) (y.mergeL op u (canonL (c++[l.rev])))
theorem Tr.chooseL_eq{op:Int}(ho:1≤op∧op≤4)(b:Bool)(t:Tr)(c:List LnQ)(d:CellQ)(ht:t.all LnQ.ok)(hc: ∀l∈c,l.ok)(hd:GoodC d)(he: ∀p,InD d p↔InL c p):t.chooseL op b c=t.chooseQ op b d:=by
 have h:=t.restrictL_eq c d ht hc hd he
 unfold Tr.chooseL Tr.chooseQ
 rw[h]
 have:op=1∨op=2∨op=3∨op=4:=by omega
 rcases this with rfl|rfl|rfl|rfl<;>cases b<;>simp
theorem Tr.mergeL_eq{op:Int}(ho:1≤op∧op≤4)(u:Tr)(hu:u.all LnQ.ok): ∀(t:Tr) (c:List LnQ) (d:CellQ),t.all LnQ.ok→(∀l∈c,l.ok)→GoodC d→(∀p,InD d p↔InL c p)→t.mergeL op u c=t.mergeQ op u d
 | .leaf b,c,d,_,hc,hd,he=>u.chooseL_eq ho b c d hu hc hd he
 | .node l x y,c,d,h,hc,hd,he=>by
  obtain⟨hl,hx,hy⟩:=h
  have i1:=inner_iff (ok_app hc hl)
  have i2:=inner_iff (ok_app hc hl.rev)
  obtain⟨p0,hp0⟩:=hd.ne
  rcases lies hd hl with⟨a1,a⟩|⟨a1,a2,a⟩|⟨a1,a2,ag1,ag2,ae1,ae2⟩
  ·have b1:innerB (c++[l])=true:=i1.2 ⟨p0,InL_app.2 ⟨(he p0).1 hp0,a p0 hp0⟩⟩
   have b2:innerB (c++[l.rev])=false:=by
    rw[←Bool.not_eq_true,i2]
    rintro ⟨p,hp⟩
    have hp:=InL_app.1 hp
    have:=a p ((he p).2 hp.1)
    rw[val_rev] at hp
    grind
   rw[Tr.mergeQ,a1,if_pos (show(!false)=true from rfl),Tr.mergeL,placeL,b1,b2]
   exact Tr.mergeL_eq ho u hu x c d hx hc hd he
  ·have b2:innerB (c++[l.rev])=true:=i2.2 ⟨p0,InL_app.2 ⟨(he p0).1 hp0,by rw[val_rev];have:=a p0 hp0;grind⟩⟩
   have b1:innerB (c++[l])=false:=by
    rw[←Bool.not_eq_true,i1]
    rintro ⟨p,hp⟩
    have hp:=InL_app.1 hp
    have:=a p ((he p).2 hp.1)
    grind
   rw[Tr.mergeQ,a1,a2,if_neg (by decide),if_pos (show(!false)=true from rfl),Tr.mergeL,placeL,b1,b2]
   exact Tr.mergeL_eq ho u hu y c d hy hc hd he
  ·have n1: ∃p,InL (c++[l]) p:=by
    obtain⟨p,hp⟩:=ag1.ne
    exact⟨p,InL_app.2 ⟨(he p).1 ((ae1 p).1 hp).1,((ae1 p).1 hp).2⟩⟩
   have n2: ∃p,InL (c++[l.rev]) p:=by
    obtain⟨p,hp⟩:=ag2.ne
    exact⟨p,InL_app.2 ⟨(he p).1 ((ae2 p).1 hp).1,by rw[val_rev];have:=((ae2 p).1 hp).2;grind⟩⟩
   rw[Tr.mergeQ,a1,a2,if_neg (by decide),if_neg (by decide),Tr.mergeL,placeL,i1.2 n1,i2.2 n2]
   have k1:=Tr.mergeL_eq ho u hu x (canonL (c++[l])) (clipC d l) hx (fun m hm=>ok_app hc hl m (mem_canonL.1 hm).1) ag1 fun p=>by
    rw[canonL_in (ok_app hc hl) n1,ae1,InL_app,he]
   have k2:=Tr.mergeL_eq ho u hu y (canonL (c++[l.rev])) (clipC d l.rev) hy (fun m hm=>ok_app hc hl.rev m (mem_canonL.1 hm).1) ag2 fun p=>by
    rw[canonL_in (ok_app hc hl.rev) n2,ae2,InL_app,he,val_rev]
    constructor<;>rintro ⟨a,b⟩<;>exact⟨a,by grind⟩
   rw[k1,k2]
   rfl
theorem inD_inL(p:PtQ):InD [] p↔InL [] p:=by unfold InD InL;simp
theorem Tr.mergeL_nil{op:Int}(ho:1≤op∧op≤4){t u:Tr}(ht:t.all LnQ.ok)(hu:u.all LnQ.ok):t.mergeL op u []=t.mergeQ op u []:=
 Tr.mergeL_eq ho u hu t [] [] ht (fun l hl=>by cases hl) GoodC.nil inD_inL
theorem limQ_some{op:Int}{a b:Tr}(hd:a.depth+b.depth≤1024)(hs:(a.mergeQ op b []).size≤65536):limQ op a b=some (a.mergeQ op b []):=by
 unfold limQ
 rw[if_neg (by omega),if_neg (by omega)]
theorem Tr.mergeQ_depth(op:Int)(u:Tr): ∀(t:Tr) (c:CellQ),(t.mergeQ op u c).depth≤t.depth+u.depth
 | .leaf b,c=>by
  have:=u.restrict_depth c
  have h2:=(u.restrict c).compl_depth
  show(u.chooseQ op b c).depth≤_
  unfold Tr.chooseQ
  split
  ·split
   ·exact Nat.zero_le _
   ·simp only[Tr.depth];omega
  ·split
   ·exact Nat.zero_le _
   ·split
    ·simp only[Tr.depth];omega
    ·simp only[Tr.depth];omega
 | .node l x y,c=>by
  have hx:=fun c=>Tr.mergeQ_depth op u x c
  have hy:=fun c=>Tr.mergeQ_depth op u y c
  rw[Tr.mergeQ]
  simp only[Tr.depth]
  split
  ·have:=hx c;omega
  ·split
   ·have:=hy c;omega
   ·have h1:=hx (clipC c l)
    have h2:=hy (clipC c l.rev)
    rcases Tr.joinQ_cases l (x.mergeQ op u (clipC c l)) (y.mergeQ op u (clipC c l.rev)) with⟨h,_⟩|⟨h,_⟩<;>rw[h]<;>(try simp only[Tr.depth])<;>omega
structure Gen (L:List LnQ) (a b:Tr):Prop where
 oa:a.all LnQ.ok
 ob:b.all LnQ.ok
 ok: ∀l∈L,l.ok
 la: ∀l∈a.lns,l∈L
 lb: ∀l∈b.lns,l∈L
theorem Gen.mk0{a b:Tr}(ha:a.all LnQ.ok)(hb:b.all LnQ.ok):Gen (a.lns++b.lns) a b:=
 ⟨ha,hb,fun l hl=>(List.mem_append.1 hl).elim (lns_ok ha l) (lns_ok hb l),fun l hl=>List.mem_append_left _ hl,fun l hl=>List.mem_append_right _ hl⟩
theorem Gen.leaf{L:List LnQ}{a b:Tr}(h:Gen L a b){op:Int}{v:Bool}:a.mergeQ op b []= .leaf v↔ ∀p,Off L p→opB op (a.val p) (b.val p)=v:=Tr.merge_leaf h.oa h.ob h.ok h.la h.lb
theorem Gen.symm{L:List LnQ}{a b:Tr}(h:Gen L a b):Gen L b a:=⟨h.ob,h.oa,h.ok,h.lb,h.la⟩
end Go.Sx
end
