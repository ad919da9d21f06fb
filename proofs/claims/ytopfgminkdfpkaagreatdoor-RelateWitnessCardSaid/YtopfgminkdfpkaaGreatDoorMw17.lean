/-
  Reference: rings, half-planes and regions of the tape. Reference: trees as they come. Law 19: the operations at trees of package api; the sanity check. Pairs of regions of the tape, as functions; their sizes. Reference: convex rings, half-planes and regions of the tape. The abstract machine: the last two bits of a signed number. Pairs of regions of the tape; the law MergeMakes: its walk. The abstract machine: functions with a bound receiver. Plain laws: points of all faces akb the lines of two trees decide how the regions are related. Relations of regions. The laws RelateOrder and RelateForms: their walks. Plain geometry: directions around a point and the sectors akb them. Plain geometry: the reference's vectors, one in each sector around a point; the class of a point. Plain geometry: the reference's vectors, one in each sector around a point; the class of a point.
-/
import Derived.Test.YtopfgminkdfpkaaGreatDoorMw16
set_option linter.unusedSimpArgs false
set_option maxHeartbeats 4000000
set_option maxRecDepth 100000
set_option linter.unusedVariables false
section
namespace Go.Sx
open Go Go.Proofs
variable {GB:Gh}
theorem aEi(p r:ZP):(ahd p.q r.q<0↔aA4 p r<0)∧(ahd p.q r.q=0↔aA4 p r=0):=by
 have e1: ∀a b:Int,aa1 (a:Rat) (b:Rat)<0↔a<b:=fun a b=>by rw[akg,Rat.intCast_lt_intCast]
 have e2: ∀a b:Int,aa1 (a:Rat) (b:Rat)=0↔a=b:=fun a b=>by rw[ae8,Rat.intCast_inj]
 have f1:=e1 p.1 r.1
 have f2:=e2 p.1 r.1
 have f3:=e1 p.2 r.2
 have f4:=e2 p.2 r.2
 show(ahd ⟨(p.1:Rat),(p.2:Rat)⟩ ⟨(r.1:Rat),(r.2:Rat)⟩<0↔_)∧(ahd ⟨(p.1:Rat),(p.2:Rat)⟩ ⟨(r.1:Rat),(r.2:Rat)⟩=0↔_)
 unfold ahd aA4
 dsimp only
 generalize aa1 (p.1:Rat) (r.1:Rat)=u at*
 generalize aa1 (p.2:Rat) (r.2:Rat)=v at*
 by_cases h:p.1<r.1
 ·rw[if_pos (by omega),if_pos h];omega
 ·by_cases h2:r.1<p.1
  ·rw[if_pos (by omega),if_neg h,if_pos h2];omega
  ·rw[if_neg (by omega),if_neg h,if_neg h2]
   by_cases h3:p.2<r.2
   ·rw[if_pos h3];omega
   ·rw[if_neg h3]
    split<;>omega
theorem ayJ(x:ZP): ∀l:List ZP,ad3 ahd x.q (l.map ZP.q)=(axy x l).map ZP.q
 |[]=>rfl
 |u::t=>by
  obtain⟨h1,h2⟩:=aEi u x
  rw[List.map_cons,ad3,axy,ayJ x t]
  by_cases k1:aA4 u x<0
  ·rw[if_pos (h1.2 k1),if_pos k1];rfl
  ·rw[if_neg (fun e=>k1 (h1.1 e)),if_neg k1]
   by_cases k2:aA4 u x=0
   ·rw[if_pos (h2.2 k2),if_pos k2];rfl
   ·rw[if_neg (fun e=>k2 (h2.1 e)),if_neg k2];rfl
theorem azW(l:List ZP):aid ahd (l.map ZP.q)=(anP l).map ZP.q:=by
 have key: ∀(l o:List ZP),(l.map ZP.q).foldl (fun out x=>ad3 ahd x out) (o.map ZP.q)=(l.foldl (fun out x=>axy x out) o).map ZP.q:=by
  intro l
  induction l with
  |nil=>intro o;rfl
  |cons x t ih=>intro o;rw[List.map_cons,List.foldl_cons,List.foldl_cons,ayJ,ih]
 exact key l []
theorem aGr(l:List ZP):(l.map ZP.q).map eP=l.map eZp:=by rw[List.map_map];rfl
theorem amQ{l:List ZP}(h: ∀p∈l,ZP.le 100 p)(hn:l.length≤100000):PF GB Tryz.prog 219 [.sl (l.map eZp)] (.sl ((anP l).map eZp)):=by
 have:=aya (GB:=GB) (ps:=l.map ZP.q) (auZ h) (by rw[List.length_map];exact hn)
 rw[azW,aGr,aGr] at this
 exact this
theorem azV(u v:ZP):(PtQ.cross (iP u.1 u.2) (iP v.1 v.2))=((ai0 u v:Int):Rat):=by
 unfold PtQ.cross iP ai0
 push_cast
 rfl
theorem ajF(u v:ZP):(PtQ.cross (iP u.1 u.2) (iP v.1 v.2)).num.sign≠0↔ai0 u v≠0:=by
 rw[azV,Rat.num_intCast]
 exact not_congr Int.sign_eq_zero_iff_zero
theorem arG{α β:Type}(f:α→β)(l:List α):((l.map f).take (l.length-1)).drop 0=l.dropLast.map f:=by
 rw[List.drop_zero,←List.map_take,List.dropLast_eq_take]
theorem aqV{l:List ZP}(h:0<l.length): ∃u,l.getLast? =some u∧l[l.length-1]? =some u∧l.getD (l.length-1) (0,0)=u:=by
 refine⟨l[l.length-1],?_,List.getElem?_eq_getElem (by omega),?_⟩
 ·rw[List.getLast?_eq_getElem?];exact List.getElem?_eq_getElem (by omega)
 ·rw[List.getD_eq_getElem?_getD,List.getElem?_eq_getElem (by omega)];rfl
theorem auS{l:List ZP}(h:0<l.length): ∃u,l[0]? =some u∧l.getD 0 (0,0)=u:=by
 refine⟨l[0],List.getElem?_eq_getElem (by omega),?_⟩
 rw[List.getD_eq_getElem?_getD,List.getElem?_eq_getElem (by omega)];rfl
theorem aw7{u p:ZP}:(u.1=p.1∧u.2=p.2)↔u=p:=⟨fun h=>Prod.ext h.1 h.2,fun h=>by rw[h];exact⟨rfl,rfl⟩⟩
theorem atu{b:Nat}{es:List Int}(hes:es.length≤400){a:Nat}(ha:a≤es.length):PM GB Tryz.prog 170 (mkP [none] b) b 94 [.sl (es.map vI), .v (.int .i64 (a:Nat))] (eRg (acP es a).1) [.sl (es.map vI), .v (.int .i64 ((acP es a).2:Nat))]:=by
 have hk0:=aaE (n:=4) ha
 refine fnM (fu:=⟨6⟩) Tryz.func170 J J Tryz.ntmps170 J J (fun C b m lo hmb=>?_)
 refine mg (X:=Nat) (fun a2=>[]) (fun a2=>[(1000000,some (.o 94 [.d (.sl (es.map vI)), .d (.v (.int .i64 (a2:Nat)))] false))]) (fun a2=>acP es a=avK es a2∧a2≤es.length) [] [1000000] rfl ?_ (fun _=>rfl) (fun a2 ⟨hR,ha2⟩=>?_)
 ·
  refine gx rfl<|cm rfl (fun b=>(ab0 (n:=4) hes ha (by decide) (by decide))) rfl<|?_
  refine br J J J (fun hc15=>?_) (fun hc15=>?_)
  ·
   have hx1:=aaE (n:=5) hk0
   have hy1:=aaE (n:=5) hx1
   have hz1:=aaE (n:=4) hy1
   have hw1:=aaE (n:=4) hz1
   have hl0:=aby (es:=es) (n:=5) (a:=(aag es 4 a).2) (by decide)
   have hl1:=aby (es:=es) (n:=5) (a:=(aag es 5 (aag es 4 a).2).2) (by decide)
   have hl2:=aby (es:=es) (n:=4) (a:=(aag es 5 (aag es 5 (aag es 4 a).2).2).2) (by decide)
   have hl3:=aby (es:=es) (n:=4) (a:=(aag es 4 (aag es 5 (aag es 5 (aag es 4 a).2).2).2).2) (by decide)
   refine cm rfl (fun b=>(ab0 (n:=5) hes hk0 (by decide) (by decide))) rfl<|cm rfl (fun b=>(ab0 (n:=5) hes hx1 (by decide) (by decide))) rfl<|?_
   refine cm rfl (fun b=>(ab0 (n:=4) hes hy1 (by decide) (by decide))) rfl<|cm rfl (fun b=>(ab0 (n:=4) hes hz1 (by decide) (by decide))) rfl<|?_
   refine cl rfl (arB (m:=(((aag es 5 (aag es 4 a).2).1:Int)-4)) (n:=(((aag es 5 (aag es 5 (aag es 4 a).2).2).1:Int)-4)) (by omega) (by omega)) rfl<|?_
   refine cl rfl (arB (m:=(((aag es 5 (aag es 4 a).2).1:Int)-4+1+((aag es 4 (aag es 5 (aag es 5 (aag es 4 a).2).2).2).1:Int))) (n:=(((aag es 5 (aag es 5 (aag es 4 a).2).2).1:Int)-4)) (by omega) (by omega)) rfl<|?_
   refine cl rfl (arB (m:=(((aag es 5 (aag es 4 a).2).1:Int)-4+1+((aag es 4 (aag es 5 (aag es 5 (aag es 4 a).2).2).2).1:Int))) (n:=(((aag es 5 (aag es 5 (aag es 4 a).2).2).1:Int)-4+1+((aag es 4 (aag es 4 (aag es 5 (aag es 5 (aag es 4 a).2).2).2).2).1:Int))) (by omega) (by omega)) rfl<|?_
   refine cl rfl (arB (m:=(((aag es 5 (aag es 4 a).2).1:Int)-4)) (n:=(((aag es 5 (aag es 5 (aag es 4 a).2).2).1:Int)-4+1+((aag es 4 (aag es 4 (aag es 5 (aag es 5 (aag es 4 a).2).2).2).2).1:Int))) (by omega) (by omega)) rfl<|?_
   refine rf J J<|?_
   exact rzM hmb J J (by rw[show acP es a=_ from if_pos hc15];rfl) (by rw[show acP es a=_ from if_pos hc15];rfl)
  ·
   refine br J J J (fun hc46=>?_) (fun hc46=>?_)
   ·
    obtain⟨hp1,hp2,hp3⟩:=anO hk0
    obtain⟨hu1,hu2,hu3,hu4⟩:=arA hp3
    obtain⟨hv1,hv2,hv3,hv4⟩:=arA hu4
    haveI:=biC (k:=10) (m:=(vF es (pF es (aag es 4 a).2).2).1.1) (by omega) (by decide)
    haveI:=biC (k:=10) (m:=(vF es (pF es (aag es 4 a).2).2).1.2) (by omega) (by decide)
    haveI:=biC (k:=10) (m:=(vF es (vF es (pF es (aag es 4 a).2).2).2).1.1) (by omega) (by decide)
    haveI:=biC (k:=10) (m:=(vF es (vF es (pF es (aag es 4 a).2).2).2).1.2) (by omega) (by decide)
    refine cm rfl (fun b=>(aEx hes hk0)) rfl<|cm rfl (fun b=>(aFb hes hp3)) rfl<|cm rfl (fun b=>(aFb hes hu4)) rfl<|cl rfl (agm (p:=iP (vF es (pF es (aag es 4 a).2).2).1.1 (vF es (pF es (aag es 4 a).2).2).1.2) (q:=iP (vF es (vF es (pF es (aag es 4 a).2).2).2).1.1 (vF es (vF es (pF es (aag es 4 a).2).2).2).1.2)) rfl<|?_
    refine cl rfl (q_S (q:=PtQ.cross (iP (vF es (pF es (aag es 4 a).2).2).1.1 (vF es (pF es (aag es 4 a).2).2).1.2) (iP (vF es (vF es (pF es (aag es 4 a).2).2).2).1.1 (vF es (vF es (pF es (aag es 4 a).2).2).2).1.2))) rfl<|?_
    refine br J J J (fun hc58=>?_) (fun hc58=>?_)
    ·
     refine cl rfl (akj (n:=1) (by decide) (by decide)) rfl<|cl rfl (aqN (m:=(pF es (aag es 4 a).2).1.1) (n:=(pF es (aag es 4 a).2).1.2) (m':=(vF es (pF es (aag es 4 a).2).2).1.1) (n':=(vF es (pF es (aag es 4 a).2).2).1.2) (k:=1) (by omega) (by omega) (by omega) (by omega) (by decide)) rfl<|?_
     refine cl rfl (akj (n:=1) (by decide) (by decide)) rfl<|cl rfl (aqN (m:=(pF es (aag es 4 a).2).1.1) (n:=(pF es (aag es 4 a).2).1.2) (m':=(vF es (vF es (pF es (aag es 4 a).2).2).2).1.1) (n':=(vF es (vF es (pF es (aag es 4 a).2).2).2).1.2) (k:=1) (by omega) (by omega) (by omega) (by omega) (by decide)) rfl<|?_
     refine rf J J<|?_
     exact rzM hmb J J (by rw[show acP es a=_ from(if_neg hc15).trans ((if_pos hc46).trans (if_pos ((ajF _ _).1 hc58)))];rfl) (by rw[show acP es a=_ from(if_neg hc15).trans ((if_pos hc46).trans (if_pos ((ajF _ _).1 hc58)))])
    ·
     exact at_ (vF es (vF es (pF es (aag es 4 a).2).2).2).2 ⟨(if_neg hc15).trans ((if_pos hc46).trans (if_neg (fun e=>hc58 ((ajF _ _).2 e)))),hv4⟩
   ·
    exact at_ (aag es 4 a).2 ⟨(if_neg hc15).trans (if_neg hc46),hk0⟩
 ·
  have hj1:=aby (es:=es) (n:=4) (a:=a2) (by decide)
  have hj2:=aaE (n:=4) ha2
  refine cm rfl (fun b=>(ab0 (n:=4) hes ha2 (by decide) (by decide))) rfl<|?_
  refine nr 10 10 58 6 J J J ?_
  refine lp (X:=List ZP×Nat×Nat) (fun⟨r,i,a3⟩=>[(11, .d (vI (i:Nat))),(10, .rw 10)]) (fun⟨r,i,a3⟩=>[(1000000,some (.o 94 [.d (.sl (es.map vI)), .d (.v (.int .i64 (a3:Nat)))] false)),(10,some (.b 58 6 (r.map eZp) true))]) (fun⟨r,i,a3⟩=>ap1 es i a3 r=ap1 es (3+(aag es 4 a2).1) (aag es 4 a2).2 []∧a3≤es.length∧Adj r∧r.length+i≤6) (fun⟨r,i,a3⟩=>i) ⟨[],3+(aag es 4 a2).1,(aag es 4 a2).2⟩ rfl ⟨rfl,hj2,Adj.nil,by simp;omega⟩ (fun _=>rfl) (fun⟨r,i,a3⟩ hk=>?_)
  try dsimp only at hk⊢
  obtain⟨h1,h2,h3,h4⟩:=hk
  have hrl:(r.map eZp).length=r.length:=by simp
  refine br (fu2:=⟨0⟩) J J J (fun hc73=>?_) (fun hc73=>?_)
  ·
   obtain⟨j,rfl⟩: ∃j,i=j+1:=⟨i-1,by omega⟩
   obtain⟨hq1,hq2,hq3⟩:=anO h2
   refine cm (fu:=⟨8⟩) rfl (fun b=>(aEx hes h2)) rfl<|?_
   refine csS (v1:=fun hg80=>by simp only[aai];kernel_rfl) J J J J (fun hg80=>?_) (fun hg80=>?_)
   ·
    have hlast: ¬r.getLast? =some (pF es a3).1:=by rw[List.eq_nil_of_length_eq_zero (l:=r) (by omega)];simp
    refine rf J J<|ap ((r++[(pF es a3).1]).map eZp) rfl (by rw[List.map_append];rfl) (azZ [_]) rfl<|?_
    refine rnE 95 10 rfl ?_
    exact at_ ⟨r++[(pF es a3).1],j,(pF es a3).2⟩ (by dsimp only;exact⟨⟨by rw[←h1,ap1,if_neg hlast],hq3,h3.snoc ⟨by omega,by omega⟩ hlast,by simp;omega⟩,(by omega)⟩)
   ·
    obtain⟨q,hq,hqi,hqd⟩:=aqV (l:=r) (by omega)
    have hqm:=h3.le q (List.mem_of_getLast? hq)
    unfold ZP.le at hqm
    refine lb (eZp q) rfl (by rw[show(((r.map eZp).length:Nat):Int)-1=((r.length-1:Nat):Int) by omega];exact aay hqi) rfl<|cl rfl (alB (m:=q.1) (n:=q.2) (m':=(pF es a3).1.1) (n':=(pF es a3).1.2) (by omega) (by omega) (by omega) (by omega)) rfl<|?_
    refine bb J J J (fun hc91=>?_) (fun hc91=>?_)
    ·
     have hlast: ¬r.getLast? =some (pF es a3).1:=by rw[hq];intro e;have:=aw7.2 (Option.some.inj e);simp[this] at hc91
     refine rf J J<|ap ((r++[(pF es a3).1]).map eZp) rfl (by rw[List.map_append];rfl) (azZ [_]) rfl<|?_
     refine rnE 95 10 rfl ?_
     exact at_ ⟨r++[(pF es a3).1],j,(pF es a3).2⟩ (by dsimp only;exact⟨⟨by rw[←h1,ap1,if_neg hlast],hq3,h3.snoc ⟨by omega,by omega⟩ hlast,by simp;omega⟩,(by omega)⟩)
    ·
     have hlast:r.getLast? =some (pF es a3).1:=by rw[hq];congr 1;exact aw7.1 (by simpa using hc91)
     exact at_ ⟨r,j,(pF es a3).2⟩ (by dsimp only;exact⟨⟨by rw[←h1,ap1,if_pos hlast],hq3,h3,by omega⟩,(by omega)⟩)
  ·
   obtain rfl:i=0:=by omega
   have hg:=h1
   rw[ap1] at hg
   refine fzC 10 rfl ?_
   refine gx rfl<|?_
   refine lp (fu:=⟨5⟩) (X:=List ZP×Nat) (fun⟨l,m⟩=>[(10, .d (.sl (l.map eZp)))]) (fun⟨l,m⟩=>[]) (fun⟨l,m⟩=>afi m l=afi 6 r∧l.length≤m+1∧Adj l∧l.length≤6) (fun⟨l,m⟩=>m) ⟨r,6⟩ rfl ⟨rfl,by omega,h3,by omega⟩ (fun _=>rfl) (fun⟨l,m⟩ hk=>?_)
   try dsimp only at hk⊢
   obtain⟨t1,t2,t3,t4⟩:=hk
   have hll:(l.map eZp).length=l.length:=by simp
   refine csS (v2:=fun hg98=>by simp only[aai];kernel_rfl) J J J J (fun hg98=>?_) (fun hg98=>?_)
   ·
    obtain⟨q,hqi,hqd⟩:=auS (l:=l) (by omega)
    obtain⟨q2,hq0,hqi2,hqd2⟩:=aqV (l:=l) (by omega)
    have hqm:=t3.le q (List.mem_of_getElem? hqi)
    have hqm2:=t3.le q2 (List.mem_of_getElem? hqi2)
    unfold ZP.le at hqm hqm2
    refine ix _ rfl (aay (i:=0) hqi) rfl<|ix (eZp q2) rfl (by rw[show(((l.map eZp).length:Nat):Int)-1=((l.length-1:Nat):Int) by omega];exact aay hqi2) rfl<|?_
    refine cl rfl (alB (m:=q.1) (n:=q.2) (m':=q2.1) (n':=q2.2) (by omega) (by omega) (by omega) (by omega)) rfl<|?_
    refine bd J J J (fun hc110=>?_) (fun hc110=>?_)
    ·
     have hcond:1<l.length∧l.getD 0 (0,0)=l.getD (l.length-1) (0,0):=⟨by omega,by rw[hqd,hqd2];exact aw7.1 hc110⟩
     refine sc' 0 (l.length-1) (l.dropLast.map eZp) J J (by omega) (arG eZp l) (azZ l) (Nat.zero_le _) (by omega) rfl<|?_
     exact at_ ⟨l.dropLast,m-1⟩ (by dsimp only;exact⟨⟨by rw[←t1];obtain⟨m,rfl⟩: ∃q,m=q+1:=⟨m-1,by omega⟩;rw[afi,if_pos hcond];rfl,by rw[List.length_dropLast];omega,t3.drop,by rw[List.length_dropLast];omega⟩,(by omega)⟩)
    ·
     have hcond: ¬(1<l.length∧l.getD 0 (0,0)=l.getD (l.length-1) (0,0)):=fun e=>hc110 (aw7.2 (by rw[←hqd,←hqd2];exact e.2))
     refine cl (fu:=⟨1⟩) rfl (amQ (l:=l) t3.le (by omega)) rfl<|?_
     have hgen:afi 6 r=l:=by rw[←t1];cases m with|zero=>rfl|succ m=>rw[afi,if_neg hcond]
     refine eqF 118 (.d (vI ((anP l).length:Nat))) rfl (by rw[List.length_map];rfl) ?_
     refine gx rfl<|?_
     refine br J J J (fun hc119=>?_) (fun hc119=>?_)
     ·
      have hfin:acP es a=(aBX,a3):=by rw[hR,avK,←hg,hgen,if_pos (by omega)]
      refine cl rfl (arB (m:=0) (n:=0) (by decide) (by decide)) rfl<|cl rfl (arB (m:=2) (n:=0) (by decide) (by decide)) rfl<|cl rfl (arB (m:=0) (n:=2) (by decide) (by decide)) rfl<|?_
      refine rf J J<|?_
      exact rzM hmb J J (by rw[hfin];rfl) (by rw[hfin])
     ·
      have hfin:acP es a=(l,a3):=by rw[hR,avK,←hg,hgen,if_neg (by omega)]
      exact rzM hmb J J (by rw[hfin];rfl) (by rw[hfin])
   ·
    have hcond: ¬(1<l.length∧l.getD 0 (0,0)=l.getD (l.length-1) (0,0)):=fun e=>by omega
    refine cl (fu:=⟨1⟩) rfl (amQ (l:=l) t3.le (by omega)) rfl<|?_
    have hgen:afi 6 r=l:=by rw[←t1];cases m with|zero=>rfl|succ m=>rw[afi,if_neg hcond]
    refine eqF 118 (.d (vI ((anP l).length:Nat))) rfl (by rw[List.length_map];rfl) ?_
    refine gx rfl<|?_
    refine br J J J (fun hc119=>?_) (fun hc119=>?_)
    ·
     have hfin:acP es a=(aBX,a3):=by rw[hR,avK,←hg,hgen,if_pos (by omega)]
     refine cl rfl (arB (m:=0) (n:=0) (by decide) (by decide)) rfl<|cl rfl (arB (m:=2) (n:=0) (by decide) (by decide)) rfl<|cl rfl (arB (m:=0) (n:=2) (by decide) (by decide)) rfl<|?_
     refine rf J J<|?_
     exact rzM hmb J J (by rw[hfin];rfl) (by rw[hfin])
    ·
     have hfin:acP es a=(l,a3):=by rw[hR,avK,←hg,hgen,if_neg (by omega)]
     exact rzM hmb J J (by rw[hfin];rfl) (by rw[hfin])
def aF3:DV:= .v (.pointer none)
def cTd(l:LnQ)(p q:DV):List DV:=[.v (.bool false), .v (.bool false), .v (.bool (decide (l.a<0))),dN l.a.natAbs, .v (.bool (decide (l.b<0))),dN l.b.natAbs, .v (.bool (decide (l.c<0))),dN l.c.natAbs,p,q]
inductive RF (ns:List RN):Int→(Nat→Bool)→DV→Bool→(Nat→Bool)→Prop where
 |leaf (b:Bool) (f:Nat→Bool):RF ns (ac4 b) f (eT (.leaf b)) true f
 |bad (rt:Int) (f:Nat→Bool) (h1:rt≠ -1) (h2:rt≠ -2) (h:rt<0∨(ns.length:Int)≤rt∨(∃k:Nat,rt=k∧k<ns.length∧f k=true)):RF ns rt f aF3 false f
 |line (k:Nat) (n:RN) (f:Nat→Bool) (h:ns[k]? =some n) (hf:f k=false) (hl:n.g.ln=none):RF ns (k:Int) f aF3 false (an6 f k)
 |left (k:Nat) (n:RN) (l:LnQ) (f f2:Nat→Bool) (p:DV) (h:ns[k]? =some n) (hf:f k=false) (hl:n.g.ln=some l) (h1:RF ns n.l (an6 f k) p false f2):RF ns (k:Int) f aF3 false f2
 |node (k:Nat) (n:RN) (l:LnQ) (f f2 f3:Nat→Bool) (p q:DV) (ok:Bool) (h:ns[k]? =some n) (hf:f k=false) (hl:n.g.ln=some l) (h1:RF ns n.l (an6 f k) p true f2) (h2:RF ns n.r f2 q ok f3):RF ns (k:Int) f (.pt (cTd l p q)) ok f3
def aHt(n:Nat)(f:Nat→Bool):Bool:=(List.range n).all f
theorem Tr.all_imp{p q:LnQ→Prop}(h: ∀l,p l→q l): ∀{t:Tr},t.all p→t.all q
 | .leaf _,_=>trivial
 | .node _ _ _,⟨h0,h1,h2⟩=>⟨h _ h0,Tr.all_imp h h1,Tr.all_imp h h2⟩
theorem aG8{t:Tr}(hs:t.size≤65536):((t.wr 0).map RN.of).length≤65536:=by rw[List.length_map,t.wr_len];exact hs
def l00:LnQ:=⟨0,1,0⟩
def t00:Tr:= .node l00 (.leaf true) (.leaf false)
theorem af3.red_size{k:Nat}{t:Tr}(h:af3 k t)(hr:t.Red []):t.size≤k*(1+k):=by
 obtain⟨K,h1,h2,h3⟩:=h.am
 exact Nat.le_trans (Tr.size_le h2 hr h.gd.ok aa3.nil h3) (Nat.mul_le_mul h1 (by omega))
structure TrX (k:Nat) (t:Tr):Prop where
 o:af3 k t
 s:t.size≤3000
theorem TrX.gd{k:Nat}{t:Tr}(h:TrX k t):t.gd:=h.o.gd
theorem TrX.lb{k:Nat}{t:Tr}(h:TrX k t):t.all LB:=h.o.gd.lb
theorem TrX.ok{k:Nat}{t:Tr}(h:TrX k t):t.all LnQ.ok:=h.o.gd.ok
theorem TrX.bl{k:Nat}{t:Tr}(h:TrX k t):t.all (fun l=>BL l 96):=Tr.all_imp (fun _ h=>h.bl) h.o.gd.lb
theorem TrX.dp{k:Nat}{t:Tr}(h:TrX k t):t.depth≤k:=h.o.dp
theorem TrX.mono{j k:Nat}{t:Tr}(h:TrX j t)(hk:j≤k):TrX k t:=⟨h.o.mono hk,h.s⟩
theorem TrX.restrict{k:Nat}{t:Tr}(h:TrX k t)(c:aaf):TrX k (t.restrict c):=⟨h.o.restrict c,Nat.le_trans (t.restrict_size c) h.s⟩
theorem af3.x{k:Nat}{t:Tr}(h:af3 k t)(hr:t.Red [])(hk:k≤54):TrX k t:=
 ⟨h,Nat.le_trans (h.red_size hr) (Nat.le_trans (Nat.mul_le_mul hk (show 1+k≤55 by omega)) (by decide))⟩
theorem TrX.merge{j k:Nat}{op:Int}{t u:Tr}(h:TrX j t)(hu:TrX k u)(hk:j+k≤54):TrX (j+k) (t.mergeQ op u []):=(h.o.merge hu.o).x (Tr.merge_red op u t []) hk
theorem TrX.lim{j k:Nat}{op:Int}{t u:Tr}(h:TrX j t)(hu:TrX k u)(hk:j+k≤200):ar5 op t u=some (t.mergeQ op u []):=h.o.lim hu.o hk
theorem asN(rs:List (List ZP))(fill:Int):(ajK rs fill).Red []:=Tr.restrict_red _ _
theorem ak1(es:List Int)(a:Nat):(aea es a).1.Red []:=by
 unfold aea
 dsimp only
 split<;>exact asN _ _
theorem ajg(es:List Int)(a:Nat):(aat es 0 a).1.Red []:=by
 rw[aat]
 try dsimp only
 split
 ·exact Tr.restrict_red _ _
 ·split
  ·exact Tr.restrict_red _ _
  ·split
   ·exact Tr.compl_red (ak1 _ _)
   ·exact ak1 _ _
theorem afM{es:List Int}{a:Nat}(ha:a≤es.length):TrX 18 (aat es 0 a).1∧(aat es 0 a).2≤es.length:=by
 obtain⟨h1,h2⟩:=adH (d:=0) ha
 exact⟨(af3.mono h1 (by decide)).x (ajg es a) (by decide),h2⟩
theorem alq{es:List Int}{a:Nat}(ha:a≤es.length):TrX 18 (abw es 3 a).1∧(abw es 3 a).2≤es.length:=by
 obtain⟨h1,h2⟩:=aoA (d:=3) ha (by decide)
 have h5:=Tr.size_lt (abw es 3 a).1
 have h6:(2:Nat)^(abw es 3 a).1.depth≤2^4:=Nat.pow_le_pow_right (by decide) (by have:=(ahi (d:=3) ha).1;omega)
 exact⟨⟨h1,by omega⟩,h2⟩
def aGU(es:List Int)(a:Nat):(Tr×Tr)×Nat:=
 let x:=aat es 0 a
 let y:=aat es 0 x.2
 let k:=aag es 3 y.2
 let u:=if(k.1:Int)=0 then abw es 3 k.2 else(x.1,k.2)
 let j:=aag es 3 u.2
 let v:=if(j.1:Int)=0 then abw es 3 j.2 else(y.1,j.2)
 ((u.1,v.1),v.2)
def ad6(es:List Int)(a:Nat):(Tr×Tr)×Nat:=
 let x:=aat es 0 a
 let y:=aat es 0 x.2
 let k:=aag es 6 y.2
 if(k.1:Int)=0 then((x.1, .node (lF es k.2).1 x.1 x.1),(lF es k.2).2)
 else if(k.1:Int)=1 then((x.1,y.1.mergeQ 1 x.1 []),k.2)
 else if(k.1:Int)=2 then((x.1,y.1.mergeQ 3 x.1 []),k.2)
 else if(k.1:Int)=3 then((x.1,(abw es 3 k.2).1),(abw es 3 k.2).2)
 else((x.1,y.1),k.2)
theorem TrX.above{k:Nat}{t:Tr}(h:TrX k t)(hs:t.size≤1400){l:LnQ}(hl:LS l):TrX (k+1) (.node l t t):=by
 obtain⟨K,h1,h2,h3⟩:=h.o.am
 have a3:adB (l::K) t:=h3.mono fun m hm=>⟨m,List.mem_cons_of_mem _ hm, .inl rfl⟩
 exact⟨⟨⟨⟨⟨hl.bl⟩,h.lb,h.lb⟩,⟨hl.ok,h.ok,h.ok⟩⟩,by have:=h.dp;show 1+max _ _≤_;omega,l::K,by simp;exact h1,fun m hm=>by
  rcases List.mem_cons.1 hm with rfl|hm
  ·exact hl.ok
  ·exact h2 m hm,⟨⟨l,List.mem_cons_self, .inl rfl⟩,a3,a3⟩⟩,by have:=h.s;simp only[Tr.size];omega⟩
theorem aos{es:List Int}{a:Nat}(ha:a≤es.length):(aat es 0 a).1.size≤342:=
 (af3.mono (adH (d:=0) ha).1 (by decide:18*2^0≤18)).red_size (ajg es a)
theorem av8{es:List Int}{a:Nat}(ha:a≤es.length):TrX 18 (ad6 es a).1.1∧TrX 36 (ad6 es a).1.2∧(ad6 es a).2≤es.length:=by
 obtain⟨x1,x2⟩:=afM ha
 obtain⟨y1,y2⟩:=afM x2
 have xs:=aos ha
 have hk:=aaE (n:=6) y2
 unfold ad6
 dsimp only
 split
 ·obtain⟨h1,h2⟩:=aoX hk
  exact⟨x1,(x1.above (by omega) h1).mono (by decide),h2⟩
 ·split
  ·exact⟨x1,y1.merge x1 (by decide),hk⟩
  ·split
   ·exact⟨x1,y1.merge x1 (by decide),hk⟩
   ·split
    ·obtain⟨h1,h2⟩:=alq hk
     exact⟨x1,h1.mono (by decide),h2⟩
    ·exact⟨x1,y1.mono (by decide),hk⟩
def aDa(es:List Int):Nat→Nat→List Tr×Nat
 |0,a=>([],a)
 |n+1,a=>((aat es 0 a).1::(aDa es n (aat es 0 a).2).1,(aDa es n (aat es 0 a).2).2)
def aGP(r:List ZP)(i k:Nat):Bool:=decide (k=i)||decide (k=(i+1)%r.length)||decide (0<alw (r.getD i (0,0)).q (afZ r i).q (r.getD k (0,0)).q)
def aE1(r:List ZP):Bool:=(List.range r.length).all fun i=>(List.range r.length).all fun k=>aGP r i k
theorem aCB{r:List ZP}(h:abv r): ∀x∈[r],abv x:=fun x hx=>by rw[List.mem_singleton] at hx;subst hx;exact h
theorem aCj{r s:List ZP}(h:abv r)(k:abv s): ∀x∈[r,s],abv x:=fun x hx=>by
 simp only[List.mem_cons,List.not_mem_nil,or_false] at hx
 rcases hx with rfl|rfl
 ·exact h
 ·exact k
theorem agL{b:Nat}{es:List Int}(hes:es.length≤400){a:Nat}(ha:a≤es.length):PM GB Tryz.prog 98 (mkP [none] b) b 94 [.sl (es.map vI), .v (.int .i64 (a:Nat))] (eT (aea es a).1) [.sl (es.map vI), .v (.int .i64 ((aea es a).2:Nat))]:=by
 obtain⟨r1,r2⟩:=aiH ha
 have hk3:=aaE (n:=3) r2
 refine fnM Tryz.func98 J J Tryz.ntmps98 J J (fun C b m lo hmb=>?_)
 refine cm rfl (fun b=>(atu hes ha)) rfl<|ro (fu:=⟨4⟩) J J<|?_
 refine mg (X:=List (List ZP)×Nat) (fun⟨rs,a2⟩=>[(3, .rw 6)]) (fun⟨rs,a2⟩=>[(1000000,some (.o 94 [.d (.sl (es.map vI)), .d (.v (.int .i64 (a2:Nat)))] false)),(6,some (.b 73 1 (rs.map eRg) true))]) (fun⟨rs,a2⟩=>aea es a=(ajK rs (1+((aag es 2 a2).1:Int)),(aag es 2 a2).2)∧a2≤es.length∧(∀r∈rs,abv r)∧rs.length≤2) [3] [1000000,6] rfl ?_ (fun _=>rfl) (fun⟨rs,a2⟩ ⟨hB,ha2,hrs,hrl⟩=>?_)
 ·
  refine gx rfl<|cm rfl (fun b=>(ab0 (n:=3) hes r2 (by decide) (by decide))) rfl<|?_
  refine br J J J (fun hc9=>?_) (fun hc9=>?_)
  ·
   obtain⟨s1,s2⟩:=aiH hk3
   refine cm rfl (fun b=>(atu hes hk3)) rfl<|rf J J<|ap (hbd:=by simp) ([(acP es a).1,(acP es (aag es 3 (acP es a).2).2).1].map eRg) J J (azk [(acP es (aag es 3 (acP es a).2).2).1]) rfl<|?_
   refine rnE 14 6 rfl ?_
   exact at_ ⟨[(acP es a).1,(acP es (aag es 3 (acP es a).2).2).1],(acP es (aag es 3 (acP es a).2).2).2⟩ ⟨if_pos hc9,s2,aCj r1 s1,by simp⟩
  ·
   exact at_ ⟨[(acP es a).1],(aag es 3 (acP es a).2).2⟩ ⟨if_neg hc9,hk3,aCB r1,by simp⟩
 ·
  try dsimp only at hB ha2 hrs hrl⊢
  have hf2:=aby (es:=es) (n:=2) (a:=a2) (by decide)
  refine fz 6 J J<|cl rfl (aFK (rs:=rs) hrs (by omega)) rfl<|cm rfl (fun b=>(ab0 (n:=2) hes ha2 (by decide) (by decide))) rfl<|cl rfl (aBD (rs:=rs) (fill:=1+((aag es 2 a2).1:Int)) hrs (by omega)) rfl<|?_
  refine cl rfl (aBE (rs:=rs) (fill:=1+((aag es 2 a2).1:Int)) hrs (by omega)) rfl<|?_
  exact rzM hmb J J (by rw[hB];rfl) (by rw[hB])
theorem amr{b:Nat}{es:List Int}(hes:es.length≤400){a:Nat}(ha:a≤es.length){n:Int}(hn:n=0):PM GB Tryz.prog 41 (mkP [none,some (.v (.int .i64 n))] b) b 94 [.sl (es.map vI), .v (.int .i64 (a:Nat))] (eT (aat es 0 a).1) [.sl (es.map vI), .v (.int .i64 ((aat es 0 a).2:Nat))]:=by
 have hk0:=aaE (n:=6) ha
 obtain⟨hl,hl2⟩:=aoX hk0
 obtain⟨ht,ht2⟩:=alq hk0
 obtain⟨hb,hb2⟩:=aeF hk0
 refine fnM Tryz.func41 J J Tryz.ntmps41 J J (fun C b m lo hmb=>?_)
 refine cm (fu:=⟨5⟩) rfl (fun b=>(ab0 (n:=6) hes ha (by decide) (by decide))) rfl<|?_
 refine mg (X:=Unit) (fun _=>[(9, .ff)]) (fun _=>[]) (fun _=>True) [9] [] rfl ?_ (fun _=>rfl) (fun _ _=>?_)
 ·
  refine gx rfl<|?_
  refine cs (fu1:=⟨1⟩) 12 J J J (fun hg12=>?_) (fun hg12=>?_)
  ·
   refine knF rfl (by show some (decide _)=some false;rw[decide_eq_false (by omega)]) rfl<|?_
   exact at_ () trivial
  ·
   exact at_ () trivial
 ·
  refine br J J J (fun hc29=>?_) (fun hc29=>?_)
  ·
   refine cm rfl (fun b=>(aEB hes hk0)) rfl<|cl rfl (abG (p:=true)) rfl<|cl (fu:=⟨1⟩) rfl (abG (p:=false)) rfl<|bxf J J<|cl rfl (aft (t:= .node (lF es (aag es 6 a).2).1 (.leaf true) (.leaf false)) ⟨⟨hl.bl⟩,trivial,trivial⟩ ⟨hl.ok,trivial,trivial⟩ (by simp[Tr.depth])) rfl<|?_
   exact rzM hmb J J (by rw[show aat es 0 a=_ from if_pos hc29];rfl) (by rw[show aat es 0 a=_ from if_pos hc29])
  ·
   refine br J J J (fun hc39=>?_) (fun hc39=>?_)
   ·
    refine cm rfl (fun b=>(ao5 (d:=3) hes hk0 (by decide))) rfl<|cl rfl (aft (t:=(abw es 3 (aag es 6 a).2).1) ht.lb ht.ok (by have:=ht.dp;omega)) rfl<|?_
    exact rzM hmb J J (by rw[show aat es 0 a=_ from(if_neg hc29).trans (if_pos hc39)];rfl) (by rw[show aat es 0 a=_ from(if_neg hc29).trans (if_pos hc39)])
   ·
    refine br J J J (fun hc45=>?_) (fun hc45=>?_)
    ·
     refine cm rfl (fun b=>(agL hes hk0)) rfl<|cl rfl af4 rfl<|?_
     exact rzM hmb J J (by rw[show aat es 0 a=_ from(if_neg hc29).trans ((if_neg hc39).trans (if_pos hc45))];rfl) (by rw[show aat es 0 a=_ from(if_neg hc29).trans ((if_neg hc39).trans (if_pos hc45))])
    ·
     refine cm rfl (fun b=>(agL hes hk0)) rfl<|?_
     exact rzM hmb J J (by rw[show aat es 0 a=_ from(if_neg hc29).trans ((if_neg hc39).trans (if_neg hc45))];rfl) (by rw[show aat es 0 a=_ from(if_neg hc29).trans ((if_neg hc39).trans (if_neg hc45))])
theorem alp{b:Nat}{es:List Int}(hes:es.length≤400){a:Nat}(ha:a≤es.length){d:Nat}{n:Int}(hn:n=((d+1:Nat):Int))(hd:d≤3)(ih: ∀{GB:Gh} {b a:Nat} {n:Int},a≤es.length→n=(d:Int)→PM GB Tryz.prog 41 (mkP [none,some (.v (.int .i64 n))] b) b 94 [.sl (es.map vI), .v (.int .i64 (a:Nat))] (eT (aat es d a).1) [.sl (es.map vI), .v (.int .i64 ((aat es d a).2:Nat))]):PM GB Tryz.prog 41 (mkP [none,some (.v (.int .i64 n))] b) b 94 [.sl (es.map vI), .v (.int .i64 (a:Nat))] (eT (aat es (d+1) a).1) [.sl (es.map vI), .v (.int .i64 ((aat es (d+1) a).2:Nat))]:=by
 have hk0:=aaE (n:=6) ha
 obtain⟨hl,hl2⟩:=aoX hk0
 obtain⟨ht,ht2⟩:=alq hk0
 obtain⟨hb,hb2⟩:=aeF hk0
 obtain⟨g1,g2⟩:=adH (d:=d) hk0
 have hj:=aaE (n:=4) g2
 have hjl:=aby (es:=es) (n:=4) (a:=(aat es d (aag es 6 a).2).2) (by decide)
 obtain⟨g3,g4⟩:=adH (d:=d) hj
 have hpw:18*2^d≤18*2^3:=Nat.mul_le_mul_left _ (Nat.pow_le_pow_right (by decide) hd)
 refine fnM Tryz.func41 J J Tryz.ntmps41 J J (fun C b m lo hmb=>?_)
 refine cm rfl (fun b=>(ab0 (n:=6) hes ha (by decide) (by decide))) rfl<|?_
 refine cs (fu1:=⟨1⟩) 12 J J J (fun hg12=>?_) (fun hg12=>?_)
 ·
  refine knT rfl (by show some (decide _)=some true;rw[decide_eq_true (by omega)]) rfl<|cm rfl (fun b=>(ih hk0 (by omega))) rfl<|cm rfl (fun b=>(ab0 (n:=4) hes g2 (by decide) (by decide))) rfl<|?_
  refine cm rfl (fun b=>(ih hj (by omega))) rfl<|cl rfl (aio (op:=1+((aag es 4 (aat es d (aag es 6 a).2).2).1:Int)) (t:=(aat es d (aag es 6 a).2).1) (u:=(aat es d (aag es 4 (aat es d (aag es 6 a).2).2).2).1) (c:=[]) g3.gd.lb g3.gd.ok g1.gd.lb g1.gd.ok (fun m h=>by cases h) (fun m h=>by cases h) (by have:=g1.dp;have:=g3.dp;rw[List.length_nil];omega)) rfl<|?_
  exact rzM hmb J J (by rw[show aat es (d+1) a=_ from if_pos hg12];show eT (Tr.mergeL _ _ _ _)=eT (Tr.mergeQ _ _ _ _);rw[Tr.mergeL_nil (by omega) g1.gd.ok g3.gd.ok]) (by rw[show aat es (d+1) a=_ from if_pos hg12])
 ·
  refine br J J J (fun hc29=>?_) (fun hc29=>?_)
  ·
   refine cm rfl (fun b=>(aEB hes hk0)) rfl<|cl rfl (abG (p:=true)) rfl<|cl (fu:=⟨1⟩) rfl (abG (p:=false)) rfl<|bxf J J<|cl rfl (aft (t:= .node (lF es (aag es 6 a).2).1 (.leaf true) (.leaf false)) ⟨⟨hl.bl⟩,trivial,trivial⟩ ⟨hl.ok,trivial,trivial⟩ (by simp[Tr.depth])) rfl<|?_
   exact rzM hmb J J (by rw[show aat es (d+1) a=_ from(if_neg hg12).trans (if_pos hc29)];rfl) (by rw[show aat es (d+1) a=_ from(if_neg hg12).trans (if_pos hc29)])
  ·
   refine br J J J (fun hc39=>?_) (fun hc39=>?_)
   ·
    refine cm rfl (fun b=>(ao5 (d:=3) hes hk0 (by decide))) rfl<|cl rfl (aft (t:=(abw es 3 (aag es 6 a).2).1) ht.lb ht.ok (by have:=ht.dp;omega)) rfl<|?_
    exact rzM hmb J J (by rw[show aat es (d+1) a=_ from(if_neg hg12).trans ((if_neg hc29).trans (if_pos hc39))];rfl) (by rw[show aat es (d+1) a=_ from(if_neg hg12).trans ((if_neg hc29).trans (if_pos hc39))])
   ·
    refine br J J J (fun hc45=>?_) (fun hc45=>?_)
    ·
     refine cm rfl (fun b=>(agL hes hk0)) rfl<|cl rfl af4 rfl<|?_
     exact rzM hmb J J (by rw[show aat es (d+1) a=_ from(if_neg hg12).trans ((if_neg hc29).trans ((if_neg hc39).trans (if_pos hc45)))];rfl) (by rw[show aat es (d+1) a=_ from(if_neg hg12).trans ((if_neg hc29).trans ((if_neg hc39).trans (if_pos hc45)))])
    ·
     refine cm rfl (fun b=>(agL hes hk0)) rfl<|?_
     exact rzM hmb J J (by rw[show aat es (d+1) a=_ from(if_neg hg12).trans ((if_neg hc29).trans ((if_neg hc39).trans (if_neg hc45)))];rfl) (by rw[show aat es (d+1) a=_ from(if_neg hg12).trans ((if_neg hc29).trans ((if_neg hc39).trans (if_neg hc45)))])
theorem an2{es:List Int}(hes:es.length≤400): ∀{d:Nat} {GB:Gh} {b a:Nat} {n:Int},d≤4→a≤es.length→n=(d:Int)→PM GB Tryz.prog 41 (mkP [none,some (.v (.int .i64 n))] b) b 94 [.sl (es.map vI), .v (.int .i64 (a:Nat))] (eT (aat es d a).1) [.sl (es.map vI), .v (.int .i64 ((aat es d a).2:Nat))]
 |0,_,_,_,_,_,ha,hn=>amr hes ha hn
 |d+1,_,_,_,_,hd,ha,hn=>alp hes ha hn (by omega) (fun h1 h2=>an2 hes (by omega) h1 h2)
theorem anU{es:List Int}(hes:es.length≤400){a d b:Nat}(ha:a≤es.length)(hd:d≤4):PM GB Tryz.prog 41 (mkP [none,some (.v (.int .i64 (d:Nat)))] b) b 94 [.sl (es.map vI), .v (.int .i64 (a:Nat))] (eT (aat es d a).1) [.sl (es.map vI), .v (.int .i64 ((aat es d a).2:Nat))]:=an2 (GB:=GB) hes hd ha rfl
section
variable {GB:Gh} {C:Ctx} {n:Nat} {Q0:Exit→Act→World→Prop} {fr fr' fr1 fr2:FrX} {own own' own1 own2:OwX} {cf cf' cf1 cf2:Cf} {vc vc1 vc2:List Prop}
def aHo(fr:FrX)(cf:Cf):Option Int:=match opC fr cf with
 |some ⟨_, .binOp .and _ x (.const (.int .i64 3)) _,_,_,_,_⟩=>match evX (lkC fr cf) x with
  |some (.d (.v (.int .i64 p)))=>some p
  |_=>none
 |_=>none
end
theorem aCH{es0 es:List Int}(hb:es0.length≤1125899906842624)(he:es=es0.take 400):PN GB Tryz.prog 9 [.sl (es0.map vI)] 94 Unit (fun _=>[.sl (es.map vI), .v (.int .i64 (0:Nat))]):=by
 subst he;exact aE8 hb
theorem ahg{k:Nat}{t:Tr}(h:TrX k t):PF GB Tryz.prog 11 [eT t] (eA t):=aAY h.bl (by have:=h.s;omega)
theorem anv{op:Int}{j k:Nat}{a b:Tr}(ho:1≤op∧op≤4)(ha:TrX j a)(hb:TrX k b)(hk:j+k≤900):PF GB Tryz.prog 44 [vI op,eT a,eT b, .sl []] (eT (a.mergeQ op b [])):=by
 have:=aio (GB:=GB) (op:=op) hb.lb hb.ok (t:=a) (c:=[]) ha.lb ha.ok (fun m h=>by cases h) (fun m h=>by cases h) (by have:=ha.dp;have:=hb.dp;rw[List.length_nil];omega)
 rw[Tr.mergeL_nil ho ha.ok hb.ok] at this
 exact this
theorem aDr{b:Nat}{es:List Int}(hes:es.length≤400){a:Nat}(ha:a≤es.length):PM GB Tryz.prog 8 (mkP [none] b) b 94 [.sl (es.map vI), .v (.int .i64 (a:Nat))] (.tp [eT (ad6 es a).1.1,eT (ad6 es a).1.2]) [.sl (es.map vI), .v (.int .i64 ((ad6 es a).2:Nat))]:=by
 obtain⟨x1,x2⟩:=afM ha
 obtain⟨y1,y2⟩:=afM x2
 have hk0:=aaE (n:=6) y2
 refine fnM Tryz.func8 J J Tryz.ntmps8 J J (fun C b m lo hmb=>?_)
 refine cm rfl (fun b=>(anU (d:=0) hes ha (by decide))) rfl<|cm rfl (fun b=>(anU (d:=0) hes x2 (by decide))) rfl<|cm rfl (fun b=>(ab0 (n:=6) hes y2 (by decide) (by decide))) rfl<|?_
 refine br J J J (fun hc12=>?_) (fun hc12=>?_)
 ·
  refine cm (fu:=⟨3⟩) rfl (fun b=>(aEB hes hk0)) rfl<|bxf J J<|?_
  exact rzM hmb J J (by rw[show ad6 es a=_ from if_pos hc12];rfl) (by rw[show ad6 es a=_ from if_pos hc12])
 ·
  refine br J J J (fun hc20=>?_) (fun hc20=>?_)
  ·
   refine cl rfl (anv (op:=1) (by decide) y1 x1 (by decide)) rfl<|?_
   exact rzM hmb J J (by rw[show ad6 es a=_ from(if_neg hc12).trans (if_pos hc20)];rfl) (by rw[show ad6 es a=_ from(if_neg hc12).trans (if_pos hc20)])
  ·
   refine br J J J (fun hc25=>?_) (fun hc25=>?_)
   ·
    refine cl rfl (anv (op:=3) (by decide) y1 x1 (by decide)) rfl<|?_
    exact rzM hmb J J (by rw[show ad6 es a=_ from(if_neg hc12).trans ((if_neg hc20).trans (if_pos hc25))];rfl) (by rw[show ad6 es a=_ from(if_neg hc12).trans ((if_neg hc20).trans (if_pos hc25))])
   ·
    refine br J J J (fun hc30=>?_) (fun hc30=>?_)
    ·
     refine cm rfl (fun b=>(ao5 (d:=3) hes hk0 (by decide))) rfl<|?_
     exact rzM hmb J J (by rw[show ad6 es a=_ from(if_neg hc12).trans ((if_neg hc20).trans ((if_neg hc25).trans (if_pos hc30)))];rfl) (by rw[show ad6 es a=_ from(if_neg hc12).trans ((if_neg hc20).trans ((if_neg hc25).trans (if_pos hc30)))])
    ·
     exact rzM hmb J J (by rw[show ad6 es a=_ from(if_neg hc12).trans ((if_neg hc20).trans ((if_neg hc25).trans (if_neg hc30)))];rfl) (by rw[show ad6 es a=_ from(if_neg hc12).trans ((if_neg hc20).trans ((if_neg hc25).trans (if_neg hc30)))])
section
variable {GB:Gh} {C:Ctx} {n:Nat} {Q0:Exit→Act→World→Prop} {fr fr':FrX} {own own':OwX} {cf cf':Cf} {vc:List Prop} {ops:Array Oper} {r:List Oper} {K:List Kt}
def aHx(fr:FrX)(cf:Cf):Option (FuncId×Value):=match opC fr cf with
 |some ⟨_, .makeFunc (.func f) ⟨[x]⟩ ⟨[]⟩,_,_,_,_⟩=>match evX (lkC fr cf) x with
  |some (.d (.v pv))=>some (f,pv)
  |_=>none
 |_=>none
def aHl(fr:FrX)(cf:Cf):Option (FuncId×List Value×List DV):=match opC fr cf with
 |some ⟨_, .call ⟨.value fo,args,_⟩,_,_,_,_⟩=>match evX (lkC fr cf) fo,evDs (lkC fr cf) args.toList with
  |some (.d (.v (.func (.func f) ⟨c1⟩ ⟨[]⟩))),some ds=>some (f,c1,ds)
  |_,_=>none
 |_=>none
/-! an array of constants -/
def ayu:List (Nat×Operand)→Option (List (Nat×Value))
 |[]=>some []
 |(i, .const v)::t=>match ayu t with
  |some l=>some ((i,v)::l)
  |none=>none
 |_::_=>none
def aHO(cf:Cf)(fr:FrX):Option (TypeId×List (Nat×Value)):=match opC fr cf with
 |some ⟨_, .build t ⟨ps⟩,_,_,_,_⟩=>match ayu ps with
  |some vs=>some (t,vs)
  |none=>none
 |_=>none
def aHm(fr:FrX)(own:OwX)(cf:Cf):Option (TypeId×Nat×Nat×List FX×Bool×FX):=match opC fr cf with
 |some ⟨_, .store t x y,_,_,_,_⟩=>match evX (lkC fr cf) x with
  |some (.ov nm 0)=>match bkC fr own cf nm with
   |some (.o ty cs lo)=>match evX (lkC fr cf) y with
    |some fv=>some (t,nm,ty,cs,lo,fv)
    |_=>none
   |_=>none
  |_=>none
 |_=>none
def aHz(fr:FrX)(cf:Cf):Option RwA:=match opC fr cf with
 |some ⟨some d, .buildSlice t len parts,_,_,_,_⟩=>match abE tt t with
  |some ⟨.sl e s _,_,_,_⟩=>match aAj (lkC fr cf) 0 parts.toList with
   |some ds=>bif awv s ds&&(Nat.beq parts.toList.length len&&(Nat.ble (len*s) 1000&&Nat.blt 0 (len*s))) then some ⟨d,e,s,ds⟩ else none
   |none=>none
  |_=>none
 |_=>none
def aHv(fr:FrX)(cf:Cf):Option (TypeId×List DV):=match opC fr cf with
 |some ⟨_, .load t x,_,_,_,_⟩=>match evX (lkC fr cf) x with
  |some (.ep l)=>some (t,l)
  |_=>none
 |_=>none
def aHB:TypeDesc→Bool
 | .struct _=>false
 | .array _ _=>false
 |_=>true
end
theorem aiG{α:Type}{c:α→α→Int}(hc: ∀u x,c u x=0→u=x){x y:α}: ∀{xs:List α},y=x∨y∈xs→y∈ad3 c x xs
 |[],h=>by
  rcases h with rfl|h
  ·rw[ad3];exact List.mem_singleton.2 rfl
  ·cases h
 |u::t,h=>by
  rw[ad3]
  split
  ·rcases h with rfl|h
   ·exact List.mem_cons_of_mem _ (aiG hc (.inl rfl))
   ·rcases List.mem_cons.1 h with rfl|h
    ·exact List.mem_cons_self
    ·exact List.mem_cons_of_mem _ (aiG hc (.inr h))
  ·split
   ·rename_i h0
    rcases h with rfl|h
    ·rw[←hc _ _ h0];exact List.mem_cons_self
    ·exact h
   ·rcases h with rfl|h
    ·exact List.mem_cons_self
    ·exact List.mem_cons_of_mem _ h
theorem akU{α:Type}{c:α→α→Int}(hc: ∀u x,c u x=0→u=x){y:α}: ∀{l o:List α},y∈l∨y∈o→y∈l.foldl (fun out x=>ad3 c x out) o
 |[],o,h=>h.elim (fun h=>by cases h) id
 |x::t,o,h=>by
  refine akU hc (l:=t) ?_
  rcases h with h|h
  ·rcases List.mem_cons.1 h with rfl|h
   ·exact .inr (aiG hc (.inl rfl))
   ·exact .inl h
  ·exact .inr (aiG hc (.inr h))
theorem alP{ls:List LnQ}{x:LnQ}(h:x∈ls):x.canon∈adh ls:=
 akU (fun u x e=>(afu u x).1 e) (.inl (List.mem_map_of_mem h))
theorem ajz(l:LnQ)(p:PtQ):l.canon.value p=l.value p∨l.canon.value p= -l.value p:=by
 unfold LnQ.canon
 split
 ·exact .inr (aaM l p)
 ·exact .inl rfl
theorem alU{ls:List LnQ}{p:PtQ}:Off (adh ls) p↔Off ls p:=by
 constructor
 ·intro h l hl e
  have:=h _ (alP hl)
  rcases ajz l p with k|k<;>rw[k,e] at this<;>exact this (by simp)
 ·intro h l hl e
  obtain⟨x,hx,rfl⟩:=aeC hl
  have:=h x hx
  rcases ajz x p with k|k<;>rw[k] at e
  ·exact this e
  ·exact this (by grind)
theorem auR{ls:List LnQ}{p q:PtQ}(hp:Off ls p)(hq:Off ls q)(h: ∀l∈adh ls,0<l.value p↔0<l.value q): ∀l∈ls,0<l.value q↔0<l.value p:=fun l hl=>by
 have h1:=h _ (alP hl)
 have h2:=hp l hl
 have h3:=hq l hl
 unfold LnQ.canon at h1
 split at h1
 ·rw[aaM,aaM] at h1
  constructor
  ·intro k
   rcases abj (l.value p) with e|e|e
   ·exact absurd e h2
   ·exact e
   ·have:=h1.1 (by grind);grind
  ·intro k
   rcases abj (l.value q) with e|e|e
   ·exact absurd e h3
   ·exact e
   ·have:=h1.2 (by grind);grind
 ·exact h1.symm
def fcs(a b:Tr):List PtQ:=afc (adh (a.lns++b.lns))
theorem aBG{a b:Tr}(ha:a.all LnQ.ok)(hb:b.all LnQ.ok){R:Bool→Bool→Prop}:(∀p∈fcs a b,R (atQ a p) (atQ b p))↔ ∀p,Off (a.lns++b.lns) p→R (a.val p) (b.val p):=by
 have hok: ∀l∈a.lns++b.lns,l.ok:=fun l hl=>(List.mem_append.1 hl).elim (adk ha l) (adk hb l)
 have hne: ∀l∈adh (a.lns++b.lns),l.Ne:=fun l hl=>by
  obtain⟨x,hx,rfl⟩:=aeC hl
  exact(amq (hok x hx)).ne
 constructor
 ·intro h p hp
  obtain⟨q,hq,hs⟩:=asf hne (alU.2 hp)
  have ho:=alU.1 (aod hne hq)
  have hsd:=auR hp ho hs
  have k:=h q hq
  rw[ahB (Off.app.1 ho).1,ahB (Off.app.1 ho).2,ag0 (t:=a) hsd (fun l hl=>List.mem_append_left _ hl),ag0 (t:=b) hsd (fun l hl=>List.mem_append_right _ hl)] at k
  exact k
 ·intro h p hp
  have ho:=alU.1 (aod hne hp)
  rw[ahB (Off.app.1 ho).1,ahB (Off.app.1 ho).2]
  exact h p ho
def eqR(a b:Tr):Bool:=(fcs a b).all fun p=>atQ a p==atQ b p
def aHP(f:Bool→Bool→Bool)(a b:Tr):Bool:=(fcs a b).any fun p=>f (atQ a p) (atQ b p)
def anY(v:Bool)(t:Tr):Bool:=decide ((t.restrict []).isLeaf=true∧(t.restrict []).code=v)
def ePr(a b:Tr):DV:= .ag [eU a,eU b]
def prZ:DV:= .ag [.v (.pointer none), .v (.pointer none)]
theorem azI{k:Nat}{t:Tr}(h:TrX k t):PF GB Tryz.prog 74 [eA t] (.tp [eU t,vB true]):=by
 have:=aEZ (GB:=GB) (rt:=t.num 0) (aFi h.lb) (aG8 (by have:=h.s;omega)) (aCl h.ok)
 rw[←aFX] at this
 exact this
theorem aA0{op:Int}{a b:Tr}{v:Bool}(h:Tr.leaf v=a.mergeQ op b []):ajp op a b=!v:=by unfold ajp;rw[←h];cases v<;>rfl
theorem azF{op:Int}{a b:Tr}{l:LnQ}{x y:Tr}(h:Tr.node l x y=a.mergeQ op b []):ajp op a b=false:=by unfold ajp;rw[←h];simp[Tr.isLeaf]
theorem ayd{j k:Nat}{a b:Tr}(ha:TrX j a)(hb:TrX k b):PF GB Tryz.prog 50 [eA a,eA b] (.tp [ePr a b, .v .nilIface]):=by
 refine fn Tryz.func50 J J Tryz.ntmps50 J J (fun C=>?_)
 refine cl (fu:=⟨3⟩) rfl (azI ha) rfl<|?_
 refine kbT 14 rfl ?_
 refine gx rfl<|cl (fu:=⟨3⟩) rfl (azI hb) rfl<|?_
 refine kbT 19 rfl ?_
 refine gx rfl<|?_
 exact rz J J
theorem aC0{ai al ae:Addr}(hE:EG GB ai al ae){op:Int}{j k:Nat}{a b:Tr}(ha:TrX j a)(hb:TrX k b)(hk:j+k≤200):PF GB Tryz.prog 168 [ePr a b,vI op] (.tp [vB (ajp op a b), .v .nilIface]):=by
 obtain⟨t,ht⟩: ∃t,t=a.mergeQ op b []:=⟨_,rfl⟩
 refine fn Tryz.func168 J J Tryz.ntmps168 J J (fun C=>?_)
 refine cl rfl (alg (t:=t) hE ha.gd hb.gd (by have:=ha.s;omega) (by have:=hb.s;omega) (by rw[ht];exact ha.lim hb hk)) rfl<|?_
 rcases t with v|⟨l,x,y⟩
 ·
  have hq:=aA0 ht
  refine cl (fu:=⟨0⟩) rfl abA rfl<|?_
  refine kbT 21 rfl ?_
  refine gx rfl<|?_
  exact rz rfl (by rw[hq];rfl)
 ·
  have hq:=azF ht
  refine cl (fu:=⟨0⟩) rfl abK rfl<|?_
  refine kbF 21 rfl ?_
  refine gx rfl<|?_
  exact rz rfl (by rw[hq];rfl)
theorem ax7{ai al ae:Addr}(hE:EG GB ai al ae){j k:Nat}{a b:Tr}(ha:TrX j a)(hb:TrX k b)(hk:j+k≤200):PF GB Tryz.prog 138 [ePr a b] (.tp [vB (ajp 4 a b), .v .nilIface]):=by
 refine fn Tryz.func138 J J Tryz.ntmps138 J J (fun C=>?_)
 refine cl rfl (aC0 hE (op:=4) ha hb hk) rfl<|?_
 exact rz J J
theorem aE0{ai al ae:Addr}(hE:EG GB ai al ae){j k:Nat}{a b:Tr}(ha:TrX j a)(hb:TrX k b)(hk:j+k≤200):PF GB Tryz.prog 63 [eA a,eA b] (.tp [vB (ajp 4 a b), .v .nilIface]):=by
 refine fn Tryz.func63 J J Tryz.ntmps63 J J (fun C=>?_)
 refine cl rfl (ayd ha hb) rfl<|cl rfl (ax7 hE ha hb hk) rfl<|?_
 exact rz J J
theorem arc{ai al ae:Addr}(hE:EG GB ai al ae){k:Nat}{t:Tr}(h:TrX k t)(hk:k≤1000):PF GB Tryz.prog 45 [eA t] (.tp [eU (t.restrict []), .v .nilIface]):=by
 have hd:=h.dp
 refine fn Tryz.func45 J J Tryz.ntmps45 J J (fun C=>?_)
 refine cl (fu:=⟨3⟩) rfl (azI h) rfl<|?_
 refine kbT 10 rfl ?_
 refine gx rfl<|cl (fu:=⟨0⟩) rfl (aiS (t:=t) (by omega)) rfl<|knF rfl (by show some (decide _)=some false;rw[decide_eq_false (by omega)]) rfl<|cl rfl (axo (t:=t) h.lb h.ok (by omega)) rfl<|?_
 exact rz J J
theorem auz{v w:Bool}{t:Tr}(h:Tr.leaf v=t.restrict []):anY w t=decide (v=w):=by unfold anY;rw[←h];simp[Tr.isLeaf,Tr.code]
theorem aty{w:Bool}{t:Tr}{l:LnQ}{x y:Tr}(h:Tr.node l x y=t.restrict []):anY w t=false:=by unfold anY;rw[←h];simp[Tr.isLeaf]
theorem axF{ai al ae:Addr}(hE:EG GB ai al ae){k:Nat}{t:Tr}(h:TrX k t)(hk:k≤1000):PF GB Tryz.prog 61 [eA t] (.tp [vB (anY false t), .v .nilIface]):=by
 obtain⟨u,ht⟩: ∃u,u=t.restrict []:=⟨_,rfl⟩
 refine fn Tryz.func61 J J Tryz.ntmps61 J J (fun C=>?_)
 refine cl (fu:=⟨0⟩) rfl (arc hE h hk) rfl<|?_
 refine eqF 8 (.d (.tp [eU u, .v .nilIface])) rfl (by rw[ht]) ?_
 refine gx rfl<|?_
 rcases u with v|⟨l,x,y⟩
 ·
  have hq:=auz (w:=false) ht
  refine cl (fu:=⟨0⟩) rfl abA rfl<|?_
  refine kbT 15 rfl ?_
  refine gx rfl<|?_
  exact rz rfl (by rw[hq];cases v<;>rfl)
 ·
  have hq:=aty (w:=false) ht
  refine cl (fu:=⟨0⟩) rfl abK rfl<|?_
  refine kbF 15 rfl ?_
  refine gx rfl<|?_
  exact rz rfl (by rw[hq];rfl)
theorem axt{ai al ae:Addr}(hE:EG GB ai al ae){k:Nat}{t:Tr}(h:TrX k t)(hk:k≤1000):PF GB Tryz.prog 62 [eA t] (.tp [vB (anY true t), .v .nilIface]):=by
 obtain⟨u,ht⟩: ∃u,u=t.restrict []:=⟨_,rfl⟩
 refine fn Tryz.func62 J J Tryz.ntmps62 J J (fun C=>?_)
 refine cl (fu:=⟨0⟩) rfl (arc hE h hk) rfl<|?_
 refine eqF 8 (.d (.tp [eU u, .v .nilIface])) rfl (by rw[ht]) ?_
 refine gx rfl<|?_
 rcases u with v|⟨l,x,y⟩
 ·
  have hq:=auz (w:=true) ht
  refine cl (fu:=⟨0⟩) rfl abA rfl<|?_
  refine kbT 15 rfl ?_
  refine gx rfl<|?_
  exact rz rfl (by rw[hq];cases v<;>rfl)
 ·
  have hq:=aty (w:=true) ht
  refine cl (fu:=⟨0⟩) rfl abK rfl<|?_
  refine kbF 15 rfl ?_
  refine gx rfl<|?_
  exact rz rfl (by rw[hq];rfl)
section
variable {GB:Gh} {ai al ae:Addr} (hE:EG GB ai al ae) {j k:Nat} {a b:Tr} (ha:TrX j a) (hb:TrX k b)
include hE ha
theorem atb{v:Bool}(h:anY false a=v)(hk:j≤1000:=by decide):PF GB Tryz.prog 61 [eA a] (.tp [vB v, .v .nilIface]):=h▸axF hE ha hk
theorem aul{v:Bool}(h:anY true a=v)(hk:j≤1000:=by decide):PF GB Tryz.prog 62 [eA a] (.tp [vB v, .v .nilIface]):=h▸axt hE ha hk
include hb
theorem aEd{v:Bool}(h:ajp 4 a b=v)(hk:j+k≤200:=by decide):PF GB Tryz.prog 63 [eA a,eA b] (.tp [vB v, .v .nilIface]):=h▸aE0 hE ha hb hk
end
theorem adw(v:Bool):TrX 0 (.leaf v):=⟨⟨⟨trivial,trivial⟩,Nat.le_refl 0,[],Nat.le_refl 0,(fun _ h=>nomatch h),trivial⟩,Nat.zero_le _⟩
section
variable {GB:Gh} {ai al ae:Addr} (hE:EG GB ai al ae)
include hE
theorem aFq:PF GB Tryz.prog 61 [.ag [vI (-1), .sl []]] (.tp [vB true, .v .nilIface]):=atb hE (adw false) (by decide)
theorem aFl:PF GB Tryz.prog 62 [.ag [vI (-2), .sl []]] (.tp [vB true, .v .nilIface]):=aul hE (adw true) (by decide)
theorem aFM:PF GB Tryz.prog 63 [.ag [vI (-2), .sl []], .ag [vI (-1), .sl []]] (.tp [vB false, .v .nilIface]):=aEd hE (adw true) (adw false) (by decide)
end
theorem aAn{b:Nat}{es:List Int}(hes:es.length≤400){A B:Tr}(hA:A=(ad6 es 0).1.1)(hB:B=(ad6 es 0).1.2):PM GB Tryz.prog 8 (mkP [none] b) b 94 [.sl (es.map vI), .v (.int .i64 (0:Nat))] (.tp [eT A,eT B]) [.sl (es.map vI), .v (.int .i64 ((ad6 es 0).2:Nat))]:=by
 subst hA hB;exact aDr hes (Nat.zero_le _)
theorem aew{ai al ae:Addr}(hE:EG GB ai al ae):PF GB Tryz.prog 20 [] (.v (.bool true)):=by
 refine fn Tryz.func20 J J Tryz.ntmps20 J J (fun C=>?_)
 refine cl (fu:=⟨4⟩) rfl (aFq hE) rfl<|?_
 refine kbT 1 rfl ?_
 refine gx rfl<|cl (fu:=⟨4⟩) rfl (aFl hE) rfl<|?_
 refine kbT 3 rfl ?_
 refine gx rfl<|cl (fu:=⟨4⟩) rfl (aFM hE) rfl<|?_
 refine kbF 5 rfl ?_
 refine gx rfl<|?_
 exact rz J J
theorem abc(p:PtQ):(p.half=1∧(0<p.y∨(p.y=0∧0<p.x)))∨(p.half=2∧(p.y<0∨(p.y=0∧p.x<0)))∨(p.half=0∧p.y=0∧p.x=0):=by
 unfold PtQ.half
 simp only[ae9,afj,abh]
 split
 ·rename_i h;exact .inl ⟨rfl,h⟩
 ·rename_i h
  split
  ·rename_i h2
   exact .inr (.inl ⟨rfl,by grind⟩)
  ·rename_i h2
   exact .inr (.inr ⟨rfl,by grind,by grind⟩)
theorem afU{p:PtQ}:p.half=1↔(0<p.y∨(p.y=0∧0<p.x)):=by
 rcases abc p with⟨h,k⟩|⟨h,k⟩|⟨h,k⟩<;>rw[h]<;>grind
theorem afK{p:PtQ}:p.half=2↔(p.y<0∨(p.y=0∧p.x<0)):=by
 rcases abc p with⟨h,k⟩|⟨h,k⟩|⟨h,k⟩<;>rw[h]<;>grind
def Bef(u v:PtQ):Prop:=u.half<v.half∨(u.half=v.half∧0<u.cross v)
theorem aAa{u v:PtQ}:abY u v<0↔Bef u v:=by
 unfold abY Bef
 split
 ·rename_i h;exact⟨fun _=> .inl h,fun _=>by decide⟩
 ·rename_i h
  split
  ·rename_i h2;exact⟨fun e=>absurd e (by decide),fun e=>by omega⟩
  ·rename_i h2
   have e:u.half=v.half:=by omega
   rw[←ae9]
   constructor
   ·intro k;exact .inr ⟨e,by omega⟩
   ·rintro (k|⟨_,k⟩)
    ·omega
    ·omega
def ahT(d:PtQ):PtQ:=⟨-d.x, -d.y⟩
theorem ae7{d:PtQ}(h:d.half≠0):(ahT d).half=3-d.half:=by
 rcases abc d with⟨e,k⟩|⟨e,k⟩|⟨e,k⟩
 ·rw[e];exact afK.2 (by unfold ahT;grind)
 ·rw[e];exact afU.2 (by unfold ahT;grind)
 ·exact absurd e h
theorem acW{d:PtQ}(h:d.half≠0):d.half=1∨d.half=2:=by
 rcases abc d with⟨e,_⟩|⟨e,_⟩|⟨e,_⟩
 ·exact .inl e
 ·exact .inr e
 ·exact absurd e h
def Nxt(ds:List PtQ)(u w:PtQ):Prop:=(Bef u w∧ ∀d∈ds,¬(Bef u d∧Bef d w))∨((∀d∈ds,¬Bef u d)∧ ∀d∈ds,¬Bef d w)
structure azG (ds:List PtQ):Prop where
 nz: ∀d∈ds,d.half≠0
 neg: ∀d∈ds,ahT d∈ds
theorem aa0(u v:PtQ):v.cross u= -u.cross v:=by unfold PtQ.cross;grind
theorem aet(u v:PtQ):u.cross (ahT v)= -u.cross v:=by unfold PtQ.cross ahT;grind
theorem Nxt.spec{ds:List PtQ}{u w:PtQ}(h:azG ds)(hu:u∈ds)(hw:w∈ds)(hn:Nxt ds u w):
  (u.half=w.half∧0<u.cross w∧ ∀d∈ds,¬(Bef u d∧Bef d w))∨(u.half≠w.half∧(∀d∈ds,d.half=u.half→0≤d.cross u)∧ ∀d∈ds,d.half=w.half→0≤w.cross d):=by
 have zu:=acW (h.nz u hu)
 have zw:=acW (h.nz w hw)
 rcases hn with⟨h1,h2⟩|⟨h1,h2⟩
 ·rcases h1 with k|⟨k,k2⟩
  ·refine .inr ⟨by omega,fun d hd e=>?_,fun d hd e=>?_⟩
   ·have:=h2 d hd
    rw[aa0]
    by_cases hc:0<u.cross d
    ·exact absurd ⟨.inr ⟨e.symm,hc⟩, .inl (by omega)⟩ this
    ·grind
   ·have:=h2 d hd
    by_cases hc:0<d.cross w
    ·exact absurd ⟨.inl (by omega), .inr ⟨e,hc⟩⟩ this
    ·rw[aa0] at hc;grind
  ·exact .inl ⟨k,k2,h2⟩
 ·have nu:=ae7 (h.nz u hu)
  have a1:=h1 _ (h.neg u hu)
  have a2:=h2 _ (h.neg u hu)
  unfold Bef at a1 a2
  rw[nu] at a1 a2
  refine .inr ⟨fun e=>?_,fun d hd e=>?_,fun d hd e=>?_⟩
  ·rcases zu with z|z
   ·exact a1 (.inl (by omega))
   ·exact a2 (.inl (by omega))
  ·have:=h1 d hd
   rw[aa0]
   by_cases hc:0<u.cross d
   ·exact absurd (.inr ⟨e.symm,hc⟩) this
   ·grind
  ·have:=h2 d hd
   by_cases hc:0<d.cross w
   ·exact absurd (.inr ⟨e,hc⟩) this
   ·rw[aa0] at hc;grind
theorem Nxt.pos{ds:List PtQ}{u w:PtQ}(h:azG ds)(hu:u∈ds)(hw:w∈ds)(hn:Nxt ds u w):0≤u.cross w:=by
 rcases hn.spec h hu hw with⟨_,h2,_⟩|⟨h1,h2,h3⟩
 ·grind
 ·have:=h3 _ (h.neg u hu) (by rw[ae7 (h.nz u hu)];have:=acW (h.nz u hu);have:=acW (h.nz w hw);omega)
  rw[aet] at this
  rw[aa0];exact this
def btw(a b:Rat)(u w:PtQ):PtQ:=⟨a*u.x+b*w.x,a*u.y+b*w.y⟩
theorem am8{a b:Rat}{u w:PtQ}:u.cross (btw a b u w)=b*u.cross w∧(btw a b u w).cross w=a*u.cross w:=by
 unfold PtQ.cross btw
 constructor<;>grind
theorem axX{a b:Rat}{u w:PtQ}(ha:0<a)(hb:0<b)(h:u.half=w.half)(hz:u.half≠0):(btw a b u w).half=u.half:=by
 rcases abc u with⟨e,k⟩|⟨e,k⟩|⟨e,k⟩
 ·rw[e] at h⊢
  have k2:=afU.1 h.symm
  refine afU.2 ?_
  unfold btw
  simp only
  have p1: ∀z:Rat,0<z→0<a*z:=fun z hz=>aae ha hz
  have p2: ∀z:Rat,0<z→0<b*z:=fun z hz=>aae hb hz
  rcases k with k|⟨k,k'⟩<;>rcases k2 with l|⟨l,l'⟩
  ·have:=p1 _ k;have:=p2 _ l;grind
  ·have:=p1 _ k;rw[l];grind
  ·have:=p2 _ l;rw[k];grind
  ·have:=p1 _ k';have:=p2 _ l';rw[k,l];grind
 ·rw[e] at h⊢
  have k2:=afK.1 h.symm
  refine afK.2 ?_
  unfold btw
  simp only
  have p1: ∀z:Rat,z<0→a*z<0:=fun z hz=>by have:=aae (a:=a) (b:= -z) ha (by grind);grind
  have p2: ∀z:Rat,z<0→b*z<0:=fun z hz=>by have:=aae (a:=b) (b:= -z) hb (by grind);grind
  rcases k with k|⟨k,k'⟩<;>rcases k2 with l|⟨l,l'⟩
  ·have:=p1 _ k;have:=p2 _ l;grind
  ·have:=p1 _ k;rw[l];grind
  ·have:=p2 _ l;rw[k];grind
  ·have:=p1 _ k';have:=p2 _ l';rw[k,l];grind
 ·exact absurd e hz
theorem Nxt.none{ds:List PtQ}{u w:PtQ}(h:azG ds)(hu:u∈ds)(hw:w∈ds)(hn:Nxt ds u w)(hc:u.cross w≠0){a b:Rat}(ha:0<a)(hb:0<b):btw a b u w∉ds:=fun hd=>by
 have hp:=hn.pos h hu hw
 have hp:0<u.cross w:=by grind
 obtain⟨c1,c2⟩:=am8 (a:=a) (b:=b) (u:=u) (w:=w)
 have d1:0<u.cross (btw a b u w):=by rw[c1];exact aae hb hp
 have d2:0<(btw a b u w).cross w:=by rw[c2];exact aae ha hp
 have zu:=acW (h.nz u hu)
 have zw:=acW (h.nz w hw)
 have zd:=acW (h.nz _ hd)
 rcases hn.spec h hu hw with⟨h1,_,h3⟩|⟨h1,h2,h3⟩
 ·have e:=axX ha hb h1 (h.nz u hu)
  exact h3 _ hd ⟨.inr ⟨e.symm,d1⟩, .inr ⟨e.trans h1,d2⟩⟩
 ·rcases(show(btw a b u w).half=u.half∨(btw a b u w).half=w.half by omega) with e|e
  ·have:=h2 _ hd e
   rw[aa0] at this;grind
  ·have:=h3 _ hd e
   rw[aa0] at this;grind
theorem auf{d e:PtQ}(h:e.cross d=0)(hp:0<e.dot d): ∃g:Rat,0<g∧e=⟨g*d.x,g*d.y⟩:=by
 have hd:0<d.dot d:=by
  unfold PtQ.dot at*
  have h1:=abm d.x
  have h2:=abm d.y
  rcases abj d.x with k|k|k
  ·rcases abj d.y with l|l|l
   ·rw[k,l] at hp;grind
   ·have:=aae l l;grind
   ·have:=aae (a:= -d.y) (b:= -d.y) (by grind) (by grind);grind
  ·have:=aae k k;grind
  ·have:=aae (a:= -d.x) (b:= -d.x) (by grind) (by grind);grind
 have key:e.x*d.dot d=e.dot d*d.x∧e.y*d.dot d=e.dot d*d.y:=by
  unfold PtQ.dot PtQ.cross at*
  constructor<;>grind
 have hg:e.dot d/d.dot d*d.dot d=e.dot d:=by grind
 refine⟨e.dot d/d.dot d,(aal hd).1 (by rw[hg];exact hp),?_⟩
 generalize e.dot d/d.dot d=g at*
 have x1:e.x=g*d.x:=by
  have:(e.x-g*d.x)*d.dot d=0:=by rw[←hg] at key;grind
  have hz:d.dot d≠0:=by grind
  grind
 have x2:e.y=g*d.y:=by
  have:(e.y-g*d.y)*d.dot d=0:=by rw[←hg] at key;grind
  have hz:d.dot d≠0:=by grind
  grind
 rw[←x1,←x2]
theorem azc{e u:PtQ}(he:e.half≠0)(hu:u.half≠0)(hp:e.cross u=0):e.dot u≠0:=fun hz=>by
 have e1:e.x*(u.x*u.x+u.y*u.y)=0:=by unfold PtQ.dot PtQ.cross at*;grind
 have e2:e.y*(u.x*u.x+u.y*u.y)=0:=by unfold PtQ.dot PtQ.cross at*;grind
 have hu2:u.x*u.x+u.y*u.y≠0:=fun q=>by
  have h1:=abm u.x
  have h2:=abm u.y
  have x0:u.x=0:=by
   have:u.x*u.x=0:=by grind
   grind
  have y0:u.y=0:=by
   have:u.y*u.y=0:=by grind
   grind
  rcases abc u with⟨_,q⟩|⟨_,q⟩|⟨q,_⟩
  ·grind
  ·grind
  ·exact hu q
 have x0:e.x=0:=by grind
 have y0:e.y=0:=by grind
 rcases abc e with⟨_,q⟩|⟨_,q⟩|⟨q,_⟩
 ·grind
 ·grind
 ·exact he q
theorem Nxt.gen{ds:List PtQ}{u w:PtQ}(h:azG ds)(hu:u∈ds)(hw:w∈ds)(hn:Nxt ds u w)(hc:u.cross w≠0){a b:Rat}(ha:0<a)(hb:0<b): ∀d∈ds,d.cross (btw a b u w)≠0:=fun d hd hz=>by
 have hp:=hn.pos h hu hw
 have hp:0<u.cross w:=by grind
 obtain⟨c1,c2⟩:=am8 (a:=a) (b:=b) (u:=u) (w:=w)
 have d1:0<u.cross (btw a b u w):=by rw[c1];exact aae hb hp
 -- of d and its opposite, one points the same way
 have key: ∀e∈ds,e.cross (btw a b u w)=0→0<e.dot (btw a b u w)→False:=fun e he h1 h2=>by
  obtain⟨g,g1,g2⟩:=auf h1 h2
  refine hn.none h hu hw hc (a:=g*a) (b:=g*b) (aae g1 ha) (aae g1 hb) ?_
  have:btw (g*a) (g*b) u w=e:=by rw[g2];unfold btw;simp only[PtQ.mk.injEq];constructor<;>grind
  rw[this];exact he
 rcases abj (d.dot (btw a b u w)) with k|k|k
 ·-- both 0: then d is 0, or the other is
  have hnz:=h.nz d hd
  generalize btw a b u w=v at*
  have e1:d.x*(v.x*v.x+v.y*v.y)=0:=by unfold PtQ.dot PtQ.cross at*;grind
  have e2:d.y*(v.x*v.x+v.y*v.y)=0:=by unfold PtQ.dot PtQ.cross at*;grind
  have hv:v.x*v.x+v.y*v.y≠0:=fun e=>by
   have h1:=abm v.x
   have h2:=abm v.y
   have x0:v.x=0:=by have:v.x*v.x=0:=(by grind);grind
   have y0:v.y=0:=by have:v.y*v.y=0:=(by grind);grind
   unfold PtQ.cross at d1
   rw[x0,y0] at d1;grind
  have x0:d.x=0:=by grind
  have y0:d.y=0:=by grind
  rcases abc d with⟨_,q⟩|⟨_,q⟩|⟨q,_⟩
  ·grind
  ·grind
  ·exact hnz q
 ·exact key d hd hz k
 ·refine key _ (h.neg d hd) ?_ ?_
  ·unfold PtQ.cross ahT at*;grind
  ·unfold PtQ.dot ahT at*;grind
theorem arl(d u:PtQ):d.cross (aeq u)=d.dot u:=by unfold PtQ.cross aeq PtQ.dot;grind
theorem Nxt.turn{ds:List PtQ}{u w:PtQ}(h:azG ds)(hu:u∈ds)(hw:w∈ds)(hn:Nxt ds u w)(hc:u.cross w=0): ∀d∈ds,d.cross (aeq u)≠0:=fun d hd=>by
 have zu:=acW (h.nz u hu)
 have zw:=acW (h.nz w hw)
 rw[arl]
 rcases hn.spec h hu hw with⟨_,h2,_⟩|⟨h1,h2,h3⟩
 ·rw[hc] at h2;exact absurd h2 (by decide)
 have par: ∀e∈ds,e.half=u.half→e.cross u=0:=fun e he k=>by
  have a1:=h2 e he k
  have a2:=h3 _ (h.neg e he) (by rw[ae7 (h.nz e he)];omega)
  rw[aet] at a2
  -- w = -g u
  have hwu:w.cross u=0:=by rw[aa0,hc];rfl
  have huw:w.dot u<0:=by
   rcases abj (w.dot u) with k0|k0|k0
   ·exact absurd k0 (azc (h.nz w hw) (h.nz u hu) hwu)
   ·obtain⟨g,g1,g2⟩:=auf hwu k0
    exfalso
    apply h1
    rcases abc u with⟨x,q⟩|⟨x,q⟩|⟨x,q⟩
    ·rw[x]
     refine(afU.2 ?_).symm
     rw[g2]
     simp only
     rcases q with q|⟨q,q'⟩
     ·exact .inl (aae g1 q)
     ·exact .inr ⟨by rw[q];grind,aae g1 q'⟩
    ·rw[x]
     refine(afK.2 ?_).symm
     rw[g2]
     simp only
     rcases q with q|⟨q,q'⟩
     ·have:=aae (a:=g) (b:= -u.y) g1 (by grind);exact .inl (by grind)
     ·have:=aae (a:=g) (b:= -u.x) g1 (by grind);exact .inr ⟨by rw[q];grind,by grind⟩
    ·exact absurd x (h.nz u hu)
   ·exact k0
  obtain⟨g,g1,g2⟩:=auf (d:=u) (e:=ahT w) (by unfold PtQ.cross ahT at*;grind) (by unfold PtQ.dot ahT at*;grind)
  have a3:0≤ -(g*e.cross u):=by
   have e1:w=⟨-(g*u.x), -(g*u.y)⟩:=by
    have:=congrArg ahT g2
    unfold ahT at this
    cases w
    simp only[Rat.neg_neg] at this
    exact this
   rw[e1] at a2
   unfold PtQ.cross at*
   grind
  by_cases hz:0<e.cross u
  ·have:=aae g1 hz;grind
  ·grind
 have nzd: ∀e∈ds,e.half=u.half→e.dot u≠0:=fun e he k=>azc (h.nz e he) (h.nz u hu) (par e he k)
 by_cases k:d.half=u.half
 ·exact nzd d hd k
 ·have:=nzd _ (h.neg d hd) (by rw[ae7 (h.nz d hd)];have:=acW (h.nz d hd);omega)
  unfold PtQ.dot ahT at*
  grind
/-! ### lists in order -/
theorem aqn{α:Type}{c:α→α→Int}(hT: ∀u v w,c u v<0→c v w<0→c u w<0)(hA: ∀u v,¬c u v<0→c u v≠0→c v u<0){x:α}: ∀{xs:List α},xs.Pairwise (fun a b=>c a b<0)→(ad3 c x xs).Pairwise (fun a b=>c a b<0)
 |[],_=>by rw[ad3];exact List.pairwise_singleton _ _
 |u::t,h=>by
  obtain⟨h1,h2⟩:=List.pairwise_cons.1 h
  rw[ad3]
  split
  ·rename_i hu
   refine List.pairwise_cons.2 ⟨fun y hy=>?_,aqn hT hA h2⟩
   rcases alZ c hy with rfl|hy
   ·exact hu
   ·exact h1 y hy
  ·rename_i hu
   split
   ·exact h
   ·rename_i hz
    have hx:=hA u x hu hz
    refine List.pairwise_cons.2 ⟨fun y hy=>?_,h⟩
    rcases List.mem_cons.1 hy with rfl|hy
    ·exact hx
    ·exact hT _ _ _ hx (h1 y hy)
theorem am3{α:Type}{c:α→α→Int}(hT: ∀u v w,c u v<0→c v w<0→c u w<0)(hA: ∀u v,¬c u v<0→c u v≠0→c v u<0): ∀{l o:List α},o.Pairwise (fun a b=>c a b<0)→(l.foldl (fun out x=>ad3 c x out) o).Pairwise (fun a b=>c a b<0)
 |[],o,h=>h
 |x::l,o,h=>am3 (l:=l) (o:=ad3 c x o) hT hA (aqn hT hA h)
theorem alv(l m:LnQ):agt l m<0↔l.a<m.a∨(l.a=m.a∧(l.b<m.b∨(l.b=m.b∧l.c<m.c))):=by
 unfold agt
 split
 ·rename_i h;rw[ad8];rw[ne_eq,abC] at h;omega
 ·rename_i h;rw[ne_eq,Decidable.not_not,abC] at h
  split
  ·rename_i k;rw[ad8];rw[ne_eq,abC] at k;omega
  ·rename_i k;rw[ne_eq,Decidable.not_not,abC] at k;rw[ad8];omega
theorem arV(l m:LnQ):agt l m=0↔l.a=m.a∧l.b=m.b∧l.c=m.c:=by
 unfold agt
 split
 ·rename_i h;rw[abC];rw[ne_eq,abC] at h;omega
 ·rename_i h;rw[ne_eq,Decidable.not_not,abC] at h
  split
  ·rename_i k;rw[abC];rw[ne_eq,abC] at k;omega
  ·rename_i k;rw[ne_eq,Decidable.not_not,abC] at k;rw[abC];omega
theorem aud(ls:List LnQ):(adh ls).Pairwise (fun a b=>agt a b<0):=
 am3 (fun u v w h k=>by rw[alv] at*;omega) (fun u v h k=>by rw[alv] at*;rw[ne_eq,arV] at k;omega) List.Pairwise.nil
/-! ### directions -/
def ab4(L:List LnQ)(p:PtQ):List PtQ:=L.flatMap fun l=>if Int.sign (l.value p).num=0 then [l.dir,ahT l.dir] else []
theorem aeI{L:List LnQ}{p d:PtQ}:d∈ab4 L p↔ ∃l∈L,l.value p=0∧(d=l.dir∨d=ahT l.dir):=by
 unfold ab4
 rw[List.mem_flatMap]
 constructor
 ·rintro ⟨l,hl,h⟩
  split at h
  ·rename_i k;exact⟨l,hl,(abh _).1 k,by simpa using h⟩
  ·cases h
 ·rintro ⟨l,hl,h,k⟩
  refine⟨l,hl,?_⟩
  rw[if_pos ((abh _).2 h)]
  simpa using k
theorem asY{u v:PtQ}:0<abY u v↔Bef v u:=by
 unfold abY Bef
 split
 ·rename_i h;exact⟨fun e=>absurd e (by decide),fun e=>by omega⟩
 ·rename_i h
  split
  ·rename_i h2;exact⟨fun _=> .inl h2,fun _=>by decide⟩
  ·rename_i h2
   have e:v.half=u.half:=by omega
   rw[aa0 u v]
   constructor
   ·intro k
    have:Int.sign (u.cross v).num<0:=by omega
    rw[afj] at this
    exact .inr ⟨e,by grind⟩
   ·rintro (k|⟨_,k⟩)
    ·omega
    ·have:Int.sign (u.cross v).num<0:=(afj _).2 (by grind)
     omega
theorem Bef.trans{u v w:PtQ}(hu:u.half≠0)(hv:v.half≠0)(hw:w.half≠0)(h:Bef u v)(k:Bef v w):Bef u w:=by
 rcases h with h|⟨h,h'⟩<;>rcases k with k|⟨k,k'⟩
 ·exact .inl (by omega)
 ·exact .inl (by omega)
 ·exact .inl (by omega)
 ·refine .inr ⟨h.trans k,?_⟩
  have id1:u.cross w*v.y=u.cross v*w.y+v.cross w*u.y:=by unfold PtQ.cross;grind
  rcases abc v with⟨x,q⟩|⟨x,q⟩|⟨x,q⟩
  ·rw[x] at h k
   have qu:=afU.1 h
   have qw:=afU.1 k.symm
   rcases q with q|⟨q,q'⟩
   ·rw[←aal q,id1]
    have wy:0≤w.y:=by grind
    have uy:0≤u.y:=by grind
    have a1:=aah (Rat.le_of_lt h') wy
    rcases qu with qu|⟨qu,qu'⟩
    ·have:=aae k' qu;grind
    ·rcases qw with qw|⟨qw,qw'⟩
     ·have:=aae h' qw;rw[qu];grind
     ·exfalso
      have hx:v.cross w= -(w.x*v.y):=by unfold PtQ.cross;rw[qw];grind
      have:=aae qw' q
      grind
   ·exfalso
    have hx:u.cross v= -(v.x*u.y):=by unfold PtQ.cross;rw[q];grind
    have:=aah (a:=v.x) (b:=u.y) (Rat.le_of_lt q') (by grind)
    grind
  ·rw[x] at h k
   have qu:=afK.1 h
   have qw:=afK.1 k.symm
   rcases q with q|⟨q,q'⟩
   ·have e1:u.cross w* -v.y=u.cross v* -w.y+v.cross w* -u.y:=by grind
    rw[←aal (k:= -v.y) (by grind),e1]
    have a1:=aah (a:=u.cross v) (b:= -w.y) (Rat.le_of_lt h') (by grind)
    rcases qu with qu|⟨qu,qu'⟩
    ·have:=aae (a:=v.cross w) (b:= -u.y) k' (by grind);grind
    ·rcases qw with qw|⟨qw,qw'⟩
     ·have:=aae (a:=u.cross v) (b:= -w.y) h' (by grind);rw[qu];grind
     ·exfalso
      have hx:v.cross w= -(-w.x* -v.y):=by unfold PtQ.cross;rw[qw];grind
      have:=aae (a:= -w.x) (b:= -v.y) (by grind) (by grind)
      grind
   ·exfalso
    have hx:u.cross v= -(-v.x* -u.y):=by unfold PtQ.cross;rw[q];grind
    have:=aah (a:= -v.x) (b:= -u.y) (by grind) (by grind)
    grind
  ·exact absurd x hv
def aou(S:List PtQ)(x:PtQ):Nat→Nat
 |0=>0
 |k+1=>if 0<abY (S.getD k ⟨0,0⟩) x then aou S x k else k+1
def amE(S:List PtQ)(x:PtQ):List PtQ:=S.take (aou S x S.length)++x::S.drop (aou S x S.length)
def adu(ds:List PtQ):List PtQ:=ds.foldl amE []
theorem ai9(S:List PtQ)(x:PtQ): ∀k,aou S x k≤k∧(∀j,aou S x k≤j→j<k→Bef x (S.getD j ⟨0,0⟩))∧(∀m,aou S x k=m+1→ ¬Bef x (S.getD m ⟨0,0⟩))
 |0=>⟨Nat.le_refl _,fun j _ h=>absurd h (Nat.not_lt_zero _),fun m h=>by cases h⟩
 |k+1=>by
  obtain⟨h1,h2,h3⟩:=ai9 S x k
  rw[aou]
  split
  ·rename_i h
   refine⟨by omega,fun j a b=>?_,h3⟩
   by_cases e:j=k
   ·subst e;exact asY.1 h
   ·exact h2 j a (by omega)
  ·rename_i h
   refine⟨Nat.le_refl _,fun j a b=>by omega,fun m e=>?_⟩
   obtain rfl:k=m:=by omega
   exact fun q=>h (asY.2 q)
theorem aij{S:List PtQ}{x y:PtQ}:y∈amE S x↔y=x∨y∈S:=by
 unfold amE
 have:=List.take_append_drop (aou S x S.length) S
 constructor
 ·intro h
  rcases List.mem_append.1 h with h|h
  ·exact .inr (List.mem_of_mem_take h)
  ·rcases List.mem_cons.1 h with h|h
   ·exact .inl h
   ·exact .inr (List.mem_of_mem_drop h)
 ·rintro (h|h)
  ·exact List.mem_append_right _ (by rw[h];exact List.mem_cons_self)
  ·rw[←this] at h
   rcases List.mem_append.1 h with h|h
   ·exact List.mem_append_left _ h
   ·exact List.mem_append_right _ (List.mem_cons_of_mem _ h)
theorem aw9(S:List PtQ)(x:PtQ):(amE S x).length=S.length+1:=by
 have:=(ai9 S x S.length).1
 unfold amE
 simp;omega
theorem awR{S:List PtQ}{x:PtQ}(h:S.Pairwise Bef)(hz: ∀s∈S,s.half≠0)(hx:x.half≠0)(ht: ∀s∈S,Bef s x∨Bef x s):(amE S x).Pairwise Bef:=by
 obtain⟨h1,h2,h3⟩:=ai9 S x S.length
 unfold amE
 generalize aou S x S.length=n at*
 have hd: ∀y∈S.drop n,Bef x y:=fun y hy=>by
  obtain⟨i,hi,e⟩:=List.getElem_of_mem hy
  rw[List.getElem_drop] at e
  have hi':n+i<S.length:=by rw[List.length_drop] at hi;omega
  have:=h2 (n+i) (by omega) hi'
  rw[List.getD_eq_getElem?_getD,List.getElem?_eq_getElem hi',Option.getD_some,e] at this
  exact this
 have ht': ∀y∈S.take n,Bef y x:=fun y hy=>by
  obtain⟨i,hi,e⟩:=List.getElem_of_mem hy
  rw[List.getElem_take] at e
  have hi':i<n:=by rw[List.length_take] at hi;omega
  obtain⟨m,rfl⟩: ∃m,n=m+1:=⟨n-1,by omega⟩
  have hm:m<S.length:=by omega
  have a1:=h3 m rfl
  rw[List.getD_eq_getElem?_getD,List.getElem?_eq_getElem hm,Option.getD_some] at a1
  have a2:Bef S[m] x:=(ht _ (List.getElem_mem hm)).resolve_right a1
  by_cases e2:i=m
  ·subst e2;rw[e] at a2;exact a2
  ·have a3:=List.pairwise_iff_getElem.1 h i m (by omega) hm (by omega)
   rw[e] at a3
   exact a3.trans (by rw[←e];exact hz _ (List.getElem_mem _)) (hz _ (List.getElem_mem hm)) hx a2
 refine List.pairwise_append.2 ⟨h.sublist (List.take_sublist _ _),List.pairwise_cons.2 ⟨hd,h.sublist (List.drop_sublist _ _)⟩,fun y hy z hz'=>?_⟩
 rcases List.mem_cons.1 hz' with rfl|hz'
 ·exact ht' y hy
 ·exact(ht' y hy).trans (hz _ (List.mem_of_mem_take hy)) hx (hz _ (List.mem_of_mem_drop hz')) (hd z hz')
theorem akG: ∀{ds o:List PtQ},o.Pairwise Bef→(∀d∈o,d.half≠0)→(∀d∈ds,d.half≠0)→ds.Pairwise (fun a b=>Bef a b∨Bef b a)→(∀d∈o,∀e∈ds,Bef d e∨Bef e d)→(ds.foldl amE o).Pairwise Bef∧ ∀y,y∈ds.foldl amE o↔y∈o∨y∈ds
 |[],o,h,_,_,_,_=>⟨h,fun y=>by simp⟩
 |x::ds,o,h,ho,hd,hp,ht=>by
  obtain⟨p1,p2⟩:=List.pairwise_cons.1 hp
  obtain⟨k1,k2⟩:=akG (ds:=ds) (o:=amE o x) (awR h ho (hd x List.mem_cons_self) (fun s hs=>ht s hs x List.mem_cons_self))
   (fun d hd'=>by rcases aij.1 hd' with rfl|e;exact hd _ List.mem_cons_self;exact ho d e) (fun d hd'=>hd d (List.mem_cons_of_mem _ hd')) p2
   (fun d hd' e he=>by rcases aij.1 hd' with rfl|q;exact p1 e he;exact ht d q e (List.mem_cons_of_mem _ he))
  refine⟨k1,fun y=>?_⟩
  rw[List.foldl_cons,k2 y,aij,List.mem_cons]
  constructor
  ·rintro ((h|h)|h)
   ·exact .inr (.inl h)
   ·exact .inl h
   ·exact .inr (.inr h)
  ·rintro (h|h|h)
   ·exact .inl (.inr h)
   ·exact .inl (.inl h)
   ·exact .inr h
theorem au8{u v:PtQ}(hu:u.half≠0)(hv:v.half≠0)(h:u.cross v≠0∨u.half≠v.half):Bef u v∨Bef v u:=by
 unfold Bef
 rw[aa0 u v]
 by_cases e:u.half=v.half
 ·rcases h with h|h
  ·rcases abj (u.cross v) with k|k|k
   ·exact absurd k h
   ·exact .inl (.inr ⟨e,k⟩)
   ·exact .inr (.inr ⟨e.symm,by grind⟩)
  ·exact absurd e h
 ·rcases Int.lt_or_lt_of_ne e with k|k
  ·exact .inl (.inl k)
  ·exact .inr (.inl k)
structure aAe (L:List LnQ):Prop where
 ok: ∀l∈L,l.ok
 cn: ∀l∈L,ar6 l=false
 nd:L.Pairwise (fun a b=>a≠b)
theorem auh{l:LnQ}(h:l.ok):ar6 l.canon=false:=by
 have hn:=h.ne
 unfold LnQ.Ne at hn
 unfold LnQ.canon
 split
 ·rename_i k
  unfold ar6 at*
  rw[decide_eq_true_eq] at k
  rw[decide_eq_false_iff_not]
  show¬(-l.a<0∨(-l.a=0∧ -l.b<0))
  omega
 ·rename_i k;simpa using k
theorem ajo{ls:List LnQ}(h: ∀l∈ls,l.ok):aAe (adh ls) where
 ok:=fun l hl=>by obtain⟨x,hx,rfl⟩:=aeC hl;exact amq (h x hx)
 cn:=fun l hl=>by obtain⟨x,hx,rfl⟩:=aeC hl;exact auh (h x hx)
 nd:=(aud ls).imp fun{a b} k e=>by subst e;rw[alv] at k;omega
theorem anm{l:LnQ}(h:l.ok):l.dir.half≠0:=fun e=>by
 have hn:=h.ne
 unfold LnQ.Ne at hn
 rcases abc l.dir with⟨k,_⟩|⟨k,_⟩|⟨_,k1,k2⟩
 ·rw[k] at e;cases e
 ·rw[k] at e;cases e
 ·unfold LnQ.dir at k1 k2
  simp only at k1 k2
  apply hn
  refine⟨?_,Rat.intCast_eq_zero_iff.1 k2⟩
  have:(l.a:Rat)=0:=by grind
  exact Rat.intCast_eq_zero_iff.1 this
theorem aly{d:PtQ}(h:d.half≠0):(ahT d).half≠0:=by rw[ae7 h];have:=acW h;omega
theorem auA(d:PtQ):ahT (ahT d)=d:=by unfold ahT;cases d;simp
theorem aBk{l m:LnQ}(hl:l.ok)(hm:m.ok)(cl:ar6 l=false)(cm:ar6 m=false){p:PtQ}(h1:l.value p=0)(h2:m.value p=0)(hc:l.dir.cross m.dir=0):l=m:=by
 have key: ∀t,l.value (m.at t)=0:=fun t=>by
  obtain⟨s,rfl⟩:=avM hm.ne h2
  rw[afl] at h1⊢
  have hk:m.cutK l=0:=by
   unfold LnQ.cutK
   rw[←ajC];exact hc
  rw[hk] at h1⊢
  grind
 rcases aha hl hm key with e|e
 ·exact e
 ·exfalso
  have hn:=hm.ne
  unfold LnQ.Ne at hn
  rw[e] at cl
  unfold ar6 at cl cm
  rw[decide_eq_false_iff_not] at cl cm
  have cl: ¬(-m.a<0∨(-m.a=0∧ -m.b<0)):=cl
  omega
theorem aAu{L:List LnQ}(h:aAe L)(p:PtQ):(∀d∈ab4 L p,d.half≠0)∧(∀d∈ab4 L p,ahT d∈ab4 L p)∧(ab4 L p).Pairwise (fun a b=>Bef a b∨Bef b a):=by
 refine⟨fun d hd=>?_,fun d hd=>?_,?_⟩
 ·obtain⟨l,hl,_,rfl|rfl⟩:=aeI.1 hd
  ·exact anm (h.ok l hl)
  ·exact aly (anm (h.ok l hl))
 ·obtain⟨l,hl,k,rfl|rfl⟩:=aeI.1 hd
  ·exact aeI.2 ⟨l,hl,k, .inr rfl⟩
  ·exact aeI.2 ⟨l,hl,k, .inl (auA _)⟩
 ·unfold ab4
  rw[List.pairwise_flatMap]
  refine⟨fun l hl=>?_,?_⟩
  ·split
   ·have hz:=anm (h.ok l hl)
    refine List.pairwise_cons.2 ⟨fun y hy=>?_,List.pairwise_singleton _ _⟩
    rw[List.mem_singleton] at hy;subst hy
    exact au8 hz (aly hz) (.inr (by rw[ae7 hz];have:=acW hz;omega))
   ·exact List.Pairwise.nil
  ·refine(List.pairwise_iff_forall_sublist.2 fun{a b} hs=>?_)
   have hne:=(List.pairwise_iff_forall_sublist.1 h.nd) hs
   have ha:a∈L:=hs.subset List.mem_cons_self
   have hb:b∈L:=hs.subset (List.mem_cons_of_mem _ List.mem_cons_self)
   intro x hx y hy
   split at hx
   ·rename_i k1
    split at hy
    ·rename_i k2
     have hc:a.dir.cross b.dir≠0:=fun e=>hne (aBk (h.ok a ha) (h.ok b hb) (h.cn a ha) (h.cn b hb) ((abh _).1 k1) ((abh _).1 k2) e)
     have za:=anm (h.ok a ha)
     have zb:=anm (h.ok b hb)
     have nx:x.half≠0:=by
      rcases List.mem_cons.1 hx with rfl|hx
      ·exact za
      ·rw[List.mem_singleton] at hx;subst hx;exact aly za
     have ny:y.half≠0:=by
      rcases List.mem_cons.1 hy with rfl|hy
      ·exact zb
      ·rw[List.mem_singleton] at hy;subst hy;exact aly zb
     refine au8 nx ny (.inl fun e=>hc ?_)
     rcases List.mem_cons.1 hx with rfl|hx<;>rcases List.mem_cons.1 hy with rfl|hy
     ·exact e
     ·rw[List.mem_singleton] at hy;subst hy;rw[aet] at e;grind
     ·rw[List.mem_singleton] at hx;subst hx;rw[aa0,aet] at e;rw[aa0];grind
     ·rw[List.mem_singleton] at hx hy;subst hx hy;rw[aet,aa0,aet] at e;rw[aa0];grind
    ·cases hy
   ·cases hx
theorem agZ{L:List LnQ}(h:aAe L)(p:PtQ):(adu (ab4 L p)).Pairwise Bef∧azG (adu (ab4 L p))∧ ∀y,y∈adu (ab4 L p)↔y∈ab4 L p:=by
 obtain⟨h1,h2,h3⟩:=aAu h p
 obtain⟨k1,k2⟩:=akG (ds:=ab4 L p) (o:=[]) List.Pairwise.nil (fun d hd=>by cases hd) h1 h3 (fun d hd=>by cases hd)
 have k3: ∀y,y∈adu (ab4 L p)↔y∈ab4 L p:=fun y=>by
  have:=k2 y
  rw[show adu (ab4 L p)=(ab4 L p).foldl amE [] from rfl,this];simp
 exact⟨k1,⟨fun d hd=>h1 d ((k3 d).1 hd),fun d hd=>(k3 _).2 (h2 d ((k3 d).1 hd))⟩,k3⟩
theorem aDJ{ds:List PtQ}(h:ds.Pairwise Bef)(hd:azG ds){i:Nat}(hi:i<ds.length)(hj:(i+1)%ds.length<ds.length):Nxt ds ds[i] ds[(i+1)%ds.length]:=by
 have hp:=List.pairwise_iff_getElem.1 h
 have irr: ∀{u v:PtQ},Bef u v→ ¬Bef v u:=fun{u v} a b=>by
  unfold Bef at a b
  rw[aa0 u v] at b
  rcases a with a|⟨a,a'⟩<;>rcases b with b|⟨b,b'⟩
  ·omega
  ·omega
  ·omega
  ·grind
 have ord: ∀{j k:Nat} (a:j<ds.length) (b:k<ds.length),Bef ds[j] ds[k]→j<k:=fun{j k} a b q=>by
  rcases Nat.lt_trichotomy j k with e|e|e
  ·exact e
  ·subst e;exact absurd q (irr q)
  ·exact absurd (hp k j b a e) (irr q)
 by_cases hl:i+1<ds.length
 ·have e:(i+1)%ds.length=i+1:=Nat.mod_eq_of_lt hl
  simp only[e]
  refine .inl ⟨hp i (i+1) hi hl (by omega),fun d hd' ⟨q1,q2⟩=>?_⟩
  obtain⟨j,hj',rfl⟩:=List.getElem_of_mem hd'
  have:=ord hi hj' q1
  have:=ord hj' hl q2
  omega
 ·have e:(i+1)%ds.length=0:=by rw[show i+1=ds.length by omega];exact Nat.mod_self _
  simp only[e]
  refine .inr ⟨fun d hd' q=>?_,fun d hd' q=>?_⟩
  ·obtain⟨j,hj',rfl⟩:=List.getElem_of_mem hd'
   have:=ord hi hj' q
   omega
  ·obtain⟨j,hj',rfl⟩:=List.getElem_of_mem hd'
   have:=ord hj' (by omega) q
   omega
theorem auM(q:Rat):q*((q.den:Nat):Rat)=((q.num:Int):Rat):=by
 have h:((q.den:Nat):Rat)≠0:=fun e=>q.den_nz (by exact_mod_cast e)
 have h2:((q.num:Int):Rat)/((q.den:Nat):Rat)=q:=by have:=Rat.mkRat_self q;rwa [Rat.mkRat_eq_div] at this
 grind
def acw(v:PtQ):Nat:=Nat.gcd (v.x.num.natAbs*v.y.den) (v.y.num.natAbs*v.x.den)
def aif(n:Int)(d g:Nat):Int:=if n<0 then-((n.natAbs*d/g:Nat):Int) else((n.natAbs*d/g:Nat):Int)
def acD(v:PtQ):PtQ:=if v.half=0 then⟨0,0⟩ else⟨(aif v.x.num v.y.den (acw v):Int),(aif v.y.num v.x.den (acw v):Int)⟩
theorem aom{n:Int}{d g:Nat}(hg:g∣n.natAbs*d):aif n d g*(g:Int)=n*(d:Int):=by
 unfold aif
 have h1:((n.natAbs*d/g:Nat):Int)*(g:Int)=(n.natAbs:Int)*(d:Int):=by
  rw[←Int.natCast_mul,Nat.div_mul_cancel hg,Int.natCast_mul]
 split
 ·rename_i h
  have:n= -(n.natAbs:Int):=by omega
  rw[Int.neg_mul,h1]
  generalize (n.natAbs:Int)=a at*
  subst this
  rw[Int.neg_mul]
 ·rename_i h
  have:n=(n.natAbs:Int):=by omega
  rw[h1,←this]
theorem apL{v:PtQ}(h:v.half≠0): ∃a:Rat,0<a∧acD v=⟨a*v.x,a*v.y⟩:=by
 have hx:=v.x.den_pos
 have hy:=v.y.den_pos
 have hg:0<acw v:=by
  unfold acw
  refine Nat.pos_of_ne_zero fun e=>?_
  rw[Nat.gcd_eq_zero_iff] at e
  obtain⟨e1,e2⟩:=e
  have x0:v.x.num=0:=by rcases Nat.mul_eq_zero.1 e1 with q|q;omega;omega
  have y0:v.y.num=0:=by rcases Nat.mul_eq_zero.1 e2 with q|q;omega;omega
  rw[Rat.num_eq_zero] at x0 y0
  rcases abc v with⟨_,q⟩|⟨_,q⟩|⟨q,_⟩
  ·rw[x0,y0] at q;grind
  ·rw[x0,y0] at q;grind
  ·exact h q
 have c1:=aom (n:=v.x.num) (d:=v.y.den) (g:=acw v) (Nat.gcd_dvd_left _ _)
 have c2:=aom (n:=v.y.num) (d:=v.x.den) (g:=acw v) (Nat.gcd_dvd_right _ _)
 have q1:((aif v.x.num v.y.den (acw v):Int):Rat)*((acw v:Nat):Rat)=v.x*(((v.x.den*v.y.den:Nat)):Rat):=by
  have:((aif v.x.num v.y.den (acw v)*(acw v:Int):Int):Rat)=((v.x.num*(v.y.den:Int):Int):Rat):=by rw[c1]
  rw[Rat.intCast_mul,Rat.intCast_mul,Rat.intCast_natCast,Rat.intCast_natCast] at this
  rw[this,Rat.natCast_mul]
  have:=auM v.x
  grind
 have q2:((aif v.y.num v.x.den (acw v):Int):Rat)*((acw v:Nat):Rat)=v.y*(((v.x.den*v.y.den:Nat)):Rat):=by
  have:((aif v.y.num v.x.den (acw v)*(acw v:Int):Int):Rat)=((v.y.num*(v.x.den:Int):Int):Rat):=by rw[c2]
  rw[Rat.intCast_mul,Rat.intCast_mul,Rat.intCast_natCast,Rat.intCast_natCast] at this
  rw[this,Rat.natCast_mul]
  have:=auM v.y
  grind
 have hgR:(0:Rat)<((acw v:Nat):Rat):=Rat.natCast_pos.2 hg
 have hdR:(0:Rat)<((v.x.den*v.y.den:Nat):Rat):=Rat.natCast_pos.2 (Nat.mul_pos hx hy)
 generalize ((acw v:Nat):Rat)=g at*
 generalize ((v.x.den*v.y.den:Nat):Rat)=d at*
 have hq:d/g*g=d:=by grind
 refine⟨d/g,(aal hgR).1 (by rw[hq];exact hdR),?_⟩
 unfold acD
 rw[if_neg h]
 generalize ((aif v.x.num v.y.den (acw v):Int):Rat)=x at*
 generalize ((aif v.y.num v.x.den (acw v):Int):Rat)=y at*
 generalize d/g=a at*
 have e1:x=a*v.x:=by
  have:(x-a*v.x)*g=0:=by grind
  grind
 have e2:y=a*v.y:=by
  have:(y-a*v.y)*g=0:=by grind
  grind
 rw[e1,e2]
def aol(ds:List PtQ)(i:Nat):List PtQ:=
 if abY (ds.getD i ⟨0,0⟩) (ds.getD ((i+1)%ds.length) ⟨0,0⟩)=0∧2<ds.length then []
 else if Int.sign ((ds.getD i ⟨0,0⟩).cross (ds.getD ((i+1)%ds.length) ⟨0,0⟩)).num=0 then [aeq (ds.getD i ⟨0,0⟩)]
 else [acR (acD (ds.getD i ⟨0,0⟩)) (acD (ds.getD ((i+1)%ds.length) ⟨0,0⟩)) 1]
def aib(ds:List PtQ):List PtQ:=if ds.length=0 then [⟨1,0⟩] else(List.range ds.length).flatMap (aol ds)
def af1(L:List LnQ)(p:PtQ):List PtQ:=aib (adu (ab4 L p))
theorem ac2{ds:List PtQ}{i:Nat}(h:i<ds.length):ds.getD i ⟨0,0⟩=ds[i]:=by
 rw[List.getD_eq_getElem?_getD,List.getElem?_eq_getElem h,Option.getD_some]
theorem awg{L:List LnQ}(h:aAe L){p v:PtQ}(hv:v∈af1 L p):Gn L p v:=by
 obtain⟨h1,h2,h3⟩:=agZ h p
 have key:(∀d∈adu (ab4 L p),d.cross v≠0)→Gn L p v:=fun k l hl hz=>by
  rw[←ajC]
  exact k _ ((h3 _).2 (aeI.2 ⟨l,hl,hz, .inl rfl⟩))
 unfold af1 at hv
 generalize adu (ab4 L p)=ds at*
 unfold aib at hv
 split at hv
 ·rename_i hn
  refine key fun d hd=>?_
  rw[List.length_eq_zero_iff.1 hn] at hd;cases hd
 ·rename_i hn
  obtain⟨i,hi,hs⟩:=List.mem_flatMap.1 hv
  rw[List.mem_range] at hi
  have hj:(i+1)%ds.length<ds.length:=Nat.mod_lt _ (by omega)
  have hx:=aDJ h1 h2 hi hj
  unfold aol at hs
  rw[ac2 hi,ac2 hj] at hs
  have mu:=List.getElem_mem hi
  have mw:=List.getElem_mem hj
  split at hs
  ·cases hs
  ·split at hs
   ·rename_i hc
    rw[List.mem_singleton] at hs
    subst hs
    exact key (hx.turn h2 mu mw ((abh _).1 hc))
   ·rename_i hc
    rw[List.mem_singleton] at hs
    obtain⟨a,a1,a2⟩:=apL (h2.nz _ mu)
    obtain⟨b,b1,b2⟩:=apL (h2.nz _ mw)
    have e:v=btw a b ds[i] ds[(i+1)%ds.length]:=by
     rw[hs,a2,b2];unfold acR btw;simp only[Rat.one_mul]
    exact key (by rw[e];exact hx.gen h2 mu mw (fun q=>hc ((abh _).2 q)) a1 b1)
theorem aAt{L:List LnQ}(h:aAe L)(p:PtQ):af1 L p≠[]:=by
 obtain⟨h1,h2,h3⟩:=agZ h p
 unfold af1
 generalize adu (ab4 L p)=ds at*
 unfold aib
 split
 ·simp
 ·rename_i hn
  have h0:0<ds.length:=by omega
  have hp:=List.pairwise_iff_getElem.1 h1
  have h2':1<ds.length:=by
   have m0:=List.getElem_mem h0
   obtain⟨j,hj,e⟩:=List.getElem_of_mem (h2.neg _ m0)
   by_cases hj0:j=0
   ·subst hj0
    have:=ae7 (h2.nz _ m0)
    rw[←e] at this
    have:=acW (h2.nz _ m0)
    omega
   ·omega
  have hx:(0+1)%ds.length=1:=Nat.mod_eq_of_lt h2'
  intro hc
  have:aol ds 0=[]:=by
   rw[List.flatMap_eq_nil_iff] at hc
   exact hc 0 (List.mem_range.2 h0)
  unfold aol at this
  rw[hx,ac2 h0,ac2 h2'] at this
  have hb:=aAa.2 (hp 0 1 h0 h2' (by omega))
  split at this
  ·rename_i q;omega
  ·split at this<;>cases this
theorem az9{ls:List LnQ}{p v:PtQ}(h:Gn (adh ls) p v):Gn ls p v:=fun l hl hz=>by
 have hm:=alP hl
 have h1:l.canon.value p=0:=by rcases ajz l p with e|e<;>rw[e,hz]<;>rfl
 have:=h _ hm h1
 unfold LnQ.canon at this
 split at this
 ·intro e
  apply this
  unfold PtQ.dot LnQ.nor LnQ.rev at*
  simp only[Rat.intCast_neg] at*
  grind
 ·exact this
def aB5(t:Tr)(p:PtQ):Bool:=(af1 (adh t.lns) p).any fun v=>(amD t p v).1
def avG(t:Tr)(p:PtQ):Bool:=(af1 (adh t.lns) p).all fun v=>(amD t p v).1
theorem au6{t:Tr}(ht:t.all LnQ.ok){e:aaf}{q v:PtQ}{b:Bool}(hq:InD e q)(hs: ∀p,InD e p→Off t.lns p→t.val p=b)(hv:v∈af1 (adh t.lns) q):(amD t q v).1=b:=by
 have hg:=az9 (awg (ajo (adk ht)) hv)
 obtain⟨e1,a1,b1⟩:=al6 hg
 obtain⟨e2,a2,b2⟩:=hq.open v
 have hd: ∃d:Rat,0<d∧d≤e1∧d≤e2:=by
  by_cases k:e1≤e2
  ·exact⟨e1,a1,by grind,k⟩
  ·exact⟨e2,a2,by grind,by grind⟩
 obtain⟨d,d0,d1,d2⟩:=hd
 obtain⟨o,w⟩:=b1 d d0 d1
 rw[w]
 exact hs _ (b2 d (Rat.le_of_lt d0) d2) o
theorem ayl{t:Tr}(ht:t.all LnQ.ok){e:aaf}{q:PtQ}(hq:InD e q)(hs: ∀p,InD e p→Off t.lns p→t.val p=true):avG t q=true:=by
 unfold avG
 rw[List.all_eq_true]
 exact fun v hv=>au6 ht hq hs hv
theorem aAz{t:Tr}(ht:t.all LnQ.ok){e:aaf}{q:PtQ}(hq:InD e q)(hs: ∀p,InD e p→Off t.lns p→t.val p=false):aB5 t q=false∧avG t q=false:=by
 unfold aB5 avG
 have hn:=aAt (ajo (adk ht)) q
 refine⟨?_,?_⟩
 ·rw[List.any_eq_false]
  exact fun v hv=>by rw[au6 ht hq hs hv];decide
 ·cases hv:af1 (adh t.lns) q with
  |nil=>exact absurd hv hn
  |cons v r=>rw[List.all_cons,au6 ht hq hs (by rw[hv];exact List.mem_cons_self)];rfl
/-! ### witnesses -/
theorem aDD{b:Tr}(hb:b.all LnQ.ok){c:aaf}{r:List aaf}(h:aaW (b.restrict [])=c::r):aa3 c∧avG b (aaF c)=true:=by
 have hu:=b.restrict_all LnQ.ok [] hb
 obtain⟨g,hs⟩:=acY hu aa3.nil (adK.1 (by rw[h];exact List.mem_cons_self))
 refine⟨g,ayl hb (apz g) fun p hp ho=>?_⟩
 rw[←b.val_restrict [] p hb aa3.nil (ags p) ho]
 exact(hs p hp).2
theorem aBb{b:Tr}(hb:b.all LnQ.ok):aaW (b.restrict [])=[]↔ ∀p,Off b.lns p→b.val p=false:=by
 have hu:=b.restrict_all LnQ.ok [] hb
 rw[an1 hu]
 have key:=(Tr.restrict_leaf hb (adk hb) (fun l hl=>hl) (v:=false))
 constructor
 ·intro h
  refine key.1 (Tr.red_const (L:=(b.restrict []).lns) (adk hu) (b.restrict_red []) hu aa3.nil (fun p _ ho=>h p ho))
 ·intro h p ho
  rw[key.2 h];rfl
theorem aqJ{c:aaf}{a b:Tr}{p:PtQ}(hp:InD c p)(ho:Off a.lns p)(ha: ∀l∈a.lns,l.ok)(hb: ∀l∈b.lns,l.ok): ∃q,InD c q∧(Off a.lns q∧Off b.lns q)∧a.val q=a.val p:=by
 have hp':InD (c++a.lns.map fun l=>⟨if 0<l.value p then l else l.rev,IvQ.all⟩) p:=fun s hs=>by
  rcases List.mem_append.1 hs with hs|hs
  ·exact hp s hs
  ·obtain⟨l,hl,rfl⟩:=List.mem_map.1 hs
   have h0:=ho l hl
   simp only
   split
   ·assumption
   ·rw[aaM];grind
 obtain⟨q,q1,q2⟩:=alM hp' (a.lns++b.lns) fun l hl=>(List.mem_append.1 hl).elim (ha l) (hb l)
 refine⟨q,fun s hs=>q1 s (List.mem_append_left _ hs),Off.app.1 q2,ag0 (L:=a.lns) (fun l hl=>?_) fun l hl=>hl⟩
 have h1:=q1 _ (List.mem_append_right _ (List.mem_map.2 ⟨l,hl,rfl⟩))
 have h0:=ho l hl
 simp only at h1
 split at h1
 ·rename_i k;exact⟨fun _=>k,fun _=>h1⟩
 ·rename_i k;rw[aaM] at h1;exact⟨fun e=>by grind,fun e=>absurd e k⟩
theorem aqW{a b:Tr}(ha:a.all LnQ.ok)(hb:b.all LnQ.ok){c:aaf}{r:List aaf}(h:aaW (a.mergeQ 3 b [])=c::r):aa3 c∧avG a (aaF c)=true∧aB5 b (aaF c)=false∧avG b (aaF c)=false:=by
 have hu:(a.mergeQ 3 b []).all LnQ.ok:=Tr.mergeQ_all LnQ.ok 3 hb a [] ha
 obtain⟨g,hs⟩:=acY hu aa3.nil (adK.1 (by rw[h];exact List.mem_cons_self))
 have hq:=apz g
 -- all points of the cell that lie on no line of either
 have both: ∀p,InD c p→Off a.lns p→Off b.lns p→a.val p=true∧b.val p=false:=fun p hp o1 o2=>by
  have e:=(hs p hp).2
  rw[Tr.val_merge 3 b hb a [] p ha aa3.nil (ags p) o1 o2] at e
  unfold opB at e
  simp at e
  exact e
 -- a point off a's lines is near one that is off b's lines too
 have fst: ∀p,InD c p→Off a.lns p→a.val p=true:=fun p hp o1=>by
  obtain⟨q,q1,q2,q3⟩:=aqJ hp o1 (adk ha) (adk hb)
  rw[←q3];exact(both q q1 (q2.1) (q2.2)).1
 have snd: ∀p,InD c p→Off b.lns p→b.val p=false:=fun p hp o2=>by
  obtain⟨q,q1,q2,q3⟩:=aqJ hp o2 (adk hb) (adk ha)
  rw[←q3];exact(both q q1 (q2.2) (q2.1)).2
 exact⟨g,ayl ha hq fst,aAz hb hq snd⟩
end Go.Sx
end
