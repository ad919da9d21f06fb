/- Part 17 of a proof. -/
import Derived.Test.YtfccecinjmbfhaaGreatDoorMb16
set_option linter.unusedSimpArgs false
set_option maxHeartbeats 4000000
set_option maxRecDepth 100000
set_option linter.unusedVariables false
section
namespace Go.Sx
open Go Go.Proofs Tryz
variable {GB:Gh}
theorem aCb(p r:ZP):(agu p.q r.q<0↔azY p r<0)∧(agu p.q r.q=0↔azY p r=0):=by
 have e1: ∀a b:Int,abc (a:Rat) (b:Rat)<0↔a<b:=fun a b=>by rw[aeX,Rat.intCast_lt_intCast]
 have e2: ∀a b:Int,abc (a:Rat) (b:Rat)=0↔a=b:=fun a b=>by rw[aeA,mZ]
 have f1:=e1 p.1 r.1
 have f2:=e2 p.1 r.1
 have f3:=e1 p.2 r.2
 have f4:=e2 p.2 r.2
 show(agu ⟨(p.1:Rat),(p.2:Rat)⟩ ⟨(r.1:Rat),(r.2:Rat)⟩<0↔_)∧(agu ⟨(p.1:Rat),(p.2:Rat)⟩ ⟨(r.1:Rat),(r.2:Rat)⟩=0↔_)
 unfold agu azY
 dsimp only
 generalize abc (p.1:Rat) (r.1:Rat)=u at*
 generalize abc (p.2:Rat) (r.2:Rat)=v at*
 by_cases h:p.1<r.1
 ·rw[if_pos (by omega),if_pos h];omega
 ·by_cases h2:r.1<p.1
  ·rw[if_pos (by omega),if_neg h,if_pos h2];omega
  ·rw[if_neg (by omega),if_neg h,if_neg h2]
   by_cases h3:p.2<r.2
   ·rw[if_pos h3];omega
   ·rw[if_neg h3]
    split<;>omega
theorem axO(x:ZP): ∀l:List ZP,afC agu x.q (l.map ZP.q)=(awv x l).map ZP.q
 |[]=>rfl
 |u::t=>by
  obtain⟨h1,h2⟩:=aCb u x
  rw[cZ,afC,awv,axO x t]
  by_cases k1:azY u x<0
  ·rw[if_pos (h1.2 k1),if_pos k1];rfl
  ·rw[if_neg (fun e=>k1 (h1.1 e)),if_neg k1]
   by_cases k2:azY u x=0
   ·rw[if_pos (h2.2 k2),if_pos k2];rfl
   ·rw[if_neg (fun e=>k2 (h2.1 e)),if_neg k2];rfl
theorem ay8(l:List ZP):alJ agu (l.map ZP.q)=(alY l).map ZP.q:=by
 have key: ∀(l o:List ZP),(l.map ZP.q).foldl (fun out x=>afC agu x out) (o.map ZP.q)=(l.foldl (fun out x=>awv x out) o).map ZP.q:=by
  intro l
  induction l with
  |nil=>intro o;rfl
  |cons x t ih=>intro o;rw[cZ,kK,kK,axO,ih]
 exact key l []
theorem aFq(l:List ZP):(l.map ZP.q).map eP=l.map eZp:=by rw[qK];rfl
theorem amg{l:List ZP}(h: ∀p∈l,ZP.le 100 p)(hn:l.length≤100000):PF GB prog 188 [.sl (l.map eZp)] (.sl ((alY l).map eZp)):=by
 have:=awI (GB:=GB) (ps:=l.map ZP.q) (at8 h) (by rw[aJ];exact hn)
 rw[ay8,aFq,aFq] at this
 exact this
theorem ayd(u v:ZP):(PtQ.cross (iP u.1 u.2) (iP v.1 v.2))=((ai8 u v:Int):Rat):=by
 unfold PtQ.cross iP ai8
 push_cast
 rfl
theorem ai2(u v:ZP):(PtQ.cross (iP u.1 u.2) (iP v.1 v.2)).num.sign≠0↔ai8 u v≠0:=by
 rw[ayd,pV]
 exact not_congr iU
theorem aqJ{α β:Type}(f:α→β)(l:List α):((l.map f).take (l.length-1)).drop 0=l.dropLast.map f:=by
 rw[hJ,←gX,List.dropLast_eq_take]
theorem aqh{l:List ZP}(h:0<l.length): ∃u,l.getLast? =some u∧l[l.length-1]? =some u∧l.getD (l.length-1) (0,0)=u:=by
 refine⟨l[l.length-1],?_,aQ (by omega),?_⟩
 ·rw[kV];exact aQ (by omega)
 ·rw[aX,aQ (by omega)];rfl
theorem arc{l:List ZP}(h:0<l.length): ∃u,l[0]? =some u∧l.getD 0 (0,0)=u:=by
 refine⟨l[0],aQ (by omega),?_⟩
 rw[aX,aQ (by omega)];rfl
theorem avv{u p:ZP}:(u.1=p.1∧u.2=p.2)↔u=p:=⟨fun h=>Prod.ext h.1 h.2,fun h=>by rw[h];exact⟨rfl,rfl⟩⟩
theorem asi{b:Nat}{es:List Int}(hes:es.length≤400){a:Nat}(ha:a≤es.length):PM GB prog 123 (mkP [none] b) b 104 [.sl (es.map vI), .v (.int .i64 (a:Nat))] (eRg (acF es a).1) [.sl (es.map vI), .v (.int .i64 ((acF es a).2:Nat))]:=by
 have hk0:=aaF (n:=4) ha
 refine fnM (fu:=⟨6⟩) func123 J J ntmps123 J J (fun C b m lo hmb=>?_)
 refine mg (X:=Nat) (fun a2=>[]) (fun a2=>[(1000000,some (.o 104 [.d (.sl (es.map vI)), .d (.v (.int .i64 (a2:Nat)))] false))]) (fun a2=>acF es a=auu es a2∧a2≤es.length) [] [1000000] rfl ?_ (fun _=>rfl) (fun a2 ⟨hR,ha2⟩=>?_)
 ·
  refine gx rfl<|cm rfl (fun b=>(ab9 (n:=4) hes ha (by decide) (by decide))) rfl<|?_
  refine br J J J (fun hc15=>?_) (fun hc15=>?_)
  ·
   have hx1:=aaF (n:=5) hk0
   have hy1:=aaF (n:=5) hx1
   have hz1:=aaF (n:=4) hy1
   have hw1:=aaF (n:=4) hz1
   have hl0:=abt (es:=es) (n:=5) (a:=(aae es 4 a).2) (by decide)
   have hl1:=abt (es:=es) (n:=5) (a:=(aae es 5 (aae es 4 a).2).2) (by decide)
   have hl2:=abt (es:=es) (n:=4) (a:=(aae es 5 (aae es 5 (aae es 4 a).2).2).2) (by decide)
   have hl3:=abt (es:=es) (n:=4) (a:=(aae es 4 (aae es 5 (aae es 5 (aae es 4 a).2).2).2).2) (by decide)
   refine cm rfl (fun b=>(ab9 (n:=5) hes hk0 (by decide) (by decide))) rfl<|cm rfl (fun b=>(ab9 (n:=5) hes hx1 (by decide) (by decide))) rfl<|?_
   refine cm rfl (fun b=>(ab9 (n:=4) hes hy1 (by decide) (by decide))) rfl<|cm rfl (fun b=>(ab9 (n:=4) hes hz1 (by decide) (by decide))) rfl<|?_
   refine cl rfl (aoD (m:=(((aae es 5 (aae es 4 a).2).1:Int)-4)) (n:=(((aae es 5 (aae es 5 (aae es 4 a).2).2).1:Int)-4)) (by omega) (by omega)) rfl<|?_
   refine cl rfl (aoD (m:=(((aae es 5 (aae es 4 a).2).1:Int)-4+1+((aae es 4 (aae es 5 (aae es 5 (aae es 4 a).2).2).2).1:Int))) (n:=(((aae es 5 (aae es 5 (aae es 4 a).2).2).1:Int)-4)) (by omega) (by omega)) rfl<|?_
   refine cl rfl (aoD (m:=(((aae es 5 (aae es 4 a).2).1:Int)-4+1+((aae es 4 (aae es 5 (aae es 5 (aae es 4 a).2).2).2).1:Int))) (n:=(((aae es 5 (aae es 5 (aae es 4 a).2).2).1:Int)-4+1+((aae es 4 (aae es 4 (aae es 5 (aae es 5 (aae es 4 a).2).2).2).2).1:Int))) (by omega) (by omega)) rfl<|?_
   refine cl rfl (aoD (m:=(((aae es 5 (aae es 4 a).2).1:Int)-4)) (n:=(((aae es 5 (aae es 5 (aae es 4 a).2).2).1:Int)-4+1+((aae es 4 (aae es 4 (aae es 5 (aae es 5 (aae es 4 a).2).2).2).2).1:Int))) (by omega) (by omega)) rfl<|?_
   refine rf J J<|?_
   exact rzM hmb J J (by rw[show acF es a=_ from if_pos hc15];rfl) (by rw[show acF es a=_ from if_pos hc15];rfl)
  ·
   refine br J J J (fun hc46=>?_) (fun hc46=>?_)
   ·
    obtain⟨hp1,hp2,hp3⟩:=amO hk0
    obtain⟨hu1,hu2,hu3,hu4⟩:=aqG hp3
    obtain⟨hv1,hv2,hv3,hv4⟩:=aqG hu4
    haveI:=biC (k:=10) (m:=(vF es (pF es (aae es 4 a).2).2).1.1) (by omega) (by decide)
    haveI:=biC (k:=10) (m:=(vF es (pF es (aae es 4 a).2).2).1.2) (by omega) (by decide)
    haveI:=biC (k:=10) (m:=(vF es (vF es (pF es (aae es 4 a).2).2).2).1.1) (by omega) (by decide)
    haveI:=biC (k:=10) (m:=(vF es (vF es (pF es (aae es 4 a).2).2).2).1.2) (by omega) (by decide)
    refine cm rfl (fun b=>(aDo hes hk0)) rfl<|cm rfl (fun b=>(aDX hes hp3)) rfl<|cm rfl (fun b=>(aDX hes hu4)) rfl<|cl rfl (aha (p:=iP (vF es (pF es (aae es 4 a).2).2).1.1 (vF es (pF es (aae es 4 a).2).2).1.2) (q:=iP (vF es (vF es (pF es (aae es 4 a).2).2).2).1.1 (vF es (vF es (pF es (aae es 4 a).2).2).2).1.2)) rfl<|?_
    refine cl rfl (q_S (q:=PtQ.cross (iP (vF es (pF es (aae es 4 a).2).2).1.1 (vF es (pF es (aae es 4 a).2).2).1.2) (iP (vF es (vF es (pF es (aae es 4 a).2).2).2).1.1 (vF es (vF es (pF es (aae es 4 a).2).2).2).1.2))) rfl<|?_
    refine br J J J (fun hc58=>?_) (fun hc58=>?_)
    ·
     refine cl rfl (ale (n:=1) (by decide) (by decide)) rfl<|cl rfl (apO (m:=(pF es (aae es 4 a).2).1.1) (n:=(pF es (aae es 4 a).2).1.2) (m':=(vF es (pF es (aae es 4 a).2).2).1.1) (n':=(vF es (pF es (aae es 4 a).2).2).1.2) (k:=1) (by omega) (by omega) (by omega) (by omega) (by decide)) rfl<|?_
     refine cl rfl (ale (n:=1) (by decide) (by decide)) rfl<|cl rfl (apO (m:=(pF es (aae es 4 a).2).1.1) (n:=(pF es (aae es 4 a).2).1.2) (m':=(vF es (vF es (pF es (aae es 4 a).2).2).2).1.1) (n':=(vF es (vF es (pF es (aae es 4 a).2).2).2).1.2) (k:=1) (by omega) (by omega) (by omega) (by omega) (by decide)) rfl<|?_
     refine rf J J<|?_
     exact rzM hmb J J (by rw[show acF es a=_ from(if_neg hc15).trans ((if_pos hc46).trans (if_pos ((ai2 _ _).1 hc58)))];rfl) (by rw[show acF es a=_ from(if_neg hc15).trans ((if_pos hc46).trans (if_pos ((ai2 _ _).1 hc58)))])
    ·
     exact at_ (vF es (vF es (pF es (aae es 4 a).2).2).2).2 ⟨(if_neg hc15).trans ((if_pos hc46).trans (if_neg (fun e=>hc58 ((ai2 _ _).2 e)))),hv4⟩
   ·
    exact at_ (aae es 4 a).2 ⟨(if_neg hc15).trans (if_neg hc46),hk0⟩
 ·
  have hj1:=abt (es:=es) (n:=4) (a:=a2) (by decide)
  have hj2:=aaF (n:=4) ha2
  refine cm rfl (fun b=>(ab9 (n:=4) hes ha2 (by decide) (by decide))) rfl<|?_
  refine nr 10 10 54 6 J J J ?_
  refine lp (X:=List ZP×Nat×Nat) (fun⟨r,i,a3⟩=>[(11, .d (vI (i:Nat))),(10, .rw 10)]) (fun⟨r,i,a3⟩=>[(1000000,some (.o 104 [.d (.sl (es.map vI)), .d (.v (.int .i64 (a3:Nat)))] false)),(10,some (.b 54 6 (r.map eZp) true))]) (fun⟨r,i,a3⟩=>aoF es i a3 r=aoF es (3+(aae es 4 a2).1) (aae es 4 a2).2 []∧a3≤es.length∧Adj r∧r.length+i≤6) (fun⟨r,i,a3⟩=>i) ⟨[],3+(aae es 4 a2).1,(aae es 4 a2).2⟩ rfl ⟨rfl,hj2,Adj.nil,by simp;omega⟩ (fun _=>rfl) (fun⟨r,i,a3⟩ hk=>?_)
  try dsimp only at hk⊢
  obtain⟨h1,h2,h3,h4⟩:=hk
  have hrl:(r.map eZp).length=r.length:=by simp
  refine br (fu2:=⟨0⟩) J J J (fun hc73=>?_) (fun hc73=>?_)
  ·
   obtain⟨j,rfl⟩: ∃j,i=j+1:=⟨i-1,by omega⟩
   obtain⟨hq1,hq2,hq3⟩:=amO h2
   refine cm (fu:=⟨8⟩) rfl (fun b=>(aDo hes h2)) rfl<|?_
   refine csS (v1:=fun hg80=>by simp only[aah];kernel_rfl) J J J J (fun hg80=>?_) (fun hg80=>?_)
   ·
    have hlast: ¬r.getLast? =some (pF es a3).1:=by rw[bY (l:=r) (by omega)];simp
    refine rf J J<|ap ((r++[(pF es a3).1]).map eZp) rfl (by rw[aN];rfl) (ay4 [_]) rfl<|?_
    refine rnE 95 10 rfl ?_
    exact at_ ⟨r++[(pF es a3).1],j,(pF es a3).2⟩ (by dsimp only;exact⟨⟨by rw[←h1,aoF,if_neg hlast],hq3,h3.snoc ⟨by omega,by omega⟩ hlast,by simp;omega⟩,(by omega)⟩)
   ·
    obtain⟨q,hq,hqi,hqd⟩:=aqh (l:=r) (by omega)
    have hqm:=h3.le q (mK hq)
    unfold ZP.le at hqm
    refine lb (eZp q) rfl (by rw[show(((r.map eZp).length:Nat):Int)-1=((r.length-1:Nat):Int) by omega];exact aak hqi) rfl<|cl rfl (alo (m:=q.1) (n:=q.2) (m':=(pF es a3).1.1) (n':=(pF es a3).1.2) (by omega) (by omega) (by omega) (by omega)) rfl<|?_
    refine bb J J J (fun hc91=>?_) (fun hc91=>?_)
    ·
     have hlast: ¬r.getLast? =some (pF es a3).1:=by rw[hq];intro e;have:=avv.2 (Option.some.inj e);simp[this] at hc91
     refine rf J J<|ap ((r++[(pF es a3).1]).map eZp) rfl (by rw[aN];rfl) (ay4 [_]) rfl<|?_
     refine rnE 95 10 rfl ?_
     exact at_ ⟨r++[(pF es a3).1],j,(pF es a3).2⟩ (by dsimp only;exact⟨⟨by rw[←h1,aoF,if_neg hlast],hq3,h3.snoc ⟨by omega,by omega⟩ hlast,by simp;omega⟩,(by omega)⟩)
    ·
     have hlast:r.getLast? =some (pF es a3).1:=by rw[hq];congr 1;exact avv.1 (by simpa using hc91)
     exact at_ ⟨r,j,(pF es a3).2⟩ (by dsimp only;exact⟨⟨by rw[←h1,aoF,if_pos hlast],hq3,h3,by omega⟩,(by omega)⟩)
  ·
   obtain rfl:i=0:=by omega
   have hg:=h1
   rw[aoF] at hg
   refine fzC 10 rfl ?_
   refine gx rfl<|?_
   refine lp (fu:=⟨5⟩) (X:=List ZP×Nat) (fun⟨l,m⟩=>[(10, .d (.sl (l.map eZp)))]) (fun⟨l,m⟩=>[]) (fun⟨l,m⟩=>aeU m l=aeU 6 r∧l.length≤m+1∧Adj l∧l.length≤6) (fun⟨l,m⟩=>m) ⟨r,6⟩ rfl ⟨rfl,by omega,h3,by omega⟩ (fun _=>rfl) (fun⟨l,m⟩ hk=>?_)
   try dsimp only at hk⊢
   obtain⟨t1,t2,t3,t4⟩:=hk
   have hll:(l.map eZp).length=l.length:=by simp
   refine csS (v2:=fun hg98=>by simp only[aah];kernel_rfl) J J J J (fun hg98=>?_) (fun hg98=>?_)
   ·
    obtain⟨q,hqi,hqd⟩:=arc (l:=l) (by omega)
    obtain⟨q2,hq0,hqi2,hqd2⟩:=aqh (l:=l) (by omega)
    have hqm:=t3.le q (aM hqi)
    have hqm2:=t3.le q2 (aM hqi2)
    unfold ZP.le at hqm hqm2
    refine ix _ rfl (aak (i:=0) hqi) rfl<|ix (eZp q2) rfl (by rw[show(((l.map eZp).length:Nat):Int)-1=((l.length-1:Nat):Int) by omega];exact aak hqi2) rfl<|?_
    refine cl rfl (alo (m:=q.1) (n:=q.2) (m':=q2.1) (n':=q2.2) (by omega) (by omega) (by omega) (by omega)) rfl<|?_
    refine bd J J J (fun hc110=>?_) (fun hc110=>?_)
    ·
     have hcond:1<l.length∧l.getD 0 (0,0)=l.getD (l.length-1) (0,0):=⟨by omega,by rw[hqd,hqd2];exact avv.1 hc110⟩
     refine sc' 0 (l.length-1) (l.dropLast.map eZp) J J (by omega) (aqJ eZp l) (ay4 l) (aR _) (by omega) rfl<|?_
     exact at_ ⟨l.dropLast,m-1⟩ (by dsimp only;exact⟨⟨by rw[←t1];obtain⟨m,rfl⟩: ∃q,m=q+1:=⟨m-1,by omega⟩;rw[aeU,if_pos hcond];rfl,by rw[gV];omega,t3.drop,by rw[gV];omega⟩,(by omega)⟩)
    ·
     have hcond: ¬(1<l.length∧l.getD 0 (0,0)=l.getD (l.length-1) (0,0)):=fun e=>hc110 (avv.2 (by rw[←hqd,←hqd2];exact e.2))
     refine cl (fu:=⟨1⟩) rfl (amg (l:=l) t3.le (by omega)) rfl<|?_
     have hgen:aeU 6 r=l:=by rw[←t1];cases m with|zero=>rfl|succ m=>rw[aeU,if_neg hcond]
     refine eqF 118 (.d (vI ((alY l).length:Nat))) rfl (by rw[aJ];rfl) ?_
     refine gx rfl<|?_
     refine br J J J (fun hc119=>?_) (fun hc119=>?_)
     ·
      have hfin:acF es a=(aAH,a3):=by rw[hR,auu,←hg,hgen,if_pos (by omega)]
      refine cl rfl (aoD (m:=0) (n:=0) (by decide) (by decide)) rfl<|cl rfl (aoD (m:=2) (n:=0) (by decide) (by decide)) rfl<|cl rfl (aoD (m:=0) (n:=2) (by decide) (by decide)) rfl<|?_
      refine rf J J<|?_
      exact rzM hmb J J (by rw[hfin];rfl) (by rw[hfin])
     ·
      have hfin:acF es a=(l,a3):=by rw[hR,auu,←hg,hgen,if_neg (by omega)]
      exact rzM hmb J J (by rw[hfin];rfl) (by rw[hfin])
   ·
    have hcond: ¬(1<l.length∧l.getD 0 (0,0)=l.getD (l.length-1) (0,0)):=fun e=>by omega
    refine cl (fu:=⟨1⟩) rfl (amg (l:=l) t3.le (by omega)) rfl<|?_
    have hgen:aeU 6 r=l:=by rw[←t1];cases m with|zero=>rfl|succ m=>rw[aeU,if_neg hcond]
    refine eqF 118 (.d (vI ((alY l).length:Nat))) rfl (by rw[aJ];rfl) ?_
    refine gx rfl<|?_
    refine br J J J (fun hc119=>?_) (fun hc119=>?_)
    ·
     have hfin:acF es a=(aAH,a3):=by rw[hR,auu,←hg,hgen,if_pos (by omega)]
     refine cl rfl (aoD (m:=0) (n:=0) (by decide) (by decide)) rfl<|cl rfl (aoD (m:=2) (n:=0) (by decide) (by decide)) rfl<|cl rfl (aoD (m:=0) (n:=2) (by decide) (by decide)) rfl<|?_
     refine rf J J<|?_
     exact rzM hmb J J (by rw[hfin];rfl) (by rw[hfin])
    ·
     have hfin:acF es a=(l,a3):=by rw[hR,auu,←hg,hgen,if_neg (by omega)]
     exact rzM hmb J J (by rw[hfin];rfl) (by rw[hfin])
def aEl:DV:= .v (.pointer none)
def cTd(l:LnQ)(p q:DV):List DV:=[.v (.bool false), .v (.bool false), .v (.bool (decide (l.a<0))),dN l.a.natAbs, .v (.bool (decide (l.b<0))),dN l.b.natAbs, .v (.bool (decide (l.c<0))),dN l.c.natAbs,p,q]
inductive RF (ns:List RN):Int→(Nat→Bool)→DV→Bool→(Nat→Bool)→Prop where
 |leaf (b:Bool) (f:Nat→Bool):RF ns (acS b) f (eT (.leaf b)) true f
 |bad (rt:Int) (f:Nat→Bool) (h1:rt≠ -1) (h2:rt≠ -2) (h:rt<0∨(ns.length:Int)≤rt∨(∃k:Nat,rt=k∧k<ns.length∧f k=true)):RF ns rt f aEl false f
 |line (k:Nat) (n:RN) (f:Nat→Bool) (h:ns[k]? =some n) (hf:f k=false) (hl:n.g.ln=none):RF ns (k:Int) f aEl false (amK f k)
 |left (k:Nat) (n:RN) (l:LnQ) (f f2:Nat→Bool) (p:DV) (h:ns[k]? =some n) (hf:f k=false) (hl:n.g.ln=some l) (h1:RF ns n.l (amK f k) p false f2):RF ns (k:Int) f aEl false f2
 |node (k:Nat) (n:RN) (l:LnQ) (f f2 f3:Nat→Bool) (p q:DV) (ok:Bool) (h:ns[k]? =some n) (hf:f k=false) (hl:n.g.ln=some l) (h1:RF ns n.l (amK f k) p true f2) (h2:RF ns n.r f2 q ok f3):RF ns (k:Int) f (.pt (cTd l p q)) ok f3
def aGr(n:Nat)(f:Nat→Bool):Bool:=(List.range n).all f
def RN.of(n:NQ):RN:=⟨⟨decide (n.l.a<0),dg n.l.a.natAbs,decide (n.l.b<0),dg n.l.b.natAbs,decide (n.l.c<0),dg n.l.c.natAbs⟩,n.a,n.b⟩
theorem aEp(ns:List NQ):ns.map eN=(ns.map RN.of).map RN.d:=by
 rw[qK];rfl
theorem aDL(t:Tr):eA t=eRT (t.num 0) ((t.wr 0).map RN.of):=by
 unfold eA eRT
 rw[aEp];rfl
theorem au4(a:Int):ahj (decide (a<0)) (dg a.natAbs)=a:=by
 unfold ahj
 rw[(aaE _).1]
 split
 ·rename_i h;have:=of_decide_eq_true h;omega
 ·rename_i h;have: ¬a<0:=fun e=>h (decide_eq_true e);omega
theorem aoj(a:Int):anE (decide (a<0)) (dg a.natAbs):=⟨(aaE _).2.2,fun h=>ahv.2 (by have:=of_decide_eq_true h;omega)⟩
theorem RN.of_l(n:NQ):(RN.of n).g.l=n.l:=by
 unfold RN.of RL.l
 simp only[au4]
theorem RN.of_ln{n:NQ}(h:n.l.ok):(RN.of n).g.ln=some n.l:=by
 unfold RL.ln
 rw[if_pos ⟨⟨aoj _,aoj _,aoj _⟩,by rw[RN.of_l];exact h⟩,RN.of_l]
theorem RN.of_sm{n:NQ}(h:LB n.l):(RN.of n).g.sm:=by
 have key: ∀a:Int,a.natAbs<2^96→DOk (dg a.natAbs)∧(dg a.natAbs).length≤3:=fun a ha=>⟨(aaE _).2.1,by have:=aa1 ha;omega⟩
 exact⟨key _ h.bl.a,key _ h.bl.b,key _ h.bl.c⟩
theorem aev(b:Bool)(k:Nat):acS b≠(k:Int):=by cases b<;>(unfold acS;simp)
theorem RR.det{ns:List RN}{rt:Int}{s s1:RS}{t1:Tr}(h:RR ns rt s t1 s1): ∀{s2:RS} {t2:Tr},RR ns rt s t2 s2→t1=t2∧s1=s2:=by
 induction h with
 |leaf b s=>
  intro s2 t2 h
  generalize hr:acS b=r at h
  cases h with
  |leaf b' s=>
   have:b=b':=by cases b<;>cases b'<;>first|rfl|(simp[acS] at hr)
   subst this;exact⟨rfl,rfl⟩
  |bad rt s h1 h2 h=>cases b<;>simp[acS] at hr<;>omega
  |line k=>exact absurd hr (aev _ _)
  |node k=>exact absurd hr (aev _ _)
 |bad rt s h1 h2 h=>
  intro s2 t2 h'
  cases h' with
  |leaf b s=>cases b<;>simp[acS] at h1 h2
  |bad=>exact⟨rfl,rfl⟩
  |line k n s hn hf=>
   have:=(bJ.1 hn).1
   rcases h with h|h|⟨j,e,_,hj⟩
   ·omega
   ·omega
   ·have:j=k:=by omega
    subst this;rw[hf] at hj;cases hj
  |node k n l s s2 s3 x y hn hf=>
   have:=(bJ.1 hn).1
   rcases h with h|h|⟨j,e,_,hj⟩
   ·omega
   ·omega
   ·have:j=k:=by omega
    subst this;rw[hf] at hj;cases hj
 |line k n s hn hf hl=>
  intro s2 t2 h'
  generalize hr:(k:Int)=r at h'
  cases h' with
  |leaf b s=>exact absurd hr.symm (aev _ _)
  |bad rt s h1 h2 h=>
   have:=(bJ.1 hn).1
   rcases h with h|h|⟨j,e,_,hj⟩
   ·omega
   ·omega
   ·have:j=k:=by omega
    subst this;rw[hf] at hj;cases hj
  |line k' n' s hn' hf' hl'=>
   have:k=k':=by omega
   subst this;exact⟨rfl,rfl⟩
  |node k' n' l s s2 s3 x y hn' hf' hl'=>
   have:k=k':=by omega
   subst this;rw[hn] at hn';cases hn';rw[hl] at hl';cases hl'
 |node k n l s s2 s3 x y hn hf hl h1 h2 i1 i2=>
  intro s4 t4 h'
  generalize hr:(k:Int)=r at h'
  cases h' with
  |leaf b s=>exact absurd hr.symm (aev _ _)
  |bad rt s h1 h2 h=>
   have:=(bJ.1 hn).1
   rcases h with h|h|⟨j,e,_,hj⟩
   ·omega
   ·omega
   ·have:j=k:=by omega
    subst this;rw[hf] at hj;cases hj
  |line k' n' s hn' hf' hl'=>
   have:k=k':=by omega
   subst this;rw[hn] at hn';cases hn';rw[hl] at hl';cases hl'
  |node k' n' l' s s2' s3' x' y' hn' hf' hl' h1' h2'=>
   have:k=k':=by omega
   subst this;rw[hn] at hn';cases hn';rw[hl] at hl';cases hl'
   obtain⟨rfl,rfl⟩:=i1 h1'
   obtain⟨rfl,rfl⟩:=i2 h2'
   exact⟨rfl,rfl⟩
def RT'(ns:List NQ):Tr→Int→List Nat→Prop
 | .leaf b,rt,L=>rt=acS b∧L=[]
 | .node l x y,rt,L=> ∃(k:Nat) (a b:Int) (L1 L2:List Nat),rt=(k:Int)∧ns[k]? =some ⟨l,a,b⟩∧RT' ns x a L1∧RT' ns y b L2∧L=k::(L1++L2)
theorem RT'.rr{ns:List NQ}: ∀{t:Tr} {rt:Int} {L:List Nat} {s:RS},RT' ns t rt L→t.all LnQ.ok→L.Nodup→(∀j∈L,s.f j=false)→ ∃f,RR (ns.map RN.of) rt s t ⟨f,s.c+t.size,s.b⟩∧ ∀j,j∉L→f j=s.f j
 | .leaf b,rt,L,s,⟨e,e2⟩,_,_,_=>by
  subst e e2
  exact⟨s.f, .leaf b s,fun _ _=>rfl⟩
 | .node l x y,rt,L,s,⟨k,a,b,L1,L2,e,hk,hx,hy,e2⟩,⟨h0,h1,h2⟩,hnd,hf=>by
  subst e e2
  obtain⟨hkn,hnd⟩:=List.nodup_cons.1 hnd
  obtain⟨hd1,hd2,hdis⟩:=List.nodup_append.1 hnd
  have hfk:=hf k aZ
  have hn1: ∀j∈L1,j≠k:=fun j hj e=>hkn (e▸cX _ hj)
  have hn2: ∀j∈L2,j≠k:=fun j hj e=>hkn (e▸cW _ hj)
  obtain⟨f1,r1,g1⟩:=RT'.rr (s:=⟨amK s.f k,s.c+1,s.b⟩) hx h1 hd1 (fun j hj=>by simp only;rw[aio (hn1 j hj)];exact hf j (aK _ (cX _ hj)))
  simp only at r1 g1
  obtain⟨f2,r2,g2⟩:=RT'.rr (s:=⟨f1,s.c+1+x.size,s.b⟩) hy h2 hd2 (fun j hj=>by
   simp only
   rw[g1 j (fun h=>hdis _ h _ hj rfl),aio (hn2 j hj)]
   exact hf j (aK _ (cW _ hj)))
  simp only at r2 g2
  have hc:s.c+(Tr.node l x y).size=s.c+1+x.size+y.size:=by simp only[Tr.size];omega
  rw[hc]
  refine⟨f2, .node k (RN.of ⟨l,a,b⟩) l s _ _ x y (by rw[cN,hk];rfl) hfk (RN.of_ln h0) r1 r2,fun j hj=>?_⟩
  simp only[aS,bS,not_or] at hj
  rw[g2 j hj.2.2,g1 j hj.2.1,aio hj.1]
theorem RT'.len{ns:List NQ}: ∀{t:Tr} {rt:Int} {L:List Nat},RT' ns t rt L→L.length=t.size
 | .leaf _,_,_,⟨_,h⟩=>by rw[h];rfl
 | .node l x y,_,_,⟨k,a,b,L1,L2,_,_,h1,h2,h⟩=>by
  rw[h,bU,aW,RT'.len h1,RT'.len h2]
  simp only[Tr.size]
  omega
def RD'(ns:List NQ)(t:Tr)(rt:Int):Prop:= ∃L,RT' ns t rt L∧L.Nodup∧L.length=ns.length
theorem aBP{ns:List NQ}{t:Tr}{rt:Int}(h:RD' ns t rt)(ho:t.all LnQ.ok):ofQ (ns.map RN.of) rt=some t:=by
 obtain⟨L,h1,h2,h3⟩:=h
 obtain⟨f,r,_⟩:=h1.rr (s:=rs0) ho h2 (fun _ _=>rfl)
 have hr:=apI (ns:=ns.map RN.of) (m:=(ns.map RN.of).length+1) (rt:=rt) (s:=rs0) (by have:=ajq (ns.map RN.of).length rs0.f;omega)
 obtain⟨e1,e2⟩:=hr.1.det r
 unfold ofQ
 simp only
 rw[e2,e1,if_pos ⟨rfl,by show rs0.c+t.size=_;rw[aJ,←h3,h1.len];show 0+_=_;omega⟩]
theorem ayG{ns:List NQ}: ∀{t:Tr} {n:Nat},(∀i,i<t.size→ns[n+i]? =(t.wr n)[i]?)→RT' ns t (t.num n) (List.range' n t.size)
 | .leaf b,n,_=>⟨rfl,rfl⟩
 | .node l x y,n,h=>by
  have hsz:(Tr.node l x y).size=1+x.size+y.size:=rfl
  have hw:(Tr.node l x y).wr n=⟨l,x.num (n+1),y.num (n+1+x.size)⟩::(x.wr (n+1)++y.wr (n+1+x.size)):=by simp[Tr.wr]
  have hx:=x.wr_len (n+1)
  have hy:=y.wr_len (n+1+x.size)
  refine⟨n,x.num (n+1),y.num (n+1+x.size),List.range' (n+1) x.size,List.range' (n+1+x.size) y.size,rfl,?_,ayG fun i hi=>?_,ayG fun i hi=>?_,?_⟩
  ·have:=h 0 (by omega)
   rw[hw,dT] at this
   rw[this];rfl
  ·have:=h (1+i) (by omega)
   rw[hw,jX 1 i,List.getElem?_cons_succ,gL (by omega)] at this
   rw[show n+1+i=n+(i+1) by omega];exact this
  ·have:=h (1+x.size+i) (by omega)
   rw[hw,show 1+x.size+i=(x.size+i)+1 by omega,List.getElem?_cons_succ,iS (by omega),hx,Nat.add_sub_cancel_left] at this
   rw[show n+1+x.size+i=n+(x.size+i+1) by omega];exact this
  ·rw[hsz,show 1+x.size+y.size=(x.size+y.size)+1 by omega,List.range'_succ,List.range'_append_1]
theorem aBV{t:Tr}(ho:t.all LnQ.ok):ofQ ((t.wr 0).map RN.of) (t.num 0)=some t:=
 aBP ⟨_,ayG (n:=0) (fun i _=>by rw[eY]),List.nodup_range',by rw[List.length_range',t.wr_len]⟩ ho
theorem aEo{t:Tr}(hb:t.all LB): ∀n∈(t.wr 0).map RN.of,n.g.sm:=fun n hn=>by
 obtain⟨m,hm,rfl⟩:=bW.1 hn
 exact RN.of_sm (Tr.all_wr 0 hb m hm)
theorem Tr.all_imp{p q:LnQ→Prop}(h: ∀l,p l→q l): ∀{t:Tr},t.all p→t.all q
 | .leaf _,_=>trivial
 | .node _ _ _,⟨h0,h1,h2⟩=>⟨h _ h0,Tr.all_imp h h1,Tr.all_imp h h2⟩
theorem aGg{t:Tr}(hs:t.size≤65536):((t.wr 0).map RN.of).length≤65536:=by rw[aJ,t.wr_len];exact hs
def l00:LnQ:=⟨0,1,0⟩
def t00:Tr:= .node l00 (.leaf true) (.leaf false)
theorem aht.red_size{k:Nat}{t:Tr}(h:aht k t)(hr:t.Red []):t.size≤k*(1+k):=by
 obtain⟨K,h1,h2,h3⟩:=h.am
 exact cJ (Tr.size_le h2 hr h.gd.ok aba.nil h3) (jU h1 (by omega))
structure TrX (k:Nat) (t:Tr):Prop where
 o:aht k t
 s:t.size≤3000
theorem TrX.lb{k:Nat}{t:Tr}(h:TrX k t):t.all LB:=h.o.gd.lb
theorem TrX.ok{k:Nat}{t:Tr}(h:TrX k t):t.all LnQ.ok:=h.o.gd.ok
theorem TrX.bl{k:Nat}{t:Tr}(h:TrX k t):t.all (fun l=>BL l 96):=Tr.all_imp (fun _ h=>h.bl) h.o.gd.lb
theorem TrX.dp{k:Nat}{t:Tr}(h:TrX k t):t.depth≤k:=h.o.dp
theorem aht.x{k:Nat}{t:Tr}(h:aht k t)(hr:t.Red [])(hk:k≤54):TrX k t:=
 ⟨h,cJ (h.red_size hr) (cJ (jU hk (show 1+k≤55 by omega)) (by decide))⟩
theorem aiy(rs:List (List ZP))(fill:Int):(adb rs fill).Red []:=Tr.restrict_red _ _
theorem aj7(es:List Int)(a:Nat):(ade es a).1.Red []:=by
 unfold ade
 dsimp only
 split<;>exact aiy _ _
theorem aiz(es:List Int)(a:Nat):(aaq es 0 a).1.Red []:=by
 rw[aaq]
 try dsimp only
 split
 ·exact Tr.restrict_red _ _
 ·split
  ·exact Tr.restrict_red _ _
  ·split
   ·exact Tr.compl_red (aj7 _ _)
   ·exact aj7 _ _
theorem aqu{es:List Int}{a:Nat}(ha:a≤es.length):TrX 18 (aaq es 0 a).1∧(aaq es 0 a).2≤es.length:=by
 obtain⟨h1,h2⟩:=ad7 (d:=0) ha
 exact⟨(aht.mono h1 (by decide)).x (aiz es a) (by decide),h2⟩
theorem aoJ{es:List Int}{a:Nat}(ha:a≤es.length):TrX 18 (abq es 3 a).1∧(abq es 3 a).2≤es.length:=by
 obtain⟨h1,h2⟩:=aoe (d:=3) ha (by decide)
 have h5:=Tr.size_lt (abq es 3 a).1
 have h6:(2:Nat)^(abq es 3 a).1.depth≤2^4:=bK (by decide) (by have:=(agc (d:=3) ha).1;omega)
 exact⟨⟨h1,by omega⟩,h2⟩
def aFS(es:List Int)(a:Nat):(Tr×Tr)×Nat:=
 let x:=aaq es 0 a
 let y:=aaq es 0 x.2
 let k:=aae es 3 y.2
 let u:=if(k.1:Int)=0 then abq es 3 k.2 else(x.1,k.2)
 let j:=aae es 3 u.2
 let v:=if(j.1:Int)=0 then abq es 3 j.2 else(y.1,j.2)
 ((u.1,v.1),v.2)
def aGd(es:List Int)(a:Nat):(Tr×Tr)×Nat:=
 let x:=aaq es 0 a
 let y:=aaq es 0 x.2
 let k:=aae es 6 y.2
 if(k.1:Int)=0 then((x.1, .node (lF es k.2).1 x.1 x.1),(lF es k.2).2)
 else if(k.1:Int)=1 then((x.1,y.1.mergeQ 1 x.1 []),k.2)
 else if(k.1:Int)=2 then((x.1,y.1.mergeQ 3 x.1 []),k.2)
 else if(k.1:Int)=3 then((x.1,(abq es 3 k.2).1),(abq es 3 k.2).2)
 else((x.1,y.1),k.2)
def aA0(es:List Int):Nat→Nat→List Tr×Nat
 |0,a=>([],a)
 |n+1,a=>((aaq es 0 a).1::(aA0 es n (aaq es 0 a).2).1,(aA0 es n (aaq es 0 a).2).2)
def aF0(r:List ZP)(i k:Nat):Bool:=decide (k=i)||decide (k=(i+1)%r.length)||decide (0<ag6 (r.getD i (0,0)).q (acE r i).q (r.getD k (0,0)).q)
def aEx(r:List ZP):Bool:=(List.range r.length).all fun i=>(List.range r.length).all fun k=>aF0 r i k
theorem aC1{r:List ZP}(h:aaU r): ∀x∈[r],aaU x:=fun x hx=>by rw[aY] at hx;subst hx;exact h
theorem aBE{r s:List ZP}(h:aaU r)(k:aaU s): ∀x∈[r,s],aaU x:=fun x hx=>by
 simp only[aS,iY,or_false] at hx
 rcases hx with rfl|rfl
 ·exact h
 ·exact k
theorem agT{b:Nat}{es:List Int}(hes:es.length≤400){a:Nat}(ha:a≤es.length):PM GB prog 57 (mkP [none] b) b 104 [.sl (es.map vI), .v (.int .i64 (a:Nat))] (eT (ade es a).1) [.sl (es.map vI), .v (.int .i64 ((ade es a).2:Nat))]:=by
 obtain⟨r1,r2⟩:=ahU ha
 have hk3:=aaF (n:=3) r2
 refine fnM func57 J J ntmps57 J J (fun C b m lo hmb=>?_)
 refine cm rfl (fun b=>(asi hes ha)) rfl<|ro (fu:=⟨4⟩) J J<|?_
 refine mg (X:=List (List ZP)×Nat) (fun⟨rs,a2⟩=>[(3, .rw 6)]) (fun⟨rs,a2⟩=>[(1000000,some (.o 104 [.d (.sl (es.map vI)), .d (.v (.int .i64 (a2:Nat)))] false)),(6,some (.b 46 1 (rs.map eRg) true))]) (fun⟨rs,a2⟩=>ade es a=(adb rs (1+((aae es 2 a2).1:Int)),(aae es 2 a2).2)∧a2≤es.length∧(∀r∈rs,aaU r)∧rs.length≤2) [3] [1000000,6] rfl ?_ (fun _=>rfl) (fun⟨rs,a2⟩ ⟨hB,ha2,hrs,hrl⟩=>?_)
 ·
  refine gx rfl<|cm rfl (fun b=>(ab9 (n:=3) hes r2 (by decide) (by decide))) rfl<|?_
  refine br J J J (fun hc9=>?_) (fun hc9=>?_)
  ·
   obtain⟨s1,s2⟩:=ahU hk3
   refine cm rfl (fun b=>(asi hes hk3)) rfl<|rf J J<|ap (hbd:=by simp) ([(acF es a).1,(acF es (aae es 3 (acF es a).2).2).1].map eRg) J J (aw9 [(acF es (aae es 3 (acF es a).2).2).1]) rfl<|?_
   refine rnE 14 6 rfl ?_
   exact at_ ⟨[(acF es a).1,(acF es (aae es 3 (acF es a).2).2).1],(acF es (aae es 3 (acF es a).2).2).2⟩ ⟨if_pos hc9,s2,aBE r1 s1,by simp⟩
  ·
   exact at_ ⟨[(acF es a).1],(aae es 3 (acF es a).2).2⟩ ⟨if_neg hc9,hk3,aC1 r1,by simp⟩
 ·
  try dsimp only at hB ha2 hrs hrl⊢
  have hf2:=abt (es:=es) (n:=2) (a:=a2) (by decide)
  refine fz 6 J J<|cl rfl (aDO (rs:=rs) hrs (by omega)) rfl<|cm rfl (fun b=>(ab9 (n:=2) hes ha2 (by decide) (by decide))) rfl<|cl rfl (asv (rs:=rs) (fill:=1+((aae es 2 a2).1:Int)) hrs (by omega)) rfl<|?_
  refine cl rfl (aty (rs:=rs) (fill:=1+((aae es 2 a2).1:Int)) hrs (by omega)) rfl<|?_
  exact rzM hmb J J (by rw[hB];rfl) (by rw[hB])
theorem ald{b:Nat}{es:List Int}(hes:es.length≤400){a:Nat}(ha:a≤es.length){n:Int}(hn:n=0):PM GB prog 12 (mkP [none,some (.v (.int .i64 n))] b) b 104 [.sl (es.map vI), .v (.int .i64 (a:Nat))] (eT (aaq es 0 a).1) [.sl (es.map vI), .v (.int .i64 ((aaq es 0 a).2:Nat))]:=by
 have hk0:=aaF (n:=6) ha
 obtain⟨hl,hl2⟩:=aqx hk0
 obtain⟨ht,ht2⟩:=aoJ hk0
 obtain⟨hb,hb2⟩:=aec hk0
 refine fnM func12 J J ntmps12 J J (fun C b m lo hmb=>?_)
 refine cm (fu:=⟨5⟩) rfl (fun b=>(ab9 (n:=6) hes ha (by decide) (by decide))) rfl<|?_
 refine mg (X:=Unit) (fun _=>[(9, .ff)]) (fun _=>[]) (fun _=>True) [9] [] rfl ?_ (fun _=>rfl) (fun _ _=>?_)
 ·
  refine gx rfl<|?_
  refine cs (fu1:=⟨1⟩) 12 J J J (fun hg12=>?_) (fun hg12=>?_)
  ·
   refine knF rfl (by show some (decide _)=some false;rw[decide_eq_false (by omega)]) rfl<|?_
   exact at_ () trivial
  ·
   exact at_ () trivial
 ·
  refine br J J J (fun hc29=>?_) (fun hc29=>?_)
  ·
   refine cm rfl (fun b=>(aEg hes hk0)) rfl<|cl rfl (acP (p:=true)) rfl<|cl (fu:=⟨1⟩) rfl (acP (p:=false)) rfl<|bxf J J<|cl rfl (aem (t:= .node (lF es (aae es 6 a).2).1 (.leaf true) (.leaf false)) ⟨⟨hl.bl⟩,trivial,trivial⟩ ⟨hl.ok,trivial,trivial⟩ (by simp[Tr.depth])) rfl<|?_
   exact rzM hmb J J (by rw[show aaq es 0 a=_ from if_pos hc29];rfl) (by rw[show aaq es 0 a=_ from if_pos hc29])
  ·
   refine br J J J (fun hc39=>?_) (fun hc39=>?_)
   ·
    refine cm rfl (fun b=>(atj (d:=3) hes hk0 (by decide))) rfl<|cl rfl (aem (t:=(abq es 3 (aae es 6 a).2).1) ht.lb ht.ok (by have:=ht.dp;omega)) rfl<|?_
    exact rzM hmb J J (by rw[show aaq es 0 a=_ from(if_neg hc29).trans (if_pos hc39)];rfl) (by rw[show aaq es 0 a=_ from(if_neg hc29).trans (if_pos hc39)])
   ·
    refine br J J J (fun hc45=>?_) (fun hc45=>?_)
    ·
     refine cm rfl (fun b=>(agT hes hk0)) rfl<|cl rfl afF rfl<|?_
     exact rzM hmb J J (by rw[show aaq es 0 a=_ from(if_neg hc29).trans ((if_neg hc39).trans (if_pos hc45))];rfl) (by rw[show aaq es 0 a=_ from(if_neg hc29).trans ((if_neg hc39).trans (if_pos hc45))])
    ·
     refine cm rfl (fun b=>(agT hes hk0)) rfl<|?_
     exact rzM hmb J J (by rw[show aaq es 0 a=_ from(if_neg hc29).trans ((if_neg hc39).trans (if_neg hc45))];rfl) (by rw[show aaq es 0 a=_ from(if_neg hc29).trans ((if_neg hc39).trans (if_neg hc45))])
theorem aln{b:Nat}{es:List Int}(hes:es.length≤400){a:Nat}(ha:a≤es.length){d:Nat}{n:Int}(hn:n=((d+1:Nat):Int))(hd:d≤3)(ih: ∀{GB:Gh} {b a:Nat} {n:Int},a≤es.length→n=(d:Int)→PM GB prog 12 (mkP [none,some (.v (.int .i64 n))] b) b 104 [.sl (es.map vI), .v (.int .i64 (a:Nat))] (eT (aaq es d a).1) [.sl (es.map vI), .v (.int .i64 ((aaq es d a).2:Nat))]):PM GB prog 12 (mkP [none,some (.v (.int .i64 n))] b) b 104 [.sl (es.map vI), .v (.int .i64 (a:Nat))] (eT (aaq es (d+1) a).1) [.sl (es.map vI), .v (.int .i64 ((aaq es (d+1) a).2:Nat))]:=by
 have hk0:=aaF (n:=6) ha
 obtain⟨hl,hl2⟩:=aqx hk0
 obtain⟨ht,ht2⟩:=aoJ hk0
 obtain⟨hb,hb2⟩:=aec hk0
 obtain⟨g1,g2⟩:=ad7 (d:=d) hk0
 have hj:=aaF (n:=4) g2
 have hjl:=abt (es:=es) (n:=4) (a:=(aaq es d (aae es 6 a).2).2) (by decide)
 obtain⟨g3,g4⟩:=ad7 (d:=d) hj
 have hpw:18*2^d≤18*2^3:=dY _ (bK (by decide) hd)
 refine fnM func12 J J ntmps12 J J (fun C b m lo hmb=>?_)
 refine cm rfl (fun b=>(ab9 (n:=6) hes ha (by decide) (by decide))) rfl<|?_
 refine cs (fu1:=⟨1⟩) 12 J J J (fun hg12=>?_) (fun hg12=>?_)
 ·
  refine knT rfl (by show some (decide _)=some true;rw[decide_eq_true (by omega)]) rfl<|cm rfl (fun b=>(ih hk0 (by omega))) rfl<|cm rfl (fun b=>(ab9 (n:=4) hes g2 (by decide) (by decide))) rfl<|?_
  refine cm rfl (fun b=>(ih hj (by omega))) rfl<|cl rfl (alG (op:=1+((aae es 4 (aaq es d (aae es 6 a).2).2).1:Int)) (t:=(aaq es d (aae es 6 a).2).1) (u:=(aaq es d (aae es 4 (aaq es d (aae es 6 a).2).2).2).1) (c:=[]) g3.gd.lb g3.gd.ok g1.gd.lb g1.gd.ok (fun m h=>by cases h) (fun m h=>by cases h) (by have:=g1.dp;have:=g3.dp;rw[fY];omega)) rfl<|?_
  exact rzM hmb J J (by rw[show aaq es (d+1) a=_ from if_pos hg12];show eT (Tr.mergeL _ _ _ _)=eT (Tr.mergeQ _ _ _ _);rw[Tr.mergeL_nil (by omega) g1.gd.ok g3.gd.ok]) (by rw[show aaq es (d+1) a=_ from if_pos hg12])
 ·
  refine br J J J (fun hc29=>?_) (fun hc29=>?_)
  ·
   refine cm rfl (fun b=>(aEg hes hk0)) rfl<|cl rfl (acP (p:=true)) rfl<|cl (fu:=⟨1⟩) rfl (acP (p:=false)) rfl<|bxf J J<|cl rfl (aem (t:= .node (lF es (aae es 6 a).2).1 (.leaf true) (.leaf false)) ⟨⟨hl.bl⟩,trivial,trivial⟩ ⟨hl.ok,trivial,trivial⟩ (by simp[Tr.depth])) rfl<|?_
   exact rzM hmb J J (by rw[show aaq es (d+1) a=_ from(if_neg hg12).trans (if_pos hc29)];rfl) (by rw[show aaq es (d+1) a=_ from(if_neg hg12).trans (if_pos hc29)])
  ·
   refine br J J J (fun hc39=>?_) (fun hc39=>?_)
   ·
    refine cm rfl (fun b=>(atj (d:=3) hes hk0 (by decide))) rfl<|cl rfl (aem (t:=(abq es 3 (aae es 6 a).2).1) ht.lb ht.ok (by have:=ht.dp;omega)) rfl<|?_
    exact rzM hmb J J (by rw[show aaq es (d+1) a=_ from(if_neg hg12).trans ((if_neg hc29).trans (if_pos hc39))];rfl) (by rw[show aaq es (d+1) a=_ from(if_neg hg12).trans ((if_neg hc29).trans (if_pos hc39))])
   ·
    refine br J J J (fun hc45=>?_) (fun hc45=>?_)
    ·
     refine cm rfl (fun b=>(agT hes hk0)) rfl<|cl rfl afF rfl<|?_
     exact rzM hmb J J (by rw[show aaq es (d+1) a=_ from(if_neg hg12).trans ((if_neg hc29).trans ((if_neg hc39).trans (if_pos hc45)))];rfl) (by rw[show aaq es (d+1) a=_ from(if_neg hg12).trans ((if_neg hc29).trans ((if_neg hc39).trans (if_pos hc45)))])
    ·
     refine cm rfl (fun b=>(agT hes hk0)) rfl<|?_
     exact rzM hmb J J (by rw[show aaq es (d+1) a=_ from(if_neg hg12).trans ((if_neg hc29).trans ((if_neg hc39).trans (if_neg hc45)))];rfl) (by rw[show aaq es (d+1) a=_ from(if_neg hg12).trans ((if_neg hc29).trans ((if_neg hc39).trans (if_neg hc45)))])
theorem alX{es:List Int}(hes:es.length≤400): ∀{d:Nat} {GB:Gh} {b a:Nat} {n:Int},d≤4→a≤es.length→n=(d:Int)→PM GB prog 12 (mkP [none,some (.v (.int .i64 n))] b) b 104 [.sl (es.map vI), .v (.int .i64 (a:Nat))] (eT (aaq es d a).1) [.sl (es.map vI), .v (.int .i64 ((aaq es d a).2:Nat))]
 |0,_,_,_,_,_,ha,hn=>ald hes ha hn
 |d+1,_,_,_,_,hd,ha,hn=>aln hes ha hn (by omega) (fun h1 h2=>alX hes (by omega) h1 h2)
theorem asV{es:List Int}(hes:es.length≤400){a d b:Nat}(ha:a≤es.length)(hd:d≤4):PM GB prog 12 (mkP [none,some (.v (.int .i64 (d:Nat)))] b) b 104 [.sl (es.map vI), .v (.int .i64 (a:Nat))] (eT (aaq es d a).1) [.sl (es.map vI), .v (.int .i64 ((aaq es d a).2:Nat))]:=alX (GB:=GB) hes hd ha rfl
section
variable {GB:Gh} {C:Ctx} {n:Nat} {Q0:Exit→Act→World→Prop} {fr fr' fr1 fr2:FrX} {own own' own1 own2:OwX} {cf cf' cf1 cf2:Cf} {vc vc1 vc2:List Prop}
def aGA(fr:FrX)(cf:Cf):Option Int:=match opC fr cf with
 |some ⟨_, .binOp .and _ x (.const (.int .i64 3)) _,_,_,_,_⟩=>match evX (lkC fr cf) x with
  |some (.d (.v (.int .i64 p)))=>some p
  |_=>none
 |_=>none
end
theorem aB1{es0 es:List Int}(hb:es0.length≤1125899906842624)(he:es=es0.take 400):PN GB prog 11 [.sl (es0.map vI)] 104 Unit (fun _=>[.sl (es.map vI), .v (.int .i64 (0:Nat))]):=by
 subst he;exact aEi hb
theorem aoQ{k:Nat}{t:Tr}(h:TrX k t):PF GB prog 14 [eT t] (eA t):=aAl h.bl (by have:=h.s;omega)
def aG1(cs:List RL):Option (List LnQ):=if cs.all (fun r=>r.ln.isSome) then some (cs.filterMap RL.ln) else none
def aGv:Option (List LnQ)→DV
 |some ls=> .tp [.sl (ls.map eLn),vB true]
 |none=> .tp [.sl [],vB false]
def aG4:Option aag→DV
 |some c=> .tp [.sl (c.map eFr),vB true]
 |none=> .tp [.sl [],vB false]
theorem abI.nil:abI []:=fun s hs=>by cases hs
def aFL(ai al:Addr)(more:Nat):Option Tr→DV
 |none=> .tp [.v (.pointer none),ara ai]
 |some t=>if 1024<t.depth+more then .tp [.v (.pointer none),ara al] else .tp [eU t, .v .nilIface]
def aGH(ai:Addr)(f:Tr→Tr):Option Tr→Tr ⊕ Addr
 |some t=> .inl (f t)
 |none=> .inr ai
def aFP(ai ae:Addr):Option Tr→Option (List LnQ)→Tr ⊕ Addr
 |some t,some ls=>(match ae7 ls [] with
  |some c=> .inl (t.restrict c)
  |none=> .inr ae)
 |_,_=> .inr ai
def aGJ(ai:Addr):Option LnQ→Option Tr→DV
 |some m,some t=> .tp [eA (t.restrict (aaN [] m)),eA (t.restrict (aaN [] m.rev)), .v .nilIface]
 |_,_=> .tp [trZ,trZ,ara ai]

section
variable {GB:Gh} {C:Ctx} {n:Nat} {Q0:Exit→Act→World→Prop} {fr fr':FrX} {own own':OwX} {cf cf':Cf} {vc:List Prop} {ops:Array Oper} {r:List Oper} {K:List Kt}
def aGK(fr:FrX)(cf:Cf):Option (FuncId×Value):=match opC fr cf with
 |some ⟨_, .makeFunc (.func f) ⟨[x]⟩ ⟨[]⟩,_,_,_,_⟩=>match evX (lkC fr cf) x with
  |some (.d (.v pv))=>some (f,pv)
  |_=>none
 |_=>none
def aGO(fr:FrX)(cf:Cf):Option (FuncId×List Value×List DV):=match opC fr cf with
 |some ⟨_, .call ⟨.value fo,args,_⟩,_,_,_,_⟩=>match evX (lkC fr cf) fo,evDs (lkC fr cf) args.toList with
  |some (.d (.v (.func (.func f) ⟨c1⟩ ⟨[]⟩))),some ds=>some (f,c1,ds)
  |_,_=>none
 |_=>none
/-! an array of constants -/
def aw5:List (Nat×Operand)→Option (List (Nat×Value))
 |[]=>some []
 |(i, .const v)::t=>match aw5 t with
  |some l=>some ((i,v)::l)
  |none=>none
 |_::_=>none
def aGP(cf:Cf)(fr:FrX):Option (TypeId×List (Nat×Value)):=match opC fr cf with
 |some ⟨_, .build t ⟨ps⟩,_,_,_,_⟩=>match aw5 ps with
  |some vs=>some (t,vs)
  |none=>none
 |_=>none
def aGT(fr:FrX)(own:OwX)(cf:Cf):Option (TypeId×Nat×Nat×List FX×Bool×FX):=match opC fr cf with
 |some ⟨_, .store t x y,_,_,_,_⟩=>match evX (lkC fr cf) x with
  |some (.ov nm 0)=>match bkC fr own cf nm with
   |some (.o ty cs lo)=>match evX (lkC fr cf) y with
    |some fv=>some (t,nm,ty,cs,lo,fv)
    |_=>none
   |_=>none
  |_=>none
 |_=>none
def aGB(fr:FrX)(cf:Cf):Option RwA:=match opC fr cf with
 |some ⟨some d, .buildSlice t len parts,_,_,_,_⟩=>match abD tt t with
  |some ⟨.sl e s _,_,_,_⟩=>match aAe (lkC fr cf) 0 parts.toList with
   |some ds=>bif auL s ds&&(Nat.beq parts.toList.length len&&(Nat.ble (len*s) 1000&&Nat.blt 0 (len*s))) then some ⟨d,e,s,ds⟩ else none
   |none=>none
  |_=>none
 |_=>none
def aG3(fr:FrX)(cf:Cf):Option (TypeId×List DV):=match opC fr cf with
 |some ⟨_, .load t x,_,_,_,_⟩=>match evX (lkC fr cf) x with
  |some (.ep l)=>some (t,l)
  |_=>none
 |_=>none
def aGW:TypeDesc→Bool
 | .struct _=>false
 | .array _ _=>false
 |_=>true
end
def ePr(a b:Tr):DV:= .ag [eU a,eU b]
def prZ:DV:= .ag [.v (.pointer none), .v (.pointer none)]
theorem aCw{k:Nat}{t:Tr}(h:TrX k t):PF GB prog 108 [eA t] (.tp [eU t,vB true]):=by
 have:=aEP (GB:=GB) (rt:=t.num 0) (aEo h.lb) (aGg (by have:=h.s;omega)) (aBV h.ok)
 rw[←aDL] at this
 exact this
def mtQ(a:LnQ)(t:List LnQ):List Rat:=t.filterMap fun b=>if crossI a b=0 then none else some (abH a b).x
def aGX(l:List LnQ)(x:Rat):List PtQ:=(abW (ayy (ysQ l x))).map fun y=>⟨x,y⟩
def atO:Tr→PtQ→Bool
 | .leaf _,_=>true
 | .node l x y,p=>if(l.value p).num.sign=1 then atO x p else if(l.value p).num.sign= -1 then atO y p else false
structure Two (a b:Tr):Prop where
 ga:a.gd
 gb:b.gd
 sa:a.size≤3000
 sb:b.size≤3000
def f1R(x y:Bool):Bool:=x&&!y
def f2R(x y:Bool):Bool:=y&&!x
def f3R(x y:Bool):Bool:=x&&y
def f4R(x y:Bool):Bool:=!x&&!y
def anK(f:Bool→Bool→Bool)(a b:Tr)(k:Nat):Bool:=((fcs a b).take k).any fun p=>f (atQ a p) (atQ b p)
theorem aiT{c:List LnQ}(hok: ∀l∈c,l.ok):afK c=true↔ ∃p,InL c p:=by
 rw[←aei hok]
 unfold afK abZ
 cases c with
 |nil=>simp
 |cons a b=>
  rw[if_neg (by simp;omega)]
  simp only[decide_eq_true_eq,aJ,List.isEmpty_cons,Bool.false_or,jL]
  constructor
  ·intro h
   obtain⟨m,hm⟩:=List.exists_mem_of_length_pos (l:=aaJ (a::b)) (by omega)
   exact⟨m,aa4.1 hm⟩
  ·rintro ⟨m,hm⟩
   have:=List.length_pos_of_mem (aa4.2 hm)
   omega
def aaY:Tr→List LnQ→List (List LnQ×Bool)
 | .leaf b,c=>if afK c then [(aaJ c,b)] else []
 | .node l x y,c=>if afK c then aaY x (aaJ c++[l])++aaY y (aaJ c++[l.rev]) else []
theorem ad6: ∀(t:Tr) (c:List LnQ),(aaY t c).length≤t.size+1
 | .leaf _,c=>by rw[aaY];split<;>simp[Tr.size]
 | .node l x y,c=>by
  have h1:=ad6 x (aaJ c++[l])
  have h2:=ad6 y (aaJ c++[l.rev])
  rw[aaY,Tr.size]
  split
  ·rw[aW];omega
  ·simp
def aGf(c:List LnQ)(p:PtQ):Bool:=c.all fun l=>decide (0<Int.sign (l.value p).num)
def aGL(c:List LnQ):Option PtQ:=(axo (anX c)).find? (aGf c)

def eCl(x:List LnQ×Bool):DV:= .ag [.sl (x.1.map eL),vB x.2]
theorem aCm(l:List (List LnQ×Bool)):acI 2 (l.map eCl):=fun d hd=>by
 obtain⟨x,_,rfl⟩:=bW.1 hd
 exact⟨rfl,rfl⟩
def eSd(c:List LnQ):DV:= .sl (c.map eL)
theorem aCC(l:List (List LnQ)):acI 1 (l.map eSd):=fun d hd=>by
 obtain⟨x,_,rfl⟩:=bW.1 hd
 exact⟨rfl,rfl⟩
theorem ama{b:Bool}{c:List LnQ}(hc: ∀m∈c,LB m)(hok: ∀m∈c,m.ok)(hn:c.length≤1000):PR GB prog 130 [eT (.leaf b), .sl (c.map eL)] 2 225 ((aaY (.leaf b) c).map eCl):=by
 refine fnR func130 J J ntmps130 J J (fun C hmb=>?_)
 refine cl rfl (aow hc hok (by omega)) rfl<|?_
 refine bb (fu2:=⟨8⟩) J J J (fun hc13=>?_) (fun hc13=>?_)
 ·
  exact aFD J J (by rw[aaY,if_neg (by simpa using hc13)];rfl)
 ·
  refine knT J J J<|ro J J<|?_
  exact rzR J J J (by rw[aaY,if_pos (by simpa using hc13)]<;>rfl)
theorem amt{l:LnQ}{x y:Tr}{c:List LnQ}(hc: ∀m∈c,LB m)(hok: ∀m∈c,m.ok)(hl:LB l)(hlo:l.ok)(hn:c.length+(Tr.node l x y).depth≤1000)(hs:(Tr.node l x y).size≤100000)(ihx: ∀{c:List LnQ},(∀m∈c,LB m)→(∀m∈c,m.ok)→c.length+x.depth≤1000→PR GB prog 130 [eT x, .sl (c.map eL)] 2 225 ((aaY x c).map eCl))(ihy: ∀{c:List LnQ},(∀m∈c,LB m)→(∀m∈c,m.ok)→c.length+y.depth≤1000→PR GB prog 130 [eT y, .sl (c.map eL)] 2 225 ((aaY y c).map eCl)):PR GB prog 130 [eT (.node l x y), .sl (c.map eL)] 2 225 ((aaY (.node l x y) c).map eCl):=by
 haveI:=hl
 have hd:(Tr.node l x y).depth=1+max x.depth y.depth:=rfl
 have hz:(Tr.node l x y).size=1+x.size+y.size:=rfl
 have hcl:=aek c
 have go: ∀{P:LnQ→Prop} {k:LnQ},(∀m∈c,P m)→P k→ ∀m∈aaJ c++[k],P m:=fun{P k} h1 h2 m hm=>by
  rcases bS.1 hm with h|h
  ·exact h1 m (aa4.1 h).1
  ·rw[aY.1 h];exact h2
 have h1:=ad6 x (aaJ c++[l])
 have h2:=ad6 y (aaJ c++[l.rev])
 refine fnR func130 J J ntmps130 J J (fun C hmb=>?_)
 refine cl rfl (aow hc hok (by omega)) rfl<|?_
 refine bb (fu2:=⟨8⟩) J J J (fun hc13=>?_) (fun hc13=>?_)
 ·
  exact aFD J J (by rw[aaY,if_neg (by simpa using hc13)];rfl)
 ·
  refine knF J J J<|ro0 J J<|ap ((aaJ c).map eL) J J (acj _) rfl<|rf J J<|apf ((aaJ c++[l]).map eL) rfl (by rw[aN]<;>rfl) (acj [l]) rfl<|?_
  refine cr rfl (ihx (c:=aaJ c++[l]) (go hc hl) (go hok hlo) (by rw[aW,dK];omega)) rfl<|ro0 J J<|ap ((aaJ c).map eL) J J (acj _) rfl<|?_
  refine cl rfl (aiH (l:=l)) rfl<|rf J J<|apf ((aaJ c++[l.rev]).map eL) rfl (by rw[aN]<;>rfl) (acj [l.rev]) rfl<|cr rfl (ihy (c:=aaJ c++[l.rev]) (go hc inferInstance) (go hok hlo.rev) (by rw[aW,dK];omega)) rfl<|?_
  refine ap ((aaY x (aaJ c++[l])++aaY y (aaJ c++[l.rev])).map eCl) rfl (by rw[aN]) (aCm _) rfl<|?_
  exact rzR J J J (by rw[aaY,if_pos (by simpa using hc13)]<;>rfl)
theorem aoq: ∀{t:Tr} {c:List LnQ},t.all LB→t.all LnQ.ok→t.size≤100000→(∀m∈c,LB m)→(∀m∈c,m.ok)→c.length+t.depth≤1000→PR GB prog 130 [eT t, .sl (c.map eL)] 2 225 ((aaY t c).map eCl)
 | .leaf _,_,_,_,_,hc,hk,hn=>ama hc hk (by omega)
 | .node l x y,c,hb,ho,hs,hc,hk,hn=>amt hc hk hb.1 ho.1 hn hs (fun a b d=>aoq hb.2.1 ho.2.1 (by have:(Tr.node l x y).size=1+x.size+y.size:=rfl;omega) a b d) (fun a b d=>aoq hb.2.2 ho.2.2 (by have:(Tr.node l x y).size=1+x.size+y.size:=rfl;omega) a b d)
def alg(ps:List (List LnQ×Bool)):List (List LnQ):=(ps.filter (·.2)).map (·.1)
theorem apb{ps:List (List LnQ×Bool)}{k:Nat}{b:Bool}{e:List LnQ}(h:ps[k]? =some (e,b)):alg (ps.drop k)=(if b then [e] else [])++alg (ps.drop (k+1)):=by
 obtain⟨h1,h2⟩:=bJ.1 h
 rw[bQ h1,h2]
 unfold alg
 cases b<;>simp
theorem auU{t:Tr}{ps:List (List LnQ×Bool)}(h:ps=aaY t [])(hb:t.all LB)(ho:t.all LnQ.ok)(hd:t.depth≤1000)(hs:t.size≤100000):PR GB prog 130 [eT t, .sl []] 2 225 (ps.map eCl):=h▸aoq (c:=[]) hb ho hs (fun m h=>by cases h) (fun m h=>by cases h) (by rw[fY];omega)
theorem aBg{t:Tr}(hb:t.all LB)(ho:t.all LnQ.ok)(hd:t.depth≤1000)(hs:t.size≤100000):PF GB prog 61 [eT t] (.sl ((alg (aaY t [])).map eSd)):=by
 obtain⟨ps,hps⟩: ∃ps,ps=aaY t []:=⟨_,rfl⟩
 have hpl:=ad6 t []
 rw[←hps] at hpl
 have hml:(ps.map eCl).length=ps.length:=aJ ..
 refine fn func61 J J ntmps61 J J (fun C=>?_)
 refine cr (fu:=⟨1⟩) rfl (auU hps hb ho hd hs) rfl<|?_
 refine eqF 8 (.d (vI (ps.length:Nat))) rfl (by rw[hml]<;>rfl) ?_
 refine gx rfl<|?_
 refine nr 3 3 126 1 J J J ?_
 refine lp (X:=List (List LnQ)×Nat) (fun⟨acc,k⟩=>[(9, .d (vI (k:Nat))),(3, .rw 3)]) (fun⟨acc,k⟩=>[(3,some (.b 126 1 (acc.map eSd) true))]) (fun⟨acc,k⟩=>acc++alg (ps.drop k)=alg ps∧k≤ps.length) (fun⟨acc,k⟩=>ps.length-k) ⟨[],0⟩ rfl ⟨rfl,aR _⟩ (fun _=>rfl) (fun⟨acc,k⟩ hk=>?_)
 try dsimp only at hk⊢
 obtain⟨h1,h2⟩:=hk
 have hal:acc.length≤ps.length:=by
  have q1:=congrArg List.length h1
  have q2:(alg ps).length≤ps.length:=by unfold alg;rw[aJ];exact lM ..
  rw[aW] at q1;omega
 have ham:(acc.map eSd).length=acc.length:=aJ ..
 refine br J J J (fun hc10=>?_) (fun hc10=>?_)
 ·
  obtain⟨⟨e,b⟩,hx⟩: ∃x,ps[k]? =some x:=⟨_,aQ (by omega)⟩
  refine lb _ rfl (aak hx) rfl<|?_
  refine bb J J J (fun hc14=>?_) (fun hc14=>?_)
  ·
   refine rf J J<|ap ((acc++[e]).map eSd) rfl (by rw[aN]<;>rfl) (aCC [e]) rfl<|?_
   refine rnE 19 3 rfl ?_
   exact at_ ⟨acc++[e],k+1⟩ (by dsimp only;exact⟨⟨by rw[←h1,apb hx,if_pos hc14];simp,by omega⟩,(by omega)⟩)
  ·
   exact at_ ⟨acc,k+1⟩ (by dsimp only;exact⟨⟨by rw[←h1,apb hx,if_neg (by simp at hc14;rw[hc14];decide)];rfl,by omega⟩,(by omega)⟩)
 ·
  obtain rfl:k=ps.length:=by omega
  obtain rfl:acc=alg ps:=by rw[dS] at h1;simpa[alg] using h1
  subst hps
  refine fzE 3 rfl ?_
  exact rz J J
def ePa(x:Bool×aag):DV:= .ag [.sl (x.2.map eFr),eU (.leaf x.1)]
theorem aCE(l:List (Bool×aag)):acI 2 (l.map ePa):=fun d hd=>by
 obtain⟨x,_,rfl⟩:=bW.1 hd
 exact⟨rfl,rfl⟩
theorem aff: ∀(t:Tr) (c:aag),(t.parts c).length≤t.size+1
 | .leaf _,_=>aL _
 | .node l x y,c=>by
  have h1:=aff x (aaN c l)
  have h2:=aff y (aaN c l.rev)
  rw[Tr.parts,aW,Tr.size]
  split<;>split<;>(try simp only[fY])<;>omega
theorem ax8{q:Rat}{i:Nat}[h:BQ q i](hi:i≤900000000:=by decide):PF GB prog 83 [eF q] (eR q):=by
 refine fn func83 J J ntmps83 J J (fun C=>?_)
 refine cl rfl (aoi (q:=q) (i:=i) hi) rfl<|cl rfl (ajg (q:=q) (i:=i) hi) rfl<|?_
 exact rz J J
theorem arD{p:PtQ}{i:Nat}[h:BPt p i](hi:i≤900000000:=by decide):PF GB prog 74 [eZ p] (ePt p):=by
 refine fn func74 J J ntmps74 J J (fun C=>?_)
 refine cl rfl (ax8 (q:=p.x) (i:=i) hi) rfl<|cl rfl (ax8 (q:=p.y) (i:=i) hi) rfl<|?_
 exact rz J J
theorem ami{b:Bool}{c:aag}{o:List (Bool×aag)}(hs:o.length≤1000000):PB GB prog 221 (mkB [some (eU (.leaf b)),some (.sl (c.map eFr)),none]) 2 186 (o.map ePa) (fun w=> .v (.slice w.a w.n w.c)) ((o++Tr.parts (.leaf b) c).map ePa):=by
 refine fnQ func221 J J ntmps221 J J (fun C=>?_)
 refine cl (fu:=⟨0⟩) rfl ad4 rfl<|?_
 refine kbT 12 rfl ?_
 refine gx rfl<|rf J J<|apB ((o++[(b,c)]).map ePa) rfl (by rw[aN]<;>rfl) (aCE [(b,c)]) rfl<|?_
 exact rzQ J J J J
theorem amZ{l:LnQ}{x y:Tr}{c:aag}{o:List (Bool×aag)}(hl:LB l)(hlo:l.ok)(hc:abI c)(hn:c.length+(Tr.node l x y).depth≤100000)(hs:o.length+((Tr.node l x y).size+1)≤1000000)(ihx: ∀{c:aag} {o:List (Bool×aag)},abI c→c.length+x.depth≤100000→o.length+(x.size+1)≤1000000→PB GB prog 221 (mkB [some (eU x),some (.sl (c.map eFr)),none]) 2 186 (o.map ePa) (fun w=> .v (.slice w.a w.n w.c)) ((o++Tr.parts x c).map ePa))(ihy: ∀{c:aag} {o:List (Bool×aag)},abI c→c.length+y.depth≤100000→o.length+(y.size+1)≤1000000→PB GB prog 221 (mkB [some (eU y),some (.sl (c.map eFr)),none]) 2 186 (o.map ePa) (fun w=> .v (.slice w.a w.n w.c)) ((o++Tr.parts y c).map ePa)):PB GB prog 221 (mkB [some (eU (.node l x y)),some (.sl (c.map eFr)),none]) 2 186 (o.map ePa) (fun w=> .v (.slice w.a w.n w.c)) ((o++Tr.parts (.node l x y) c).map ePa):=by
 have hk1:=ad3 c l
 have hk2:=ad3 c l.rev
 have hd:(Tr.node l x y).depth=1+max x.depth y.depth:=rfl
 have hz:(Tr.node l x y).size=1+x.size+y.size:=rfl
 have hp:=aff x (aaN c l)
 refine fnQ func221 J J ntmps221 J J (fun C=>?_)
 refine cl (fu:=⟨0⟩) rfl afg rfl<|?_
 refine kbF 12 rfl ?_
 refine gx rfl<|cl rfl (apT hlo hc (by omega)) rfl<|?_
 refine bb J J J (fun hc30=>?_) (fun hc30=>?_)
 ·
  have hs2:(o++x.parts (aaN c l)).length+(y.size+1)≤1000000:=by rw[aW];omega
  refine cq ((o++x.parts (aaN c l)).map ePa) rfl (ihx (afV hlo hc) (by omega) (by omega)) J J<|?_
  refine bb J J J (fun hc38=>?_) (fun hc38=>?_)
  ·
   refine cq _ rfl (ihy (afV hlo.rev hc) (by omega) (by first|exact hs2|omega)) J J<|?_
   exact rzQ J J J (by simp[Tr.parts,hc30,hc38])
  ·
   exact rzQ J J J (by simp[Tr.parts,hc30,hc38])
 ·
  refine bb J J J (fun hc38=>?_) (fun hc38=>?_)
  ·
   refine cq _ rfl (ihy (afV hlo.rev hc) (by omega) (by first|exact hs2|omega)) J J<|?_
   exact rzQ J J J (by simp[Tr.parts,hc30,hc38])
  ·
   exact rzQ J J J (by simp[Tr.parts,hc30,hc38])
theorem an5: ∀{t:Tr} {c:aag} {o:List (Bool×aag)},t.all LB→t.all LnQ.ok→abI c→c.length+t.depth≤100000→o.length+(t.size+1)≤1000000→PB GB prog 221 (mkB [some (eU t),some (.sl (c.map eFr)),none]) 2 186 (o.map ePa) (fun w=> .v (.slice w.a w.n w.c)) ((o++Tr.parts t c).map ePa)
 | .leaf _,_,_,_,_,_,_,hs=>ami (by simp only[Tr.size] at hs;omega)
 | .node _ _ _,_,_,hb,ho,hc,hn,hs=>amZ hb.1 ho.1 hc hn hs (fun k1 k2 k3=>an5 hb.2.1 ho.2.1 k1 k2 k3) (fun k1 k2 k3=>an5 hb.2.2 ho.2.2 k1 k2 k3)
theorem avl{t:Tr}(hb:t.all LB)(ho:t.all LnQ.ok)(hd:t.depth≤100000)(hs:t.size≤900000):PB GB prog 221 (mkB [some (eU t),some (.sl []),none]) 2 186 [] (fun w=> .v (.slice w.a w.n w.c)) ((t.parts []).map ePa):=
 an5 (c:=[]) (o:=[]) hb ho abI.nil (by rw[fY];omega) (by rw[fY];omega)
def eC(c:aag):DV:= .sl (c.map eFr)
theorem aEI(l:List aag):acI 1 (l.map eC):=fun d hd=>by
 obtain⟨x,_,rfl⟩:=bW.1 hd
 exact⟨rfl,rfl⟩
def amd(ps:List (Bool×aag)):List aag:=(ps.filter (·.1)).map (·.2)
theorem ajt{ps:List (Bool×aag)}{k:Nat}{b:Bool}{e:aag}(h:ps[k]? =some (b,e)):amd (ps.drop k)=(if b then [e] else [])++amd (ps.drop (k+1)):=by
 obtain⟨h1,h2⟩:=bJ.1 h
 rw[bQ h1,h2]
 unfold amd
 cases b<;>simp
theorem ayV{t:Tr}(hb:t.all LB)(ho:t.all LnQ.ok)(hd:t.depth≤100000)(hs:t.size≤900000):PF GB prog 165 [eU t] (.sl ((t.parts []).map ePa)):=by
 refine fn func165 J J ntmps165 J J (fun C=>?_)
 refine cqn _ rfl (avl hb ho hd hs) J J<|?_
 refine fzE 4 rfl ?_
 exact rz J J
theorem asM{t:Tr}(hb:t.all LB)(ho:t.all LnQ.ok)(hd:t.depth≤100000)(hs:t.size≤900000):PF GB prog 128 [eU t] (.sl ((aaC t).map eC)):=by
 obtain⟨ps,hps⟩: ∃ps,ps=t.parts []:=⟨_,rfl⟩
 have hpl:=aff t []
 rw[←hps] at hpl
 have hml:(ps.map ePa).length=ps.length:=aJ ..
 refine fn func128 J J ntmps128 J J (fun C=>?_)
 refine cl (fu:=⟨0⟩) rfl (ayV hb ho hd hs) rfl<|?_
 refine eqF 7 (.d (.sl (ps.map ePa))) rfl (by rw[hps]) ?_
 refine gx (fu:=⟨1⟩) rfl<|?_
 refine eqF 8 (.d (vI (ps.length:Nat))) rfl (by rw[hml]<;>rfl) ?_
 refine gx rfl<|?_
 refine nr 3 3 178 1 J J J ?_
 refine lp (X:=List aag×Nat) (fun⟨acc,k⟩=>[(9, .d (vI (k:Nat))),(3, .rw 3)]) (fun⟨acc,k⟩=>[(3,some (.b 178 1 (acc.map eC) true))]) (fun⟨acc,k⟩=>acc++amd (ps.drop k)=aaC t∧k≤ps.length) (fun⟨acc,k⟩=>ps.length-k) ⟨[],0⟩ rfl ⟨by rw[hps];rfl,aR _⟩ (fun _=>rfl) (fun⟨acc,k⟩ hk=>?_)
 try dsimp only at hk⊢
 obtain⟨h1,h2⟩:=hk
 have hal:acc.length≤ps.length:=by
  have q1:=congrArg List.length h1
  have q2:(aaC t).length≤ps.length:=by unfold aaC;rw[aJ,hps];exact lM ..
  rw[aW] at q1;omega
 have ham:(acc.map eC).length=acc.length:=aJ ..
 refine br J J J (fun hc10=>?_) (fun hc10=>?_)
 ·
  obtain⟨⟨b,e⟩,hx⟩: ∃x,ps[k]? =some x:=⟨_,aQ (by omega)⟩
  refine ix _ rfl (aak hx) rfl<|?_
  refine bb J J J (fun hc17=>?_) (fun hc17=>?_)
  ·
   refine rf J J<|ap ((acc++[e]).map eC) rfl (by rw[aN]<;>rfl) (aEI [e]) rfl<|?_
   refine rnE 22 3 rfl ?_
   exact at_ ⟨acc++[e],k+1⟩ (by dsimp only;exact⟨⟨by rw[←h1,ajt hx,if_pos hc17];simp,by omega⟩,(by omega)⟩)
  ·
   exact at_ ⟨acc,k+1⟩ (by dsimp only;exact⟨⟨by rw[←h1,ajt hx,if_neg (by simp at hc17;rw[hc17];decide)];rfl,by omega⟩,(by omega)⟩)
 ·
  obtain rfl:k=ps.length:=by omega
  obtain rfl:acc=aaC t:=by rw[dS] at h1;simpa[amd] using h1
  refine fzE 3 rfl ?_
  exact rz J J
theorem azQ{l m:LnQ}(hl:l.ok)(hm:m.ok)(h:aa5 l.dir m.dir=0): ∃k e:Rat,0<k∧ ∀p,m.value p=k*l.value p+e:=by
 obtain⟨h1,h2⟩:=awp.1 h
 have z1:=axp hl
 have key: ∃k:Rat,0<k∧m.dir.x=k*l.dir.x∧m.dir.y=k*l.dir.y:=by
  unfold PtQ.cross at h2
  rcases acM l.dir with⟨e,k⟩|⟨e,k⟩|⟨e,k⟩
  ·rw[e] at h1
   have k2:=alL.1 h1.symm
   rcases k with k|⟨k,k'⟩
   ·have y2:0<m.dir.y:=by
     rcases k2 with k2|⟨k2,k3⟩
     ·exact k2
     ·exfalso
      rw[k2] at h2
      have:=aao k k3
      grind
    refine⟨m.dir.y/l.dir.y,?_,by grind,by grind⟩
    have:0<m.dir.y/l.dir.y:=(aau k).1 (by rw[show m.dir.y/l.dir.y*l.dir.y=m.dir.y by grind];exact y2)
    exact this
   ·rw[k] at h2
    have y2:m.dir.y=0:=by
     rcases nN.1 (show l.dir.x*m.dir.y=0 by grind) with q|q
     ·rw[q] at k';exact absurd k' (by decide)
     ·exact q
    have x2:0<m.dir.x:=by
     rcases k2 with k2|⟨_,k3⟩
     ·rw[y2] at k2;exact absurd k2 (by decide)
     ·exact k3
    refine⟨m.dir.x/l.dir.x,(aau k').1 (by rw[show m.dir.x/l.dir.x*l.dir.x=m.dir.x by grind];exact x2),by grind,by rw[y2,k];grind⟩
  ·rw[e] at h1
   have k2:=alz.1 h1.symm
   rcases k with k|⟨k,k'⟩
   ·have y2:m.dir.y<0:=by
     rcases k2 with k2|⟨k2,k3⟩
     ·exact k2
     ·exfalso
      rw[k2] at h2
      have:=aao (show 0< -l.dir.y by grind) (show 0< -m.dir.x by grind)
      grind
    refine⟨m.dir.y/l.dir.y,(aau (show 0< -l.dir.y by grind)).1 (by rw[show m.dir.y/l.dir.y* -l.dir.y= -m.dir.y by grind];grind),by grind,by grind⟩
   ·rw[k] at h2
    have y2:m.dir.y=0:=by
     rcases nN.1 (show l.dir.x*m.dir.y=0 by grind) with q|q
     ·rw[q] at k';exact absurd k' (by decide)
     ·exact q
    have x2:m.dir.x<0:=by
     rcases k2 with k2|⟨_,k3⟩
     ·rw[y2] at k2;exact absurd k2 (by decide)
     ·exact k3
    refine⟨m.dir.x/l.dir.x,(aau (show 0< -l.dir.x by grind)).1 (by rw[show m.dir.x/l.dir.x* -l.dir.x= -m.dir.x by grind];grind),by grind,by rw[y2,k];grind⟩
  ·exact absurd e z1
 obtain⟨k,k0,kx,ky⟩:=key
 simp only[LnQ.dir] at kx ky
 refine⟨k,(m.c:Rat)-k*(l.c:Rat),k0,fun p=>?_⟩
 rw[acK,acK,kx]
 have:(m.a:Rat)=k*(l.a:Rat):=by grind
 rw[this]
 grind
theorem apA{e:aag}(hne: ∃q,InD e q){l m:LnQ}(hl:l.ok)(hm:m.ok)(pl: ∀p,InD e p→0<l.value p)(pm: ∀p,InD e p→0<m.value p)(tl: ∃p,InC e p∧l.value p=0)(tm: ∃p,InC e p∧m.value p=0)(ha:aa5 l.dir m.dir=0):l=m:=by
 obtain⟨k,c,k0,hk⟩:=azQ hl hm ha
 obtain⟨p,p1,p2⟩:=tl
 obtain⟨q,q1,q2⟩:=tm
 have g1:=aaZ hne pm p1
 rw[hk,p2] at g1
 have g2:=aaZ hne pl q1
 have g3:=aad (dR k0) g2
 rw[hk] at q2
 have c0:c=0:=by grind
 have hz: ∀t,m.value (l.at t)=0:=fun t=>by rw[hk,adY hl.ne,c0];grind
 rcases afd hm hl hz with h|h
 ·exact h.symm
 ·exfalso
  obtain⟨u,hu⟩:=hne
  have a:=pl u hu
  have b:=pm u hu
  rw[h,aaW] at b
  grind
theorem akC{c:aag}(hc:aba c){s:FrQ}(hs:s∈c):InC c (s.l.at s.v.sample)∧s.l.value (s.l.at s.v.sample)=0:=
 ⟨((hc.edge s hs).2 _).1 (aa9 (hc.edge s hs).1).has,adY (hc.ok s hs).ne _⟩
def ayu(c:aag):Prop:=(c.map fun s=>s.l.dir).Pairwise Bef
theorem alK{p:Nat→Bool}{N:Nat}(hm: ∀i j,i≤j→j<N→p j=true→p i=true): ∀(d i j:Nat),j-i≤d→i≤j→j≤N→(∀k,k<i→p k=true)→(∀k,j≤k→k<N→p k=false)→(∀k,k<bsq p i j→p k=true)∧ ∀k,bsq p i j≤k→k<N→p k=false
 |0,i,j,h,hij,hN,h1,h2=>by
  obtain rfl:i=j:=by omega
  rw[bsq,dif_neg (by omega)];exact⟨h1,h2⟩
 |d+1,i,j,h,hij,hN,h1,h2=>by
  by_cases q:i<j
  ·rw[bsq,dif_pos q]
   by_cases r:p ((i+j)/2)=true
   ·rw[if_pos r]
    exact alK hm d _ _ (by omega) (by omega) hN (fun k hk=>hm k ((i+j)/2) (by omega) (by omega) r) h2
   ·rw[if_neg r]
    refine alK hm d _ _ (by omega) (by omega) (by omega) h1 fun k hk hkN=>?_
    cases hp:p k with
    |false=>rfl
    |true=>exact absurd (hm _ k hk hkN hp) r
  ·obtain rfl:i=j:=by omega
   rw[bsq,dif_neg q];exact⟨h1,h2⟩
theorem as4{ds:List PtQ}{d:PtQ}{n:Nat}(h:ds.Pairwise Bef)(h1: ∀x∈ds.take n,Bef x d)(h2: ∀x∈ds.drop n,Bef d x):(ds.take n++d::ds.drop n).Pairwise Bef:=by
 have hs:=h
 rw[←jW n ds,fW] at hs
 obtain⟨a,b,c⟩:=hs
 rw[fW]
 refine⟨a,bN.2 ⟨h2,b⟩,fun x hx y hy=>?_⟩
 rcases aS.1 hy with rfl|hy
 ·exact h1 x hx
 ·exact c x hx y hy
theorem alh(l:LnQ): ∀c:aag,((abM l c).map fun s=>s.l.dir).Sublist (c.map fun s=>s.l.dir)
 |[]=>List.Sublist.refl _
 |s::c=>by
  rw[abM]
  split
  ·exact(alh l c).cons_cons _
  ·exact(alh l c).cons _
theorem ao7{α:Type}{l:List α}{n:Nat}{x:α}(h:x∈l.take n): ∃i,i<n∧l[i]? =some x:=by
 obtain⟨i,hi,e⟩:=rZ.1 h
 rw[cK] at hi
 exact⟨i,by omega,by rw[List.getElem_take] at e;rw[aQ (by omega),e]⟩
theorem apj{α:Type}{l:List α}{n:Nat}{x:α}(h:x∈l.drop n): ∃i,n≤i∧i<l.length∧l[i]? =some x:=by
 obtain⟨i,hi,e⟩:=rZ.1 h
 rw[fM] at hi
 exact⟨n+i,by omega,by omega,by rw[List.getElem_drop] at e;rw[aQ (by omega),e]⟩
theorem ave{c:aag}{l:LnQ}(hc:aba c)(hl:l.ok)(ha:ayu c)(hb:abo c l=true):ayu (aaN c l):=by
 have hg:=(abl hc hl hb).1
 unfold aaN at hg⊢
 cases hp:aeW c l with
 |none=>exact ha
 |some v=>
  simp only[hp] at hg⊢
  have hs:ayu (abM l c):=ha.sublist (alh l c)
  have nt: ∀s∈abM l c,aa5 s.l.dir l.dir≠0:=fun s h e=>by
   have m1:s∈aoz (abM l c) l v:=acT.2 (.inr h)
   have m2:(⟨l,v⟩:FrQ)∈aoz (abM l c) l v:=acT.2 (.inl rfl)
   have ee:=apA hg.ne (hg.ok s m1) hl (fun p hp=>hp s m1) (fun p hp=>hp ⟨l,v⟩ m2) ⟨_,akC hg m1⟩ ⟨_,akC hg m2⟩ e
   obtain⟨s0,g1,_,rfl⟩:=acz.1 h
   obtain⟨_,q,q1,q2⟩:=ahf hl.ne hp
   have h5:=q1 s0 g1
   have e5:s0.l=l:=ee
   rw[e5] at h5
   grind
  generalize abM l c=d at*
  have hmo: ∀i j,i≤j→j<d.length→aeg d l j=true→aeg d l i=true:=fun i j hij hj h=>by
   unfold aeg at h⊢
   rw[aQ hj] at h
   rw[aQ (by omega)]
   simp only[decide_eq_true_eq,ahy] at h⊢
   by_cases q:i=j
   ·subst q;exact h
   ·have:=oM.1 hs i j (by simp;omega) (by simp;omega) (by omega)
    simp only[qR] at this
    exact aiq this h
  obtain⟨k1,k2⟩:=alK hmo d.length 0 d.length (by omega) (by omega) (aL _) (fun k h=>absurd h (by omega)) (fun k h h'=>absurd h' (by omega))
  unfold aoz ayu
  generalize bsq (aeg d l) 0 d.length=n at*
  rw[aN,cZ,gX,iZ]
  refine as4 hs (fun x hx=>?_) (fun x hx=>?_)
  ·rw[←gX] at hx
   obtain⟨s,h1,rfl⟩:=bW.1 hx
   obtain⟨i,hi,e⟩:=ao7 h1
   have:=k1 i hi
   unfold aeg at this
   rw[e] at this
   simpa[ahy] using this
  ·rw[←iZ] at hx
   obtain⟨s,h1,rfl⟩:=bW.1 hx
   obtain⟨i,hi,hi2,e⟩:=apj h1
   have:=k2 i hi hi2
   unfold aeg at this
   rw[e] at this
   have h3: ¬Bef s.l.dir l.dir:=by simpa[ahy] using this
   by_cases q:Bef l.dir s.l.dir
   ·exact q
   ·exact absurd (arY h3 q) (nt s (fU h1))
/-! the reference's canonical sides -/
def auF(c:List LnQ):Prop:=(c.map LnQ.dir).Pairwise Bef
theorem ai3{c:List LnQ}{e:aag}(hs: ∀s∈e,s.l∈c){l:LnQ}(hl:l.ok)(he:(ab3 l c IvQ.all).isSome=true): ∃w:IvQ,w.Pos∧ ∀t,w.ins t→InC e (l.at t)∧l.value (l.at t)=0∧ ∀m∈c,m≠l→0<m.value (l.at t):=by
 obtain⟨w,hw⟩:=pQ.1 he
 obtain⟨h1,h2⟩:=aed l c _ w afT hw
 refine⟨w,h1,fun t ht=>?_⟩
 have h3:=((h2 t).1 ht).2
 refine⟨fun s hs'=>?_,adY hl.ne t,h3⟩
 by_cases q:s.l=l
 ·rw[q,adY hl.ne];exact fR
 ·exact dR (h3 _ (hs s hs') q)
theorem atl{α:Type}{p:α→Bool}: ∀(l:List α),(∀i x,i<(l.takeWhile p).length→l[i]? =some x→p x=true)∧ ∀x,l[(l.takeWhile p).length]? =some x→p x=false
 |[]=>⟨fun i x h _=>by simp at h,fun x h=>by simp at h⟩
 |a::l=>by
  obtain⟨h1,h2⟩:=atl (p:=p) l
  rw[mL]
  cases ha:p a with
  |false=>
   refine⟨fun i x h _=>by simp at h,fun x h=>?_⟩
   simp at h
   rw[←h];exact ha
  |true=>
   simp only[if_true,bU]
   refine⟨fun i x h e=>?_,fun x h=>h2 x (by simpa using h)⟩
   cases i with
   |zero=>simp at e;rw[←e];exact ha
   |succ i=>exact h1 i x (by omega) (by simpa using e)
theorem al8{out:List LnQ}{l:LnQ}(ha:auF out)(ht: ∀m∈out,aa5 m.dir l.dir=0→m=l):auF (acm out l):=by
 unfold acm
 split
 ·exact ha
 ·rename_i hne
  obtain⟨k1,k2⟩:=atl (p:=fun x:LnQ=>decide (aa5 x.dir l.dir<0)) out
  have e0:adS out l=(out.takeWhile fun x=>decide (aa5 x.dir l.dir<0)).length:=rfl
  rw[←e0] at k1 k2
  generalize adS out l=n at*
  unfold auF
  rw[aN,cZ,gX,iZ]
  refine as4 ha (fun x hx=>?_) (fun x hx=>?_)
  ·rw[←gX] at hx
   obtain⟨m,h1,rfl⟩:=bW.1 hx
   obtain⟨i,hi,e⟩:=ao7 h1
   simpa[ahy] using k1 i m hi e
  ·rw[←iZ] at hx
   obtain⟨m,h1,rfl⟩:=bW.1 hx
   obtain⟨i,hi,hi2,e⟩:=apj h1
   have hn:n<out.length:=by omega
   have h3: ¬Bef (out[n]).dir l.dir:=by simpa[ahy] using k2 _ (aQ hn)
   have h4:Bef l.dir (out[n]).dir:=by
    by_cases q:Bef l.dir (out[n]).dir
    ·exact q
    ·exact absurd (by rw[aQ hn,ht _ (bM hn) (arY h3 q)]) hne
   by_cases q:i=n
   ·subst q
    rw[aQ hn] at e
    cases e
    exact h4
   ·have:=oM.1 ha n i (by simp;omega) (by simp;omega) (by omega)
    simp only[qR] at this
    rw[aQ hi2] at e
    cases e
    exact aiq h4 this
theorem ag4{c:List LnQ}(ht: ∀l∈c,∀m∈c,(ab3 l c IvQ.all).isSome=true→(ab3 m c IvQ.all).isSome=true→aa5 m.dir l.dir=0→m=l): ∀{t out:List LnQ},(∀l∈t,l∈c)→(∀m∈out,m∈c∧(ab3 m c IvQ.all).isSome=true)→auF out→auF (adR c t out)
 |[],out,_,_,ha=>ha
 |l::t,out,hc,ho,ha=>by
  have hl:=hc l aZ
  rw[adR]
  by_cases q:(ab3 l c IvQ.all).isSome=true
  ·rw[if_pos q]
   refine ag4 ht (fun l h=>hc l (aK _ h)) (fun m hm=>?_) (al8 ha fun m hm e=>ht l hl m (ho m hm).1 q (ho m hm).2 e)
   rcases afi.1 hm with rfl|h
   ·exact⟨hl,q⟩
   ·exact ho m h
  ·rw[if_neg q]
   exact ag4 ht (fun l h=>hc l (aK _ h)) ho ha
theorem aqq{c:List LnQ}(hok: ∀l∈c,l.ok)(hne: ∃p,InL c p):auF (aaJ c):=by
 obtain⟨e,_,hg,hi,hs⟩:=aeL hok hne
 refine ag4 (fun l hl m hm el em h=>?_) (fun l h=>h) (fun m h=>by cases h) .nil
 obtain⟨w1,p1,k1⟩:=ai3 (fun s h=>(hs s h).1) (hok l hl) el
 obtain⟨w2,p2,k2⟩:=ai3 (fun s h=>(hs s h).1) (hok m hm) em
 obtain⟨a1,a2,_⟩:=k1 _ (aa9 p1)
 obtain⟨b1,b2,_⟩:=k2 _ (aa9 p2)
 exact apA hg.ne (hok m hm) (hok l hl) (fun p hp=>(hi p).1 hp m hm) (fun p hp=>(hi p).1 hp l hl) ⟨_,b1,b2⟩ ⟨_,a1,a2⟩ h
theorem arv{v:IvQ}{t u:Rat}(h:v.ins t)(k:v.has u):v.ins ((t+u)*(1/2)):=by
 obtain⟨lo,hi,nl,nh⟩:=v
 unfold IvQ.ins at*
 unfold IvQ.has at k
 cases nl<;>cases nh<;>simp at* <;>grind
theorem aie{c d:aag}(hc: ∃q,InD c q)(h: ∀p,InD c p↔InD d p){p:PtQ}(hp:InC c p):InC d p:=fun s hs=>aaZ hc (fun q hq=>(h q).1 hq s hs) hp
theorem arp{c:List LnQ}{d:aag}(hok: ∀l∈c,l.ok)(hd:aba d)(h: ∀p,InD d p↔InL c p)(l:LnQ):l∈d.map (·.l)↔l∈aaJ c:=by
 have hne: ∃p,InL c p:=hd.ne.elim fun q hq=>⟨q,(h q).1 hq⟩
 obtain⟨e,_,hg,hi,hs⟩:=aeL hok hne
 have hde: ∀p,InD d p↔InD e p:=fun p=>by rw[h,hi]
 constructor
 ·intro hl
  obtain⟨s,k,rfl⟩:=bW.1 hl
  obtain⟨t1,t2⟩:=akC hd k
  have t3:=aie hd.ne hde t1
  have: ¬InD e (s.l.at s.v.sample):=fun q=>by
   have:=(hde _).2 q s k
   rw[t2] at this;exact absurd this (by decide)
  obtain⟨u,hu,hz⟩: ∃u∈e,u.l.value (s.l.at s.v.sample)=0:=by
   by_cases q: ∃u∈e,u.l.value (s.l.at s.v.sample)=0
   ·exact q
   ·exfalso
    refine this fun u hu=>?_
    have g1:=t3 u hu
    have g2:u.l.value (s.l.at s.v.sample)≠0:=fun e=>q ⟨u,hu,e⟩
    grind
  have:=al6 hd k (hg.ok u hu) (fun p hp=>(hde p).1 hp u hu) hz
  rw[←this]
  exact aa4.2 (hs u hu)
 ·intro hl
  obtain⟨l1,l2⟩:=aa4.1 hl
  obtain⟨w,p1,k1⟩:=ai3 (fun s h=>(hs s h).1) (hok l l1) l2
  have hed: ∀p,InD e p↔InD d p:=fun p=>(hde p).symm
  have hi1:=aa9 p1
  obtain⟨⟨u1,m1,n1⟩,⟨u2,m2,n2⟩⟩:=akF hi1
  have g1:=arv hi1 n1
  have g2:=arv hi1 n2
  obtain⟨c0,c1,_⟩:=k1 _ hi1
  have c2:=aie hg.ne hed c0
  have: ¬InD d (l.at w.sample):=fun q=>by
   have:=(h _).1 q l l1
   rw[c1] at this;exact absurd this (by decide)
  obtain⟨s,hsd,hz⟩: ∃s∈d,s.l.value (l.at w.sample)=0:=by
   by_cases q: ∃u∈d,u.l.value (l.at w.sample)=0
   ·exact q
   ·exfalso
    refine this fun u hu=>?_
    have g1:=c2 u hu
    have g2:u.l.value (l.at w.sample)≠0:=fun e=>q ⟨u,hu,e⟩
    grind
  have e1:=aie hg.ne hed (k1 _ g1).1 s hsd
  have e2:=aie hg.ne hed (k1 _ g2).1 s hsd
  rw[ab7] at hz e1 e2
  have hK:l.cutK s.l=0:=by
   rcases acO (l.cutK s.l) with h|h|h
   ·exact h
   ·exfalso
    have:=aao (a:=w.sample-u1) (b:=l.cutK s.l) (by grind) h
    grind
   ·exfalso
    have:=aao (a:=u2-w.sample) (b:= -l.cutK s.l) (by grind) (by grind)
    grind
  have hz2: ∀t,s.l.value (l.at t)=0:=fun t=>by rw[ab7,hK];rw[hK] at hz;grind
  rcases afd (hd.ok s hsd) (hok l l1) hz2 with q|q
  ·rw[←q];exact gS hsd
  ·exfalso
   obtain⟨u,hu⟩:=hd.ne
   have a:=hu s hsd
   have b:=(h u).1 hu l l1
   rw[q,aaW] at a
   grind
theorem atF: ∀{l m:List LnQ},auF l→auF m→(∀x,x∈l↔x∈m)→l=m
 |[],[],_,_,_=>rfl
 |[],b::m,_,_,h=>absurd ((h b).2 aZ) (by simp)
 |a::l,[],_,_,h=>absurd ((h a).1 aZ) (by simp)
 |a::l,b::m,h1,h2,h=>by
  obtain⟨p1,p2⟩:=bN.1 h1
  obtain⟨q1,q2⟩:=bN.1 h2
  have p1': ∀x∈l,Bef a.dir x.dir:=fun x hx=>p1 _ (gS hx)
  have q1': ∀x∈m,Bef b.dir x.dir:=fun x hx=>q1 _ (gS hx)
  have e:a=b:=by
   rcases aS.1 ((h a).1 aZ) with e|e
   ·exact e
   ·rcases aS.1 ((h b).2 aZ) with f|f
    ·exact f.symm
    ·exact(av5 (q1' a e) (p1' b f)).elim
  subst e
  congr 1
  refine atF p2 q2 fun x=>⟨fun hx=>?_,fun hx=>?_⟩
  ·rcases aS.1 ((h x).1 (aK _ hx)) with e|e
   ·subst e;exact(anZ _ (p1' _ hx)).elim
   ·exact e
  ·rcases aS.1 ((h x).2 (aK _ hx)) with e|e
   ·subst e;exact(anZ _ (q1' _ hx)).elim
   ·exact e
theorem awj{c:List LnQ}{d:aag}(hok: ∀l∈c,l.ok)(hd:aba d)(ha:ayu d)(h: ∀p,InD d p↔InL c p):aaJ c=d.map (·.l):=by
 refine atF (aqq hok (hd.ne.elim fun q hq=>⟨q,(h q).1 hq⟩)) ?_ fun x=>(arp hok hd h x).symm
 unfold auF
 rw[qK]
 exact ha
theorem arf{c:List LnQ}(h:afK c≠true)(t:Tr):aaY t c=[]:=by
 cases t<;>rw[aaY,if_neg h]
theorem ajn: ∀{t:Tr} {c:List LnQ} {d:aag},t.all LnQ.ok→(∀l∈c,l.ok)→aba d→ayu d→(∀p,InD d p↔InL c p)→aaY t c=(t.parts d).map fun x=>(x.2.map (·.l),x.1)
 | .leaf b,c,d,_,hok,hd,ha,h=>by
  have hb:afK c=true:=(aiT hok).2 (hd.ne.elim fun q hq=>⟨q,(h q).1 hq⟩)
  rw[aaY,if_pos hb,Tr.parts,awj hok hd ha h];rfl
 | .node l x y,c,d,ht,hok,hd,ha,h=>by
  have hne: ∃p,InL c p:=hd.ne.elim fun q hq=>⟨q,(h q).1 hq⟩
  have hb:afK c=true:=(aiT hok).2 hne
  have hck: ∀m∈aaJ c,m.ok:=fun m hm=>hok m (aa4.1 hm).1
  have go: ∀(k:LnQ) (u:Tr),k.ok→u.all LnQ.ok→(∀{c:List LnQ} {d:aag},(∀l∈c,l.ok)→aba d→ayu d→(∀p,InD d p↔InL c p)→aaY u c=(u.parts d).map fun x=>(x.2.map (·.l),x.1))→aaY u (aaJ c++[k])=(if abo d k then u.parts (aaN d k) else []).map fun x=>(x.2.map (·.l),x.1):=fun k u hk hu ih=>by
   have hok2:=abO hck hk
   have hin: ∀p,InL (aaJ c++[k]) p↔InD d p∧0<k.value p:=fun p=>by rw[abz,ae4 hok hne,h]
   by_cases q:abo d k=true
   ·rw[if_pos q]
    obtain⟨g1,g2⟩:=abl hd hk q
    exact ih hok2 g1 (ave hd hk ha q) fun p=>by rw[g2,hin]
   ·rw[if_neg q]
    refine arf (fun e=>q ((adP hd hk).2 ?_)) u
    obtain⟨p,hp⟩:=(aiT hok2).1 e
    exact⟨p,(hin p).1 hp⟩
  rw[aaY,if_pos hb,Tr.parts,aN,go l x ht.1 ht.2.1 (fun a b c d=>ajn ht.2.1 a b c d),go l.rev y ht.1.rev ht.2.2 fun a b c d=>ajn ht.2.2 a b c d]
/-! bounded cells -/
def aeT(c:aag):Bool:=!c.isEmpty&&c.all fun s=>!s.v.nl&&!s.v.nh
theorem atc{c:aag}(hc:aba c){s:FrQ}(hs:s∈c)(h:s.v.nh=true): ∀u∈c,0≤u.l.nor.dot s.l.dir:=fun u hu=>by
 obtain⟨p1,p2⟩:=hc.edge s hs
 have hi:=(aa9 p1).has
 have key: ∀n:Rat,0≤n→0≤u.l.value (s.l.at (s.v.sample+n)):=fun n hn=>((p2 _).1 ⟨hi.1.imp id fun q=>by grind, .inl h⟩) u hu
 have h0:=key 0 (by decide)
 rw[ab7] at h0
 by_cases q:0≤u.l.nor.dot s.l.dir
 ·exact q
 ·exfalso
  have q':0< -(s.l.cutK u.l):=by unfold LnQ.cutK;grind
  have h1:=key ((s.l.cutC u.l+s.v.sample*s.l.cutK u.l+1)/ -(s.l.cutK u.l)) (by
   have:=(aau (s:=(s.l.cutC u.l+s.v.sample*s.l.cutK u.l+1)/ -(s.l.cutK u.l)) q').1 (by rw[show(s.l.cutC u.l+s.v.sample*s.l.cutK u.l+1)/ -(s.l.cutK u.l)* -(s.l.cutK u.l)=s.l.cutC u.l+s.v.sample*s.l.cutK u.l+1 by grind];grind)
   grind)
  rw[ab7] at h1
  have:(s.l.cutC u.l+s.v.sample*s.l.cutK u.l+1)/ -(s.l.cutK u.l)*s.l.cutK u.l= -(s.l.cutC u.l+s.v.sample*s.l.cutK u.l+1):=by grind
  grind
theorem arq{c:aag}(hc:aba c){s:FrQ}(hs:s∈c)(h:s.v.nl=true): ∀u∈c,u.l.nor.dot s.l.dir≤0:=fun u hu=>by
 obtain⟨p1,p2⟩:=hc.edge s hs
 have hi:=(aa9 p1).has
 have key: ∀n:Rat,0≤n→0≤u.l.value (s.l.at (s.v.sample-n)):=fun n hn=>((p2 _).1 ⟨.inl h,hi.2.imp id fun q=>by grind⟩) u hu
 have h0:=key 0 (by decide)
 rw[ab7] at h0
 by_cases q:u.l.nor.dot s.l.dir≤0
 ·exact q
 ·exfalso
  have q':0<s.l.cutK u.l:=by unfold LnQ.cutK;grind
  have h1:=key ((s.l.cutC u.l+s.v.sample*s.l.cutK u.l+1)/s.l.cutK u.l) (by
   have:=(aau (s:=(s.l.cutC u.l+s.v.sample*s.l.cutK u.l+1)/s.l.cutK u.l) q').1 (by rw[show(s.l.cutC u.l+s.v.sample*s.l.cutK u.l+1)/s.l.cutK u.l*s.l.cutK u.l=s.l.cutC u.l+s.v.sample*s.l.cutK u.l+1 by grind];grind)
   grind)
  rw[ab7] at h1
  have:(s.l.cutC u.l+s.v.sample*s.l.cutK u.l+1)/s.l.cutK u.l*s.l.cutK u.l=s.l.cutC u.l+s.v.sample*s.l.cutK u.l+1:=by grind
  grind
def ai0(c:List LnQ)(v:PtQ):Bool:=c.all fun l=>decide (0≤Int.sign (l.dir.cross v).num)
def anD(c:List LnQ):Bool:=!c.isEmpty&&(c.flatMap fun l=>[l.dir,ajG l.dir]).all fun v=>!ai0 c v
theorem aBJ(k:Rat):0≤Int.sign k.num↔0≤k:=by
 have h1:=agU k
 constructor<;>intro h
 ·by_cases q:0≤k
  ·exact q
  ·exact absurd (h1.2 (by grind)) (by omega)
 ·by_cases q:0≤Int.sign k.num
  ·exact q
  ·exact absurd (h1.1 (by omega)) (by grind)
theorem alR{c:aag}{v:PtQ}:ai0 (c.map (·.l)) v=true↔ ∀u∈c,0≤u.l.nor.dot v:=by
 unfold ai0
 rw[List.all_map,eX]
 simp only[Function.comp,decide_eq_true_eq,aBJ,atG]
theorem aB8{c:aag}(hc:aba c):anD (c.map (·.l))=aeT c:=by
 unfold anD aeT
 congr 1
 ·cases c<;>rfl
 rw[Bool.eq_iff_iff,eX,eX]
 constructor
 ·intro h s hs
  have e1:=h s.l.dir (by rw[fN];exact⟨s.l,gS hs,by simp⟩)
  have e2:=h (ajG s.l.dir) (by rw[fN];exact⟨s.l,gS hs,by simp⟩)
  cases nl:s.v.nl with
  |true=>
   rw[alR.2 fun u hu=>by
    have:=arq hc hs nl u hu
    unfold ajG PtQ.dot at*
    grind] at e2
   cases e2
  |false=>
   cases nh:s.v.nh with
   |true=>rw[alR.2 (atc hc hs nh)] at e1;cases e1
   |false=>rfl
 ·intro h v hv
  obtain⟨l,hl,hv⟩:=fN.1 hv
  obtain⟨s,hs,rfl⟩:=bW.1 hl
  have hb:=h s hs
  obtain⟨p1,p2⟩:=hc.edge s hs
  cases st:ai0 (c.map (·.l)) v with
  |false=>rfl
  |true=>
   exfalso
   have k:=alR.1 st
   have hi:=(aa9 p1).has
   have q0:=(p2 _).1 hi
   simp only[bL,fS] at hb
   simp only[aS,iY,or_false] at hv
   rcases hv with rfl|rfl
   ·have hbig:s.v.has (if s.v.sample≤s.v.hi then s.v.hi+1 else s.v.sample):=(p2 _).2 fun u hu=>by
     rw[ab7]
     have a1:=q0 u hu
     rw[ab7] at a1
     have a2:0≤s.l.cutK u.l:=k u hu
     split
     ·have:=aad (a:=s.v.hi+1-s.v.sample) (b:=s.l.cutK u.l) (by grind) a2
      grind
     ·exact a1
    have:=hbig.2
    rw[hb.2] at this
    rcases this with q|q
    ·cases q
    ·split at q<;>grind
   ·have hbig:s.v.has (if s.v.lo≤s.v.sample then s.v.lo-1 else s.v.sample):=(p2 _).2 fun u hu=>by
     rw[ab7]
     have a1:=q0 u hu
     rw[ab7] at a1
     have a2:0≤ -(s.l.cutK u.l):=by have:=k u hu;unfold ajG PtQ.dot at this;unfold LnQ.cutK PtQ.dot;grind
     split
     ·have:=aad (a:=s.v.sample-(s.v.lo-1)) (b:= -(s.l.cutK u.l)) (by grind) a2
      grind
     ·exact a1
    have:=hbig.1
    rw[hb.1] at this
    rcases this with q|q
    ·cases q
    ·split at q<;>grind
def lnU:LnQ:=⟨1,0,0⟩
def arh(c:List LnQ)(i:Nat):List PtQ:=
 if 0<Int.sign ((c.getD i lnU).dir.cross (c.getD ((i+1)%c.length) lnU).dir).num then [abH (c.getD i lnU) (c.getD ((i+1)%c.length) lnU)] else []
def afE(c:List LnQ):List PtQ:=(List.range c.length).flatMap (arh c)
def avb(v:List PtQ)(i:Nat):List PtQ:=[v.getD 0 ⟨0,0⟩,v.getD (i+1) ⟨0,0⟩,v.getD (i+2) ⟨0,0⟩]
def aiR(v:List PtQ):List (List PtQ):=(List.range (v.length-2)).map (avb v)
def avQ(cs:List (List LnQ)):List (List PtQ):=cs.flatMap fun c=>aiR (afE c)
theorem aik{c:List LnQ}{i:Nat}{l m:LnQ}(h1:c[i]? =some l)(h2:c[(i+1)%c.length]? =some m):arh c i=if 0<Int.sign (l.dir.cross m.dir).num then [abH l m] else []:=by
 unfold arh
 rw[aX,aX,h1,h2];rfl
theorem afk(c:List LnQ)(k:Nat):(List.range (k+1)).flatMap (arh c)=(List.range k).flatMap (arh c)++arh c k:=by
 rw[List.range_succ,lX];simp
theorem ahV(c:List LnQ): ∀k,((List.range k).flatMap (arh c)).length≤k
 |0=>aL _
 |k+1=>by
  have:=ahV c k
  have h2:(arh c k).length≤1:=by unfold arh;split<;>simp
  rw[afk,aW]
  omega
theorem avr{c:List LnQ}{p:PtQ}(h:p∈afE c): ∃l∈c,∃m∈c,p=abH l m:=by
 obtain⟨i,hi,hp⟩:=fN.1 h
 have hi':=qQ.1 hi
 have e1:=aQ hi'
 have e2:=aQ (l:=c) (cS (i+1) (show 0<c.length by omega))
 rw[aik e1 e2] at hp
 split at hp
 ·exact⟨_,bM _,_,bM _,aY.1 hp⟩
 ·cases hp
theorem am2(v:List PtQ)(k:Nat):(List.range (k+1)).map (avb v)=(List.range k).map (avb v)++[avb v k]:=by
 rw[List.range_succ,aN];rfl
theorem aCO{t:Tr}(ht:t.all LnQ.ok):((aaY t []).filter (·.2)).map (·.1)=(aaC t).map fun c=>c.map (·.l):=by
 rw[ajn (d:=[]) ht (fun l h=>by cases h) aba.nil .nil (fun p=>⟨fun _ _ h=>(by cases h),fun _ _ h=>(by cases h)⟩)]
 unfold aaC
 rw[List.filter_map,qK,qK]
 rfl
theorem anT{t:Tr}(ht:t.all LnQ.ok): ∀c∈aaC t,aba c:=fun c hc=>(afx ht aba.nil (afo.1 hc)).1
end Go.Sx
end
