/- Part 17 of a proof. -/
import Derived.Test.YtfccecinjmbfhaaGreatDoorMa16
set_option linter.unusedSimpArgs false
set_option maxHeartbeats 4000000
set_option maxRecDepth 100000
set_option linter.unusedVariables false
section
namespace Go.Sx
open Go Go.Proofs Tryz
variable {GB:Gh}
theorem aBI(p r:ZP):(agy p.q r.q<0↔azC p r<0)∧(agy p.q r.q=0↔azC p r=0):=by
 have e1: ∀a b:Int,abc (a:Rat) (b:Rat)<0↔a<b:=fun a b=>by rw[afa,Rat.intCast_lt_intCast]
 have e2: ∀a b:Int,abc (a:Rat) (b:Rat)=0↔a=b:=fun a b=>by rw[aez,mQ]
 have f1:=e1 p.1 r.1
 have f2:=e2 p.1 r.1
 have f3:=e1 p.2 r.2
 have f4:=e2 p.2 r.2
 show(agy ⟨(p.1:Rat),(p.2:Rat)⟩ ⟨(r.1:Rat),(r.2:Rat)⟩<0↔_)∧(agy ⟨(p.1:Rat),(p.2:Rat)⟩ ⟨(r.1:Rat),(r.2:Rat)⟩=0↔_)
 unfold agy azC
 dsimp only
 generalize abc (p.1:Rat) (r.1:Rat)=u at*
 generalize abc (p.2:Rat) (r.2:Rat)=v at*
 by_cases h:p.1<r.1
 ·rw[if_pos (by omega),if_pos h];omega
 ·by_cases h2:r.1<p.1
  ·rw[if_pos (by omega),if_neg h,if_pos h2];omega
  ·rw[if_neg (by omega),if_neg h,if_neg h2]
   by_cases h3:p.2<r.2
   ·rw[if_pos h3];omega
   ·rw[if_neg h3]
    split<;>omega
theorem axw(x:ZP): ∀l:List ZP,afD agy x.q (l.map ZP.q)=(auD x l).map ZP.q
 |[]=>rfl
 |u::t=>by
  obtain⟨h1,h2⟩:=aBI u x
  rw[bN,afD,auD,axw x t]
  by_cases k1:azC u x<0
  ·rw[if_pos (h1.2 k1),if_pos k1];rfl
  ·rw[if_neg (fun e=>k1 (h1.1 e)),if_neg k1]
   by_cases k2:azC u x=0
   ·rw[if_pos (h2.2 k2),if_pos k2];rfl
   ·rw[if_neg (fun e=>k2 (h2.1 e)),if_neg k2];rfl
theorem ax7(l:List ZP):alG agy (l.map ZP.q)=(anq l).map ZP.q:=by
 have key: ∀(l o:List ZP),(l.map ZP.q).foldl (fun out x=>afD agy x out) (o.map ZP.q)=(l.foldl (fun out x=>auD x out) o).map ZP.q:=by
  intro l
  induction l with
  |nil=>intro o;rfl
  |cons x t ih=>intro o;rw[bN,kK,kK,axw,ih]
 exact key l []
theorem aE7(l:List ZP):(l.map ZP.q).map eP=l.map eZp:=by rw[qK];rfl
theorem amE{l:List ZP}(h: ∀p∈l,ZP.le 100 p)(hn:l.length≤100000):PF GB prog 188 [.sl (l.map eZp)] (.sl ((anq l).map eZp)):=by
 have:=auH (GB:=GB) (ps:=l.map ZP.q) (atu h) (by rw[aJ];exact hn)
 rw[ax7,aE7,aE7] at this
 exact this
theorem ayq(u v:ZP):(PtQ.cross (iP u.1 u.2) (iP v.1 v.2))=((ajg u v:Int):Rat):=by
 unfold PtQ.cross iP ajg
 push_cast
 rfl
theorem ajq(u v:ZP):(PtQ.cross (iP u.1 u.2) (iP v.1 v.2)).num.sign≠0↔ajg u v≠0:=by
 rw[ayq,pV]
 exact not_congr iW
theorem aqm{α β:Type}(f:α→β)(l:List α):((l.map f).take (l.length-1)).drop 0=l.dropLast.map f:=by
 rw[hJ,←gX,List.dropLast_eq_take]
theorem apC{l:List ZP}(h:0<l.length): ∃u,l.getLast? =some u∧l[l.length-1]? =some u∧l.getD (l.length-1) (0,0)=u:=by
 refine⟨l[l.length-1],?_,aQ (by omega),?_⟩
 ·rw[kV];exact aQ (by omega)
 ·rw[aX,aQ (by omega)];rfl
theorem atY{l:List ZP}(h:0<l.length): ∃u,l[0]? =some u∧l.getD 0 (0,0)=u:=by
 refine⟨l[0],aQ (by omega),?_⟩
 rw[aX,aQ (by omega)];rfl
theorem auO{u p:ZP}:(u.1=p.1∧u.2=p.2)↔u=p:=⟨fun h=>Prod.ext h.1 h.2,fun h=>by rw[h];exact⟨rfl,rfl⟩⟩
theorem atW{b:Nat}{es:List Int}(hes:es.length≤400){a:Nat}(ha:a≤es.length):PM GB prog 123 (mkP [none] b) b 104 [.sl (es.map vI), .v (.int .i64 (a:Nat))] (eRg (acE es a).1) [.sl (es.map vI), .v (.int .i64 ((acE es a).2:Nat))]:=by
 have hk0:=aaF (n:=4) ha
 refine fnM (fu:=⟨6⟩) func123 J J ntmps123 J J (fun C b m lo hmb=>?_)
 refine mg (X:=Nat) (fun a2=>[]) (fun a2=>[(1000000,some (.o 104 [.d (.sl (es.map vI)), .d (.v (.int .i64 (a2:Nat)))] false))]) (fun a2=>acE es a=aup es a2∧a2≤es.length) [] [1000000] rfl ?_ (fun _=>rfl) (fun a2 ⟨hR,ha2⟩=>?_)
 ·
  refine gx rfl<|cm rfl (fun b=>(ab9 (n:=4) hes ha (by decide) (by decide))) rfl<|?_
  refine br J J J (fun hc15=>?_) (fun hc15=>?_)
  ·
   have hx1:=aaF (n:=5) hk0
   have hy1:=aaF (n:=5) hx1
   have hz1:=aaF (n:=4) hy1
   have hw1:=aaF (n:=4) hz1
   have hl0:=abv (es:=es) (n:=5) (a:=(aaf es 4 a).2) (by decide)
   have hl1:=abv (es:=es) (n:=5) (a:=(aaf es 5 (aaf es 4 a).2).2) (by decide)
   have hl2:=abv (es:=es) (n:=4) (a:=(aaf es 5 (aaf es 5 (aaf es 4 a).2).2).2) (by decide)
   have hl3:=abv (es:=es) (n:=4) (a:=(aaf es 4 (aaf es 5 (aaf es 5 (aaf es 4 a).2).2).2).2) (by decide)
   refine cm rfl (fun b=>(ab9 (n:=5) hes hk0 (by decide) (by decide))) rfl<|cm rfl (fun b=>(ab9 (n:=5) hes hx1 (by decide) (by decide))) rfl<|?_
   refine cm rfl (fun b=>(ab9 (n:=4) hes hy1 (by decide) (by decide))) rfl<|cm rfl (fun b=>(ab9 (n:=4) hes hz1 (by decide) (by decide))) rfl<|?_
   refine cl rfl (anF (m:=(((aaf es 5 (aaf es 4 a).2).1:Int)-4)) (n:=(((aaf es 5 (aaf es 5 (aaf es 4 a).2).2).1:Int)-4)) (by omega) (by omega)) rfl<|?_
   refine cl rfl (anF (m:=(((aaf es 5 (aaf es 4 a).2).1:Int)-4+1+((aaf es 4 (aaf es 5 (aaf es 5 (aaf es 4 a).2).2).2).1:Int))) (n:=(((aaf es 5 (aaf es 5 (aaf es 4 a).2).2).1:Int)-4)) (by omega) (by omega)) rfl<|?_
   refine cl rfl (anF (m:=(((aaf es 5 (aaf es 4 a).2).1:Int)-4+1+((aaf es 4 (aaf es 5 (aaf es 5 (aaf es 4 a).2).2).2).1:Int))) (n:=(((aaf es 5 (aaf es 5 (aaf es 4 a).2).2).1:Int)-4+1+((aaf es 4 (aaf es 4 (aaf es 5 (aaf es 5 (aaf es 4 a).2).2).2).2).1:Int))) (by omega) (by omega)) rfl<|?_
   refine cl rfl (anF (m:=(((aaf es 5 (aaf es 4 a).2).1:Int)-4)) (n:=(((aaf es 5 (aaf es 5 (aaf es 4 a).2).2).1:Int)-4+1+((aaf es 4 (aaf es 4 (aaf es 5 (aaf es 5 (aaf es 4 a).2).2).2).2).1:Int))) (by omega) (by omega)) rfl<|?_
   refine rf J J<|?_
   exact rzM hmb J J (by rw[show acE es a=_ from if_pos hc15];rfl) (by rw[show acE es a=_ from if_pos hc15];rfl)
  ·
   refine br J J J (fun hc46=>?_) (fun hc46=>?_)
   ·
    obtain⟨hp1,hp2,hp3⟩:=amD hk0
    obtain⟨hu1,hu2,hu3,hu4⟩:=aqL hp3
    obtain⟨hv1,hv2,hv3,hv4⟩:=aqL hu4
    haveI:=biC (k:=10) (m:=(vF es (pF es (aaf es 4 a).2).2).1.1) (by omega) (by decide)
    haveI:=biC (k:=10) (m:=(vF es (pF es (aaf es 4 a).2).2).1.2) (by omega) (by decide)
    haveI:=biC (k:=10) (m:=(vF es (vF es (pF es (aaf es 4 a).2).2).2).1.1) (by omega) (by decide)
    haveI:=biC (k:=10) (m:=(vF es (vF es (pF es (aaf es 4 a).2).2).2).1.2) (by omega) (by decide)
    refine cm rfl (fun b=>(aDh hes hk0)) rfl<|cm rfl (fun b=>(aDG hes hp3)) rfl<|cm rfl (fun b=>(aDG hes hu4)) rfl<|cl rfl (ahu (p:=iP (vF es (pF es (aaf es 4 a).2).2).1.1 (vF es (pF es (aaf es 4 a).2).2).1.2) (q:=iP (vF es (vF es (pF es (aaf es 4 a).2).2).2).1.1 (vF es (vF es (pF es (aaf es 4 a).2).2).2).1.2)) rfl<|?_
    refine cl rfl (q_S (q:=PtQ.cross (iP (vF es (pF es (aaf es 4 a).2).2).1.1 (vF es (pF es (aaf es 4 a).2).2).1.2) (iP (vF es (vF es (pF es (aaf es 4 a).2).2).2).1.1 (vF es (vF es (pF es (aaf es 4 a).2).2).2).1.2))) rfl<|?_
    refine br J J J (fun hc58=>?_) (fun hc58=>?_)
    ·
     refine cl rfl (amg (n:=1) (by decide) (by decide)) rfl<|cl rfl (apj (m:=(pF es (aaf es 4 a).2).1.1) (n:=(pF es (aaf es 4 a).2).1.2) (m':=(vF es (pF es (aaf es 4 a).2).2).1.1) (n':=(vF es (pF es (aaf es 4 a).2).2).1.2) (k:=1) (by omega) (by omega) (by omega) (by omega) (by decide)) rfl<|?_
     refine cl rfl (amg (n:=1) (by decide) (by decide)) rfl<|cl rfl (apj (m:=(pF es (aaf es 4 a).2).1.1) (n:=(pF es (aaf es 4 a).2).1.2) (m':=(vF es (vF es (pF es (aaf es 4 a).2).2).2).1.1) (n':=(vF es (vF es (pF es (aaf es 4 a).2).2).2).1.2) (k:=1) (by omega) (by omega) (by omega) (by omega) (by decide)) rfl<|?_
     refine rf J J<|?_
     exact rzM hmb J J (by rw[show acE es a=_ from(if_neg hc15).trans ((if_pos hc46).trans (if_pos ((ajq _ _).1 hc58)))];rfl) (by rw[show acE es a=_ from(if_neg hc15).trans ((if_pos hc46).trans (if_pos ((ajq _ _).1 hc58)))])
    ·
     exact at_ (vF es (vF es (pF es (aaf es 4 a).2).2).2).2 ⟨(if_neg hc15).trans ((if_pos hc46).trans (if_neg (fun e=>hc58 ((ajq _ _).2 e)))),hv4⟩
   ·
    exact at_ (aaf es 4 a).2 ⟨(if_neg hc15).trans (if_neg hc46),hk0⟩
 ·
  have hj1:=abv (es:=es) (n:=4) (a:=a2) (by decide)
  have hj2:=aaF (n:=4) ha2
  refine cm rfl (fun b=>(ab9 (n:=4) hes ha2 (by decide) (by decide))) rfl<|?_
  refine nr 10 10 54 6 J J J ?_
  refine lp (X:=List ZP×Nat×Nat) (fun⟨r,i,a3⟩=>[(11, .d (vI (i:Nat))),(10, .rw 10)]) (fun⟨r,i,a3⟩=>[(1000000,some (.o 104 [.d (.sl (es.map vI)), .d (.v (.int .i64 (a3:Nat)))] false)),(10,some (.b 54 6 (r.map eZp) true))]) (fun⟨r,i,a3⟩=>ao7 es i a3 r=ao7 es (3+(aaf es 4 a2).1) (aaf es 4 a2).2 []∧a3≤es.length∧Adj r∧r.length+i≤6) (fun⟨r,i,a3⟩=>i) ⟨[],3+(aaf es 4 a2).1,(aaf es 4 a2).2⟩ rfl ⟨rfl,hj2,Adj.nil,by simp;omega⟩ (fun _=>rfl) (fun⟨r,i,a3⟩ hk=>?_)
  try dsimp only at hk⊢
  obtain⟨h1,h2,h3,h4⟩:=hk
  have hrl:(r.map eZp).length=r.length:=by simp
  refine br (fu2:=⟨0⟩) J J J (fun hc73=>?_) (fun hc73=>?_)
  ·
   obtain⟨j,rfl⟩: ∃j,i=j+1:=⟨i-1,by omega⟩
   obtain⟨hq1,hq2,hq3⟩:=amD h2
   refine cm (fu:=⟨8⟩) rfl (fun b=>(aDh hes h2)) rfl<|?_
   refine csS (v1:=fun hg80=>by simp only[aah];kernel_rfl) J J J J (fun hg80=>?_) (fun hg80=>?_)
   ·
    have hlast: ¬r.getLast? =some (pF es a3).1:=by rw[bY (l:=r) (by omega)];simp
    refine rf J J<|ap ((r++[(pF es a3).1]).map eZp) rfl (by rw[bX];rfl) (ayE [_]) rfl<|?_
    refine rnE 95 10 rfl ?_
    exact at_ ⟨r++[(pF es a3).1],j,(pF es a3).2⟩ (by dsimp only;exact⟨⟨by rw[←h1,ao7,if_neg hlast],hq3,h3.snoc ⟨by omega,by omega⟩ hlast,by simp;omega⟩,(by omega)⟩)
   ·
    obtain⟨q,hq,hqi,hqd⟩:=apC (l:=r) (by omega)
    have hqm:=h3.le q (mJ hq)
    unfold ZP.le at hqm
    refine lb (eZp q) rfl (by rw[show(((r.map eZp).length:Nat):Int)-1=((r.length-1:Nat):Int) by omega];exact aal hqi) rfl<|cl rfl (ak3 (m:=q.1) (n:=q.2) (m':=(pF es a3).1.1) (n':=(pF es a3).1.2) (by omega) (by omega) (by omega) (by omega)) rfl<|?_
    refine bb J J J (fun hc91=>?_) (fun hc91=>?_)
    ·
     have hlast: ¬r.getLast? =some (pF es a3).1:=by rw[hq];intro e;have:=auO.2 (Option.some.inj e);simp[this] at hc91
     refine rf J J<|ap ((r++[(pF es a3).1]).map eZp) rfl (by rw[bX];rfl) (ayE [_]) rfl<|?_
     refine rnE 95 10 rfl ?_
     exact at_ ⟨r++[(pF es a3).1],j,(pF es a3).2⟩ (by dsimp only;exact⟨⟨by rw[←h1,ao7,if_neg hlast],hq3,h3.snoc ⟨by omega,by omega⟩ hlast,by simp;omega⟩,(by omega)⟩)
    ·
     have hlast:r.getLast? =some (pF es a3).1:=by rw[hq];congr 1;exact auO.1 (by simpa using hc91)
     exact at_ ⟨r,j,(pF es a3).2⟩ (by dsimp only;exact⟨⟨by rw[←h1,ao7,if_pos hlast],hq3,h3,by omega⟩,(by omega)⟩)
  ·
   obtain rfl:i=0:=by omega
   have hg:=h1
   rw[ao7] at hg
   refine fzC 10 rfl ?_
   refine gx rfl<|?_
   refine lp (fu:=⟨5⟩) (X:=List ZP×Nat) (fun⟨l,m⟩=>[(10, .d (.sl (l.map eZp)))]) (fun⟨l,m⟩=>[]) (fun⟨l,m⟩=>aeP m l=aeP 6 r∧l.length≤m+1∧Adj l∧l.length≤6) (fun⟨l,m⟩=>m) ⟨r,6⟩ rfl ⟨rfl,by omega,h3,by omega⟩ (fun _=>rfl) (fun⟨l,m⟩ hk=>?_)
   try dsimp only at hk⊢
   obtain⟨t1,t2,t3,t4⟩:=hk
   have hll:(l.map eZp).length=l.length:=by simp
   refine csS (v2:=fun hg98=>by simp only[aah];kernel_rfl) J J J J (fun hg98=>?_) (fun hg98=>?_)
   ·
    obtain⟨q,hqi,hqd⟩:=atY (l:=l) (by omega)
    obtain⟨q2,hq0,hqi2,hqd2⟩:=apC (l:=l) (by omega)
    have hqm:=t3.le q (aL hqi)
    have hqm2:=t3.le q2 (aL hqi2)
    unfold ZP.le at hqm hqm2
    refine ix _ rfl (aal (i:=0) hqi) rfl<|ix (eZp q2) rfl (by rw[show(((l.map eZp).length:Nat):Int)-1=((l.length-1:Nat):Int) by omega];exact aal hqi2) rfl<|?_
    refine cl rfl (ak3 (m:=q.1) (n:=q.2) (m':=q2.1) (n':=q2.2) (by omega) (by omega) (by omega) (by omega)) rfl<|?_
    refine bd J J J (fun hc110=>?_) (fun hc110=>?_)
    ·
     have hcond:1<l.length∧l.getD 0 (0,0)=l.getD (l.length-1) (0,0):=⟨by omega,by rw[hqd,hqd2];exact auO.1 hc110⟩
     refine sc' 0 (l.length-1) (l.dropLast.map eZp) J J (by omega) (aqm eZp l) (ayE l) (aR _) (by omega) rfl<|?_
     exact at_ ⟨l.dropLast,m-1⟩ (by dsimp only;exact⟨⟨by rw[←t1];obtain⟨m,rfl⟩: ∃q,m=q+1:=⟨m-1,by omega⟩;rw[aeP,if_pos hcond];rfl,by rw[gV];omega,t3.drop,by rw[gV];omega⟩,(by omega)⟩)
    ·
     have hcond: ¬(1<l.length∧l.getD 0 (0,0)=l.getD (l.length-1) (0,0)):=fun e=>hc110 (auO.2 (by rw[←hqd,←hqd2];exact e.2))
     refine cl (fu:=⟨1⟩) rfl (amE (l:=l) t3.le (by omega)) rfl<|?_
     have hgen:aeP 6 r=l:=by rw[←t1];cases m with|zero=>rfl|succ m=>rw[aeP,if_neg hcond]
     refine eqF 118 (.d (vI ((anq l).length:Nat))) rfl (by rw[aJ];rfl) ?_
     refine gx rfl<|?_
     refine br J J J (fun hc119=>?_) (fun hc119=>?_)
     ·
      have hfin:acE es a=(aAA,a3):=by rw[hR,aup,←hg,hgen,if_pos (by omega)]
      refine cl rfl (anF (m:=0) (n:=0) (by decide) (by decide)) rfl<|cl rfl (anF (m:=2) (n:=0) (by decide) (by decide)) rfl<|cl rfl (anF (m:=0) (n:=2) (by decide) (by decide)) rfl<|?_
      refine rf J J<|?_
      exact rzM hmb J J (by rw[hfin];rfl) (by rw[hfin])
     ·
      have hfin:acE es a=(l,a3):=by rw[hR,aup,←hg,hgen,if_neg (by omega)]
      exact rzM hmb J J (by rw[hfin];rfl) (by rw[hfin])
   ·
    have hcond: ¬(1<l.length∧l.getD 0 (0,0)=l.getD (l.length-1) (0,0)):=fun e=>by omega
    refine cl (fu:=⟨1⟩) rfl (amE (l:=l) t3.le (by omega)) rfl<|?_
    have hgen:aeP 6 r=l:=by rw[←t1];cases m with|zero=>rfl|succ m=>rw[aeP,if_neg hcond]
    refine eqF 118 (.d (vI ((anq l).length:Nat))) rfl (by rw[aJ];rfl) ?_
    refine gx rfl<|?_
    refine br J J J (fun hc119=>?_) (fun hc119=>?_)
    ·
     have hfin:acE es a=(aAA,a3):=by rw[hR,aup,←hg,hgen,if_pos (by omega)]
     refine cl rfl (anF (m:=0) (n:=0) (by decide) (by decide)) rfl<|cl rfl (anF (m:=2) (n:=0) (by decide) (by decide)) rfl<|cl rfl (anF (m:=0) (n:=2) (by decide) (by decide)) rfl<|?_
     refine rf J J<|?_
     exact rzM hmb J J (by rw[hfin];rfl) (by rw[hfin])
    ·
     have hfin:acE es a=(l,a3):=by rw[hR,aup,←hg,hgen,if_neg (by omega)]
     exact rzM hmb J J (by rw[hfin];rfl) (by rw[hfin])
def aDz:DV:= .v (.pointer none)
def cTd(l:LnQ)(p q:DV):List DV:=[.v (.bool false), .v (.bool false), .v (.bool (decide (l.a<0))),dN l.a.natAbs, .v (.bool (decide (l.b<0))),dN l.b.natAbs, .v (.bool (decide (l.c<0))),dN l.c.natAbs,p,q]
inductive RF (ns:List RN):Int→(Nat→Bool)→DV→Bool→(Nat→Bool)→Prop where
 |leaf (b:Bool) (f:Nat→Bool):RF ns (acU b) f (eT (.leaf b)) true f
 |bad (rt:Int) (f:Nat→Bool) (h1:rt≠ -1) (h2:rt≠ -2) (h:rt<0∨(ns.length:Int)≤rt∨(∃k:Nat,rt=k∧k<ns.length∧f k=true)):RF ns rt f aDz false f
 |line (k:Nat) (n:RN) (f:Nat→Bool) (h:ns[k]? =some n) (hf:f k=false) (hl:n.g.ln=none):RF ns (k:Int) f aDz false (al0 f k)
 |left (k:Nat) (n:RN) (l:LnQ) (f f2:Nat→Bool) (p:DV) (h:ns[k]? =some n) (hf:f k=false) (hl:n.g.ln=some l) (h1:RF ns n.l (al0 f k) p false f2):RF ns (k:Int) f aDz false f2
 |node (k:Nat) (n:RN) (l:LnQ) (f f2 f3:Nat→Bool) (p q:DV) (ok:Bool) (h:ns[k]? =some n) (hf:f k=false) (hl:n.g.ln=some l) (h1:RF ns n.l (al0 f k) p true f2) (h2:RF ns n.r f2 q ok f3):RF ns (k:Int) f (.pt (cTd l p q)) ok f3
def aGo(n:Nat)(f:Nat→Bool):Bool:=(List.range n).all f
def RN.of(n:NQ):RN:=⟨⟨decide (n.l.a<0),dg n.l.a.natAbs,decide (n.l.b<0),dg n.l.b.natAbs,decide (n.l.c<0),dg n.l.c.natAbs⟩,n.a,n.b⟩
theorem aEV(ns:List NQ):ns.map eN=(ns.map RN.of).map RN.d:=by
 rw[qK];rfl
theorem aDM(t:Tr):eA t=eRT (t.num 0) ((t.wr 0).map RN.of):=by
 unfold eA eRT
 rw[aEV];rfl
theorem auy(a:Int):aho (decide (a<0)) (dg a.natAbs)=a:=by
 unfold aho
 rw[(aaD _).1]
 split
 ·rename_i h;have:=of_decide_eq_true h;omega
 ·rename_i h;have: ¬a<0:=fun e=>h (decide_eq_true e);omega
theorem aoi(a:Int):anv (decide (a<0)) (dg a.natAbs):=⟨(aaD _).2.2,fun h=>ahb.2 (by have:=of_decide_eq_true h;omega)⟩
theorem RN.of_l(n:NQ):(RN.of n).g.l=n.l:=by
 unfold RN.of RL.l
 simp only[auy]
theorem RN.of_ln{n:NQ}(h:n.l.ok):(RN.of n).g.ln=some n.l:=by
 unfold RL.ln
 rw[if_pos ⟨⟨aoi _,aoi _,aoi _⟩,by rw[RN.of_l];exact h⟩,RN.of_l]
theorem RN.of_sm{n:NQ}(h:LB n.l):(RN.of n).g.sm:=by
 have key: ∀a:Int,a.natAbs<2^96→DOk (dg a.natAbs)∧(dg a.natAbs).length≤3:=fun a ha=>⟨(aaD _).2.1,by have:=aa1 ha;omega⟩
 exact⟨key _ h.bl.a,key _ h.bl.b,key _ h.bl.c⟩
theorem aeJ(b:Bool)(k:Nat):acU b≠(k:Int):=by cases b<;>(unfold acU;simp)
theorem RR.det{ns:List RN}{rt:Int}{s s1:RS}{t1:Tr}(h:RR ns rt s t1 s1): ∀{s2:RS} {t2:Tr},RR ns rt s t2 s2→t1=t2∧s1=s2:=by
 induction h with
 |leaf b s=>
  intro s2 t2 h
  generalize hr:acU b=r at h
  cases h with
  |leaf b' s=>
   have:b=b':=by cases b<;>cases b'<;>first|rfl|(simp[acU] at hr)
   subst this;exact⟨rfl,rfl⟩
  |bad rt s h1 h2 h=>cases b<;>simp[acU] at hr<;>omega
  |line k=>exact absurd hr (aeJ _ _)
  |node k=>exact absurd hr (aeJ _ _)
 |bad rt s h1 h2 h=>
  intro s2 t2 h'
  cases h' with
  |leaf b s=>cases b<;>simp[acU] at h1 h2
  |bad=>exact⟨rfl,rfl⟩
  |line k n s hn hf=>
   have:=(bJ.1 hn).1
   rcases h with h|h|⟨j,e,_,hj⟩
   ·omega
   ·omega
   ·have:j=k:=by omega
    subst this;rw[hf] at hj;cases hj
  |node k n l s s2 s3 x y hn hf=>
   have:=(bJ.1 hn).1
   rcases h with h|h|⟨j,e,_,hj⟩
   ·omega
   ·omega
   ·have:j=k:=by omega
    subst this;rw[hf] at hj;cases hj
 |line k n s hn hf hl=>
  intro s2 t2 h'
  generalize hr:(k:Int)=r at h'
  cases h' with
  |leaf b s=>exact absurd hr.symm (aeJ _ _)
  |bad rt s h1 h2 h=>
   have:=(bJ.1 hn).1
   rcases h with h|h|⟨j,e,_,hj⟩
   ·omega
   ·omega
   ·have:j=k:=by omega
    subst this;rw[hf] at hj;cases hj
  |line k' n' s hn' hf' hl'=>
   have:k=k':=by omega
   subst this;exact⟨rfl,rfl⟩
  |node k' n' l s s2 s3 x y hn' hf' hl'=>
   have:k=k':=by omega
   subst this;rw[hn] at hn';cases hn';rw[hl] at hl';cases hl'
 |node k n l s s2 s3 x y hn hf hl h1 h2 i1 i2=>
  intro s4 t4 h'
  generalize hr:(k:Int)=r at h'
  cases h' with
  |leaf b s=>exact absurd hr.symm (aeJ _ _)
  |bad rt s h1 h2 h=>
   have:=(bJ.1 hn).1
   rcases h with h|h|⟨j,e,_,hj⟩
   ·omega
   ·omega
   ·have:j=k:=by omega
    subst this;rw[hf] at hj;cases hj
  |line k' n' s hn' hf' hl'=>
   have:k=k':=by omega
   subst this;rw[hn] at hn';cases hn';rw[hl] at hl';cases hl'
  |node k' n' l' s s2' s3' x' y' hn' hf' hl' h1' h2'=>
   have:k=k':=by omega
   subst this;rw[hn] at hn';cases hn';rw[hl] at hl';cases hl'
   obtain⟨rfl,rfl⟩:=i1 h1'
   obtain⟨rfl,rfl⟩:=i2 h2'
   exact⟨rfl,rfl⟩
def RT'(ns:List NQ):Tr→Int→List Nat→Prop
 | .leaf b,rt,L=>rt=acU b∧L=[]
 | .node l x y,rt,L=> ∃(k:Nat) (a b:Int) (L1 L2:List Nat),rt=(k:Int)∧ns[k]? =some ⟨l,a,b⟩∧RT' ns x a L1∧RT' ns y b L2∧L=k::(L1++L2)
theorem RT'.rr{ns:List NQ}: ∀{t:Tr} {rt:Int} {L:List Nat} {s:RS},RT' ns t rt L→t.all LnQ.ok→L.Nodup→(∀j∈L,s.f j=false)→ ∃f,RR (ns.map RN.of) rt s t ⟨f,s.c+t.size,s.b⟩∧ ∀j,j∉L→f j=s.f j
 | .leaf b,rt,L,s,⟨e,e2⟩,_,_,_=>by
  subst e e2
  exact⟨s.f, .leaf b s,fun _ _=>rfl⟩
 | .node l x y,rt,L,s,⟨k,a,b,L1,L2,e,hk,hx,hy,e2⟩,⟨h0,h1,h2⟩,hnd,hf=>by
  subst e e2
  obtain⟨hkn,hnd⟩:=List.nodup_cons.1 hnd
  obtain⟨hd1,hd2,hdis⟩:=List.nodup_append.1 hnd
  have hfk:=hf k aZ
  have hn1: ∀j∈L1,j≠k:=fun j hj e=>hkn (e▸cX _ hj)
  have hn2: ∀j∈L2,j≠k:=fun j hj e=>hkn (e▸cW _ hj)
  obtain⟨f1,r1,g1⟩:=RT'.rr (s:=⟨al0 s.f k,s.c+1,s.b⟩) hx h1 hd1 (fun j hj=>by simp only;rw[ajt (hn1 j hj)];exact hf j (aK _ (cX _ hj)))
  simp only at r1 g1
  obtain⟨f2,r2,g2⟩:=RT'.rr (s:=⟨f1,s.c+1+x.size,s.b⟩) hy h2 hd2 (fun j hj=>by
   simp only
   rw[g1 j (fun h=>hdis _ h _ hj rfl),ajt (hn2 j hj)]
   exact hf j (aK _ (cW _ hj)))
  simp only at r2 g2
  have hc:s.c+(Tr.node l x y).size=s.c+1+x.size+y.size:=by simp only[Tr.size];omega
  rw[hc]
  refine⟨f2, .node k (RN.of ⟨l,a,b⟩) l s _ _ x y (by rw[dZ,hk];rfl) hfk (RN.of_ln h0) r1 r2,fun j hj=>?_⟩
  simp only[aS,bS,not_or] at hj
  rw[g2 j hj.2.2,g1 j hj.2.1,ajt hj.1]
theorem RT'.len{ns:List NQ}: ∀{t:Tr} {rt:Int} {L:List Nat},RT' ns t rt L→L.length=t.size
 | .leaf _,_,_,⟨_,h⟩=>by rw[h];rfl
 | .node l x y,_,_,⟨k,a,b,L1,L2,_,_,h1,h2,h⟩=>by
  rw[h,bU,aW,RT'.len h1,RT'.len h2]
  simp only[Tr.size]
  omega
def RD'(ns:List NQ)(t:Tr)(rt:Int):Prop:= ∃L,RT' ns t rt L∧L.Nodup∧L.length=ns.length
theorem aBz{ns:List NQ}{t:Tr}{rt:Int}(h:RD' ns t rt)(ho:t.all LnQ.ok):ofQ (ns.map RN.of) rt=some t:=by
 obtain⟨L,h1,h2,h3⟩:=h
 obtain⟨f,r,_⟩:=h1.rr (s:=rs0) ho h2 (fun _ _=>rfl)
 have hr:=aoN (ns:=ns.map RN.of) (m:=(ns.map RN.of).length+1) (rt:=rt) (s:=rs0) (by have:=aiL (ns.map RN.of).length rs0.f;omega)
 obtain⟨e1,e2⟩:=hr.1.det r
 unfold ofQ
 simp only
 rw[e2,e1,if_pos ⟨rfl,by show rs0.c+t.size=_;rw[aJ,←h3,h1.len];show 0+_=_;omega⟩]
theorem aAf{ns:List NQ}: ∀{t:Tr} {n:Nat},(∀i,i<t.size→ns[n+i]? =(t.wr n)[i]?)→RT' ns t (t.num n) (List.range' n t.size)
 | .leaf b,n,_=>⟨rfl,rfl⟩
 | .node l x y,n,h=>by
  have hsz:(Tr.node l x y).size=1+x.size+y.size:=rfl
  have hw:(Tr.node l x y).wr n=⟨l,x.num (n+1),y.num (n+1+x.size)⟩::(x.wr (n+1)++y.wr (n+1+x.size)):=by simp[Tr.wr]
  have hx:=x.wr_len (n+1)
  have hy:=y.wr_len (n+1+x.size)
  refine⟨n,x.num (n+1),y.num (n+1+x.size),List.range' (n+1) x.size,List.range' (n+1+x.size) y.size,rfl,?_,aAf fun i hi=>?_,aAf fun i hi=>?_,?_⟩
  ·have:=h 0 (by omega)
   rw[hw,dT] at this
   rw[this];rfl
  ·have:=h (1+i) (by omega)
   rw[hw,jZ 1 i,List.getElem?_cons_succ,gL (by omega)] at this
   rw[show n+1+i=n+(i+1) by omega];exact this
  ·have:=h (1+x.size+i) (by omega)
   rw[hw,show 1+x.size+i=(x.size+i)+1 by omega,List.getElem?_cons_succ,iT (by omega),hx,Nat.add_sub_cancel_left] at this
   rw[show n+1+x.size+i=n+(x.size+i+1) by omega];exact this
  ·rw[hsz,show 1+x.size+y.size=(x.size+y.size)+1 by omega,List.range'_succ,List.range'_append_1]
theorem aB9{t:Tr}(ho:t.all LnQ.ok):ofQ ((t.wr 0).map RN.of) (t.num 0)=some t:=
 aBz ⟨_,aAf (n:=0) (fun i _=>by rw[eY]),List.nodup_range',by rw[List.length_range',t.wr_len]⟩ ho
theorem aEc{t:Tr}(hb:t.all LB): ∀n∈(t.wr 0).map RN.of,n.g.sm:=fun n hn=>by
 obtain⟨m,hm,rfl⟩:=bW.1 hn
 exact RN.of_sm (Tr.all_wr 0 hb m hm)
theorem Tr.all_imp{p q:LnQ→Prop}(h: ∀l,p l→q l): ∀{t:Tr},t.all p→t.all q
 | .leaf _,_=>trivial
 | .node _ _ _,⟨h0,h1,h2⟩=>⟨h _ h0,Tr.all_imp h h1,Tr.all_imp h h2⟩
theorem aGj{t:Tr}(hs:t.size≤65536):((t.wr 0).map RN.of).length≤65536:=by rw[aJ,t.wr_len];exact hs
def l00:LnQ:=⟨0,1,0⟩
def t00:Tr:= .node l00 (.leaf true) (.leaf false)
theorem ahs.red_size{k:Nat}{t:Tr}(h:ahs k t)(hr:t.Red []):t.size≤k*(1+k):=by
 obtain⟨K,h1,h2,h3⟩:=h.am
 exact cJ (Tr.size_le h2 hr h.gd.ok aa9.nil h3) (jY h1 (by omega))
structure TrX (k:Nat) (t:Tr):Prop where
 o:ahs k t
 s:t.size≤3000
theorem TrX.lb{k:Nat}{t:Tr}(h:TrX k t):t.all LB:=h.o.gd.lb
theorem TrX.ok{k:Nat}{t:Tr}(h:TrX k t):t.all LnQ.ok:=h.o.gd.ok
theorem TrX.bl{k:Nat}{t:Tr}(h:TrX k t):t.all (fun l=>BL l 96):=Tr.all_imp (fun _ h=>h.bl) h.o.gd.lb
theorem TrX.dp{k:Nat}{t:Tr}(h:TrX k t):t.depth≤k:=h.o.dp
theorem ahs.x{k:Nat}{t:Tr}(h:ahs k t)(hr:t.Red [])(hk:k≤54):TrX k t:=
 ⟨h,cJ (h.red_size hr) (cJ (jY hk (show 1+k≤55 by omega)) (by decide))⟩
theorem aiw(rs:List (List ZP))(fill:Int):(ada rs fill).Red []:=Tr.restrict_red _ _
theorem afz(es:List Int)(a:Nat):(adb es a).1.Red []:=by
 unfold adb
 dsimp only
 split<;>exact aiw _ _
theorem aot(es:List Int)(a:Nat):(aao es 0 a).1.Red []:=by
 rw[aao]
 try dsimp only
 split
 ·exact Tr.restrict_red _ _
 ·split
  ·exact Tr.restrict_red _ _
  ·split
   ·exact Tr.compl_red (afz _ _)
   ·exact afz _ _
theorem ape{es:List Int}{a:Nat}(ha:a≤es.length):TrX 18 (abq es 3 a).1∧(abq es 3 a).2≤es.length:=by
 obtain⟨h1,h2⟩:=anX (d:=3) ha (by decide)
 have h5:=Tr.size_lt (abq es 3 a).1
 have h6:(2:Nat)^(abq es 3 a).1.depth≤2^4:=bK (by decide) (by have:=(agG (d:=3) ha).1;omega)
 exact⟨⟨h1,by omega⟩,h2⟩
def aF2(es:List Int)(a:Nat):(Tr×Tr)×Nat:=
 let x:=aao es 0 a
 let y:=aao es 0 x.2
 let k:=aaf es 3 y.2
 let u:=if(k.1:Int)=0 then abq es 3 k.2 else(x.1,k.2)
 let j:=aaf es 3 u.2
 let v:=if(j.1:Int)=0 then abq es 3 j.2 else(y.1,j.2)
 ((u.1,v.1),v.2)
def aFH(es:List Int)(a:Nat):(Tr×Tr)×Nat:=
 let x:=aao es 0 a
 let y:=aao es 0 x.2
 let k:=aaf es 6 y.2
 if(k.1:Int)=0 then((x.1, .node (lF es k.2).1 x.1 x.1),(lF es k.2).2)
 else if(k.1:Int)=1 then((x.1,y.1.mergeQ 1 x.1 []),k.2)
 else if(k.1:Int)=2 then((x.1,y.1.mergeQ 3 x.1 []),k.2)
 else if(k.1:Int)=3 then((x.1,(abq es 3 k.2).1),(abq es 3 k.2).2)
 else((x.1,y.1),k.2)
def aDa(es:List Int):Nat→Nat→List Tr×Nat
 |0,a=>([],a)
 |n+1,a=>((aao es 0 a).1::(aDa es n (aao es 0 a).2).1,(aDa es n (aao es 0 a).2).2)
def aFY(r:List ZP)(i k:Nat):Bool:=decide (k=i)||decide (k=(i+1)%r.length)||decide (0<ag6 (r.getD i (0,0)).q (acD r i).q (r.getD k (0,0)).q)
def aDX(r:List ZP):Bool:=(List.range r.length).all fun i=>(List.range r.length).all fun k=>aFY r i k
theorem aAF{r:List ZP}(h:aaT r): ∀x∈[r],aaT x:=fun x hx=>by rw[aY] at hx;subst hx;exact h
theorem aBN{r s:List ZP}(h:aaT r)(k:aaT s): ∀x∈[r,s],aaT x:=fun x hx=>by
 simp only[aS,iU,or_false] at hx
 rcases hx with rfl|rfl
 ·exact h
 ·exact k
theorem agi{b:Nat}{es:List Int}(hes:es.length≤400){a:Nat}(ha:a≤es.length):PM GB prog 57 (mkP [none] b) b 104 [.sl (es.map vI), .v (.int .i64 (a:Nat))] (eT (adb es a).1) [.sl (es.map vI), .v (.int .i64 ((adb es a).2:Nat))]:=by
 obtain⟨r1,r2⟩:=ahR ha
 have hk3:=aaF (n:=3) r2
 refine fnM func57 J J ntmps57 J J (fun C b m lo hmb=>?_)
 refine cm rfl (fun b=>(atW hes ha)) rfl<|ro (fu:=⟨4⟩) J J<|?_
 refine mg (X:=List (List ZP)×Nat) (fun⟨rs,a2⟩=>[(3, .rw 6)]) (fun⟨rs,a2⟩=>[(1000000,some (.o 104 [.d (.sl (es.map vI)), .d (.v (.int .i64 (a2:Nat)))] false)),(6,some (.b 46 1 (rs.map eRg) true))]) (fun⟨rs,a2⟩=>adb es a=(ada rs (1+((aaf es 2 a2).1:Int)),(aaf es 2 a2).2)∧a2≤es.length∧(∀r∈rs,aaT r)∧rs.length≤2) [3] [1000000,6] rfl ?_ (fun _=>rfl) (fun⟨rs,a2⟩ ⟨hB,ha2,hrs,hrl⟩=>?_)
 ·
  refine gx rfl<|cm rfl (fun b=>(ab9 (n:=3) hes r2 (by decide) (by decide))) rfl<|?_
  refine br J J J (fun hc9=>?_) (fun hc9=>?_)
  ·
   obtain⟨s1,s2⟩:=ahR hk3
   refine cm rfl (fun b=>(atW hes hk3)) rfl<|rf J J<|ap (hbd:=by simp) ([(acE es a).1,(acE es (aaf es 3 (acE es a).2).2).1].map eRg) J J (axB [(acE es (aaf es 3 (acE es a).2).2).1]) rfl<|?_
   refine rnE 14 6 rfl ?_
   exact at_ ⟨[(acE es a).1,(acE es (aaf es 3 (acE es a).2).2).1],(acE es (aaf es 3 (acE es a).2).2).2⟩ ⟨if_pos hc9,s2,aBN r1 s1,by simp⟩
  ·
   exact at_ ⟨[(acE es a).1],(aaf es 3 (acE es a).2).2⟩ ⟨if_neg hc9,hk3,aAF r1,by simp⟩
 ·
  try dsimp only at hB ha2 hrs hrl⊢
  have hf2:=abv (es:=es) (n:=2) (a:=a2) (by decide)
  refine fz 6 J J<|cl rfl (aDJ (rs:=rs) hrs (by omega)) rfl<|cm rfl (fun b=>(ab9 (n:=2) hes ha2 (by decide) (by decide))) rfl<|cl rfl (as5 (rs:=rs) (fill:=1+((aaf es 2 a2).1:Int)) hrs (by omega)) rfl<|?_
  refine cl rfl (arI (rs:=rs) (fill:=1+((aaf es 2 a2).1:Int)) hrs (by omega)) rfl<|?_
  exact rzM hmb J J (by rw[hB];rfl) (by rw[hB])
theorem alv{b:Nat}{es:List Int}(hes:es.length≤400){a:Nat}(ha:a≤es.length){n:Int}(hn:n=0):PM GB prog 12 (mkP [none,some (.v (.int .i64 n))] b) b 104 [.sl (es.map vI), .v (.int .i64 (a:Nat))] (eT (aao es 0 a).1) [.sl (es.map vI), .v (.int .i64 ((aao es 0 a).2:Nat))]:=by
 have hk0:=aaF (n:=6) ha
 obtain⟨hl,hl2⟩:=aqy hk0
 obtain⟨ht,ht2⟩:=ape hk0
 obtain⟨hb,hb2⟩:=aee hk0
 refine fnM func12 J J ntmps12 J J (fun C b m lo hmb=>?_)
 refine cm (fu:=⟨5⟩) rfl (fun b=>(ab9 (n:=6) hes ha (by decide) (by decide))) rfl<|?_
 refine mg (X:=Unit) (fun _=>[(9, .ff)]) (fun _=>[]) (fun _=>True) [9] [] rfl ?_ (fun _=>rfl) (fun _ _=>?_)
 ·
  refine gx rfl<|?_
  refine cs (fu1:=⟨1⟩) 12 J J J (fun hg12=>?_) (fun hg12=>?_)
  ·
   refine knF rfl (by show some (decide _)=some false;rw[decide_eq_false (by omega)]) rfl<|?_
   exact at_ () trivial
  ·
   exact at_ () trivial
 ·
  refine br J J J (fun hc29=>?_) (fun hc29=>?_)
  ·
   refine cm rfl (fun b=>(aEE hes hk0)) rfl<|cl rfl (acK (p:=true)) rfl<|cl (fu:=⟨1⟩) rfl (acK (p:=false)) rfl<|bxf J J<|cl rfl (aei (t:= .node (lF es (aaf es 6 a).2).1 (.leaf true) (.leaf false)) ⟨⟨hl.bl⟩,trivial,trivial⟩ ⟨hl.ok,trivial,trivial⟩ (by simp[Tr.depth])) rfl<|?_
   exact rzM hmb J J (by rw[show aao es 0 a=_ from if_pos hc29];rfl) (by rw[show aao es 0 a=_ from if_pos hc29])
  ·
   refine br J J J (fun hc39=>?_) (fun hc39=>?_)
   ·
    refine cm rfl (fun b=>(asi (d:=3) hes hk0 (by decide))) rfl<|cl rfl (aei (t:=(abq es 3 (aaf es 6 a).2).1) ht.lb ht.ok (by have:=ht.dp;omega)) rfl<|?_
    exact rzM hmb J J (by rw[show aao es 0 a=_ from(if_neg hc29).trans (if_pos hc39)];rfl) (by rw[show aao es 0 a=_ from(if_neg hc29).trans (if_pos hc39)])
   ·
    refine br J J J (fun hc45=>?_) (fun hc45=>?_)
    ·
     refine cm rfl (fun b=>(agi hes hk0)) rfl<|cl rfl afB rfl<|?_
     exact rzM hmb J J (by rw[show aao es 0 a=_ from(if_neg hc29).trans ((if_neg hc39).trans (if_pos hc45))];rfl) (by rw[show aao es 0 a=_ from(if_neg hc29).trans ((if_neg hc39).trans (if_pos hc45))])
    ·
     refine cm rfl (fun b=>(agi hes hk0)) rfl<|?_
     exact rzM hmb J J (by rw[show aao es 0 a=_ from(if_neg hc29).trans ((if_neg hc39).trans (if_neg hc45))];rfl) (by rw[show aao es 0 a=_ from(if_neg hc29).trans ((if_neg hc39).trans (if_neg hc45))])
theorem alA{b:Nat}{es:List Int}(hes:es.length≤400){a:Nat}(ha:a≤es.length){d:Nat}{n:Int}(hn:n=((d+1:Nat):Int))(hd:d≤3)(ih: ∀{GB:Gh} {b a:Nat} {n:Int},a≤es.length→n=(d:Int)→PM GB prog 12 (mkP [none,some (.v (.int .i64 n))] b) b 104 [.sl (es.map vI), .v (.int .i64 (a:Nat))] (eT (aao es d a).1) [.sl (es.map vI), .v (.int .i64 ((aao es d a).2:Nat))]):PM GB prog 12 (mkP [none,some (.v (.int .i64 n))] b) b 104 [.sl (es.map vI), .v (.int .i64 (a:Nat))] (eT (aao es (d+1) a).1) [.sl (es.map vI), .v (.int .i64 ((aao es (d+1) a).2:Nat))]:=by
 have hk0:=aaF (n:=6) ha
 obtain⟨hl,hl2⟩:=aqy hk0
 obtain⟨ht,ht2⟩:=ape hk0
 obtain⟨hb,hb2⟩:=aee hk0
 obtain⟨g1,g2⟩:=ad7 (d:=d) hk0
 have hj:=aaF (n:=4) g2
 have hjl:=abv (es:=es) (n:=4) (a:=(aao es d (aaf es 6 a).2).2) (by decide)
 obtain⟨g3,g4⟩:=ad7 (d:=d) hj
 have hpw:18*2^d≤18*2^3:=dY _ (bK (by decide) hd)
 refine fnM func12 J J ntmps12 J J (fun C b m lo hmb=>?_)
 refine cm rfl (fun b=>(ab9 (n:=6) hes ha (by decide) (by decide))) rfl<|?_
 refine cs (fu1:=⟨1⟩) 12 J J J (fun hg12=>?_) (fun hg12=>?_)
 ·
  refine knT rfl (by show some (decide _)=some true;rw[decide_eq_true (by omega)]) rfl<|cm rfl (fun b=>(ih hk0 (by omega))) rfl<|cm rfl (fun b=>(ab9 (n:=4) hes g2 (by decide) (by decide))) rfl<|?_
  refine cm rfl (fun b=>(ih hj (by omega))) rfl<|cl rfl (akW (op:=1+((aaf es 4 (aao es d (aaf es 6 a).2).2).1:Int)) (t:=(aao es d (aaf es 6 a).2).1) (u:=(aao es d (aaf es 4 (aao es d (aaf es 6 a).2).2).2).1) (c:=[]) g3.gd.lb g3.gd.ok g1.gd.lb g1.gd.ok (fun m h=>by cases h) (fun m h=>by cases h) (by have:=g1.dp;have:=g3.dp;rw[fY];omega)) rfl<|?_
  exact rzM hmb J J (by rw[show aao es (d+1) a=_ from if_pos hg12];show eT (Tr.mergeL _ _ _ _)=eT (Tr.mergeQ _ _ _ _);rw[Tr.mergeL_nil (by omega) g1.gd.ok g3.gd.ok]) (by rw[show aao es (d+1) a=_ from if_pos hg12])
 ·
  refine br J J J (fun hc29=>?_) (fun hc29=>?_)
  ·
   refine cm rfl (fun b=>(aEE hes hk0)) rfl<|cl rfl (acK (p:=true)) rfl<|cl (fu:=⟨1⟩) rfl (acK (p:=false)) rfl<|bxf J J<|cl rfl (aei (t:= .node (lF es (aaf es 6 a).2).1 (.leaf true) (.leaf false)) ⟨⟨hl.bl⟩,trivial,trivial⟩ ⟨hl.ok,trivial,trivial⟩ (by simp[Tr.depth])) rfl<|?_
   exact rzM hmb J J (by rw[show aao es (d+1) a=_ from(if_neg hg12).trans (if_pos hc29)];rfl) (by rw[show aao es (d+1) a=_ from(if_neg hg12).trans (if_pos hc29)])
  ·
   refine br J J J (fun hc39=>?_) (fun hc39=>?_)
   ·
    refine cm rfl (fun b=>(asi (d:=3) hes hk0 (by decide))) rfl<|cl rfl (aei (t:=(abq es 3 (aaf es 6 a).2).1) ht.lb ht.ok (by have:=ht.dp;omega)) rfl<|?_
    exact rzM hmb J J (by rw[show aao es (d+1) a=_ from(if_neg hg12).trans ((if_neg hc29).trans (if_pos hc39))];rfl) (by rw[show aao es (d+1) a=_ from(if_neg hg12).trans ((if_neg hc29).trans (if_pos hc39))])
   ·
    refine br J J J (fun hc45=>?_) (fun hc45=>?_)
    ·
     refine cm rfl (fun b=>(agi hes hk0)) rfl<|cl rfl afB rfl<|?_
     exact rzM hmb J J (by rw[show aao es (d+1) a=_ from(if_neg hg12).trans ((if_neg hc29).trans ((if_neg hc39).trans (if_pos hc45)))];rfl) (by rw[show aao es (d+1) a=_ from(if_neg hg12).trans ((if_neg hc29).trans ((if_neg hc39).trans (if_pos hc45)))])
    ·
     refine cm rfl (fun b=>(agi hes hk0)) rfl<|?_
     exact rzM hmb J J (by rw[show aao es (d+1) a=_ from(if_neg hg12).trans ((if_neg hc29).trans ((if_neg hc39).trans (if_neg hc45)))];rfl) (by rw[show aao es (d+1) a=_ from(if_neg hg12).trans ((if_neg hc29).trans ((if_neg hc39).trans (if_neg hc45)))])
theorem amT{es:List Int}(hes:es.length≤400): ∀{d:Nat} {GB:Gh} {b a:Nat} {n:Int},d≤4→a≤es.length→n=(d:Int)→PM GB prog 12 (mkP [none,some (.v (.int .i64 n))] b) b 104 [.sl (es.map vI), .v (.int .i64 (a:Nat))] (eT (aao es d a).1) [.sl (es.map vI), .v (.int .i64 ((aao es d a).2:Nat))]
 |0,_,_,_,_,_,ha,hn=>alv hes ha hn
 |d+1,_,_,_,_,hd,ha,hn=>alA hes ha hn (by omega) (fun h1 h2=>amT hes (by omega) h1 h2)
theorem as7{es:List Int}(hes:es.length≤400){a d b:Nat}(ha:a≤es.length)(hd:d≤4):PM GB prog 12 (mkP [none,some (.v (.int .i64 (d:Nat)))] b) b 104 [.sl (es.map vI), .v (.int .i64 (a:Nat))] (eT (aao es d a).1) [.sl (es.map vI), .v (.int .i64 ((aao es d a).2:Nat))]:=amT (GB:=GB) hes hd ha rfl
section
variable {GB:Gh} {C:Ctx} {n:Nat} {Q0:Exit→Act→World→Prop} {fr fr' fr1 fr2:FrX} {own own' own1 own2:OwX} {cf cf' cf1 cf2:Cf} {vc vc1 vc2:List Prop}
def aGG(fr:FrX)(cf:Cf):Option Int:=match opC fr cf with
 |some ⟨_, .binOp .and _ x (.const (.int .i64 3)) _,_,_,_,_⟩=>match evX (lkC fr cf) x with
  |some (.d (.v (.int .i64 p)))=>some p
  |_=>none
 |_=>none
end
theorem aBd{es0 es:List Int}(hb:es0.length≤1125899906842624)(he:es=es0.take 400):PN GB prog 11 [.sl (es0.map vI)] 104 Unit (fun _=>[.sl (es.map vI), .v (.int .i64 (0:Nat))]):=by
 subst he;exact aDH hb
theorem apU{k:Nat}{t:Tr}(h:TrX k t):PF GB prog 14 [eT t] (eA t):=az8 h.bl (by have:=h.s;omega)
def aGK(cs:List RL):Option (List LnQ):=if cs.all (fun r=>r.ln.isSome) then some (cs.filterMap RL.ln) else none
def aGB:Option (List LnQ)→DV
 |some ls=> .tp [.sl (ls.map eLn),vB true]
 |none=> .tp [.sl [],vB false]
def aGC:Option aag→DV
 |some c=> .tp [.sl (c.map eFr),vB true]
 |none=> .tp [.sl [],vB false]
theorem abI.nil:abI []:=fun s hs=>by cases hs
def aFI(ai al:Addr)(more:Nat):Option Tr→DV
 |none=> .tp [.v (.pointer none),avn ai]
 |some t=>if 1024<t.depth+more then .tp [.v (.pointer none),avn al] else .tp [eU t, .v .nilIface]
def aGA(ai:Addr)(f:Tr→Tr):Option Tr→Tr ⊕ Addr
 |some t=> .inl (f t)
 |none=> .inr ai
def aFN(ai ae:Addr):Option Tr→Option (List LnQ)→Tr ⊕ Addr
 |some t,some ls=>(match aeT ls [] with
  |some c=> .inl (t.restrict c)
  |none=> .inr ae)
 |_,_=> .inr ai
def aGT(ai:Addr):Option LnQ→Option Tr→DV
 |some m,some t=> .tp [eA (t.restrict (aaM [] m)),eA (t.restrict (aaM [] m.rev)), .v .nilIface]
 |_,_=> .tp [trZ,trZ,avn ai]

section
variable {GB:Gh} {C:Ctx} {n:Nat} {Q0:Exit→Act→World→Prop} {fr fr':FrX} {own own':OwX} {cf cf':Cf} {vc:List Prop} {ops:Array Oper} {r:List Oper} {K:List Kt}
def aGZ(fr:FrX)(cf:Cf):Option (FuncId×Value):=match opC fr cf with
 |some ⟨_, .makeFunc (.func f) ⟨[x]⟩ ⟨[]⟩,_,_,_,_⟩=>match evX (lkC fr cf) x with
  |some (.d (.v pv))=>some (f,pv)
  |_=>none
 |_=>none
def aGN(fr:FrX)(cf:Cf):Option (FuncId×List Value×List DV):=match opC fr cf with
 |some ⟨_, .call ⟨.value fo,args,_⟩,_,_,_,_⟩=>match evX (lkC fr cf) fo,evDs (lkC fr cf) args.toList with
  |some (.d (.v (.func (.func f) ⟨c1⟩ ⟨[]⟩))),some ds=>some (f,c1,ds)
  |_,_=>none
 |_=>none
/-! an array of constants -/
def axN:List (Nat×Operand)→Option (List (Nat×Value))
 |[]=>some []
 |(i, .const v)::t=>match axN t with
  |some l=>some ((i,v)::l)
  |none=>none
 |_::_=>none
def aGq(cf:Cf)(fr:FrX):Option (TypeId×List (Nat×Value)):=match opC fr cf with
 |some ⟨_, .build t ⟨ps⟩,_,_,_,_⟩=>match axN ps with
  |some vs=>some (t,vs)
  |none=>none
 |_=>none
def aGu(fr:FrX)(own:OwX)(cf:Cf):Option (TypeId×Nat×Nat×List FX×Bool×FX):=match opC fr cf with
 |some ⟨_, .store t x y,_,_,_,_⟩=>match evX (lkC fr cf) x with
  |some (.ov nm 0)=>match bkC fr own cf nm with
   |some (.o ty cs lo)=>match evX (lkC fr cf) y with
    |some fv=>some (t,nm,ty,cs,lo,fv)
    |_=>none
   |_=>none
  |_=>none
 |_=>none
def aGD(fr:FrX)(cf:Cf):Option RwA:=match opC fr cf with
 |some ⟨some d, .buildSlice t len parts,_,_,_,_⟩=>match abC tt t with
  |some ⟨.sl e s _,_,_,_⟩=>match azt (lkC fr cf) 0 parts.toList with
   |some ds=>bif auu s ds&&(Nat.beq parts.toList.length len&&(Nat.ble (len*s) 1000&&Nat.blt 0 (len*s))) then some ⟨d,e,s,ds⟩ else none
   |none=>none
  |_=>none
 |_=>none
def aG0(fr:FrX)(cf:Cf):Option (TypeId×List DV):=match opC fr cf with
 |some ⟨_, .load t x,_,_,_,_⟩=>match evX (lkC fr cf) x with
  |some (.ep l)=>some (t,l)
  |_=>none
 |_=>none
def aGL:TypeDesc→Bool
 | .struct _=>false
 | .array _ _=>false
 |_=>true
end
def ePr(a b:Tr):DV:= .ag [eU a,eU b]
def prZ:DV:= .ag [.v (.pointer none), .v (.pointer none)]
theorem aBn{k:Nat}{t:Tr}(h:TrX k t):PF GB prog 108 [eA t] (.tp [eU t,vB true]):=by
 have:=aEo (GB:=GB) (rt:=t.num 0) (aEc h.lb) (aGj (by have:=h.s;omega)) (aB9 h.ok)
 rw[←aDM] at this
 exact this
def mtQ(a:LnQ)(t:List LnQ):List Rat:=t.filterMap fun b=>if crossI a b=0 then none else some (abH a b).x
def aGQ(l:List LnQ)(x:Rat):List PtQ:=(abU (aAt (ysQ l x))).map fun y=>⟨x,y⟩
def atO:Tr→PtQ→Bool
 | .leaf _,_=>true
 | .node l x y,p=>if(l.value p).num.sign=1 then atO x p else if(l.value p).num.sign= -1 then atO y p else false
structure Two (a b:Tr):Prop where
 ga:a.gd
 gb:b.gd
 sa:a.size≤3000
 sb:b.size≤3000
def f1R(x y:Bool):Bool:=x&&!y
def f2R(x y:Bool):Bool:=y&&!x
def f3R(x y:Bool):Bool:=x&&y
def f4R(x y:Bool):Bool:=!x&&!y
def anK(f:Bool→Bool→Bool)(a b:Tr)(k:Nat):Bool:=((fcs a b).take k).any fun p=>f (atQ a p) (atQ b p)
theorem aiK{c:List LnQ}(hok: ∀l∈c,l.ok):afN c=true↔ ∃p,InL c p:=by
 rw[←aej hok]
 unfold afN abY
 cases c with
 |nil=>simp
 |cons a b=>
  rw[if_neg (by simp;omega)]
  simp only[decide_eq_true_eq,aJ,List.isEmpty_cons,Bool.false_or,jL]
  constructor
  ·intro h
   obtain⟨m,hm⟩:=List.exists_mem_of_length_pos (l:=aaI (a::b)) (by omega)
   exact⟨m,aa3.1 hm⟩
  ·rintro ⟨m,hm⟩
   have:=List.length_pos_of_mem (aa3.2 hm)
   omega
def aaY:Tr→List LnQ→List (List LnQ×Bool)
 | .leaf b,c=>if afN c then [(aaI c,b)] else []
 | .node l x y,c=>if afN c then aaY x (aaI c++[l])++aaY y (aaI c++[l.rev]) else []
theorem aen: ∀(t:Tr) (c:List LnQ),(aaY t c).length≤t.size+1
 | .leaf _,c=>by rw[aaY];split<;>simp[Tr.size]
 | .node l x y,c=>by
  have h1:=aen x (aaI c++[l])
  have h2:=aen y (aaI c++[l.rev])
  rw[aaY,Tr.size]
  split
  ·rw[aW];omega
  ·simp
def aGc(c:List LnQ)(p:PtQ):Bool:=c.all fun l=>decide (0<Int.sign (l.value p).num)
def aGt(c:List LnQ):Option PtQ:=(aw9 (an6 c)).find? (aGc c)

def eCl(x:List LnQ×Bool):DV:= .ag [.sl (x.1.map eL),vB x.2]
theorem aC1(l:List (List LnQ×Bool)):acH 2 (l.map eCl):=fun d hd=>by
 obtain⟨x,_,rfl⟩:=bW.1 hd
 exact⟨rfl,rfl⟩
def eSd(c:List LnQ):DV:= .sl (c.map eL)
theorem aAU(l:List (List LnQ)):acH 1 (l.map eSd):=fun d hd=>by
 obtain⟨x,_,rfl⟩:=bW.1 hd
 exact⟨rfl,rfl⟩
theorem amJ{b:Bool}{c:List LnQ}(hc: ∀m∈c,LB m)(hok: ∀m∈c,m.ok)(hn:c.length≤1000):PR GB prog 130 [eT (.leaf b), .sl (c.map eL)] 2 225 ((aaY (.leaf b) c).map eCl):=by
 refine fnR func130 J J ntmps130 J J (fun C hmb=>?_)
 refine cl rfl (anC hc hok (by omega)) rfl<|?_
 refine bb (fu2:=⟨8⟩) J J J (fun hc13=>?_) (fun hc13=>?_)
 ·
  exact aFc J J (by rw[aaY,if_neg (by simpa using hc13)];rfl)
 ·
  refine knT J J J<|ro J J<|?_
  exact rzR J J J (by rw[aaY,if_pos (by simpa using hc13)]<;>rfl)
theorem amu{l:LnQ}{x y:Tr}{c:List LnQ}(hc: ∀m∈c,LB m)(hok: ∀m∈c,m.ok)(hl:LB l)(hlo:l.ok)(hn:c.length+(Tr.node l x y).depth≤1000)(hs:(Tr.node l x y).size≤100000)(ihx: ∀{c:List LnQ},(∀m∈c,LB m)→(∀m∈c,m.ok)→c.length+x.depth≤1000→PR GB prog 130 [eT x, .sl (c.map eL)] 2 225 ((aaY x c).map eCl))(ihy: ∀{c:List LnQ},(∀m∈c,LB m)→(∀m∈c,m.ok)→c.length+y.depth≤1000→PR GB prog 130 [eT y, .sl (c.map eL)] 2 225 ((aaY y c).map eCl)):PR GB prog 130 [eT (.node l x y), .sl (c.map eL)] 2 225 ((aaY (.node l x y) c).map eCl):=by
 haveI:=hl
 have hd:(Tr.node l x y).depth=1+max x.depth y.depth:=rfl
 have hz:(Tr.node l x y).size=1+x.size+y.size:=rfl
 have hcl:=ad5 c
 have go: ∀{P:LnQ→Prop} {k:LnQ},(∀m∈c,P m)→P k→ ∀m∈aaI c++[k],P m:=fun{P k} h1 h2 m hm=>by
  rcases bS.1 hm with h|h
  ·exact h1 m (aa3.1 h).1
  ·rw[aY.1 h];exact h2
 have h1:=aen x (aaI c++[l])
 have h2:=aen y (aaI c++[l.rev])
 refine fnR func130 J J ntmps130 J J (fun C hmb=>?_)
 refine cl rfl (anC hc hok (by omega)) rfl<|?_
 refine bb (fu2:=⟨8⟩) J J J (fun hc13=>?_) (fun hc13=>?_)
 ·
  exact aFc J J (by rw[aaY,if_neg (by simpa using hc13)];rfl)
 ·
  refine knF J J J<|ro0 J J<|ap ((aaI c).map eL) J J (acj _) rfl<|rf J J<|apf ((aaI c++[l]).map eL) rfl (by rw[bX]<;>rfl) (acj [l]) rfl<|?_
  refine cr rfl (ihx (c:=aaI c++[l]) (go hc hl) (go hok hlo) (by rw[aW,dK];omega)) rfl<|ro0 J J<|ap ((aaI c).map eL) J J (acj _) rfl<|?_
  refine cl rfl (aiT (l:=l)) rfl<|rf J J<|apf ((aaI c++[l.rev]).map eL) rfl (by rw[bX]<;>rfl) (acj [l.rev]) rfl<|cr rfl (ihy (c:=aaI c++[l.rev]) (go hc inferInstance) (go hok hlo.rev) (by rw[aW,dK];omega)) rfl<|?_
  refine ap ((aaY x (aaI c++[l])++aaY y (aaI c++[l.rev])).map eCl) rfl (by rw[bX]) (aC1 _) rfl<|?_
  exact rzR J J J (by rw[aaY,if_pos (by simpa using hc13)]<;>rfl)
theorem anT: ∀{t:Tr} {c:List LnQ},t.all LB→t.all LnQ.ok→t.size≤100000→(∀m∈c,LB m)→(∀m∈c,m.ok)→c.length+t.depth≤1000→PR GB prog 130 [eT t, .sl (c.map eL)] 2 225 ((aaY t c).map eCl)
 | .leaf _,_,_,_,_,hc,hk,hn=>amJ hc hk (by omega)
 | .node l x y,c,hb,ho,hs,hc,hk,hn=>amu hc hk hb.1 ho.1 hn hs (fun a b d=>anT hb.2.1 ho.2.1 (by have:(Tr.node l x y).size=1+x.size+y.size:=rfl;omega) a b d) (fun a b d=>anT hb.2.2 ho.2.2 (by have:(Tr.node l x y).size=1+x.size+y.size:=rfl;omega) a b d)
def akw(ps:List (List LnQ×Bool)):List (List LnQ):=(ps.filter (·.2)).map (·.1)
theorem aoG{ps:List (List LnQ×Bool)}{k:Nat}{b:Bool}{e:List LnQ}(h:ps[k]? =some (e,b)):akw (ps.drop k)=(if b then [e] else [])++akw (ps.drop (k+1)):=by
 obtain⟨h1,h2⟩:=bJ.1 h
 rw[aN h1,h2]
 unfold akw
 cases b<;>simp
theorem au8{t:Tr}{ps:List (List LnQ×Bool)}(h:ps=aaY t [])(hb:t.all LB)(ho:t.all LnQ.ok)(hd:t.depth≤1000)(hs:t.size≤100000):PR GB prog 130 [eT t, .sl []] 2 225 (ps.map eCl):=h▸anT (c:=[]) hb ho hs (fun m h=>by cases h) (fun m h=>by cases h) (by rw[fY];omega)
theorem aBj{t:Tr}(hb:t.all LB)(ho:t.all LnQ.ok)(hd:t.depth≤1000)(hs:t.size≤100000):PF GB prog 61 [eT t] (.sl ((akw (aaY t [])).map eSd)):=by
 obtain⟨ps,hps⟩: ∃ps,ps=aaY t []:=⟨_,rfl⟩
 have hpl:=aen t []
 rw[←hps] at hpl
 have hml:(ps.map eCl).length=ps.length:=aJ ..
 refine fn func61 J J ntmps61 J J (fun C=>?_)
 refine cr (fu:=⟨1⟩) rfl (au8 hps hb ho hd hs) rfl<|?_
 refine eqF 8 (.d (vI (ps.length:Nat))) rfl (by rw[hml]<;>rfl) ?_
 refine gx rfl<|?_
 refine nr 3 3 126 1 J J J ?_
 refine lp (X:=List (List LnQ)×Nat) (fun⟨acc,k⟩=>[(9, .d (vI (k:Nat))),(3, .rw 3)]) (fun⟨acc,k⟩=>[(3,some (.b 126 1 (acc.map eSd) true))]) (fun⟨acc,k⟩=>acc++akw (ps.drop k)=akw ps∧k≤ps.length) (fun⟨acc,k⟩=>ps.length-k) ⟨[],0⟩ rfl ⟨rfl,aR _⟩ (fun _=>rfl) (fun⟨acc,k⟩ hk=>?_)
 try dsimp only at hk⊢
 obtain⟨h1,h2⟩:=hk
 have hal:acc.length≤ps.length:=by
  have q1:=congrArg List.length h1
  have q2:(akw ps).length≤ps.length:=by unfold akw;rw[aJ];exact lL ..
  rw[aW] at q1;omega
 have ham:(acc.map eSd).length=acc.length:=aJ ..
 refine br J J J (fun hc10=>?_) (fun hc10=>?_)
 ·
  obtain⟨⟨e,b⟩,hx⟩: ∃x,ps[k]? =some x:=⟨_,aQ (by omega)⟩
  refine lb _ rfl (aal hx) rfl<|?_
  refine bb J J J (fun hc14=>?_) (fun hc14=>?_)
  ·
   refine rf J J<|ap ((acc++[e]).map eSd) rfl (by rw[bX]<;>rfl) (aAU [e]) rfl<|?_
   refine rnE 19 3 rfl ?_
   exact at_ ⟨acc++[e],k+1⟩ (by dsimp only;exact⟨⟨by rw[←h1,aoG hx,if_pos hc14];simp,by omega⟩,(by omega)⟩)
  ·
   exact at_ ⟨acc,k+1⟩ (by dsimp only;exact⟨⟨by rw[←h1,aoG hx,if_neg (by simp at hc14;rw[hc14];decide)];rfl,by omega⟩,(by omega)⟩)
 ·
  obtain rfl:k=ps.length:=by omega
  obtain rfl:acc=akw ps:=by rw[dS] at h1;simpa[akw] using h1
  subst hps
  refine fzE 3 rfl ?_
  exact rz J J
def ePa(x:Bool×aag):DV:= .ag [.sl (x.2.map eFr),eU (.leaf x.1)]
theorem aBP(l:List (Bool×aag)):acH 2 (l.map ePa):=fun d hd=>by
 obtain⟨x,_,rfl⟩:=bW.1 hd
 exact⟨rfl,rfl⟩
theorem afc: ∀(t:Tr) (c:aag),(t.parts c).length≤t.size+1
 | .leaf _,_=>aM _
 | .node l x y,c=>by
  have h1:=afc x (aaM c l)
  have h2:=afc y (aaM c l.rev)
  rw[Tr.parts,aW,Tr.size]
  split<;>split<;>(try simp only[fY])<;>omega
theorem axf{q:Rat}{i:Nat}[h:BQ q i](hi:i≤900000000:=by decide):PF GB prog 83 [eF q] (eR q):=by
 refine fn func83 J J ntmps83 J J (fun C=>?_)
 refine cl rfl (aoq (q:=q) (i:=i) hi) rfl<|cl rfl (ai2 (q:=q) (i:=i) hi) rfl<|?_
 exact rz J J
theorem az5{p:PtQ}{i:Nat}[h:BPt p i](hi:i≤900000000:=by decide):PF GB prog 74 [eZ p] (ePt p):=by
 refine fn func74 J J ntmps74 J J (fun C=>?_)
 refine cl rfl (axf (q:=p.x) (i:=i) hi) rfl<|cl rfl (axf (q:=p.y) (i:=i) hi) rfl<|?_
 exact rz J J
theorem alV{b:Bool}{c:aag}{o:List (Bool×aag)}(hs:o.length≤1000000):PB GB prog 221 (mkB [some (eU (.leaf b)),some (.sl (c.map eFr)),none]) 2 186 (o.map ePa) (fun w=> .v (.slice w.a w.n w.c)) ((o++Tr.parts (.leaf b) c).map ePa):=by
 refine fnQ func221 J J ntmps221 J J (fun C=>?_)
 refine cl (fu:=⟨0⟩) rfl aem rfl<|?_
 refine kbT 12 rfl ?_
 refine gx rfl<|rf J J<|apB ((o++[(b,c)]).map ePa) rfl (by rw[bX]<;>rfl) (aBP [(b,c)]) rfl<|?_
 exact rzQ J J J J
theorem al2{l:LnQ}{x y:Tr}{c:aag}{o:List (Bool×aag)}(hl:LB l)(hlo:l.ok)(hc:abI c)(hn:c.length+(Tr.node l x y).depth≤100000)(hs:o.length+((Tr.node l x y).size+1)≤1000000)(ihx: ∀{c:aag} {o:List (Bool×aag)},abI c→c.length+x.depth≤100000→o.length+(x.size+1)≤1000000→PB GB prog 221 (mkB [some (eU x),some (.sl (c.map eFr)),none]) 2 186 (o.map ePa) (fun w=> .v (.slice w.a w.n w.c)) ((o++Tr.parts x c).map ePa))(ihy: ∀{c:aag} {o:List (Bool×aag)},abI c→c.length+y.depth≤100000→o.length+(y.size+1)≤1000000→PB GB prog 221 (mkB [some (eU y),some (.sl (c.map eFr)),none]) 2 186 (o.map ePa) (fun w=> .v (.slice w.a w.n w.c)) ((o++Tr.parts y c).map ePa)):PB GB prog 221 (mkB [some (eU (.node l x y)),some (.sl (c.map eFr)),none]) 2 186 (o.map ePa) (fun w=> .v (.slice w.a w.n w.c)) ((o++Tr.parts (.node l x y) c).map ePa):=by
 have hk1:=aea c l
 have hk2:=aea c l.rev
 have hd:(Tr.node l x y).depth=1+max x.depth y.depth:=rfl
 have hz:(Tr.node l x y).size=1+x.size+y.size:=rfl
 have hp:=afc x (aaM c l)
 refine fnQ func221 J J ntmps221 J J (fun C=>?_)
 refine cl (fu:=⟨0⟩) rfl aeU rfl<|?_
 refine kbF 12 rfl ?_
 refine gx rfl<|cl rfl (aoZ hlo hc (by omega)) rfl<|?_
 refine bb J J J (fun hc30=>?_) (fun hc30=>?_)
 ·
  have hs2:(o++x.parts (aaM c l)).length+(y.size+1)≤1000000:=by rw[aW];omega
  refine cq ((o++x.parts (aaM c l)).map ePa) rfl (ihx (afZ hlo hc) (by omega) (by omega)) J J<|?_
  refine bb J J J (fun hc38=>?_) (fun hc38=>?_)
  ·
   refine cq _ rfl (ihy (afZ hlo.rev hc) (by omega) (by first|exact hs2|omega)) J J<|?_
   exact rzQ J J J (by simp[Tr.parts,hc30,hc38])
  ·
   exact rzQ J J J (by simp[Tr.parts,hc30,hc38])
 ·
  refine bb J J J (fun hc38=>?_) (fun hc38=>?_)
  ·
   refine cq _ rfl (ihy (afZ hlo.rev hc) (by omega) (by first|exact hs2|omega)) J J<|?_
   exact rzQ J J J (by simp[Tr.parts,hc30,hc38])
  ·
   exact rzQ J J J (by simp[Tr.parts,hc30,hc38])
theorem aos: ∀{t:Tr} {c:aag} {o:List (Bool×aag)},t.all LB→t.all LnQ.ok→abI c→c.length+t.depth≤100000→o.length+(t.size+1)≤1000000→PB GB prog 221 (mkB [some (eU t),some (.sl (c.map eFr)),none]) 2 186 (o.map ePa) (fun w=> .v (.slice w.a w.n w.c)) ((o++Tr.parts t c).map ePa)
 | .leaf _,_,_,_,_,_,_,hs=>alV (by simp only[Tr.size] at hs;omega)
 | .node _ _ _,_,_,hb,ho,hc,hn,hs=>al2 hb.1 ho.1 hc hn hs (fun k1 k2 k3=>aos hb.2.1 ho.2.1 k1 k2 k3) (fun k1 k2 k3=>aos hb.2.2 ho.2.2 k1 k2 k3)
theorem avl{t:Tr}(hb:t.all LB)(ho:t.all LnQ.ok)(hd:t.depth≤100000)(hs:t.size≤900000):PB GB prog 221 (mkB [some (eU t),some (.sl []),none]) 2 186 [] (fun w=> .v (.slice w.a w.n w.c)) ((t.parts []).map ePa):=
 aos (c:=[]) (o:=[]) hb ho abI.nil (by rw[fY];omega) (by rw[fY];omega)
def eC(c:aag):DV:= .sl (c.map eFr)
theorem aEU(l:List aag):acH 1 (l.map eC):=fun d hd=>by
 obtain⟨x,_,rfl⟩:=bW.1 hd
 exact⟨rfl,rfl⟩
def amp(ps:List (Bool×aag)):List aag:=(ps.filter (·.1)).map (·.2)
theorem aiz{ps:List (Bool×aag)}{k:Nat}{b:Bool}{e:aag}(h:ps[k]? =some (b,e)):amp (ps.drop k)=(if b then [e] else [])++amp (ps.drop (k+1)):=by
 obtain⟨h1,h2⟩:=bJ.1 h
 rw[aN h1,h2]
 unfold amp
 cases b<;>simp
theorem ax9{t:Tr}(hb:t.all LB)(ho:t.all LnQ.ok)(hd:t.depth≤100000)(hs:t.size≤900000):PF GB prog 165 [eU t] (.sl ((t.parts []).map ePa)):=by
 refine fn func165 J J ntmps165 J J (fun C=>?_)
 refine cqn _ rfl (avl hb ho hd hs) J J<|?_
 refine fzE 4 rfl ?_
 exact rz J J
theorem arr{t:Tr}(hb:t.all LB)(ho:t.all LnQ.ok)(hd:t.depth≤100000)(hs:t.size≤900000):PF GB prog 128 [eU t] (.sl ((aaS t).map eC)):=by
 obtain⟨ps,hps⟩: ∃ps,ps=t.parts []:=⟨_,rfl⟩
 have hpl:=afc t []
 rw[←hps] at hpl
 have hml:(ps.map ePa).length=ps.length:=aJ ..
 refine fn func128 J J ntmps128 J J (fun C=>?_)
 refine cl (fu:=⟨0⟩) rfl (ax9 hb ho hd hs) rfl<|?_
 refine eqF 7 (.d (.sl (ps.map ePa))) rfl (by rw[hps]) ?_
 refine gx (fu:=⟨1⟩) rfl<|?_
 refine eqF 8 (.d (vI (ps.length:Nat))) rfl (by rw[hml]<;>rfl) ?_
 refine gx rfl<|?_
 refine nr 3 3 178 1 J J J ?_
 refine lp (X:=List aag×Nat) (fun⟨acc,k⟩=>[(9, .d (vI (k:Nat))),(3, .rw 3)]) (fun⟨acc,k⟩=>[(3,some (.b 178 1 (acc.map eC) true))]) (fun⟨acc,k⟩=>acc++amp (ps.drop k)=aaS t∧k≤ps.length) (fun⟨acc,k⟩=>ps.length-k) ⟨[],0⟩ rfl ⟨by rw[hps];rfl,aR _⟩ (fun _=>rfl) (fun⟨acc,k⟩ hk=>?_)
 try dsimp only at hk⊢
 obtain⟨h1,h2⟩:=hk
 have hal:acc.length≤ps.length:=by
  have q1:=congrArg List.length h1
  have q2:(aaS t).length≤ps.length:=by unfold aaS;rw[aJ,hps];exact lL ..
  rw[aW] at q1;omega
 have ham:(acc.map eC).length=acc.length:=aJ ..
 refine br J J J (fun hc10=>?_) (fun hc10=>?_)
 ·
  obtain⟨⟨b,e⟩,hx⟩: ∃x,ps[k]? =some x:=⟨_,aQ (by omega)⟩
  refine ix _ rfl (aal hx) rfl<|?_
  refine bb J J J (fun hc17=>?_) (fun hc17=>?_)
  ·
   refine rf J J<|ap ((acc++[e]).map eC) rfl (by rw[bX]<;>rfl) (aEU [e]) rfl<|?_
   refine rnE 22 3 rfl ?_
   exact at_ ⟨acc++[e],k+1⟩ (by dsimp only;exact⟨⟨by rw[←h1,aiz hx,if_pos hc17];simp,by omega⟩,(by omega)⟩)
  ·
   exact at_ ⟨acc,k+1⟩ (by dsimp only;exact⟨⟨by rw[←h1,aiz hx,if_neg (by simp at hc17;rw[hc17];decide)];rfl,by omega⟩,(by omega)⟩)
 ·
  obtain rfl:k=ps.length:=by omega
  obtain rfl:acc=aaS t:=by rw[dS] at h1;simpa[amp] using h1
  refine fzE 3 rfl ?_
  exact rz J J
theorem ayn{l m:LnQ}(hl:l.ok)(hm:m.ok)(h:aa6 l.dir m.dir=0): ∃k e:Rat,0<k∧ ∀p,m.value p=k*l.value p+e:=by
 obtain⟨h1,h2⟩:=avC.1 h
 have z1:=awX hl
 have key: ∃k:Rat,0<k∧m.dir.x=k*l.dir.x∧m.dir.y=k*l.dir.y:=by
  unfold PtQ.cross at h2
  rcases acM l.dir with⟨e,k⟩|⟨e,k⟩|⟨e,k⟩
  ·rw[e] at h1
   have k2:=akv.1 h1.symm
   rcases k with k|⟨k,k'⟩
   ·have y2:0<m.dir.y:=by
     rcases k2 with k2|⟨k2,k3⟩
     ·exact k2
     ·exfalso
      rw[k2] at h2
      have:=aap k k3
      grind
    refine⟨m.dir.y/l.dir.y,?_,by grind,by grind⟩
    have:0<m.dir.y/l.dir.y:=(aau k).1 (by rw[show m.dir.y/l.dir.y*l.dir.y=m.dir.y by grind];exact y2)
    exact this
   ·rw[k] at h2
    have y2:m.dir.y=0:=by
     rcases nM.1 (show l.dir.x*m.dir.y=0 by grind) with q|q
     ·rw[q] at k';exact absurd k' (by decide)
     ·exact q
    have x2:0<m.dir.x:=by
     rcases k2 with k2|⟨_,k3⟩
     ·rw[y2] at k2;exact absurd k2 (by decide)
     ·exact k3
    refine⟨m.dir.x/l.dir.x,(aau k').1 (by rw[show m.dir.x/l.dir.x*l.dir.x=m.dir.x by grind];exact x2),by grind,by rw[y2,k];grind⟩
  ·rw[e] at h1
   have k2:=akE.1 h1.symm
   rcases k with k|⟨k,k'⟩
   ·have y2:m.dir.y<0:=by
     rcases k2 with k2|⟨k2,k3⟩
     ·exact k2
     ·exfalso
      rw[k2] at h2
      have:=aap (show 0< -l.dir.y by grind) (show 0< -m.dir.x by grind)
      grind
    refine⟨m.dir.y/l.dir.y,(aau (show 0< -l.dir.y by grind)).1 (by rw[show m.dir.y/l.dir.y* -l.dir.y= -m.dir.y by grind];grind),by grind,by grind⟩
   ·rw[k] at h2
    have y2:m.dir.y=0:=by
     rcases nM.1 (show l.dir.x*m.dir.y=0 by grind) with q|q
     ·rw[q] at k';exact absurd k' (by decide)
     ·exact q
    have x2:m.dir.x<0:=by
     rcases k2 with k2|⟨_,k3⟩
     ·rw[y2] at k2;exact absurd k2 (by decide)
     ·exact k3
    refine⟨m.dir.x/l.dir.x,(aau (show 0< -l.dir.x by grind)).1 (by rw[show m.dir.x/l.dir.x* -l.dir.x= -m.dir.x by grind];grind),by grind,by rw[y2,k];grind⟩
  ·exact absurd e z1
 obtain⟨k,k0,kx,ky⟩:=key
 simp only[LnQ.dir] at kx ky
 refine⟨k,(m.c:Rat)-k*(l.c:Rat),k0,fun p=>?_⟩
 rw[acN,acN,kx]
 have:(m.a:Rat)=k*(l.a:Rat):=by grind
 rw[this]
 grind
theorem apq{e:aag}(hne: ∃q,InD e q){l m:LnQ}(hl:l.ok)(hm:m.ok)(pl: ∀p,InD e p→0<l.value p)(pm: ∀p,InD e p→0<m.value p)(tl: ∃p,InC e p∧l.value p=0)(tm: ∃p,InC e p∧m.value p=0)(ha:aa6 l.dir m.dir=0):l=m:=by
 obtain⟨k,c,k0,hk⟩:=ayn hl hm ha
 obtain⟨p,p1,p2⟩:=tl
 obtain⟨q,q1,q2⟩:=tm
 have g1:=aaZ hne pm p1
 rw[hk,p2] at g1
 have g2:=aaZ hne pl q1
 have g3:=aad (dR k0) g2
 rw[hk] at q2
 have c0:c=0:=by grind
 have hz: ∀t,m.value (l.at t)=0:=fun t=>by rw[hk,adY hl.ne,c0];grind
 rcases ae6 hm hl hz with h|h
 ·exact h.symm
 ·exfalso
  obtain⟨u,hu⟩:=hne
  have a:=pl u hu
  have b:=pm u hu
  rw[h,aaW] at b
  grind
theorem akK{c:aag}(hc:aa9 c){s:FrQ}(hs:s∈c):InC c (s.l.at s.v.sample)∧s.l.value (s.l.at s.v.sample)=0:=
 ⟨((hc.edge s hs).2 _).1 (abb (hc.edge s hs).1).has,adY (hc.ok s hs).ne _⟩
def aAd(c:aag):Prop:=(c.map fun s=>s.l.dir).Pairwise Bef
theorem alz{p:Nat→Bool}{N:Nat}(hm: ∀i j,i≤j→j<N→p j=true→p i=true): ∀(d i j:Nat),j-i≤d→i≤j→j≤N→(∀k,k<i→p k=true)→(∀k,j≤k→k<N→p k=false)→(∀k,k<bsq p i j→p k=true)∧ ∀k,bsq p i j≤k→k<N→p k=false
 |0,i,j,h,hij,hN,h1,h2=>by
  obtain rfl:i=j:=by omega
  rw[bsq,dif_neg (by omega)];exact⟨h1,h2⟩
 |d+1,i,j,h,hij,hN,h1,h2=>by
  by_cases q:i<j
  ·rw[bsq,dif_pos q]
   by_cases r:p ((i+j)/2)=true
   ·rw[if_pos r]
    exact alz hm d _ _ (by omega) (by omega) hN (fun k hk=>hm k ((i+j)/2) (by omega) (by omega) r) h2
   ·rw[if_neg r]
    refine alz hm d _ _ (by omega) (by omega) (by omega) h1 fun k hk hkN=>?_
    cases hp:p k with
    |false=>rfl
    |true=>exact absurd (hm _ k hk hkN hp) r
  ·obtain rfl:i=j:=by omega
   rw[bsq,dif_neg q];exact⟨h1,h2⟩
theorem atR{ds:List PtQ}{d:PtQ}{n:Nat}(h:ds.Pairwise Bef)(h1: ∀x∈ds.take n,Bef x d)(h2: ∀x∈ds.drop n,Bef d x):(ds.take n++d::ds.drop n).Pairwise Bef:=by
 have hs:=h
 rw[←jV n ds,fW] at hs
 obtain⟨a,b,c⟩:=hs
 rw[fW]
 refine⟨a,bM.2 ⟨h2,b⟩,fun x hx y hy=>?_⟩
 rcases aS.1 hy with rfl|hy
 ·exact h1 x hx
 ·exact c x hx y hy
theorem aln(l:LnQ): ∀c:aag,((abM l c).map fun s=>s.l.dir).Sublist (c.map fun s=>s.l.dir)
 |[]=>List.Sublist.refl _
 |s::c=>by
  rw[abM]
  split
  ·exact(aln l c).cons_cons _
  ·exact(aln l c).cons _
theorem apo{α:Type}{l:List α}{n:Nat}{x:α}(h:x∈l.take n): ∃i,i<n∧l[i]? =some x:=by
 obtain⟨i,hi,e⟩:=rZ.1 h
 rw[cK] at hi
 exact⟨i,by omega,by rw[List.getElem_take] at e;rw[aQ (by omega),e]⟩
theorem ao6{α:Type}{l:List α}{n:Nat}{x:α}(h:x∈l.drop n): ∃i,n≤i∧i<l.length∧l[i]? =some x:=by
 obtain⟨i,hi,e⟩:=rZ.1 h
 rw[fM] at hi
 exact⟨n+i,by omega,by omega,by rw[List.getElem_drop] at e;rw[aQ (by omega),e]⟩
theorem awu{c:aag}{l:LnQ}(hc:aa9 c)(hl:l.ok)(ha:aAd c)(hb:abi c l=true):aAd (aaM c l):=by
 have hg:=(abn hc hl hb).1
 unfold aaM at hg⊢
 cases hp:ae5 c l with
 |none=>exact ha
 |some v=>
  simp only[hp] at hg⊢
  have hs:aAd (abM l c):=ha.sublist (aln l c)
  have nt: ∀s∈abM l c,aa6 s.l.dir l.dir≠0:=fun s h e=>by
   have m1:s∈an0 (abM l c) l v:=acV.2 (.inr h)
   have m2:(⟨l,v⟩:FrQ)∈an0 (abM l c) l v:=acV.2 (.inl rfl)
   have ee:=apq hg.ne (hg.ok s m1) hl (fun p hp=>hp s m1) (fun p hp=>hp ⟨l,v⟩ m2) ⟨_,akK hg m1⟩ ⟨_,akK hg m2⟩ e
   obtain⟨s0,g1,_,rfl⟩:=acu.1 h
   obtain⟨_,q,q1,q2⟩:=ahe hl.ne hp
   have h5:=q1 s0 g1
   have e5:s0.l=l:=ee
   rw[e5] at h5
   grind
  generalize abM l c=d at*
  have hmo: ∀i j,i≤j→j<d.length→aek d l j=true→aek d l i=true:=fun i j hij hj h=>by
   unfold aek at h⊢
   rw[aQ hj] at h
   rw[aQ (by omega)]
   simp only[decide_eq_true_eq,agY] at h⊢
   by_cases q:i=j
   ·subst q;exact h
   ·have:=oM.1 hs i j (by simp;omega) (by simp;omega) (by omega)
    simp only[qR] at this
    exact ajh this h
  obtain⟨k1,k2⟩:=alz hmo d.length 0 d.length (by omega) (by omega) (aM _) (fun k h=>absurd h (by omega)) (fun k h h'=>absurd h' (by omega))
  unfold an0 aAd
  generalize bsq (aek d l) 0 d.length=n at*
  rw[bX,bN,gX,iZ]
  refine atR hs (fun x hx=>?_) (fun x hx=>?_)
  ·rw[←gX] at hx
   obtain⟨s,h1,rfl⟩:=bW.1 hx
   obtain⟨i,hi,e⟩:=apo h1
   have:=k1 i hi
   unfold aek at this
   rw[e] at this
   simpa[agY] using this
  ·rw[←iZ] at hx
   obtain⟨s,h1,rfl⟩:=bW.1 hx
   obtain⟨i,hi,hi2,e⟩:=ao6 h1
   have:=k2 i hi hi2
   unfold aek at this
   rw[e] at this
   have h3: ¬Bef s.l.dir l.dir:=by simpa[agY] using this
   by_cases q:Bef l.dir s.l.dir
   ·exact q
   ·exact absurd (atK h3 q) (nt s (fU h1))
/-! the reference's canonical sides -/
def auC(c:List LnQ):Prop:=(c.map LnQ.dir).Pairwise Bef
theorem aiv{c:List LnQ}{e:aag}(hs: ∀s∈e,s.l∈c){l:LnQ}(hl:l.ok)(he:(ab1 l c IvQ.all).isSome=true): ∃w:IvQ,w.Pos∧ ∀t,w.ins t→InC e (l.at t)∧l.value (l.at t)=0∧ ∀m∈c,m≠l→0<m.value (l.at t):=by
 obtain⟨w,hw⟩:=pQ.1 he
 obtain⟨h1,h2⟩:=ad6 l c _ w afT hw
 refine⟨w,h1,fun t ht=>?_⟩
 have h3:=((h2 t).1 ht).2
 refine⟨fun s hs'=>?_,adY hl.ne t,h3⟩
 by_cases q:s.l=l
 ·rw[q,adY hl.ne];exact fR
 ·exact dR (h3 _ (hs s hs') q)
theorem asv{α:Type}{p:α→Bool}: ∀(l:List α),(∀i x,i<(l.takeWhile p).length→l[i]? =some x→p x=true)∧ ∀x,l[(l.takeWhile p).length]? =some x→p x=false
 |[]=>⟨fun i x h _=>by simp at h,fun x h=>by simp at h⟩
 |a::l=>by
  obtain⟨h1,h2⟩:=asv (p:=p) l
  rw[mS]
  cases ha:p a with
  |false=>
   refine⟨fun i x h _=>by simp at h,fun x h=>?_⟩
   simp at h
   rw[←h];exact ha
  |true=>
   simp only[if_true,bU]
   refine⟨fun i x h e=>?_,fun x h=>h2 x (by simpa using h)⟩
   cases i with
   |zero=>simp at e;rw[←e];exact ha
   |succ i=>exact h1 i x (by omega) (by simpa using e)
theorem am5{out:List LnQ}{l:LnQ}(ha:auC out)(ht: ∀m∈out,aa6 m.dir l.dir=0→m=l):auC (acl out l):=by
 unfold acl
 split
 ·exact ha
 ·rename_i hne
  obtain⟨k1,k2⟩:=asv (p:=fun x:LnQ=>decide (aa6 x.dir l.dir<0)) out
  have e0:adK out l=(out.takeWhile fun x=>decide (aa6 x.dir l.dir<0)).length:=rfl
  rw[←e0] at k1 k2
  generalize adK out l=n at*
  unfold auC
  rw[bX,bN,gX,iZ]
  refine atR ha (fun x hx=>?_) (fun x hx=>?_)
  ·rw[←gX] at hx
   obtain⟨m,h1,rfl⟩:=bW.1 hx
   obtain⟨i,hi,e⟩:=apo h1
   simpa[agY] using k1 i m hi e
  ·rw[←iZ] at hx
   obtain⟨m,h1,rfl⟩:=bW.1 hx
   obtain⟨i,hi,hi2,e⟩:=ao6 h1
   have hn:n<out.length:=by omega
   have h3: ¬Bef (out[n]).dir l.dir:=by simpa[agY] using k2 _ (aQ hn)
   have h4:Bef l.dir (out[n]).dir:=by
    by_cases q:Bef l.dir (out[n]).dir
    ·exact q
    ·exact absurd (by rw[aQ hn,ht _ (cZ hn) (atK h3 q)]) hne
   by_cases q:i=n
   ·subst q
    rw[aQ hn] at e
    cases e
    exact h4
   ·have:=oM.1 ha n i (by simp;omega) (by simp;omega) (by omega)
    simp only[qR] at this
    rw[aQ hi2] at e
    cases e
    exact ajh h4 this
theorem ahv{c:List LnQ}(ht: ∀l∈c,∀m∈c,(ab1 l c IvQ.all).isSome=true→(ab1 m c IvQ.all).isSome=true→aa6 m.dir l.dir=0→m=l): ∀{t out:List LnQ},(∀l∈t,l∈c)→(∀m∈out,m∈c∧(ab1 m c IvQ.all).isSome=true)→auC out→auC (adR c t out)
 |[],out,_,_,ha=>ha
 |l::t,out,hc,ho,ha=>by
  have hl:=hc l aZ
  rw[adR]
  by_cases q:(ab1 l c IvQ.all).isSome=true
  ·rw[if_pos q]
   refine ahv ht (fun l h=>hc l (aK _ h)) (fun m hm=>?_) (am5 ha fun m hm e=>ht l hl m (ho m hm).1 q (ho m hm).2 e)
   rcases afd.1 hm with rfl|h
   ·exact⟨hl,q⟩
   ·exact ho m h
  ·rw[if_neg q]
   exact ahv ht (fun l h=>hc l (aK _ h)) ho ha
theorem aqw{c:List LnQ}(hok: ∀l∈c,l.ok)(hne: ∃p,InL c p):auC (aaI c):=by
 obtain⟨e,_,hg,hi,hs⟩:=aep hok hne
 refine ahv (fun l hl m hm el em h=>?_) (fun l h=>h) (fun m h=>by cases h) .nil
 obtain⟨w1,p1,k1⟩:=aiv (fun s h=>(hs s h).1) (hok l hl) el
 obtain⟨w2,p2,k2⟩:=aiv (fun s h=>(hs s h).1) (hok m hm) em
 obtain⟨a1,a2,_⟩:=k1 _ (abb p1)
 obtain⟨b1,b2,_⟩:=k2 _ (abb p2)
 exact apq hg.ne (hok m hm) (hok l hl) (fun p hp=>(hi p).1 hp m hm) (fun p hp=>(hi p).1 hp l hl) ⟨_,b1,b2⟩ ⟨_,a1,a2⟩ h
theorem ard{v:IvQ}{t u:Rat}(h:v.ins t)(k:v.has u):v.ins ((t+u)*(1/2)):=by
 obtain⟨lo,hi,nl,nh⟩:=v
 unfold IvQ.ins at*
 unfold IvQ.has at k
 cases nl<;>cases nh<;>simp at* <;>grind
theorem aib{c d:aag}(hc: ∃q,InD c q)(h: ∀p,InD c p↔InD d p){p:PtQ}(hp:InC c p):InC d p:=fun s hs=>aaZ hc (fun q hq=>(h q).1 hq s hs) hp
theorem as3{c:List LnQ}{d:aag}(hok: ∀l∈c,l.ok)(hd:aa9 d)(h: ∀p,InD d p↔InL c p)(l:LnQ):l∈d.map (·.l)↔l∈aaI c:=by
 have hne: ∃p,InL c p:=hd.ne.elim fun q hq=>⟨q,(h q).1 hq⟩
 obtain⟨e,_,hg,hi,hs⟩:=aep hok hne
 have hde: ∀p,InD d p↔InD e p:=fun p=>by rw[h,hi]
 constructor
 ·intro hl
  obtain⟨s,k,rfl⟩:=bW.1 hl
  obtain⟨t1,t2⟩:=akK hd k
  have t3:=aib hd.ne hde t1
  have: ¬InD e (s.l.at s.v.sample):=fun q=>by
   have:=(hde _).2 q s k
   rw[t2] at this;exact absurd this (by decide)
  obtain⟨u,hu,hz⟩: ∃u∈e,u.l.value (s.l.at s.v.sample)=0:=by
   by_cases q: ∃u∈e,u.l.value (s.l.at s.v.sample)=0
   ·exact q
   ·exfalso
    refine this fun u hu=>?_
    have g1:=t3 u hu
    have g2:u.l.value (s.l.at s.v.sample)≠0:=fun e=>q ⟨u,hu,e⟩
    grind
  have:=amF hd k (hg.ok u hu) (fun p hp=>(hde p).1 hp u hu) hz
  rw[←this]
  exact aa3.2 (hs u hu)
 ·intro hl
  obtain⟨l1,l2⟩:=aa3.1 hl
  obtain⟨w,p1,k1⟩:=aiv (fun s h=>(hs s h).1) (hok l l1) l2
  have hed: ∀p,InD e p↔InD d p:=fun p=>(hde p).symm
  have hi1:=abb p1
  obtain⟨⟨u1,m1,n1⟩,⟨u2,m2,n2⟩⟩:=alh hi1
  have g1:=ard hi1 n1
  have g2:=ard hi1 n2
  obtain⟨c0,c1,_⟩:=k1 _ hi1
  have c2:=aib hg.ne hed c0
  have: ¬InD d (l.at w.sample):=fun q=>by
   have:=(h _).1 q l l1
   rw[c1] at this;exact absurd this (by decide)
  obtain⟨s,hsd,hz⟩: ∃s∈d,s.l.value (l.at w.sample)=0:=by
   by_cases q: ∃u∈d,u.l.value (l.at w.sample)=0
   ·exact q
   ·exfalso
    refine this fun u hu=>?_
    have g1:=c2 u hu
    have g2:u.l.value (l.at w.sample)≠0:=fun e=>q ⟨u,hu,e⟩
    grind
  have e1:=aib hg.ne hed (k1 _ g1).1 s hsd
  have e2:=aib hg.ne hed (k1 _ g2).1 s hsd
  rw[ab7] at hz e1 e2
  have hK:l.cutK s.l=0:=by
   rcases acO (l.cutK s.l) with h|h|h
   ·exact h
   ·exfalso
    have:=aap (a:=w.sample-u1) (b:=l.cutK s.l) (by grind) h
    grind
   ·exfalso
    have:=aap (a:=u2-w.sample) (b:= -l.cutK s.l) (by grind) (by grind)
    grind
  have hz2: ∀t,s.l.value (l.at t)=0:=fun t=>by rw[ab7,hK];rw[hK] at hz;grind
  rcases ae6 (hd.ok s hsd) (hok l l1) hz2 with q|q
  ·rw[←q];exact gS hsd
  ·exfalso
   obtain⟨u,hu⟩:=hd.ne
   have a:=hu s hsd
   have b:=(h u).1 hu l l1
   rw[q,aaW] at a
   grind
theorem ath: ∀{l m:List LnQ},auC l→auC m→(∀x,x∈l↔x∈m)→l=m
 |[],[],_,_,_=>rfl
 |[],b::m,_,_,h=>absurd ((h b).2 aZ) (by simp)
 |a::l,[],_,_,h=>absurd ((h a).1 aZ) (by simp)
 |a::l,b::m,h1,h2,h=>by
  obtain⟨p1,p2⟩:=bM.1 h1
  obtain⟨q1,q2⟩:=bM.1 h2
  have p1': ∀x∈l,Bef a.dir x.dir:=fun x hx=>p1 _ (gS hx)
  have q1': ∀x∈m,Bef b.dir x.dir:=fun x hx=>q1 _ (gS hx)
  have e:a=b:=by
   rcases aS.1 ((h a).1 aZ) with e|e
   ·exact e
   ·rcases aS.1 ((h b).2 aZ) with f|f
    ·exact f.symm
    ·exact(av0 (q1' a e) (p1' b f)).elim
  subst e
  congr 1
  refine ath p2 q2 fun x=>⟨fun hx=>?_,fun hx=>?_⟩
  ·rcases aS.1 ((h x).1 (aK _ hx)) with e|e
   ·subst e;exact(aod _ (p1' _ hx)).elim
   ·exact e
  ·rcases aS.1 ((h x).2 (aK _ hx)) with e|e
   ·subst e;exact(aod _ (q1' _ hx)).elim
   ·exact e
theorem avT{c:List LnQ}{d:aag}(hok: ∀l∈c,l.ok)(hd:aa9 d)(ha:aAd d)(h: ∀p,InD d p↔InL c p):aaI c=d.map (·.l):=by
 refine ath (aqw hok (hd.ne.elim fun q hq=>⟨q,(h q).1 hq⟩)) ?_ fun x=>(as3 hok hd h x).symm
 unfold auC
 rw[qK]
 exact ha
theorem atU{c:List LnQ}(h:afN c≠true)(t:Tr):aaY t c=[]:=by
 cases t<;>rw[aaY,if_neg h]
theorem ajk: ∀{t:Tr} {c:List LnQ} {d:aag},t.all LnQ.ok→(∀l∈c,l.ok)→aa9 d→aAd d→(∀p,InD d p↔InL c p)→aaY t c=(t.parts d).map fun x=>(x.2.map (·.l),x.1)
 | .leaf b,c,d,_,hok,hd,ha,h=>by
  have hb:afN c=true:=(aiK hok).2 (hd.ne.elim fun q hq=>⟨q,(h q).1 hq⟩)
  rw[aaY,if_pos hb,Tr.parts,avT hok hd ha h];rfl
 | .node l x y,c,d,ht,hok,hd,ha,h=>by
  have hne: ∃p,InL c p:=hd.ne.elim fun q hq=>⟨q,(h q).1 hq⟩
  have hb:afN c=true:=(aiK hok).2 hne
  have hck: ∀m∈aaI c,m.ok:=fun m hm=>hok m (aa3.1 hm).1
  have go: ∀(k:LnQ) (u:Tr),k.ok→u.all LnQ.ok→(∀{c:List LnQ} {d:aag},(∀l∈c,l.ok)→aa9 d→aAd d→(∀p,InD d p↔InL c p)→aaY u c=(u.parts d).map fun x=>(x.2.map (·.l),x.1))→aaY u (aaI c++[k])=(if abi d k then u.parts (aaM d k) else []).map fun x=>(x.2.map (·.l),x.1):=fun k u hk hu ih=>by
   have hok2:=abR hck hk
   have hin: ∀p,InL (aaI c++[k]) p↔InD d p∧0<k.value p:=fun p=>by rw[abx,afg hok hne,h]
   by_cases q:abi d k=true
   ·rw[if_pos q]
    obtain⟨g1,g2⟩:=abn hd hk q
    exact ih hok2 g1 (awu hd hk ha q) fun p=>by rw[g2,hin]
   ·rw[if_neg q]
    refine atU (fun e=>q ((adQ hd hk).2 ?_)) u
    obtain⟨p,hp⟩:=(aiK hok2).1 e
    exact⟨p,(hin p).1 hp⟩
  rw[aaY,if_pos hb,Tr.parts,bX,go l x ht.1 ht.2.1 (fun a b c d=>ajk ht.2.1 a b c d),go l.rev y ht.1.rev ht.2.2 fun a b c d=>ajk ht.2.2 a b c d]
/-! bounded cells -/
def agQ(c:aag):Bool:=!c.isEmpty&&c.all fun s=>!s.v.nl&&!s.v.nh
theorem asZ{c:aag}(hc:aa9 c){s:FrQ}(hs:s∈c)(h:s.v.nh=true): ∀u∈c,0≤u.l.nor.dot s.l.dir:=fun u hu=>by
 obtain⟨p1,p2⟩:=hc.edge s hs
 have hi:=(abb p1).has
 have key: ∀n:Rat,0≤n→0≤u.l.value (s.l.at (s.v.sample+n)):=fun n hn=>((p2 _).1 ⟨hi.1.imp id fun q=>by grind, .inl h⟩) u hu
 have h0:=key 0 (by decide)
 rw[ab7] at h0
 by_cases q:0≤u.l.nor.dot s.l.dir
 ·exact q
 ·exfalso
  have q':0< -(s.l.cutK u.l):=by unfold LnQ.cutK;grind
  have h1:=key ((s.l.cutC u.l+s.v.sample*s.l.cutK u.l+1)/ -(s.l.cutK u.l)) (by
   have:=(aau (s:=(s.l.cutC u.l+s.v.sample*s.l.cutK u.l+1)/ -(s.l.cutK u.l)) q').1 (by rw[show(s.l.cutC u.l+s.v.sample*s.l.cutK u.l+1)/ -(s.l.cutK u.l)* -(s.l.cutK u.l)=s.l.cutC u.l+s.v.sample*s.l.cutK u.l+1 by grind];grind)
   grind)
  rw[ab7] at h1
  have:(s.l.cutC u.l+s.v.sample*s.l.cutK u.l+1)/ -(s.l.cutK u.l)*s.l.cutK u.l= -(s.l.cutC u.l+s.v.sample*s.l.cutK u.l+1):=by grind
  grind
theorem asc{c:aag}(hc:aa9 c){s:FrQ}(hs:s∈c)(h:s.v.nl=true): ∀u∈c,u.l.nor.dot s.l.dir≤0:=fun u hu=>by
 obtain⟨p1,p2⟩:=hc.edge s hs
 have hi:=(abb p1).has
 have key: ∀n:Rat,0≤n→0≤u.l.value (s.l.at (s.v.sample-n)):=fun n hn=>((p2 _).1 ⟨.inl h,hi.2.imp id fun q=>by grind⟩) u hu
 have h0:=key 0 (by decide)
 rw[ab7] at h0
 by_cases q:u.l.nor.dot s.l.dir≤0
 ·exact q
 ·exfalso
  have q':0<s.l.cutK u.l:=by unfold LnQ.cutK;grind
  have h1:=key ((s.l.cutC u.l+s.v.sample*s.l.cutK u.l+1)/s.l.cutK u.l) (by
   have:=(aau (s:=(s.l.cutC u.l+s.v.sample*s.l.cutK u.l+1)/s.l.cutK u.l) q').1 (by rw[show(s.l.cutC u.l+s.v.sample*s.l.cutK u.l+1)/s.l.cutK u.l*s.l.cutK u.l=s.l.cutC u.l+s.v.sample*s.l.cutK u.l+1 by grind];grind)
   grind)
  rw[ab7] at h1
  have:(s.l.cutC u.l+s.v.sample*s.l.cutK u.l+1)/s.l.cutK u.l*s.l.cutK u.l=s.l.cutC u.l+s.v.sample*s.l.cutK u.l+1:=by grind
  grind
def aiQ(c:List LnQ)(v:PtQ):Bool:=c.all fun l=>decide (0≤Int.sign (l.dir.cross v).num)
def anu(c:List LnQ):Bool:=!c.isEmpty&&(c.flatMap fun l=>[l.dir,ajC l.dir]).all fun v=>!aiQ c v
theorem aA9(k:Rat):0≤Int.sign k.num↔0≤k:=by
 have h1:=ahi k
 constructor<;>intro h
 ·by_cases q:0≤k
  ·exact q
  ·exact absurd (h1.2 (by grind)) (by omega)
 ·by_cases q:0≤Int.sign k.num
  ·exact q
  ·exact absurd (h1.1 (by omega)) (by grind)
theorem ak0{c:aag}{v:PtQ}:aiQ (c.map (·.l)) v=true↔ ∀u∈c,0≤u.l.nor.dot v:=by
 unfold aiQ
 rw[List.all_map,eX]
 simp only[Function.comp,decide_eq_true_eq,aA9,ars]
theorem aBx{c:aag}(hc:aa9 c):anu (c.map (·.l))=agQ c:=by
 unfold anu agQ
 congr 1
 ·cases c<;>rfl
 rw[Bool.eq_iff_iff,eX,eX]
 constructor
 ·intro h s hs
  have e1:=h s.l.dir (by rw[fN];exact⟨s.l,gS hs,by simp⟩)
  have e2:=h (ajC s.l.dir) (by rw[fN];exact⟨s.l,gS hs,by simp⟩)
  cases nl:s.v.nl with
  |true=>
   rw[ak0.2 fun u hu=>by
    have:=asc hc hs nl u hu
    unfold ajC PtQ.dot at*
    grind] at e2
   cases e2
  |false=>
   cases nh:s.v.nh with
   |true=>rw[ak0.2 (asZ hc hs nh)] at e1;cases e1
   |false=>rfl
 ·intro h v hv
  obtain⟨l,hl,hv⟩:=fN.1 hv
  obtain⟨s,hs,rfl⟩:=bW.1 hl
  have hb:=h s hs
  obtain⟨p1,p2⟩:=hc.edge s hs
  cases st:aiQ (c.map (·.l)) v with
  |false=>rfl
  |true=>
   exfalso
   have k:=ak0.1 st
   have hi:=(abb p1).has
   have q0:=(p2 _).1 hi
   simp only[bL,fS] at hb
   simp only[aS,iU,or_false] at hv
   rcases hv with rfl|rfl
   ·have hbig:s.v.has (if s.v.sample≤s.v.hi then s.v.hi+1 else s.v.sample):=(p2 _).2 fun u hu=>by
     rw[ab7]
     have a1:=q0 u hu
     rw[ab7] at a1
     have a2:0≤s.l.cutK u.l:=k u hu
     split
     ·have:=aad (a:=s.v.hi+1-s.v.sample) (b:=s.l.cutK u.l) (by grind) a2
      grind
     ·exact a1
    have:=hbig.2
    rw[hb.2] at this
    rcases this with q|q
    ·cases q
    ·split at q<;>grind
   ·have hbig:s.v.has (if s.v.lo≤s.v.sample then s.v.lo-1 else s.v.sample):=(p2 _).2 fun u hu=>by
     rw[ab7]
     have a1:=q0 u hu
     rw[ab7] at a1
     have a2:0≤ -(s.l.cutK u.l):=by have:=k u hu;unfold ajC PtQ.dot at this;unfold LnQ.cutK PtQ.dot;grind
     split
     ·have:=aad (a:=s.v.sample-(s.v.lo-1)) (b:= -(s.l.cutK u.l)) (by grind) a2
      grind
     ·exact a1
    have:=hbig.1
    rw[hb.1] at this
    rcases this with q|q
    ·cases q
    ·split at q<;>grind
def lnU:LnQ:=⟨1,0,0⟩
def atA(c:List LnQ)(i:Nat):List PtQ:=
 if 0<Int.sign ((c.getD i lnU).dir.cross (c.getD ((i+1)%c.length) lnU).dir).num then [abH (c.getD i lnU) (c.getD ((i+1)%c.length) lnU)] else []
def afF(c:List LnQ):List PtQ:=(List.range c.length).flatMap (atA c)
def awv(v:List PtQ)(i:Nat):List PtQ:=[v.getD 0 ⟨0,0⟩,v.getD (i+1) ⟨0,0⟩,v.getD (i+2) ⟨0,0⟩]
def aiA(v:List PtQ):List (List PtQ):=(List.range (v.length-2)).map (awv v)
def awp(cs:List (List LnQ)):List (List PtQ):=cs.flatMap fun c=>aiA (afF c)
theorem ai6{c:List LnQ}{i:Nat}{l m:LnQ}(h1:c[i]? =some l)(h2:c[(i+1)%c.length]? =some m):atA c i=if 0<Int.sign (l.dir.cross m.dir).num then [abH l m] else []:=by
 unfold atA
 rw[aX,aX,h1,h2];rfl
theorem ae4(c:List LnQ)(k:Nat):(List.range (k+1)).flatMap (atA c)=(List.range k).flatMap (atA c)++atA c k:=by
 rw[List.range_succ,lX];simp
theorem ahX(c:List LnQ): ∀k,((List.range k).flatMap (atA c)).length≤k
 |0=>aM _
 |k+1=>by
  have:=ahX c k
  have h2:(atA c k).length≤1:=by unfold atA;split<;>simp
  rw[ae4,aW]
  omega
theorem avV{c:List LnQ}{p:PtQ}(h:p∈afF c): ∃l∈c,∃m∈c,p=abH l m:=by
 obtain⟨i,hi,hp⟩:=fN.1 h
 have hi':=qQ.1 hi
 have e1:=aQ hi'
 have e2:=aQ (l:=c) (dX (i+1) (show 0<c.length by omega))
 rw[ai6 e1 e2] at hp
 split at hp
 ·exact⟨_,cZ _,_,cZ _,aY.1 hp⟩
 ·cases hp
theorem am2(v:List PtQ)(k:Nat):(List.range (k+1)).map (awv v)=(List.range k).map (awv v)++[awv v k]:=by
 rw[List.range_succ,bX];rfl
theorem akl{es:List Int}: ∀{d a:Nat},(aao es d a).1.Red []
 |0,a=>aot es a
 |d+1,a=>by
  rw[aao]
  try dsimp only
  split
  ·exact Tr.merge_red _ _ _ _
  ·split
   ·exact Tr.restrict_red _ _
   ·split
    ·exact Tr.restrict_red _ _
    ·split
     ·exact Tr.compl_red (afz _ _)
     ·exact afz _ _
theorem aqO{es:List Int}{a:Nat}(ha:a≤es.length):TrX 36 (aao es 1 a).1∧(aao es 1 a).2≤es.length∧(aao es 1 a).1.restrict []=(aao es 1 a).1:=by
 obtain⟨h1,h2⟩:=ad7 (d:=1) ha
 exact⟨(ahs.mono h1 (by decide)).x akl (by decide),h2,Tr.red_restrict akl⟩
theorem aCw{t:Tr}(ht:t.all LnQ.ok):((aaY t []).filter (·.2)).map (·.1)=(aaS t).map fun c=>c.map (·.l):=by
 rw[ajk (d:=[]) ht (fun l h=>by cases h) aa9.nil .nil (fun p=>⟨fun _ _ h=>(by cases h),fun _ _ h=>(by cases h)⟩)]
 unfold aaS
 rw[List.filter_map,qK,qK]
 rfl
theorem aoa{t:Tr}(ht:t.all LnQ.ok): ∀c∈aaS t,aa9 c:=fun c hc=>(afm ht aa9.nil (afx.1 hc)).1
end Go.Sx
end
