import Derived.Test.YtefoocgiaegobaaGreatDoorPd16
set_option linter.all false
set_option maxHeartbeats 4000000
set_option maxRecDepth 100000
section
namespace Go.Sx
open Go Go.Proofs Tryz
variable {GB:Gh}
def Tt(p r:ZP):(fB p.q r.q<0↔kv p r<0)/\(fB p.q r.q=0↔kv p r=0):=by
 have e1: ∀a b:Int,bg (a:Rat) (b:Rat)<0↔a<b:=fun a b=>by rw[wY,rZ]
 have e2: ∀a b:Int,bg (a:Rat) (b:Rat)=0↔a=b:=fun a b=>by rw[r7,oX]
 have f1:=e1 p.1 r.1;have f2:=e2 p.1 r.1;have f3:=e1 p.2 r.2;have f4:=e2 p.2 r.2;show(fB ⟨(p.1:Rat),(p.2:Rat)⟩ ⟨(r.1:Rat),(r.2:Rat)⟩<0↔_)/\(fB ⟨(p.1:Rat),(p.2:Rat)⟩ ⟨(r.1:Rat),(r.2:Rat)⟩=0↔_);unfold fB kv;dsimp only;generalize bg (p.1:Rat) (r.1:Rat)=u at*;generalize bg (p.2:Rat) (r.2:Rat)=v at*;by_cases h:p.1<r.1
 ·rw[if_pos (by omega),if_pos h];omega
 ·by_cases h2:r.1<p.1
  ·rw[if_pos (by omega),if_neg h,if_pos h2];omega
  ·rw[if_neg (by omega),if_neg h,if_neg h2]
   by_cases h3:p.2<r.2
   ·rw[if_pos h3];omega
   ·rw[if_neg h3]
    split<;>omega
def KA(x:ZP): ∀l:List ZP,e8 fB x.q (l.map ZP.q)=(ke x l).map ZP.q
 |[]=>rfl
 |u::t=>by
  obtain⟨h1,h2⟩:=Tt u x;rw[bJ,e8,ke,KA x t];by_cases k1:kv u x<0
  ·rw[if_pos (h1.2 k1),if_pos k1];rfl
  ·rw[if_neg (fun e=>k1 (h1.1 e)),if_neg k1]
   by_cases k2:kv u x=0
   ·rw[if_pos (h2.2 k2),if_pos k2];rfl
   ·rw[if_neg (fun e=>k2 (h2.1 e)),if_neg k2];rfl
def ayv(l:List ZP):rB fB (l.map ZP.q)=(ow l).map ZP.q:=by
 have key: ∀(l o:List ZP),(l.map ZP.q).foldl (fun out x=>e8 fB x out) (o.map ZP.q)=(l.foldl (fun out x=>ke x out) o).map ZP.q:=by
  intro l
  induction l with
  |nil=>intro o;rfl
  |cons x t ih=>intro o;rw[bJ,dT,dT,KA,ih]
 exact key l []
def IG(l:List ZP):(l.map ZP.q).map eP=l.map gq:=by rw[List.map_map];rfl
def Jb{l:List ZP}(h: ∀p∈l,ZP.le 100 p)(hn:l.length<=100000):PF GB prog 90 [.sl (l.map gq)] (.sl ((ow l).map gq)):=by
 have:=VY (GB:=GB) (ps:=l.map ZP.q) (GM h) (by rw[aK];exact hn);rw[ayv,IG,IG] at this;exact this
def VI(u v:ZP):(ab.cross (iP u.1 u.2) (iP v.1 v.2))=((qG u v:Int):Rat):=by
 unfold ab.cross iP qG;push_cast;rfl
def Ga(u v:ZP):(ab.cross (iP u.1 u.2) (iP v.1 v.2)).num.sign≠0↔qG u v≠0:=by
 rw[VI,qK];exact not_congr jX
def SN{α β:Type}(f:α->β)(l:List α):((l.map f).take (l.length-1)).drop 0=l.dropLast.map f:=by
 rw[iW,<-jZ,List.dropLast_eq_take]
def My{l:List ZP}(h:0<l.length): ∃u,l.getLast? =some u/\l[l.length-1]? =some u/\l.getD (l.length-1) (0,0)=u:=by
 refine⟨l[l.length-1],?_,aZ (by omega),?_⟩
 ·rw[lY];exact aZ (by omega)
 ·rw[aX,aZ (by omega)];rfl
def UX{l:List ZP}(h:0<l.length): ∃u,l[0]? =some u/\l.getD 0 (0,0)=u:=by
 refine⟨l[0],aZ (by omega),?_⟩;rw[aX,aZ (by omega)];rfl
def Bm{u p:ZP}:(u.1=p.1/\u.2=p.2)↔u=p:=⟨fun h=>Prod.ext h.1 h.2,fun h=>by rw[h];exact⟨J,J⟩⟩
def TW{b:Nat}{es:List Int}(hes:es.length<=400){a:Nat}(ha:a<=es.length):PM GB prog 33 (iC [none] b) b 126 [.sl (es.map vI), .v (.int .i64 (a:Nat))] (jH (gF es a).1) [.sl (es.map vI), .v (.int .i64 ((gF es a).2:Nat))]:=by
 have hk0:=jz (n:=4) ha;refine tM (fu:=⟨6⟩) func33 J J ntmps33 J J (fun C b m lo hmb=>?_);refine mg (X:=Nat) (fun a2=>[]) (fun a2=>[(1000000,some (.o 126 [.d (.sl (es.map vI)), .d (.v (.int .i64 (a2:Nat)))] false))]) (fun a2=>gF es a=og es a2/\a2<=es.length) [] [1000000] rfl ?_ (fun _=>J) (fun a2 ⟨hR,ha2⟩=>?_)
 .
  refine gx J<|cm J (fun b=>(qc (n:=4) hes ha (by decide) (by decide))) J<|?_;refine br J J J (fun hc15=>?_) (fun hc15=>?_)
  .
   have hx1:=jz (n:=5) hk0;have hy1:=jz (n:=5) hx1;have hz1:=jz (n:=4) hy1;have hw1:=jz (n:=4) hz1;have hl0:=ku (es:=es) (n:=5) (a:=(aB es 4 a).2) (by decide);have hl1:=ku (es:=es) (n:=5) (a:=(aB es 5 (aB es 4 a).2).2) (by decide);have hl2:=ku (es:=es) (n:=4) (a:=(aB es 5 (aB es 5 (aB es 4 a).2).2).2) (by decide);have hl3:=ku (es:=es) (n:=4) (a:=(aB es 4 (aB es 5 (aB es 5 (aB es 4 a).2).2).2).2) (by decide);refine cm J (fun b=>(qc (n:=5) hes hk0 (by decide) (by decide))) J<|cm J (fun b=>(qc (n:=5) hes hx1 (by decide) (by decide))) J<|?_;refine cm J (fun b=>(qc (n:=4) hes hy1 (by decide) (by decide))) J<|cm J (fun b=>(qc (n:=4) hes hz1 (by decide) (by decide))) J<|?_;refine cl J (lh (m:=(((aB es 5 (aB es 4 a).2).1:Int)-4)) (n:=(((aB es 5 (aB es 5 (aB es 4 a).2).2).1:Int)-4)) (by omega) (by omega)) J<|?_;refine cl J (lh (m:=(((aB es 5 (aB es 4 a).2).1:Int)-4+1+((aB es 4 (aB es 5 (aB es 5 (aB es 4 a).2).2).2).1:Int))) (n:=(((aB es 5 (aB es 5 (aB es 4 a).2).2).1:Int)-4)) (by omega) (by omega)) J<|?_;refine cl J (lh (m:=(((aB es 5 (aB es 4 a).2).1:Int)-4+1+((aB es 4 (aB es 5 (aB es 5 (aB es 4 a).2).2).2).1:Int))) (n:=(((aB es 5 (aB es 5 (aB es 4 a).2).2).1:Int)-4+1+((aB es 4 (aB es 4 (aB es 5 (aB es 5 (aB es 4 a).2).2).2).2).1:Int))) (by omega) (by omega)) J<|?_;refine cl J (lh (m:=(((aB es 5 (aB es 4 a).2).1:Int)-4)) (n:=(((aB es 5 (aB es 5 (aB es 4 a).2).2).1:Int)-4+1+((aB es 4 (aB es 4 (aB es 5 (aB es 5 (aB es 4 a).2).2).2).2).1:Int))) (by omega) (by omega)) J<|?_;refine rf J J<|?_
   exact lG hmb J J (by rw[show gF es a=_ from if_pos hc15];rfl) (by rw[show gF es a=_ from if_pos hc15];rfl)
  .
   refine br J J J (fun hc46=>?_) (fun hc46=>?_)
   .
    obtain⟨hp1,hp2,hp3⟩:=tY hk0;obtain⟨hu1,hu2,hu3,hu4⟩:=vQ hp3;obtain⟨hv1,hv2,hv3,hv4⟩:=vQ hu4;haveI:=ji (k:=10) (m:=(vF es (pF es (aB es 4 a).2).2).1.1) (by omega) (by decide);haveI:=ji (k:=10) (m:=(vF es (pF es (aB es 4 a).2).2).1.2) (by omega) (by decide);haveI:=ji (k:=10) (m:=(vF es (vF es (pF es (aB es 4 a).2).2).2).1.1) (by omega) (by decide);haveI:=ji (k:=10) (m:=(vF es (vF es (pF es (aB es 4 a).2).2).2).1.2) (by omega) (by decide);refine cm J (fun b=>(H' hes hk0)) J<|cm J (fun b=>(LZ hes hp3)) J<|cm J (fun b=>(LZ hes hu4)) J<|cl J (BD (p:=iP (vF es (pF es (aB es 4 a).2).2).1.1 (vF es (pF es (aB es 4 a).2).2).1.2) (q:=iP (vF es (vF es (pF es (aB es 4 a).2).2).2).1.1 (vF es (vF es (pF es (aB es 4 a).2).2).2).1.2)) J<|?_;refine cl J (px (q:=ab.cross (iP (vF es (pF es (aB es 4 a).2).2).1.1 (vF es (pF es (aB es 4 a).2).2).1.2) (iP (vF es (vF es (pF es (aB es 4 a).2).2).2).1.1 (vF es (vF es (pF es (aB es 4 a).2).2).2).1.2))) J<|?_;refine br J J J (fun hc58=>?_) (fun hc58=>?_)
    .
     refine cl J (kI (n:=1) (by decide) (by decide)) J<|cl J (HX (m:=(pF es (aB es 4 a).2).1.1) (n:=(pF es (aB es 4 a).2).1.2) (m':=(vF es (pF es (aB es 4 a).2).2).1.1) (n':=(vF es (pF es (aB es 4 a).2).2).1.2) (k:=1) (by omega) (by omega) (by omega) (by omega) (by decide)) J<|?_;refine cl J (kI (n:=1) (by decide) (by decide)) J<|cl J (HX (m:=(pF es (aB es 4 a).2).1.1) (n:=(pF es (aB es 4 a).2).1.2) (m':=(vF es (vF es (pF es (aB es 4 a).2).2).2).1.1) (n':=(vF es (vF es (pF es (aB es 4 a).2).2).2).1.2) (k:=1) (by omega) (by omega) (by omega) (by omega) (by decide)) J<|?_;refine rf J J<|?_;exact lG hmb J J (by rw[show gF es a=_ from(if_neg hc15).trans ((if_pos hc46).trans (if_pos ((Ga _ _).1 hc58)))];rfl) (by rw[show gF es a=_ from(if_neg hc15).trans ((if_pos hc46).trans (if_pos ((Ga _ _).1 hc58)))])
    .
     exact at_ (vF es (vF es (pF es (aB es 4 a).2).2).2).2 ⟨(if_neg hc15).trans ((if_pos hc46).trans (if_neg (fun e=>hc58 ((Ga _ _).2 e)))),hv4⟩
   .
    exact at_ (aB es 4 a).2 ⟨(if_neg hc15).trans (if_neg hc46),hk0⟩
 .
  have hj1:=ku (es:=es) (n:=4) (a:=a2) (by decide);have hj2:=jz (n:=4) ha2;refine cm J (fun b=>(qc (n:=4) hes ha2 (by decide) (by decide))) J<|?_;refine nr 10 10 81 6 J J J ?_;refine lp (X:=List ZP×Nat×Nat) (fun⟨r,i,a3⟩=>[(11, .d (vI (i:Nat))),(10, .rw 10)]) (fun⟨r,i,a3⟩=>[(1000000,some (.o 126 [.d (.sl (es.map vI)), .d (.v (.int .i64 (a3:Nat)))] false)),(10,some (.b 81 6 (r.map gq) true))]) (fun⟨r,i,a3⟩=>mv es i a3 r=mv es (3+(aB es 4 a2).1) (aB es 4 a2).2 []/\a3<=es.length/\kt r/\r.length+i<=6) (fun⟨r,i,a3⟩=>i) ⟨[],3+(aB es 4 a2).1,(aB es 4 a2).2⟩ J ⟨J,hj2,kt.nil,by simp;omega⟩ (fun _=>J) (fun⟨r,i,a3⟩ hk=>?_)
  try dsimp only at hk⊢
  obtain⟨h1,h2,h3,h4⟩:=hk;have hrl:(r.map gq).length=r.length:=by simp
  refine br (fu2:=⟨0⟩) J J J (fun hc73=>?_) (fun hc73=>?_)
  .
   obtain⟨j,rfl⟩: ∃j,i=j+1:=⟨i-1,by omega⟩;obtain⟨hq1,hq2,hq3⟩:=tY h2;refine cm (fu:=⟨8⟩) J (fun b=>(H' hes h2)) J<|?_;refine l6 (v1:=fun hg80=>by simp only[ah];kernel_rfl) J J J J (fun hg80=>?_) (fun hg80=>?_)
   .
    have hlast: ¬r.getLast? =some (pF es a3).1:=by rw[bK (l:=r) (by omega)];simp
    refine rf J J<|ap ((r++[(pF es a3).1]).map gq) J (by rw[bT];rfl) (H5 [_]) J<|?_;refine fA 95 10 J ?_;exact at_ ⟨r++[(pF es a3).1],j,(pF es a3).2⟩ (by dsimp only;exact⟨⟨by rw[<-h1,mv,if_neg hlast],hq3,h3.snoc ⟨by omega,by omega⟩ hlast,by simp;omega⟩,(by omega)⟩)
   .
    obtain⟨q,hq,hqi,hqd⟩:=My (l:=r) (by omega);have hqm:=h3.le q (nJ hq);unfold ZP.le at hqm;refine lb (gq q) J (by rw[show(((r.map gq).length:Nat):Int)-1=((r.length-1:Nat):Int) by omega];exact d9 hqi) J<|cl J (E3 (m:=q.1) (n:=q.2) (m':=(pF es a3).1.1) (n':=(pF es a3).1.2) (by omega) (by omega) (by omega) (by omega)) J<|?_;refine bb J J J (fun hc91=>?_) (fun hc91=>?_)
    .
     have hlast: ¬r.getLast? =some (pF es a3).1:=by rw[hq];intro e;have:=Bm.2 (Option.some.inj e);simp[this] at hc91
     refine rf J J<|ap ((r++[(pF es a3).1]).map gq) J (by rw[bT];rfl) (H5 [_]) J<|?_;refine fA 95 10 J ?_;exact at_ ⟨r++[(pF es a3).1],j,(pF es a3).2⟩ (by dsimp only;exact⟨⟨by rw[<-h1,mv,if_neg hlast],hq3,h3.snoc ⟨by omega,by omega⟩ hlast,by simp;omega⟩,(by omega)⟩)
    .
     have hlast:r.getLast? =some (pF es a3).1:=by rw[hq];congr 1;exact Bm.1 (by simpa using hc91)
     exact at_ ⟨r,j,(pF es a3).2⟩ (by dsimp only;exact⟨⟨by rw[<-h1,mv,if_pos hlast],hq3,h3,by omega⟩,(by omega)⟩)
  .
   obtain rfl:i=0:=by omega
   have hg:=h1;rw[mv] at hg;refine pp 10 J ?_;refine gx J<|?_;refine lp (fu:=⟨5⟩) (X:=List ZP×Nat) (fun⟨l,m⟩=>[(10, .d (.sl (l.map gq)))]) (fun⟨l,m⟩=>[]) (fun⟨l,m⟩=>jO m l=jO 6 r/\l.length<=m+1/\kt l/\l.length<=6) (fun⟨l,m⟩=>m) ⟨r,6⟩ J ⟨J,by omega,h3,by omega⟩ (fun _=>J) (fun⟨l,m⟩ hk=>?_)
   try dsimp only at hk⊢
   obtain⟨t1,t2,t3,t4⟩:=hk;have hll:(l.map gq).length=l.length:=by simp
   refine l6 (v2:=fun hg98=>by simp only[ah];kernel_rfl) J J J J (fun hg98=>?_) (fun hg98=>?_)
   .
    obtain⟨q,hqi,hqd⟩:=UX (l:=l) (by omega);obtain⟨q2,hq0,hqi2,hqd2⟩:=My (l:=l) (by omega);have hqm:=t3.le q (bZ hqi);have hqm2:=t3.le q2 (bZ hqi2);unfold ZP.le at hqm hqm2;refine ix _ J (d9 (i:=0) hqi) J<|ix (gq q2) J (by rw[show(((l.map gq).length:Nat):Int)-1=((l.length-1:Nat):Int) by omega];exact d9 hqi2) J<|?_;refine cl J (E3 (m:=q.1) (n:=q.2) (m':=q2.1) (n':=q2.2) (by omega) (by omega) (by omega) (by omega)) J<|?_;refine bd J J J (fun hc110=>?_) (fun hc110=>?_)
    .
     have hcond:1<l.length/\l.getD 0 (0,0)=l.getD (l.length-1) (0,0):=⟨by omega,by rw[hqd,hqd2];exact Bm.1 hc110⟩;refine k9 0 (l.length-1) (l.dropLast.map gq) J J (by omega) (SN gq l) (H5 l) (bQ _) (by omega) J<|?_;exact at_ ⟨l.dropLast,m-1⟩ (by dsimp only;exact⟨⟨by rw[<-t1];obtain⟨m,rfl⟩: ∃q,m=q+1:=⟨m-1,by omega⟩;rw[jO,if_pos hcond];rfl,by rw[iZ];omega,t3.drop,by rw[iZ];omega⟩,(by omega)⟩)
    .
     have hcond: ¬(1<l.length/\l.getD 0 (0,0)=l.getD (l.length-1) (0,0)):=fun e=>hc110 (Bm.2 (by rw[<-hqd,<-hqd2];exact e.2));refine cl (fu:=⟨1⟩) J (Jb (l:=l) t3.le (by omega)) J<|?_;have hgen:jO 6 r=l:=by rw[<-t1];cases m with|zero=>rfl|succ m=>rw[jO,if_neg hcond]
     refine ak 118 (.d (vI ((ow l).length:Nat))) J (by rw[aK];rfl) ?_;refine gx J<|?_;refine br J J J (fun hc119=>?_) (fun hc119=>?_)
     .
      have hfin:gF es a=(wq,a3):=by rw[hR,og,<-hg,hgen,if_pos (by omega)]
      refine cl J (lh (m:=0) (n:=0) (by decide) (by decide)) J<|cl J (lh (m:=2) (n:=0) (by decide) (by decide)) J<|cl J (lh (m:=0) (n:=2) (by decide) (by decide)) J<|?_;refine rf J J<|?_;exact lG hmb J J (by rw[hfin];rfl) (by rw[hfin])
     .
      have hfin:gF es a=(l,a3):=by rw[hR,og,<-hg,hgen,if_neg (by omega)]
      exact lG hmb J J (by rw[hfin];rfl) (by rw[hfin])
   .
    have hcond: ¬(1<l.length/\l.getD 0 (0,0)=l.getD (l.length-1) (0,0)):=fun e=>by omega
    refine cl (fu:=⟨1⟩) J (Jb (l:=l) t3.le (by omega)) J<|?_;have hgen:jO 6 r=l:=by rw[<-t1];cases m with|zero=>rfl|succ m=>rw[jO,if_neg hcond]
    refine ak 118 (.d (vI ((ow l).length:Nat))) J (by rw[aK];rfl) ?_;refine gx J<|?_;refine br J J J (fun hc119=>?_) (fun hc119=>?_)
    .
     have hfin:gF es a=(wq,a3):=by rw[hR,og,<-hg,hgen,if_pos (by omega)]
     refine cl J (lh (m:=0) (n:=0) (by decide) (by decide)) J<|cl J (lh (m:=2) (n:=0) (by decide) (by decide)) J<|cl J (lh (m:=0) (n:=2) (by decide) (by decide)) J<|?_;refine rf J J<|?_;exact lG hmb J J (by rw[hfin];rfl) (by rw[hfin])
    .
     have hfin:gF es a=(l,a3):=by rw[hR,og,<-hg,hgen,if_neg (by omega)]
     exact lG hmb J J (by rw[hfin];rfl) (by rw[hfin])
def HR:DV:= .v (.pointer none)
def V8(l:aa)(p q:DV):List DV:=[.v (.bool false), .v (.bool false), .v (.bool (decide (l.a<0))),dN l.a.natAbs, .v (.bool (decide (l.b<0))),dN l.b.natAbs, .v (.bool (decide (l.c<0))),dN l.c.natAbs,p,q]
inductive RF (ns:List RN):Int->(Nat->Bool)->DV->Bool->(Nat->Bool)->Prop where
 |leaf (b:Bool) (f:Nat->Bool):RF ns (AL b) f (eT (.leaf b)) true f
 |mn (rt:Int) (f:Nat->Bool) (h1:rt≠ -1) (h2:rt≠ -2) (h:rt<0\/(ns.length:Int)<=rt\/(∃k:Nat,rt=k/\k<ns.length/\f k=true)):RF ns rt f HR false f
 |line (k:Nat) (n:RN) (f:Nat->Bool) (h:ns[k]? =some n) (hf:f k=false) (hl:n.g.ln=none):RF ns (k:Int) f HR false (tK f k)
 |left (k:Nat) (n:RN) (l:aa) (f f2:Nat->Bool) (p:DV) (h:ns[k]? =some n) (hf:f k=false) (hl:n.g.ln=some l) (h1:RF ns n.l (tK f k) p false f2):RF ns (k:Int) f HR false f2
 |node (k:Nat) (n:RN) (l:aa) (f f2 f3:Nat->Bool) (p q:DV) (ok:Bool) (h:ns[k]? =some n) (hf:f k=false) (hl:n.g.ln=some l) (h1:RF ns n.l (tK f k) p true f2) (h2:RF ns n.r f2 q ok f3):RF ns (k:Int) f (.pt (V8 l p q)) ok f3
def aHH(n:Nat)(f:Nat->Bool):Bool:=(List.range n).all f
def RN.of(n:NQ):RN:=⟨⟨decide (n.l.a<0),dg n.l.a.natAbs,decide (n.l.b<0),dg n.l.b.natAbs,decide (n.l.c<0),dg n.l.c.natAbs⟩,n.a,n.b⟩
def Du(ns:List NQ):Tr->Int->List Nat->Prop
 | .leaf b,rt,L=>rt=AL b/\L=[]
 | .node l x y,rt,L=> ∃(k:Nat) (a b:Int) (L1 L2:List Nat),rt=(k:Int)/\ns[k]? =some ⟨l,a,b⟩/\Du ns x a L1/\Du ns y b L2/\L=k::(L1++L2)
def RD'(ns:List NQ)(t:Tr)(rt:Int):Prop:= ∃L,Du ns t rt L/\L.Nodup/\L.length=ns.length
def Tr.all_imp{p q:aa->Prop}(h: ∀l,p l->q l): ∀{t:Tr},t.all p->t.all q
 | .leaf _,_=>trivial
 | .node _ _ _,⟨h0,h1,h2⟩=>⟨h _ h0,Tr.all_imp h h1,Tr.all_imp h h2⟩
def Ta:aa:=⟨0,1,0⟩
def t00:Tr:= .node Ta (.leaf true) (.leaf false)
def m8.red_size{k:Nat}{t:Tr}(h:m8 k t)(hr:t.Red []):t.size<=k*(1+k):=by
 obtain⟨K,h1,h2,h3⟩:=h.am;exact cR (Tr.size_le h2 hr h.gd.ok di.nil h3) (kX h1 (by omega))
structure rg (k:Nat) (t:Tr):Prop where
 o:m8 k t
 s:t.size<=3000
def rg.lb{k:Nat}{t:Tr}(h:rg k t):t.all LB:=h.o.gd.lb
def rg.bl{k:Nat}{t:Tr}(h:rg k t):t.all (fun l=>BL l 96):=Tr.all_imp (fun _ h=>h.bl) h.o.gd.lb
def m8.x{k:Nat}{t:Tr}(h:m8 k t)(hr:t.Red [])(hk:k<=54):rg k t:=
 ⟨h,cR (h.red_size hr) (cR (kX hk (show 1+k<=55 by omega)) (by decide))⟩
def Nx(rs:List (List ZP))(fill:Int):(kg rs fill).Red []:=Tr.restrict_red _ _
def aHd(es:List Int)(a:Nat):(Tr×Tr)×Nat:=
 let x:=rh es 0 a
 let y:=rh es 0 x.2
 let k:=aB es 3 y.2
 let u:=if(k.1:Int)=0 then ly es 3 k.2 else(x.1,k.2)
 let j:=aB es 3 u.2
 let v:=if(j.1:Int)=0 then ly es 3 j.2 else(y.1,j.2)
 ((u.1,v.1),v.2)
def aGX(es:List Int)(a:Nat):(Tr×Tr)×Nat:=
 let x:=rh es 0 a
 let y:=rh es 0 x.2
 let k:=aB es 6 y.2
 if(k.1:Int)=0 then((x.1, .node (lF es k.2).1 x.1 x.1),(lF es k.2).2)
 else if(k.1:Int)=1 then((x.1,y.1.mergeQ 1 x.1 []),k.2)
 else if(k.1:Int)=2 then((x.1,y.1.mergeQ 3 x.1 []),k.2)
 else if(k.1:Int)=3 then((x.1,(ly es 3 k.2).1),(ly es 3 k.2).2)
 else((x.1,y.1),k.2)
def Ox(es:List Int):Nat->Nat->List Tr×Nat
 |0,a=>([],a)
 |n+1,a=>((rh es 0 a).1::(Ox es n (rh es 0 a).2).1,(Ox es n (rh es 0 a).2).2)
def WK(r:List ZP)(i k:Nat):Bool:=decide (k=i)||decide (k=(i+1)%r.length)||decide (0<rm (r.getD i (0,0)).q (d8 r i).q (r.getD k (0,0)).q)
def aEg(r:List ZP):Bool:=(List.range r.length).all fun i=>(List.range r.length).all fun k=>WK r i k
section
variable {GB:Gh} {C:aC} {n:Nat} {Q0:Exit->Act->World->Prop} {fr fr' fr1 fr2:aA} {own own' own1 own2:aH} {cf cf' cf1 cf2:Cf} {vc vc1 vc2:List Prop}
def aIE(fr:aA)(cf:Cf):Option Int:=match b6 fr cf with
 |some ⟨_, .binOp .and _ x (.const (.int .i64 3)) _,_,_,_,_⟩=>match aO (bu fr cf) x with
  |some (.d (.v (.int .i64 p)))=>some p
  |_=>none
 |_=>none
end
def aC4{es0 es:List Int}(hb:es0.length<=1125899906842624)(he:es=es0.take 400):PN GB prog 15 [.sl (es0.map vI)] 126 Unit (fun _=>[.sl (es.map vI), .v (.int .i64 (0:Nat))]):=by
 subst he;exact S1 hb
def Yt{s t:Tr}(hs:s.all (fun l=>BL l 96))(h:t=s)(hn:s.size<=1000000):PF GB prog 21 [eA s,eA t] (.v (.bool true)):=by
 subst h;have:=Ud (GB:=GB) hs hs hn;rw[decide_eq_true (⟨J,J⟩:_/\_)] at this;exact this
def UE{k:Nat}{t:Tr}(h:rg k t):PF GB prog 22 [eT t] (eA t):=S8 h.bl (by have:=h.s;omega)
def T'{k:Nat}{s t:Tr}(hs:rg k s)(h:t=s):PF GB prog 21 [eA s,eA t] (.v (.bool true)):=Yt hs.bl h (by have:=hs.s;omega)
def aIe(cs:List RL):Option (List aa):=if cs.all (fun r=>r.ln.isSome) then some (cs.filterMap RL.ln) else none
def aIF:Option (List aa)->DV
 |some ls=> .tp [.sl (ls.map eB),vB true]
 |none=> .tp [.sl [],vB false]
def aIh:Option aE->DV
 |some c=> .tp [.sl (c.map bj),vB true]
 |none=> .tp [.sl [],vB false]
def aGE(ai al:Addr)(more:Nat):Option Tr->DV
 |none=> .tp [.v (.pointer none),z7 ai]
 |some t=>if 1024<t.depth+more then .tp [.v (.pointer none),z7 al] else .tp [eU t, .v .nilIface]
def aHK(ai:Addr)(f:Tr->Tr):Option Tr->Tr ⊕ Addr
 |some t=> .inl (f t)
 |none=> .inr ai
def aGD(ai ae:Addr):Option Tr->Option (List aa)->Tr ⊕ Addr
 |some t,some ls=>(match o4 ls [] with
  |some c=> .inl (t.restrict c)
  |none=> .inr ae)
 |_,_=> .inr ai
def aH5(ai:Addr):Option aa->Option Tr->DV
 |some m,some t=> .tp [eA (t.restrict (bD [] m)),eA (t.restrict (bD [] m.rev)), .v .nilIface]
 |_,_=> .tp [Fc,Fc,z7 ai]

def ePr(a b:Tr):DV:= .ag [eU a,eU b]
def prZ:DV:= .ag [.v (.pointer none), .v (.pointer none)]
def mtQ(a:aa)(t:List aa):List Rat:=t.filterMap fun b=>if crossI a b=0 then none else some (fD a b).x
def aIf(l:List aa)(x:Rat):List ab:=(c6 (FC (N0 l x))).map fun y=>⟨x,y⟩
def KX:Tr->ab->Bool
 | .leaf _,_=>true
 | .node l x y,p=>if(l.value p).num.sign=1 then KX x p else if(l.value p).num.sign= -1 then KX y p else false
structure Two (a b:Tr):Prop where
 ga:a.gd
 gb:b.gd
 sa:a.size<=3000
 sb:b.size<=3000
def f1R(x y:Bool):Bool:=x&&!y
def f2R(x y:Bool):Bool:=y&&!x
def f3R(x y:Bool):Bool:=x&&y
def f4R(x y:Bool):Bool:=!x&&!y
def anK(f:Bool->Bool->Bool)(a b:Tr)(k:Nat):Bool:=((Eb a b).take k).any fun p=>f (tC a p) (tC b p)
def Kz:Tr->List aa->List (List aa×Bool)
 | .leaf b,c=>if zq c then [(il c,b)] else []
 | .node l x y,c=>if zq c then Kz x (il c++[l])++Kz y (il c++[l.rev]) else []
def SB(c:List aa)(p:ab):Bool:=c.all fun l=>decide (0<Int.sign (l.value p).num)
def aIo(c:List aa):Option ab:=(L5 (uF c)).find? (SB c)
def aID(c:aE):Prop:=(c.map fun s=>s.l.dir).Pairwise uz
def aHQ(c:List aa):Prop:=(c.map aa.dir).Pairwise uz
def aHn(c:aE):Bool:=!c.isEmpty&&c.all fun s=>!s.v.nl&&!s.v.nh
def Vt(c:List aa)(v:ab):Bool:=c.all fun l=>decide (0<=Int.sign (l.dir.cross v).num)
def aIy(c:List aa):Bool:=!c.isEmpty&&(c.flatMap fun l=>[l.dir,nO l.dir]).all fun v=>!Vt c v
def A3:aa:=⟨1,0,0⟩
def Tl(c:List aa)(i:Nat):List ab:=
 if 0<Int.sign ((c.getD i A3).dir.cross (c.getD ((i+1)%c.length) A3).dir).num then [fD (c.getD i A3) (c.getD ((i+1)%c.length) A3)] else []
def Az(c:List aa):List ab:=(List.range c.length).flatMap (Tl c)
def TQ(v:List ab)(i:Nat):List ab:=[v.getD 0 ⟨0,0⟩,v.getD (i+1) ⟨0,0⟩,v.getD (i+2) ⟨0,0⟩]
def NF(v:List ab):List (List ab):=(List.range (v.length-2)).map (TQ v)
def aHe(cs:List (List aa)):List (List ab):=cs.flatMap fun c=>NF (Az c)
def Fb{l:aa}: ∀{c:List aa} {v:aj},(fe l c v).2=true->fy l c v=some (fe l c v).1
 |[],v,_=>rfl
 |m::t,v,h=>by
  rw[fe] at h⊢;rw[fy];split
  ·rename_i e;rw[if_pos e] at h;exact Fb h
  ·rename_i e
   rw[if_neg e] at h;split
   ·rename_i k;rw[if_pos k] at h;exact Fb h
   ·rename_i k;rw[if_neg k] at h;cases h
def Kj{v:aj}(h:v.Pos):v.ins (iF v):=by
 obtain⟨lo,hi,nl,nh⟩:=v;unfold aj.Pos at h;unfold iF aj.ins
 cases nl<;>cases nh<;>simp at* <;>grind
def Px{p v:ab}: ∀{c:List aa} {s:Rat},0<s->0<lE p v c s/\lE p v c s<=s/\ ∀m∈c,0<m.value p->m.nor.dot v<0->lE p v c s<= -(m.value p/m.nor.dot v)/2
 |[],s,h=>⟨h,gR,fun m hm=>by cases hm⟩
 |m::t,s,h=>by
  have hk:m.value (cv p v ((1:Int):Rat))-m.value p=m.nor.dot v:=by rw[jq];grind
  have key:0<mD p v m s/\mD p v m s<=s/\(0<m.value p->m.nor.dot v<0->mD p v m s<= -(m.value p/m.nor.dot v)/2):=by
   unfold mD rH;simp only[hk,mr,r6,wY];split
   ·rename_i e;exact⟨h,gR,fun _ k=>by rw[e] at k;exact absurd k (by decide)⟩
   ·split
    ·rename_i e;exact⟨h,gR,fun k=>by rw[e] at k;exact absurd k (by decide)⟩
    ·split
     ·rename_i e
      split
      ·exact⟨by grind,by grind,fun _ _=>gR⟩
      ·exact⟨h,gR,fun _ _=>by grind⟩
     ·rename_i e
      exact⟨h,gR,fun k1 k2=>absurd (Gs k2 k1) e⟩
  obtain⟨a1,a2,a3⟩:=key;obtain⟨b1,b2,b3⟩:=Px (p:=p) (v:=v) (c:=t) a1;rw[lE];refine⟨b1,by grind,fun u hu k1 k2=>?_⟩;rcases aT.1 hu with rfl|hu
  ·have:=a3 k1 k2;grind
  ·exact b3 u hu k1 k2
def Wy{c:List aa}{p v:ab}(h: ∀m∈c,0<m.value p\/(m.value p=0/\0<m.nor.dot v)):d5 c (s9 c p v):=fun m hm=>by
 obtain⟨s0,_,s2⟩:=Px (p:=p) (v:=v) (c:=c) (s:=((1:Int):Rat)) (by decide);unfold s9;generalize lE p v c ((1:Int):Rat)=s at*;rw[jq];rcases h m hm with k|⟨k,k2⟩
 ·by_cases q:m.nor.dot v<0
  ·have h3:=s2 m hm k q
   have h4:=Gs q k;have e:m.value p/m.nor.dot v*m.nor.dot v=m.value p:=by grind
   generalize m.value p/m.nor.dot v=z at*;have h5:=f6 (a:= -z/2-s) (b:= -m.nor.dot v) (by grind) (by grind);grind
  ·have:=f6 (fT s0) (show 0<=m.nor.dot v by grind)
   grind
 ·have:=jb s0 k2
  grind
def WF{m:aa}(h:m.Ne):0<m.nor.dot (kP m.dir):=by
 have:=n4 h;have e:m.nor.dot (kP m.dir)=m.nor.dot m.nor:=by unfold kP aa.dir aa.nor ab.dot;grind
 rw[e];exact this
def UK{c:List aa}(hok: ∀m∈c,m.ok)(hb:jE c=true):d5 c (ik c c):=by
 have key: ∀t:List aa,(∀m∈t,m∈c)->(∃m∈t,(fy m c aj.all).isSome=true)->d5 c (ik c t):=by
  intro t
  induction t with
  |nil=>rintro _ ⟨m,hm,_⟩;cases hm
  |cons m t ih=>
   intro hs hx;rw[ik];split
   ·rename_i e
    obtain⟨h1,h2⟩:=Bu m c _ _ vj (Fb e);have h3:=((h2 _).1 (Kj h1)).2;have hmo:=(hok m (hs m aQ)).ne;refine Wy fun u hu=>?_;by_cases q:u=m
    ·subst q;exact .inr ⟨rE hmo _,WF hmo⟩
    ·exact .inl (h3 u hu q)
   ·rename_i e
    refine ih (fun u hu=>hs u (aJ _ hu)) ?_;obtain⟨u,hu,h⟩:=hx;rcases aT.1 hu with rfl|hu
    ·rw[ug] at e;exact absurd h e
    ·exact⟨u,hu,h⟩
 unfold jE at hb;rw[iJ,List.isEmpty_iff,lS] at hb;rcases hb with rfl|⟨m,hm,h⟩
 ·exact fun m hm=>by cases hm
 ·exact key c (fun _ h=>h) ⟨m,hm,h⟩
def d5.seg{c:List aa}{q p:ab}{e:Rat}(hq:d5 c q)(hp:d5 c p)(h0:0<=e)(h1:e<=1):d5 c (bp q p e):=fun m hm=>by
 rw[kr];have a:=hq m hm;have b:=hp m hm;by_cases z:e=0
 ·subst z;grind
 ·have k1:=jb (show 0<e by grind) b
  have k2:=f6 (show 0<=1-e by grind) (fT a);grind
def d5.open{c:List aa}{q:ab}(u:ab)(h:d5 c q): ∃e:Rat,0<e/\ ∀d,0<=d->d<=e->d5 c (cv q u d):=by
 have hd:bF (c.map fun m=>(⟨m,aj.all⟩:aG)) q:=fun s hs=>by
  obtain⟨m,hm,rfl⟩:=bM.1 hs;exact h m hm
 obtain⟨e,he,ho⟩:=hd.open u;exact⟨e,he,fun d d0 d1 m hm=>ho d d0 d1 ⟨m,aj.all⟩ (gM hm)⟩
def En(l:aa)(t u:Rat):l.at (t+u)=cv (l.at t) l.dir u:=by
 rw[<-rI,<-rI];unfold cv;simp only[ab.mk.injEq];constructor<;>grind
def T7(l:aa)(a b s:Rat):bp (l.at a) (l.at b) s=l.at (a+s*(b-a)):=by
 rw[<-rI,<-rI,<-rI];unfold bp cv;simp only[ab.mk.injEq];constructor<;>grind
def MD{l:aa}(h:l.Ne)(t:Rat):er l (l.at t)=t:=by
 obtain⟨q,_,hq⟩:=zw h;have h2:=n4 h;have e0:l.dir.dot l.dir=l.nor.dot l.nor:=by unfold aa.dir aa.nor ab.dot;grind
 have e1:(l.at t).dot l.dir=t*l.dir.dot l.dir:=by
  rw[<-rI,hq];unfold cv aa.dir ab.dot;grind
 unfold er;rw[e1];rw[<-e0] at h2;generalize l.dir.dot l.dir=d at*;have:d≠0:=by grind
 grind
def K0{l:aa}(h:l.Ne){p:ab}(hp:l.value p=0):l.at (er l p)=p:=by
 obtain⟨t,rfl⟩:=B9 h hp;rw[MD h]
def HH(a:Int){g:Nat}(h:g∣a.natAbs):(g:Int)*zv (decide (a<0)) (a.natAbs/g)=a:=by
 obtain⟨k,hk⟩:=h;by_cases g0:g=0
 ·subst g0;simp at hk⊢;omega
 have e:a.natAbs/g=k:=by rw[hk];exact qL k (iY g0)
 rw[e];unfold zv;have hc:((g*k:Nat):Int)=(g:Int)*(k:Int):=by push_cast;rfl
 by_cases n:a<0
 ·simp only[n,decide_true,if_true];rw[Int.mul_neg];omega
 ·simp only[n,decide_false];show(g:Int)*(k:Int)=a;omega
def Uy{a b c:Int}(h: ¬(a=0/\b=0)): ∃g:Int,0<g/\g*(gg a b c).a=a/\g*(gg a b c).b=b/\g*(gg a b c).c=c:=by
 have hg:0<Nat.gcd (Nat.gcd a.natAbs b.natAbs) c.natAbs:=mX _ (iY fun e=>h ⟨kR.1 (lW e),kR.1 (lX e)⟩);refine⟨(Nat.gcd (Nat.gcd a.natAbs b.natAbs) c.natAbs:Nat),by omega,?_,?_,?_⟩
 ·exact HH a (qZ (jR _ _) (jR _ _))
 ·exact HH b (qZ (jR _ _) (lZ _ _))
 ·exact HH c (lZ _ _)
def Oc{v w:ZP}(h:v≠w): ∃g:Rat,0<g/\(ip v.1 v.2 w.1 w.2).value v.q=0/\(ip v.1 v.2 w.1 w.2).value w.q=0/\w.q=cv v.q (ip v.1 v.2 w.1 w.2).dir g:=by
 obtain⟨m,n⟩:=v;obtain⟨p,q⟩:=w;have hne: ¬(jr n q=0/\jA m p=0):=fun e=>h (by unfold jr jA at e;rw[Prod.mk.injEq];omega);obtain⟨g,g0,ga,gb,gc⟩:=Uy (c:=oG m n p q) hne;dsimp only;unfold ip;generalize gg (jr n q) (jA m p) (oG m n p q)=l at*;have g0':(0:Rat)<(g:Rat):=by exact_mod_cast g0
 have ra:(g:Rat)*(l.a:Rat)= -((q:Rat)-(n:Rat)):=by rw[<-cN,ga];unfold jr;push_cast;grind
 have rb:(g:Rat)*(l.b:Rat)=(p:Rat)-(m:Rat):=by rw[<-cN,gb];unfold jA;push_cast;grind
 have rc:(g:Rat)*(l.c:Rat)= -(-((q:Rat)-(n:Rat))*(m:Rat)+((p:Rat)-(m:Rat))*(n:Rat)):=by rw[<-cN,gc];unfold oG jr jA;push_cast;grind
 have z: ∀x:Rat,(g:Rat)*x=0->x=0:=fun x hx=>by
  rcases Rat.mul_eq_zero.1 hx with e|e
  ·rw[e] at g0';exact absurd g0' (by decide)
  ·exact e
 refine⟨g,g0',z _ ?_,z _ ?_,?_⟩
 ·rw[oh];unfold ZP.q iP;dsimp only;grind
 ·rw[oh];unfold ZP.q iP;dsimp only;grind
 ·unfold ZP.q iP cv aa.dir;simp only[ab.mk.injEq];constructor<;>grind
def DC{v w:ZP}(h:v≠w)(ho:(cI v w).l.ok):(cI v w).l.at (cI v w).v.lo=v.q/\(cI v w).l.at (cI v w).v.hi=w.q/\(cI v w).v.lo<(cI v w).v.hi:=by
 obtain⟨g,g0,h1,h2,h3⟩:=Oc h;unfold cI at ho⊢;dsimp only at ho⊢;generalize ip v.1 v.2 w.1 w.2=l at*;have e1:=K0 ho.ne h1;have e2:=K0 ho.ne h2;refine⟨e1,e2,?_⟩;have:er l w.q=er l v.q+g:=by
  have e3:=En l (er l v.q) g;rw[e1,<-h3] at e3;rw[<-e3,MD ho.ne]
 rw[this];grind
def HT{r:List ZP}{k:Nat}: ∀{n:Nat},k<n->cI (r.getD k (0,0)) (d8 r k)∈jh r n
 |n+1,h=>by
  rw[jh];by_cases e:k=n
  ·subst e;exact cS _ (aV.2 J)
  ·exact cW _ (HT (by omega))
def UF{r:List ZP}(hr:cF r){c:List aa}(hc: ∀e∈ey r,∀t,e.v.ins t-> ¬d5 c (e.l.at t)){q p:ab}(hq:d5 c q)(hp:d5 c p):vX r q p:=fun k hk s t s0 s1 t0 t1 he=>by
 have hm:cI (r.getD k (0,0)) (d8 r k)∈ey r:=HT hk;have ho:=((rF hr).2 _ hm).ok;obtain⟨e1,e2,e3⟩:=DC (hr.ne k hk) ho;have hno:=hc _ hm;have hx:=hq.seg hp t0 t1;rw[<-he,<-e1,<-e2,T7] at hx;have hv: ∀u,(cI (r.getD k (0,0)) (d8 r k)).v.lo<u->u<(cI (r.getD k (0,0)) (d8 r k)).v.hi-> ¬d5 c ((cI (r.getD k (0,0)) (d8 r k)).l.at u):=fun u h1 h2=>hno u ⟨.inr h1, .inr h2⟩;generalize cI (r.getD k (0,0)) (d8 r k)=e at*;have hb:=Hy s0 s1 (gR) (fT e3) (fT e3) (gR);generalize e.v.lo+s*(e.v.hi-e.v.lo)=u at*;obtain⟨d,d0,hd⟩:=hx.open e.l.dir;obtain⟨d',d0',hd'⟩:=hx.open (nO e.l.dir);by_cases h1:e.v.lo<u
 ·by_cases h2:u<e.v.hi
  ·exact hv u h1 h2 hx
  ·have eu:u=e.v.hi:=by grind
   obtain⟨z,z0,z1,z2⟩: ∃z:Rat,0<z/\z<=d'/\z<e.v.hi-e.v.lo:=by
    by_cases k:d'<(e.v.hi-e.v.lo)/2
    ·exact⟨d',d0',gR,by grind⟩
    ·exact⟨(e.v.hi-e.v.lo)/2,by grind,by grind,by grind⟩
   refine hv (u+ -z) (by grind) (by grind) ?_;rw[En];have:=hd' z (fT z0) z1;have e5:cv (e.l.at u) (nO e.l.dir) z=cv (e.l.at u) e.l.dir (-z):=by unfold cv nO;simp only[ab.mk.injEq];constructor<;>grind
   rw[e5] at this;exact this
 ·have eu:u=e.v.lo:=by grind
  obtain⟨z,z0,z1,z2⟩: ∃z:Rat,0<z/\z<=d/\z<e.v.hi-e.v.lo:=by
   by_cases k:d<(e.v.hi-e.v.lo)/2
   ·exact⟨d,d0,gR,by grind⟩
   ·exact⟨(e.v.hi-e.v.lo)/2,by grind,by grind,by grind⟩
  refine hv (u+z) (by grind) (by grind) ?_;rw[En];exact hd z (fT z0) z1
def NJ{rs:List (List ZP)}{fill:Int}(hr: ∀r∈rs,cF r){c:List aa}(hc: ∀e∈b9 rs,∀t,e.v.ins t-> ¬d5 c (e.l.at t)){q p:ab}(hq:d5 c q)(hp:d5 c p):gj rs fill q=gj rs fill p:=by
 have key: ∀(rs:List (List ZP)),(∀r∈rs,cF r)->(∀e∈b9 rs,∀t,e.v.ins t-> ¬d5 c (e.l.at t))-> ∀n:Int,rs.foldl (fun n r=>n+ja r q) n=rs.foldl (fun n r=>n+ja r p) n:=by
  intro rs
  induction rs with
  |nil=>intro _ _ n;rfl
  |cons r t ih=>
   intro hr hc n;rw[dT,dT,<-SO (UF (hr r aQ) (fun e he=>hc e (gX.2 ⟨r,aQ,he⟩)) hq hp)];exact ih (fun r h=>hr r (aJ _ h)) (fun e he=>hc e (by obtain⟨r,h1,h2⟩:=gX.1 he;exact gX.2 ⟨r,aJ _ h1,h2⟩)) _
 unfold gj;rw[key rs hr hc]
def zu{cuts:List Rat}(h:cuts.Pairwise (· < ·)){i j:Nat}(hij:i<j)(hj:j<cuts.length):cuts.getD i 0<cuts.getD j 0:=by
 rw[aX,aX,aZ hj,aZ (by omega)];exact List.pairwise_iff_getElem.1 h i j (by omega) hj hij
def HG{cuts:List Rat}{marks:List Bool}(h:cuts.Pairwise (· < ·)): ∀{k:Nat},∀v∈c9 cuts marks (k+1),k<cuts.length->(v.nh=false/\v.hi<=cuts.getD k 0)/\(v.nl=true\/v.lo<cuts.getD k 0)
 |k,v,hv,hk=>by
  have hg:((ck cuts k).nh=false/\(ck cuts k).hi<=cuts.getD k 0)/\((ck cuts k).nl=true\/(ck cuts k).lo<cuts.getD k 0):=by
   unfold ck;dsimp only;refine⟨⟨by simp;omega,by rw[if_pos hk];exact gR⟩,?_⟩;by_cases z:k=0
   ·left;simp[z]
   ·right;rw[if_neg z];exact zu h (by omega) hk
  have hold: ∀v∈c9 cuts marks k,(v.nh=false/\v.hi<=cuts.getD k 0)/\(v.nl=true\/v.lo<cuts.getD k 0):=fun v hv=>by
   cases k with
   |zero=>cases hv
   |succ k=>
    have ih:=HG h v hv (by omega);have:=zu h (Nat.lt_succ_self k) hk;exact⟨⟨ih.1.1,by have:=ih.1.2;grind⟩,ih.2.imp id fun z=>by grind⟩
  rw[c9] at hv;split at hv
  ·split at hv
   ·split at hv
    ·rename_i w hw
     rcases cX.1 hv with q|q
     ·exact hold v ((rU _).subset q)
     ·rw[aV] at q;subst q
      exact⟨hg.1,(hold w (nJ hw)).2⟩
    ·rcases cX.1 hv with q|q
     ·exact hold v q
     ·rw[aV] at q;subst q;exact hg
   ·rcases cX.1 hv with q|q
    ·exact hold v q
    ·rw[aV] at q;subst q;exact hg
  ·exact hold v hv
def JD{cuts:List Rat}{marks:List Bool}(h:cuts.Pairwise (· < ·)){x:Rat}{i:Nat}(hm:marks.getD i false=true)(hx:(ck cuts i).ins x): ∀{k:Nat},k<=cuts.length+1->i<k-> ∃v∈c9 cuts marks k,v.ins x
 |k+1,hk,hi=>by
  by_cases e:i=k
  ·subst e
   rw[c9,if_pos hm];split
   ·rename_i h0
    split
    ·rename_i w hw
     refine⟨_,cS _ (aV.2 J),?_,hx.2⟩;obtain⟨j,rfl⟩: ∃j,i=j+1:=⟨i-1,by omega⟩;have:=(HG h w (nJ hw) (by omega)).2;have hl:=hx.1;unfold ck at hl;dsimp only at hl;rw[if_neg (by omega),show j+1-1=j by omega] at hl;have hl':cuts.getD j 0<x:=hl.resolve_left (by simp);exact this.imp id fun z=>by show w.lo<x;grind
    ·exact⟨_,cS _ (aV.2 J),hx⟩
   ·exact⟨_,cS _ (aV.2 J),hx⟩
  ·obtain⟨v,hv,hvx⟩:=JD h hm hx (k:=k) (by omega) (by omega)
   rw[c9];split
   ·split
    ·split
     ·rename_i w hw
      by_cases q:v=w
      ·subst q
       refine⟨_,cS _ (aV.2 J),hvx.1,?_⟩;show(ck cuts k).nh=true\/x<(ck cuts k).hi;obtain⟨j,rfl⟩: ∃j,k=j+1:=⟨k-1,by omega⟩;obtain⟨⟨b1,b2⟩,_⟩:=HG h v hv (by omega);have hh:=hvx.2.resolve_left (by rw[b1];decide);unfold ck;dsimp only;by_cases z:j+1<cuts.length
       ·right;rw[if_pos z];have:=zu h (Nat.lt_succ_self j) z;grind
       ·left;simp;omega
      ·refine⟨v,cW _ ?_,hvx⟩
       obtain⟨l,hl⟩:=List.getLast?_eq_some_iff.1 hw;rw[hl] at hv⊢;rw[List.dropLast_concat];rcases cX.1 hv with z|z
       ·exact z
       ·rw[aV] at z;exact absurd z q
     ·exact⟨v,cW _ hv,hvx⟩
    ·exact⟨v,cW _ hv,hvx⟩
   ·exact⟨v,hv,hvx⟩
def O8: ∀{l:List Rat} {i:Nat},i+1<l.length->(eO l).getD i 0=(l.getD i 0+l.getD (i+1) 0)/2
 |[],_,h=>by simp at h
 |[_],_,h=>by simp at h
 |a::b::t,0,_=>by simp[eO]
 |a::b::t,i+1,h=>by
  have:=O8 (l:=b::t) (i:=i) (by simp at h⊢;omega);rw[eO,lK,this];simp only[lK]
def BU: ∀(l:List Rat) (a:Rat),(eO (a::l)).length=l.length
 |[],_=>rfl
 |b::t,a=>by rw[eO,bU,BU t b,bU]
def Sh{cuts:List Rat}(h:cuts.Pairwise (· < ·)){i j:Nat}(hi:i<=cuts.length)(hj:j<cuts.length):(cuts.getD j 0<(c6 cuts).getD i 0↔j<i)/\cuts.getD j 0≠(c6 cuts).getD i 0:=by
 have mono: ∀{a b:Nat},a<=b->b<cuts.length->cuts.getD a 0<=cuts.getD b 0:=fun{a b} hab hb=>by
  by_cases e:a=b
  ·subst e;exact gR
  ·exact fT (zu h (by omega) hb)
 cases cuts with
 |nil=>simp at hj
 |cons a t=>
  have hl:(a::t).length=t.length+1:=J;rw[c6]
  cases i with
  |zero=>
   rw[sJ];have:=mono (bQ j) hj;rw[sJ] at this;constructor
   ·constructor
    ·intro q;exfalso;grind
    ·intro q;omega
   ·intro q;grind
  |succ i=>
   rw[lK];by_cases e:i<t.length
   ·have e1:(eO (a::t)++[(a::t).getLast (by simp)+1]).getD i 0=((a::t).getD i 0+(a::t).getD (i+1) 0)/2:=by
     rw[<-O8 (by omega),aX,aX,eX (by rw[BU];exact e)]
    rw[e1];have h1:=zu h (Nat.lt_succ_self i) (by omega);by_cases q:j<=i
    ·have:=mono q (by omega)
     constructor
     ·exact⟨fun _=>by omega,fun _=>by grind⟩
     ·grind
    ·have:=mono (show i+1<=j by omega) hj
     constructor
     ·exact⟨fun _=>by exfalso;grind,fun _=>by omega⟩
     ·grind
   ·have ei:i=t.length:=by omega
    have e1:(eO (a::t)++[(a::t).getLast (by simp)+1]).getD i 0=(a::t).getLast (by simp)+1:=by
     rw[aX,iV (by rw[BU];omega),BU,ei];simp
    rw[e1];have:=JE h (by simp) ((a::t).getD j 0) (by rw[aX,aZ hj];exact cV _);constructor
    ·exact⟨fun _=>by omega,fun _=>by grind⟩
    ·grind
def N5(x:Rat): ∀{cuts:List Rat},cuts.Pairwise (· < ·)-> ∃i,i<=cuts.length/\ ∀j,j<cuts.length->(cuts.getD j 0<x↔j<i)
 |[],_=>⟨0,aL _,fun j hj=>by simp at hj⟩
 |a::t,h=>by
  rw[cZ] at h;by_cases q:a<x
  ·obtain⟨i,h1,h2⟩:=N5 x h.2
   refine⟨i+1,by simp;exact h1,fun j hj=>?_⟩
   cases j with
   |zero=>simp[q]
   |succ j=>rw[lK,h2 j (by simpa using hj)];omega
  ·refine⟨0,bQ _,fun j hj=>⟨fun k=>?_,fun k=>by omega⟩⟩
   exfalso
   cases j with
   |zero=>simp at k;grind
   |succ j=>
    rw[lK] at k;have hj':j<t.length:=by simpa using hj
    have:=h.1 (t.getD j 0) (by rw[aX,aZ hj'];exact cV _);grind
def KK{out:List Rat}{s:aj}{y:Rat}:y∈fG out s↔y∈out\/(s.nl=false/\y=s.lo)\/(s.nh=false/\y=s.hi):=by
 unfold fG
 cases e1:s.nl<;>cases e2:s.nh<;>simp[pd]<;>grind
def wj{v:aj}{x:Rat}:dE [v] x=true↔v.ins x:=by
 unfold dE oP oP aj.ins;have h1:=B4 x v.lo;have h2:=wY x v.hi;rw[decide_eq_true_eq]
 cases e1:v.nl<;>cases e2:v.nh<;>simp only[if_true,dZ,if_false,false_or,true_or,h1,h2,and_true,true_and,show(0:Int)<1 from by decide,show(-1:Int)<0 from by decide]<;>grind
def Kn{cuts:List Rat}{v:aj}(hl:v.nl=true\/v.lo∈cuts)(hh:v.nh=true\/v.hi∈cuts){x g:Rat}(ho: ∀u∈cuts,(u<x↔u<g)/\u≠x/\u≠g)(h:v.ins x):v.ins g:=by
 refine⟨?_,?_⟩
 ·rcases hl with e|e
  ·exact .inl e
  ·rcases h.1 with k|k
   ·exact .inl k
   ·exact .inr ((ho _ e).1.1 k)
 ·rcases hh with e|e
  ·exact .inl e
  ·rcases h.2 with k|k
   ·exact .inl k
   ·obtain⟨a,b,c⟩:=ho _ e
    right;by_cases q:v.hi<g
    ·have:=a.2 q;grind
    ·grind
def VF{v w:aj}{t:Rat}(hv:v.ins t)(hw:w.ins t): ∃z∈fm 2 [v] [w],z.ins t:=by
 have hmem: ∀y,y∈d6 ([v]++[w])↔((v.nl=false/\y=v.lo)\/(v.nh=false/\y=v.hi))\/(w.nl=false/\y=w.lo)\/(w.nh=false/\y=w.hi):=fun y=>by
  show y∈fG (fG [] v) w↔_;rw[KK,KK];simp
 have hasc:=(ES ([v]++[w])).1;have h0: ∀u∈d6 ([v]++[w]),u≠t:=fun u hu e=>by
  subst e;rcases(hmem u).1 hu with(⟨a,b⟩|⟨a,b⟩)|⟨a,b⟩|⟨a,b⟩
  ·have:=hv.1.resolve_left (by rw[a];decide);grind
  ·have:=hv.2.resolve_left (by rw[a];decide);grind
  ·have:=hw.1.resolve_left (by rw[a];decide);grind
  ·have:=hw.2.resolve_left (by rw[a];decide);grind
 have l1:v.nl=true\/v.lo∈d6 ([v]++[w]):=by
  cases e:v.nl with
  |true=>exact .inl J
  |false=>exact .inr ((hmem _).2 (.inl (.inl ⟨e,J⟩)))
 have l2:v.nh=true\/v.hi∈d6 ([v]++[w]):=by
  cases e:v.nh with
  |true=>exact .inl J
  |false=>exact .inr ((hmem _).2 (.inl (.inr ⟨e,J⟩)))
 have l3:w.nl=true\/w.lo∈d6 ([v]++[w]):=by
  cases e:w.nl with
  |true=>exact .inl J
  |false=>exact .inr ((hmem _).2 (.inr (.inl ⟨e,J⟩)))
 have l4:w.nh=true\/w.hi∈d6 ([v]++[w]):=by
  cases e:w.nh with
  |true=>exact .inl J
  |false=>exact .inr ((hmem _).2 (.inr (.inr ⟨e,J⟩)))
 unfold fm iH;generalize d6 ([v]++[w])=cuts at*;obtain⟨i,hi,ho⟩:=N5 t hasc;have hord: ∀u∈cuts,(u<t↔u<(c6 cuts).getD i 0)/\u≠t/\u≠(c6 cuts).getD i 0:=fun u hu=>by
  obtain⟨j,hj,e⟩:=List.mem_iff_getElem.1 hu;have e':cuts.getD j 0=u:=by rw[aX,aZ hj];exact e
  obtain⟨g1,g2⟩:=Sh hasc hi hj;have:=ho j hj;rw[e'] at g1 g2 this;exact⟨this.trans g1.symm,h0 u hu,g2⟩
 have hlen:(c6 cuts).length=cuts.length+1:=wX;refine JD hasc (i:=i) ?_ ?_ (by rw[aK,hlen];exact aL _) (by rw[aK,hlen];omega)
 ·rw[aX,eJ,aZ (by omega)]
  show lx 2 (dE [v] _) (dE [w] _)=true;have e:(c6 cuts)[i]'(by omega)=(c6 cuts).getD i 0:=by rw[aX,aZ (by omega)];rfl
  rw[e,wj.2 (Kn l1 l2 hord hv),wj.2 (Kn l3 l4 hord hw)];rfl
 ·unfold ck aj.ins
  dsimp only;refine⟨?_,?_⟩
  ·by_cases z:i=0
   ·left;simp[z]
   ·right;rw[if_neg z];exact(ho (i-1) (by omega)).2 (by omega)
  ·by_cases z:i=cuts.length
   ·left;simp[z]
   ·right
    rw[if_pos (by omega)];have a:=ho i (by omega);have b:=h0 (cuts.getD i 0) (by rw[aX,aZ (by omega)];exact cV _);have c: ¬cuts.getD i 0<t:=fun k=>by have:=a.1 k;omega
    grind
def H1{l m:aa}(h:crossI l m=0):l.cutK m=0:=by
 have e:l.cutK m= -(crossI l m:Rat):=by unfold aa.cutK aa.nor aa.dir ab.dot crossI;push_cast;grind
 rw[e,h];rfl
def PJ{k:Rat}{side:Int}(hs:side=1\/side= -1)(h:0<(side:Rat)*k):k.num.sign=side:=by
 rcases hs with rfl|rfl
 ·exact(nC k).2 (by grind)
 ·have:k.num.sign<0:=(pc k).2 (by grind)
  have:=pS k.num;omega
def Rk{f:aG}{m:aa}{side:Int}(hs:side=1\/side= -1)(hl:f.l.Ne){t:Rat}(ht:f.v.ins t)(hm:0<(side:Rat)*m.value (f.l.at t)): ∃g∈dw f m side,g.l=f.l/\g.v.ins t:=by
 have hv:=mF f.l m t;have ho: ¬ka f.l m=true:=fun e=>by
  unfold ka at e;rw[decide_eq_true_eq,mr] at e;rw[H1 e.1,show f.l.cutC m=m.value f.l.base from J,e.2] at hv;rw[hv] at hm;grind
 unfold dw;rw[if_neg ho];have hh: ∃w,gz f.l m side=[w]/\w.ins t:=by
  unfold gz;by_cases hc:crossI f.l m=0
  ·rw[if_pos hc]
   rw[H1 hc,show f.l.cutC m=m.value f.l.base from J] at hv;rw[if_pos (PJ hs (by rw[hv] at hm;grind))];exact⟨_,J,Rp t⟩
  ·rw[if_neg hc]
   have hp:=wM hl hc;have hK:f.l.cutK m≠0:=fun e=>by
    have e2:f.l.cutK m= -(crossI f.l m:Rat):=by unfold aa.cutK aa.nor aa.dir ab.dot crossI;push_cast;grind
    rw[e2] at e;have:(crossI f.l m:Rat)=0:=by grind
    exact hc (iT.1 this)
   generalize hx:er f.l (fD f.l m)=x at*;have hv2: ∀u,m.value (f.l.at u)=f.l.cutK m*(u-x):=fun u=>by rw[mF,hp];grind
   rw[hv2] at hm;have e1:m.value (f.l.at (x+1))=f.l.cutK m:=by rw[hv2];grind
   rw[e1];generalize f.l.cutK m=K at*;by_cases q:K.num.sign=side
   ·rw[if_pos q]
    refine⟨_,J, .inr ?_, .inl J⟩;show x<t;rcases hs with rfl|rfl
    ·have:=(nC K).1 q
     have:=(u9 this).1 (show 0<K*(t-x) by grind);grind
    ·have:=(pc K).1 (by omega)
     have:=(Et this).1 (show K*(t-x)<0 by grind);grind
   ·rw[if_neg q]
    refine⟨_,J, .inl J, .inr ?_⟩;show t<x;have h3:=ny K;rcases hs with rfl|rfl
    ·have kn:K<0:=by
      rcases h3 with h|h|h
      ·exact absurd h hK
      ·exact absurd ((nC K).2 h) q
      ·exact h
     have:=(Et kn (b:=x-t)).1 (by grind);grind
    ·have kp:0<K:=by
      rcases h3 with h|h|h
      ·exact absurd h hK
      ·exact h
      ·exact absurd (by have:=(pc K).2 h;have:=pS K.num;omega) q
     have:=(u9 kp (b:=x-t)).1 (by grind);grind
 obtain⟨w,e,hw⟩:=hh;rw[e];obtain⟨z,hz,hzt⟩:=VF ht hw;exact⟨⟨f.l,z⟩,gM hz,J,hzt⟩
def AR(E:List aG)(c:List aa)(l:List aG):Prop:= ∀e∈E,∀t,e.v.ins t->d5 c (e.l.at t)-> ∃f∈l,f.l=e.l/\f.v.ins t
def AR.split{E l:List aG}{c:List aa}(h:AR E c l)(hE: ∀e∈E,e.l.Ne){m:aa}{side:Int}(hs:side=1\/side= -1){m':aa}(hm': ∀p,m'.value p=(side:Rat)*m.value p):AR E (c++[m']) (l.flatMap fun g=>dw g m side):=fun e he t ht hin=>by
 obtain⟨h1,h2⟩:=o6.1 hin;obtain⟨f,hf,ef,hft⟩:=h e he t ht h1;rw[hm'] at h2;obtain⟨g,hg,eg,hgt⟩:=Rk (f:=f) hs (by rw[ef];exact hE e he) hft (by rw[ef];exact h2);exact⟨g,gX.2 ⟨f,hf,hg⟩,by rw[eg,ef],hgt⟩
def Gb{acc:ab->Bool}{E:List aG}(hE: ∀e∈E,e.l.Ne)(ha: ∀(c:List aa) (q p:ab),(∀e∈E,∀t,e.v.ins t-> ¬d5 c (e.l.at t))->d5 c q->d5 c p->acc q=acc p): ∀{n:Nat} {l:List aG} {c:List aa} {p:ab},(∀f∈l,kE f)->jc n l->(∀m∈c,m.ok)->AR E c l->d5 c p->ij (gu acc n l c).lns p->(gu acc n l c).val p=acc p
 |n,[],c,p,_,_,hc,hcov,hp,_=>by
  have e:gu acc n [] c= .leaf (acc (ik c c)):=by cases n<;>rfl
  rw[e,Tr.val];exact ha c _ _ (fun e he t ht hin=>by obtain⟨f,hf,_⟩:=hcov e he t ht hin;cases hf) (UK hc ((Fp hc).2 ⟨p,hp⟩)) hp
 |0,f::t,_,_,_,hf,_,_,_,_=>by
  obtain⟨K,hK,hs⟩:=hf;obtain⟨m,hm,_⟩:=hs f aQ;have:K=[]:=bK (by omega);rw[this] at hm;cases hm
 |n+1,f::t,c,p,hok,hf,hc,hcov,hp,hoff=>by
  have fo:=hok f aQ;have hok': ∀side,∀g∈(f::t).flatMap fun g=>dw g f.l side,kE g:=fun side g hg=>by
   obtain⟨q,hq,hg⟩:=gX.1 hg;exact(wk (hok q hq) fo.lb g hg).1
  rw[gu] at hoff⊢;by_cases q:0<f.l.value p
  ·rw[Tr.val_pos q]
   exact Gb hE ha (hok' 1) (hf.split hok) (lI hc fo.ok) (hcov.split hE (.inl J) fun p=>by grind) (o6.2 ⟨hp,q⟩) hoff.x
  ·rw[Tr.val_neg q]
   have:=hoff.l;exact Gb hE ha (hok' (-1)) (hf.split hok) (lI hc fo.ok.rev) (hcov.split hE (.inr J) fun p=>by rw[fP];grind) (o6.2 ⟨hp,by rw[fP];grind⟩) hoff.y
def YJ{rs:List (List ZP)}{fill:Int}(hr: ∀r∈rs,cF r){p:ab}(ho:ij (ol rs fill).lns p):(kg rs fill).val p=gj rs fill p:=by
 obtain⟨h1,h2⟩:=nq hr;have hok:(ol rs fill).all aa.ok:=r5 fun f hf=>(h2 f hf).ok;unfold kg;rw[Tr.val_restrict _ _ _ hok di.nil (fun s hs=>by cases hs) ho];unfold ol at ho⊢;refine Gb (E:=b9 rs) (fun e he=>(h2 e he).ok.ne) (fun c q p hno hq hp=>NJ hr hno hq hp) h2 ?_ (fun m hm=>by cases hm) (fun e he t ht _=>⟨e,he,J,ht⟩) (fun m hm=>by cases hm) ho;exact⟨(b9 rs).map (·.l),by rw[aK];exact aL _,fun f hf=>⟨f.l,gM hf, .inl J⟩⟩
structure Bv where
 ax:Rat
 ay:Rat
 ac:Rat
def Bv.ev(g:Bv)(p:ab):Rat:=g.ax*p.x+g.ay*p.y+g.ac
def Bv.li(g:Bv)(u:ab):Rat:=g.ax*u.x+g.ay*u.y
def In(a b x:ab):Prop:= ∃s:Rat,0<=s/\s<=1/\x=bp a b s
def ZI(a b p r:ab):Prop:=In a b p/\((r=⟨b.x-p.x,b.y-p.y⟩/\b≠p)\/(r=⟨a.x-p.x,a.y-p.y⟩/\a≠p))
def M0(r u:ab):Prop:= ∃k:Rat,0<k/\u=⟨k*r.x,k*r.y⟩
def Yx(E:List (ab×ab))(p u:ab):Prop:=u≠⟨0,0⟩/\ ∀f∈E,∀r,ZI f.1 f.2 p r-> ¬M0 r u
def sG(r:List ZP):List (ab×ab):=(List.range r.length).map fun k=>((r.getD k (0,0)).q,(d8 r k).q)
def ER(rs:List (List ZP)):List (ab×ab):=rs.flatMap sG
def xb{a b:ZP}(h:a.q=b.q):a=b:=by
 have hx:(a.1:Rat)=(b.1:Rat):=congrArg ab.x h;have hy:(a.2:Rat)=(b.2:Rat):=congrArg ab.y h;exact Prod.ext (by exact_mod_cast hx) (by exact_mod_cast hy)
def ZQ(rs:List (List ZP))(fill:Int)(p v:ab)(b:Bool):Prop:= ∃e:Rat,0<e/\ ∀d,0<d->d<=e->gj rs fill (cv p v d)=b
section
variable {rs:List (List ZP)} {fill:Int} {p v w:ab} {b c:Bool}
end
def aFe(ds:List ab)(u:ab):Prop:=u≠⟨0,0⟩/\ ∀r∈ds,¬M0 r u
def WdD(ds:List ab)(v w:ab):Prop:= ∀s,0<=s->s<=1->aFe ds (bp v w s)
def vR(x y:ab):Nat:=if x.cross y<0 then 1 else if 0<x.cross y then 3 else if 0<x.dot y then 0 else 2
def aFO(x y z:ab):Prop:=vR x y<vR x z\/(vR x y=vR x z/\(vR x y=1\/vR x y=3)/\0<z.cross y)
section
variable {ds:List ab}
end
def ePa(x:Bool×aE):DV:= .ag [.sl (x.2.map bj),eU (.leaf x.1)]
def eC(c:aE):DV:= .sl (c.map bj)
def aGj(ps:List (Bool×aE)):List aE:=(ps.filter (·.1)).map (·.2)
def aEi(G:Gh)(y:Value)(h:Is G (.ag [vI 0,vI 0, .v (.pointer none),vI 0,vI 0, .v (.pointer none)]) y):Is G (eZ (pC [])) y:=by
 obtain⟨m,rfl,g⟩:=dG.1 h;obtain⟨v1,m,rfl,h1,g⟩:=bt.1 g;obtain⟨v2,m,rfl,h2,g⟩:=bt.1 g;obtain⟨v3,m,rfl,h3,g⟩:=bt.1 g;obtain⟨v4,m,rfl,h4,g⟩:=bt.1 g;obtain⟨v5,m,rfl,h5,g⟩:=bt.1 g;obtain⟨v6,m,rfl,h6,g⟩:=bt.1 g
 cases dl.1 g
 have e1:=wu G _ (dG.2 ⟨[v1,v2,v3],J, .cons h1 (.cons h2 (.cons h3 .nil))⟩);have e2:=wu G _ (dG.2 ⟨[v4,v5,v6],J, .cons h4 (.cons h5 (.cons h6 .nil))⟩);obtain⟨m1,q1,g1⟩:=dG.1 e1;obtain⟨m2,q2,g2⟩:=dG.1 e2
 cases q1;cases q2
 exact dG.2 ⟨_,J,g1.app g2⟩
theorem BQ.samp(v:aj)(i j:Nat)[h1:BQ v.lo i][h2:BQ v.hi j]:BQ v.sample (i+j+1+2):=by
 have b1:BQ (1:Rat) 1:=⟨by decide,by decide⟩;unfold aj.sample;split
 ·exact BQ.z1.mono (by omega)
 ·split
  ·exact(inferInstance:BQ (v.hi-1) (j+1+1)).mono (by omega)
  ·split
   ·exact(inferInstance:BQ (v.lo+1) (i+1+1)).mono (by omega)
   ·exact inferInstance
theorem D2{s:aG}(h:AC s):aI (s.l.at s.v.sample) 3500:=by
 haveI:=h.lb;haveI:=h.v.lo;haveI:=h.v.hi;have h0:BQ s.v.sample _:=BQ.samp s.v 1200 1200;have:= @aI.at s.l s.v.sample _ _ h0;exact⟨this.x.mono (by decide),this.y.mono (by decide)⟩
theorem GC{s g:aG}(hs:AC s)(hg:AC g):BQ (-(g.l.value (s.l.at s.v.sample)/g.l.nor.dot s.l.nor)) 9000:=by
 haveI:=hs.lb;haveI:=hg.lb;haveI:=D2 hs;exact BQ.mono (inferInstance:BQ (-(g.l.value (s.l.at s.v.sample)/g.l.nor.dot s.l.nor)) _) (by decide)
def YE:PF GB prog 255 [eC []] (eZ (pC [])):=by
 refine fn (fu:=⟨10⟩) func255 J J ntmps255 J J (fun C=>?_);refine dx J (by rfl) J<|?_;exact iB J aEi
def YW(l:List aG):cC 17 (l.map bj):=fun d hd=>by
 obtain⟨x,_,rfl⟩:=bM.1 hd;exact⟨J,J⟩
def OH{l:aa}{p:ab}{cs:aE}{k:Nat}{g:aG}{f:Rat}(h:cs[k]? =some g):iE l p (cs.drop k) f=iE l p (cs.drop (k+1)) (if Int.sign (g.l.nor.dot l.nor).num<0 then(if-(g.l.value p/g.l.nor.dot l.nor)<f then-(g.l.value p/g.l.nor.dot l.nor) else f) else f):=by
 obtain⟨h1,h2⟩:=aM.1 h;rw[bX h1,h2,iE]
def Oj(s:aG)(cs:aE):pC (s::cs)=(s.l.at s.v.sample).add (s.l.nor.scale (iE s.l (s.l.at s.v.sample) cs 1*mkRat 1 2)):=by
 show cv _ _ _=_;unfold cv ab.add ab.scale;simp only[ab.mk.injEq];constructor<;>grind
def QZ{s:aG}{cs:aE}(hc:i5 (s::cs))(hn:cs.length<=100000):PF GB prog 255 [eC (s::cs)] (eZ (pC (s::cs))):=by
 have hs:=hc s aQ;have hsl:=hs.lb;have hv1:=hs.v.lo;have hv2:=hs.v.hi;have hp:=D2 hs;have hml:((s::cs).map bj).length=cs.length+1:=by simp
 have hml2:(cs.map bj).length=cs.length:=aK ..;refine fn (fu:=⟨10⟩) func255 J J ntmps255 J J (fun C=>?_);refine d7 J (by show some (decide _)=some false;rw[decide_eq_false (by simp;omega)]) J<|ix _ J J J<|ix _ J J J<|cl J (Oy (v:=s.v) (i:=1200)) J<|?_;refine cl J (CC (l:=s.l) (t:=s.v.sample)) J<|ix _ J J J<|cl J (y4 (l:=s.l)) J<|cl J (wm (by omega)) J<|k9 (fu:=⟨1⟩) 1 (cs.length+1) (cs.map bj) J J (by rw[hml]) (by rw[aU (by rw[hml];exact aL _)];rfl) (YW _) (by omega) (by omega) J<|?_;refine ak 31 (.d (vI (cs.length:Nat))) J (by rw[hml2]<;>rfl) ?_;refine gx J<|?_;refine lp (X:=Rat×Nat) (fun⟨f,k⟩=>[(32, .d (vI (k:Nat))),(5, .ov 5 0)]) (fun⟨f,k⟩=>[(5,some (.o 139 [.d (vI (dm f)), .d (vI (dq f)), .d (c8 f)] true))]) (fun⟨f,k⟩=>iE s.l (s.l.at s.v.sample) (cs.drop k) f=iE s.l (s.l.at s.v.sample) cs 1/\k<=cs.length/\BQ f 9000) (fun⟨f,k⟩=>cs.length-k) ⟨((1:Int):Rat),0⟩ J ⟨J,bQ _,BQ.mono (k:=2) ⟨by decide,by decide⟩ (by decide)⟩ (fun _=>J) (fun⟨f,k⟩ hk=>?_)
 try dsimp only at hk⊢
 obtain⟨h1,h2,h3⟩:=hk;refine br J J J (fun hc33=>?_) (fun hc33=>?_)
 .
  obtain⟨g,hx⟩: ∃g,cs[k]? =some g:=⟨_,aZ (by omega)⟩;have hg:=hc g (aJ _ (bZ hx));have hgl:=hg.lb;have hfb:=GC hs hg;refine ix _ J (d9 hx) J<|cl J (y4 (l:=g.l)) J<|cl J (ui (p:=g.l.nor) (q:=s.l.nor)) J<|cl J (nj (q:=g.l.nor.dot s.l.nor)) J<|?_;refine br J J J (fun hc43=>?_) (fun hc43=>?_)
  .
   refine cl J (Ds (l:=g.l) (p:=(s.l.at s.v.sample))) J<|cl J (wZ (p:=g.l.value (s.l.at s.v.sample)) (q:=g.l.nor.dot s.l.nor)) J<|?_;refine cl J (o9 (q:=g.l.value (s.l.at s.v.sample)/g.l.nor.dot s.l.nor)) J<|cl (hv:=by simp only[ah];exact⟨by kernel_rfl,by omega⟩) J (Me (p:=f) (q:= -(g.l.value (s.l.at s.v.sample)/g.l.nor.dot s.l.nor))) J<|?_;exact at_ ⟨if-(g.l.value (s.l.at s.v.sample)/g.l.nor.dot s.l.nor)<f then-(g.l.value (s.l.at s.v.sample)/g.l.nor.dot s.l.nor) else f,k+1⟩ (by dsimp only;exact⟨⟨by rw[<-h1,OH hx,if_pos hc43],by omega,by split;exact GC hs hg;exact h3⟩,(by omega)⟩)
  .
   exact at_ ⟨f,k+1⟩ (by dsimp only;exact⟨⟨by rw[<-h1,OH hx,if_neg hc43],by omega,h3⟩,(by omega)⟩)
 .
  obtain rfl:k=cs.length:=by omega
  obtain rfl:f=iE s.l (s.l.at s.v.sample) cs 1:=by rw[fU] at h1;exact h1
  refine cl J (Ij (q:=iE s.l (s.l.at s.v.sample) cs 1)) J<|cl J (F9 (p:=s.l.nor) (c:=iE s.l (s.l.at s.v.sample) cs 1*mkRat 1 2)) J<|?_;refine cl J (Ku (p:=(s.l.at s.v.sample)) (q:=s.l.nor.scale (iE s.l (s.l.at s.v.sample) cs 1*mkRat 1 2))) J<|?_;exact rz J (by rw[Oj];rfl)
def eRz(v:List ab):DV:= .sl (v.map eZ)
def eRa(v:List ab):DV:= .sl (v.map mm)
def n8{α:Type}(f:α->Rat):List α->Rat
 |[]=>0
 |a::t=>f a+n8 f t
def SW(f:ab->ab->Rat)(v:List ab):Rat:=n8 (fun i=>f (v.getD i ⟨0,0⟩) (v.getD ((i+1)%v.length) ⟨0,0⟩)) (List.range v.length)
def aGI(c:aE):Rat:=n8 (fun s=>(s.v.hi-s.v.lo)*(s.l.c:Rat)) c
def aIx(t:Tr):Prop:= ∃(L:List aa) (R:Rat),(∀l∈L,l.ok)/\ ∀p,ij L p->QX R p->t.val p=false
def Mx(es:List Int):Nat->Nat->Tr×Nat
 |0,a=>sO es a
 |d+1,a=>
  let k:=aB es 3 a
  if(k.1:Int)=0 then
   let x:=Mx es d k.2
   let o:=aB es 4 x.2
   let y:=Mx es d o.2
   (x.1.mergeQ (1+(o.1:Int)) y.1 [],y.2)
  else sO es k.2
def aHW(f:ab->ab->Rat):Prop:= ∀(l:aa) (a b c:Rat),l.Ne->f (l.at a) (l.at c)=f (l.at a) (l.at b)+f (l.at b) (l.at c)
def sdF(f:ab->ab->Rat)(s:aG):Rat:=f (s.l.at s.v.lo) (s.l.at s.v.hi)
def Y9(f:ab->ab->Rat)(c:aE):Rat:=SW f (Az (c.map (·.l)))
def Sm(f:ab->ab->Rat)(t:Tr)(c:aE):Rat:=n8 (fun x:Bool×aE=>if x.1 then Y9 f x.2 else 0) (t.parts c)
def muG(f:ab->ab->Rat)(t:Tr)(c:aE)(l:aa):Rat:=if cx c l then Sm f t (bD c l) else 0
def aH6(t:Tr)(c:aE):Prop:= ∀x∈t.parts c,x.1=true->aHn x.2=true
def aEv(v:List ab):List (ab×ab):=(List.range v.length).map fun i=>(v.getD i ⟨0,0⟩,v.getD ((i+1)%v.length) ⟨0,0⟩)
def qB(cs:List (List aa)):List (ab×ab):=cs.flatMap fun c=>aEv (Az c)
def qq(cs:List aE):List (List aa):=cs.map fun c=>c.map (·.l)
def edE(x:ab×ab):List DV:=[Dh x.1 x.2,eF (x.1.cross x.2)]

def eCl(x:List aa×Bool):DV:= .ag [.sl (x.1.map eL),vB x.2]
def eSd(c:List aa):DV:= .sl (c.map eL)
def aHN(ps:List (List aa×Bool)):List (List aa):=(ps.filter (·.2)).map (·.1)
def eRp(v:List ab):DV:= .sl (v.map eP)
structure LA (GB:Gh) (ai al ae au:Addr):Prop extends EG GB ai al ae where
 ErrUnbounded:GB 5=some [.iface 499 (.pointer (some au))]
def aHV(c:aE):List (List ab):=NF (Az (c.map (·.l)))


def tQ:List ZP:=[(0,0),(1,0),(0,1)]
def Wx:cF tQ:=⟨by decide,by decide,fun p hp=>by
 unfold tQ at hp;simp only[aT,jL,or_false] at hp;rcases hp with rfl|rfl|rfl<;>exact⟨by decide,by decide⟩,by decide⟩
structure EGS (GB:Gh) (ai al ae au ar:Addr):Prop extends LA GB ai al ae au where
 ErrEmpty:GB 4=some [.iface 499 (.pointer (some ae))]
 ErrRange:GB 2=some [.iface 499 (.pointer (some ar))]
def JJ(r:List ab)(j:Nat):Nat->ab
 |0=>(((r.getD 0 ⟨0,0⟩).add (r.getD 1 ⟨0,0⟩)).add (r.getD 2 ⟨0,0⟩)).scale (((1:Int):Rat)/((3:Int):Rat))
 |k+1=>((JJ r j k).add (r.getD j ⟨0,0⟩)).scale (((1:Int):Rat)/((2:Int):Rat))
def smp(ts:List (List ab))(i:Nat):ab:=JJ (ts.getD (i%ts.length) []) (i%3) (i/ts.length)
theorem aI.mono{p:ab}{i j:Nat}(h:aI p i)(hj:i<=j):aI p j:=⟨h.x.mono hj,h.y.mono hj⟩
structure Tp (cs:List aE) (b:Nat):Prop where
 lb: ∀c∈cs,∀s∈c,LB s.l
 sh: ∀c∈cs,c.length<=100000
 ln:cs.length<=1000000
 pt: ∀x∈qB (qq cs),aI x.1 b/\aI x.2 b
def JB(x:ab×ab):ab:=(x.1.add x.2).scale (x.1.cross x.2)
def JF{α:Type}(f:α->ab)(l:List α):ab:=⟨n8 (fun x=>(f x).x) l,n8 (fun x=>(f x).y) l⟩
def qF(es:List Int)(a:Nat):Rat×Nat:=
 (if((aB es 6 (aB es 9 a).2).1:Int)=0 then mkRat (2*(((aB es 9 a).1:Int)-4)+1) 2 else if((aB es 6 (aB es 9 a).2).1:Int)=1 then mkRat (3*(((aB es 9 a).1:Int)-4)+1) 3 else(((aB es 9 a).1:Rat)-4:Rat),(aB es 6 (aB es 9 a).2).2)
def EZ(es:List Int)(a:Nat):ab×Nat:=(⟨(qF es a).1,(qF es (qF es a).2).1⟩,(qF es (qF es a).2).2)
def yz:aa:=⟨1,0,0⟩
def aHL(es:List Int)(L:List aa)(a:Nat):ab×Nat:=
 if L.length=0 then EZ es a else
 if((aB es 3 (aB es L.length a).2).1:Int)=0 then
  (if crossI (L.getD (aB es L.length a).1 yz) (L.getD (aB es L.length (aB es 3 (aB es L.length a).2).2).1 yz)≠0 then(fD (L.getD (aB es L.length a).1 yz) (L.getD (aB es L.length (aB es 3 (aB es L.length a).2).2).1 yz),(aB es L.length (aB es 3 (aB es L.length a).2).2).2) else EZ es (aB es L.length (aB es 3 (aB es L.length a).2).2).2)
 else if((aB es 3 (aB es L.length a).2).1:Int)=1 then((L.getD (aB es L.length a).1 yz).at (qF es (aB es 3 (aB es L.length a).2).2).1,(qF es (aB es 3 (aB es L.length a).2).2).2) else EZ es (aB es 3 (aB es L.length a).2).2

structure EGV (GB:Gh) (ai al ae au:Addr):Prop extends LA GB ai al ae au where
 ErrEmpty:GB 4=some [.iface 499 (.pointer (some ae))]
def Zi(x:ab×ab):Rat:=(x.1.x*x.1.x+x.2.x*x.2.x+(x.1.add x.2).x*(x.1.add x.2).x)*x.1.cross x.2
def Ys(x:ab×ab):Rat:=(x.1.x*x.1.y+x.2.x*x.2.y+(x.1.add x.2).x*(x.1.add x.2).y)*x.1.cross x.2
def Tm(x:ab×ab):Rat:=(x.1.y*x.1.y+x.2.y*x.2.y+(x.1.add x.2).y*(x.1.add x.2).y)*x.1.cross x.2
structure aIn (cs:List aE):Prop where
 ed:Tp cs 1200
 cr: ∀x∈qB (qq cs),BQ (x.1.cross x.2) 5000
 ar: ∀k,BQ (n8 (fun x=>x.1.cross x.2) ((qB (qq cs)).take k)) 2000000
 mo: ∀k,aI (JF JB ((qB (qq cs)).take k)) 3000000
 sa: ∀k,BQ (n8 Zi ((qB (qq cs)).take k)) 4000000
 sb: ∀k,BQ (n8 Ys ((qB (qq cs)).take k)) 4000000
 sc: ∀k,BQ (n8 Tm ((qB (qq cs)).take k)) 4000000
def aHE(t:Tr):Rat:=n8 (fun x=>x.1.cross x.2) (qB (qq (H8 t)))*mkRat 1 2
def aHU(t:Tr):ab:=(JF JB (qB (qq (H8 t)))).scale (((1:Int):Rat)/((6:Int):Rat))
def zR0:DV:= .ag [vB false, .sl [], .sl []]
def zP0:DV:= .ag [vB false, .sl [], .sl [],vB false, .sl [], .sl []]
def WG:Rat:=((1:Int):Rat)/((24:Int):Rat)
def aIp(f:ab×ab->Rat)(t:Tr):Rat:=n8 f (qB (qq (H8 t)))*WG
structure DQ (D B:Nat) (x:Rat):Prop where
 ex: ∃n:Int,x*((D:Nat):Rat)=(n:Rat)/\n.natAbs<=B*D
def UB(l m:aa):Nat:=if crossI l m=0 then 1 else(crossI l m).natAbs
def Xc(K:List aa):List Nat:=K.flatMap fun l=>K.map (UB l)
def aIA(K:List aa):Nat:=(Xc K).foldr (· * ·) 1
structure DP (D B:Nat) (p:ab):Prop where
 x:DQ D B p.x
 y:DQ D B p.y

def eM(a b c d e f:Rat):DV:= .ag [(.v (.bool (decide ((a).num<0)))),(dN (a).num.natAbs),(dD (a).den),(.v (.bool (decide ((b).num<0)))),(dN (b).num.natAbs),(dD (b).den),(.v (.bool (decide ((c).num<0)))),(dN (c).num.natAbs),(dD (c).den),(.v (.bool (decide ((d).num<0)))),(dN (d).num.natAbs),(dD (d).den),(.v (.bool (decide ((e).num<0)))),(dN (e).num.natAbs),(dD (e).den),(.v (.bool (decide ((f).num<0)))),(dN (f).num.natAbs),(dD (f).den)]
def zq3:List DV:=[.v (.bool (decide ((0:Rat).num<0))),dN (0:Rat).num.natAbs,dD (0:Rat).den]

def VQ{C:aC}{n:Nat}{Q0:Exit->Act->World->Prop}{fr fr':aA}{own own':aH}{cf cf':Cf}{vc:List Prop}[fu:Fu]{f:FuncId}{ds:List DV}(ha:vW fr cf=some (f,ds))(hF:PF GB prog f ds (.v (.bool true)))(hgo:cE tt n fu.n fr own cf .tt [] []=⟨vc,fr',own',cf'⟩)(k:av prog GB C n Q0 fr' own' cf')
  (hv:ah vc:=by first|exact trivial|(simp only[ah];kernel_rfl)|(simp only[ah];omega)):av prog GB C n Q0 fr own cf:=by
 unfold vW at ha;split at ha<;>try (cases ha;done)
 rename_i hh;exact us hh (bO.to (g:= .tt) (Fo ha hF) fun ρ G y hy=>(bc (G:=G)).1 hy) hgo hv k
def V':List ZP:=[(0,0),(2,0),(2,2),(0,2)]
def sqT:Tr:=kg [V'] 2



def aIH(M:List aa)(E:List (ab×ab)):Prop:= ∀f∈E,∃m∈M,m.value f.1=0/\m.value f.2=0
section
variable {rs:List (List ZP)} {fill:Int} {p:ab}
def aIm(rs:List (List ZP))(fill:Int)(p:ab)(b:Bool):Prop:= ∃x,Yx (ER rs) p x/\ZQ rs fill p x b
end
section
variable {rs:List (List ZP)} {fill:Int} {L:List aa} {p:ab}
end
def Ns(v:aj)(t:Rat):Bool:=(v.nl||decide (bg v.lo t<=0))&&(v.nh||decide (0<=bg v.hi t))
def HU(f:aG)(p:ab):Bool:=decide (Int.sign (f.l.value p).num=0)&&Ns f.v (er f.l p)
def qb(f:aG)(p:ab):Int:=
 if Int.sign f.l.dir.y.num=0\/Int.sign (f.l.value p).num≠Int.sign f.l.dir.y.num then 0
 else if(if Int.sign f.l.dir.y.num<0 then f.v.nh=false/\0<bg (f.l.at f.v.hi).y p.y else f.v.nl=false/\0<bg (f.l.at f.v.lo).y p.y) then 0
 else if(if Int.sign f.l.dir.y.num<0 then f.v.nl=false/\bg (f.l.at f.v.lo).y p.y<=0 else f.v.nh=false/\bg (f.l.at f.v.hi).y p.y<=0) then 0
 else Int.sign f.l.dir.y.num
def i0(E:List aG)(p:ab):Int:=E.foldl (fun n f=>n+qb f p) 0
def VL{v w:ZP}(h:v≠w)(p:ab): ∃g:Rat,0<g/\cO v.q w.q p=g*(cI v w).l.value p/\w.q.y-v.q.y=g*(cI v w).l.dir.y:=by
 obtain⟨g,g0,h1,h2,h3⟩:=Oc h;refine⟨g,g0,?_,by rw[h3];unfold cv;show _=g*(ip v.1 v.2 w.1 w.2).dir.y;dsimp only;grind⟩;show _=g*(ip v.1 v.2 w.1 w.2).value p;rw[h3];generalize ip v.1 v.2 w.1 w.2=l at*;rw[oh] at*;unfold cO cv aa.dir;dsimp only;grind
def UZ{v w:ZP}(h:v≠w)(ho:(cI v w).l.ok)(p:ab):qb (cI v w) p=nE v.q w.q p:=by
 obtain⟨e1,e2,e3⟩:=DC h ho;obtain⟨g,g0,o1,o2⟩:=VL h p;have b1:(cI v w).v.nl=false:=J;have b2:(cI v w).v.nh=false:=J;have so:(0<cO v.q w.q p↔0<(cI v w).l.value p)/\(cO v.q w.q p<0↔(cI v w).l.value p<0):=by
  rw[o1];constructor
  ·rw[Rat.mul_comm];exact oe g0
  ·have:=oe (s:= -(cI v w).l.value p) g0
   grind
 have sy:(v.q.y<w.q.y↔0<(cI v w).l.dir.y)/\(w.q.y<v.q.y↔(cI v w).l.dir.y<0):=by
  have t1:=oe (s:=(cI v w).l.dir.y) g0;have t2:=oe (s:= -(cI v w).l.dir.y) g0;constructor<;>grind
 unfold qb;rw[b1,b2,e1,e2];simp only[true_and,Pc,B4];generalize (cI v w).l.value p=z at*;generalize (cI v w).l.dir.y=u at*;unfold nE;rcases ny u with k|k|k
 ·rw[if_pos (.inl ((mr _).2 k))]
  have: ¬(v.q.y<=p.y/\ ¬w.q.y<=p.y/\0<cO v.q w.q p):=fun q=>by grind
  have: ¬(¬v.q.y<=p.y/\w.q.y<=p.y/\cO v.q w.q p<0):=fun q=>by grind
  rw[if_neg ‹_›,if_neg ‹_›];rfl
 ·have su:Int.sign u.num=1:=(nC _).2 k
  rw[su];have n2: ¬(¬v.q.y<=p.y/\w.q.y<=p.y/\cO v.q w.q p<0):=fun q=>by grind
  rw[if_neg n2];simp only[show¬((1:Int)<0) by decide,if_false,show¬((1:Int)=0) by decide,false_or];by_cases hz:0<z
  ·rw[if_neg (by rw[(nC _).2 hz];simp)]
   by_cases a1:v.q.y<=p.y
   ·rw[if_neg (by grind)]
    by_cases a2:w.q.y<=p.y
    ·rw[if_pos a2,if_neg (by grind)];rfl
    ·rw[if_neg a2,if_pos ⟨a1,a2,so.1.2 hz⟩];rfl
   ·rw[if_pos (by grind),if_neg (by grind)];rfl
  ·rw[if_pos (fun q=>hz ((nC _).1 q)),if_neg (by grind)];rfl
 ·have su:Int.sign u.num= -1:=Or k
  rw[su];have n2: ¬(v.q.y<=p.y/\ ¬w.q.y<=p.y/\0<cO v.q w.q p):=fun q=>by grind
  rw[if_neg n2];simp only[show(-1:Int)<0 by decide,if_true,show¬((-1:Int)=0) by decide,false_or];by_cases hz:z<0
  ·rw[if_neg (by rw[Or hz];simp)]
   by_cases a1:w.q.y<=p.y
   ·rw[if_neg (by grind)]
    by_cases a2:v.q.y<=p.y
    ·rw[if_pos a2,if_neg (by grind)];rfl
    ·rw[if_neg a2,if_pos ⟨a2,a1,so.2.2 hz⟩];rfl
   ·rw[if_pos (by grind),if_neg (by grind)];rfl
  ·rw[if_pos (fun q=>hz (by
    have h4:Int.sign z.num<0:=by rw[q];decide
    exact(pc _).1 h4)),if_neg (by grind)];rfl
def Bq{α:Type}(f:α->Int): ∀(l:List α) (n:Int),l.foldl (fun n x=>n+f x) n=n+l.foldl (fun n x=>n+f x) 0
 |[],n=>by simp
 |a::t,n=>by
  rw[dT,dT,Bq f t (n+f a),Bq f t (0+f a)];omega
def GF(E F:List aG)(p:ab):i0 (E++F) p=i0 E p+i0 F p:=by
 unfold i0;rw[oS,Bq]
def UO{r:List ZP}(hr:cF r)(p:ab):i0 (ey r) p=ja r p:=by
 have key: ∀k,k<=r.length->i0 (jh r k) p=me r p k:=by
  intro k
  induction k with
  |zero=>intro _;rfl
  |succ k ih=>
   intro hk;have hm:=HT (r:=r) (k:=k) (n:=r.length) (by omega);have ho:=((rF hr).2 _ hm).ok;rw[jh,GF,ih (by omega),Ad,Ad,jo];have e:i0 [cI (r.getD k (0,0)) (d8 r k)] p=qb (cI (r.getD k (0,0)) (d8 r k)) p:=by unfold i0;simp
   rw[e,UZ (hr.ne k (by omega)) ho]
 exact key r.length (aL _)
def Km: ∀{rs:List (List ZP)},(∀r∈rs,cF r)-> ∀p,i0 (b9 rs) p=rs.foldl (fun n r=>n+ja r p) 0
 |[],_,p=>rfl
 |r::rs,h,p=>by
  have e:b9 (r::rs)=ey r++b9 rs:=J;rw[e,GF,UO (h r aQ),Km fun q hq=>h q (aJ _ hq),dT,Bq _ rs (0+ja r p)];omega
def hiR(f:aG)(p:ab):Bool:=f.v.nh||decide (bg (er f.l p) f.v.hi<0)
def Zq(f:aG)(p:ab):Bool:=f.v.nl||decide (0<bg (er f.l p) f.v.lo)
def Up(p:ab)(f:aG):List ab:=if HU f p then(if hiR f p then [zb f.l.dir] else [])++(if Zq f p then [nO (zb f.l.dir)] else []) else []
def Fh(E:List aG)(p:ab):List ab:=H9 (E.flatMap (Up p))
def NU(p d q:ab):Rat:=(⟨q.x-p.x,q.y-p.y⟩:ab).dot d/d.dot d
def aHg(a b:Rat):Rat×Bool:=
 if 0<Int.sign b.num/\(¬0<Int.sign a.num\/bg b a<0) then(b,true) else if 0<Int.sign a.num then(a,true) else(0,false)
def FO(f:aG)(p d:ab):Rat×Bool:=
 if f.l.nor.dot d=0 then(if f.l.value p=0 then aHg (NU p d (f.l.at f.v.lo)) (NU p d (f.l.at f.v.hi)) else(0,false))
 else(-(f.l.value p/f.l.nor.dot d),decide (0<Int.sign (-(f.l.value p/f.l.nor.dot d)).num)&&Ns f.v (er f.l (cv p d (-(f.l.value p/f.l.nor.dot d)))))
def YK(p d:ab)(s:Rat)(f:aG):Rat:=if HU f p then s else if(FO f p d).2 then(if(FO f p d).1<s then(FO f p d).1 else s) else s
def EU(E:List aG)(p d:ab):ab:=cv p d (E.foldl (YK p d) 1*mkRat 1 2)
def aHP(E:List aG)(p:ab)(acc:ab->Bool):Int:=
 if((yg (Fh E p)).any fun v=>acc (EU E p v))&&(yg (Fh E p)).all (fun v=>acc (EU E p v)) then 2 else if(yg (Fh E p)).any fun v=>acc (EU E p v) then 1 else 0
def FT{r:List ZP}: ∀{n:Nat} {f:aG},f∈jh r n-> ∃k,k<n/\f=cI (r.getD k (0,0)) (d8 r k)
 |0,f,h=>by simp[jh] at h
 |n+1,f,h=>by
  rw[jh] at h;rcases cX.1 h with h|h
  ·obtain⟨k,h1,h2⟩:=FT h
   exact⟨k,by omega,h2⟩
  ·exact⟨n,by omega,aV.1 h⟩
def UV{rs:List (List ZP)}(hr: ∀r∈rs,cF r){f:aG}(hf:f∈b9 rs): ∃v w:ZP,v≠w/\(cI v w).l.ok/\f=cI v w/\(v.q,w.q)∈ER rs:=by
 obtain⟨r,h1,h2⟩:=gX.1 hf;have ho:=((rF (hr r h1)).2 _ h2).ok;obtain⟨k,hk,rfl⟩:=FT h2;exact⟨_,_,(hr r h1).ne k hk,ho,J,gX.2 ⟨r,h1,bM.2 ⟨k,sY.2 hk,J⟩⟩⟩
section
variable {rs:List (List ZP)} {fill:Int} {p:ab}
end
end Go.Sx
end
